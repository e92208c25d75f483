/- No condition. -/
import Derived.Test.YtkgpjibbdpikcaaGreatDoorK0
import Derived.Laws.CopyRow
import Derived.OpenShut
import Derived.Deep.Slices
import Derived.Shelf.Strings.Repeat
set_option linter.unusedVariables false
set_option linter.unusedSimpArgs false
set_option maxRecDepth 100000
namespace Go.Ref
open Go
variable {P:Program} {E:Env} {X:az} {s:State} {a:Act} {o:Oper} {u:Out}
theorem ak6(hE:ar P E)(hr:Rel X s a){ops:List Oper}{T:TypeId}{x:Operand}{lo hi:Option Operand}(ho:o.op= .slice T x lo hi none){C:FuncId->bO Out}(h:act E C ops o s some=some u):aH P X s a o u:=by
 unfold act at h
 simp only[ho] at h
 split at h
 ·rename_i id n ta tb dS
  split at h
  case h_2=>cases h
  rename_i e t hT
  split at h
  case isFalse=>cases h
  rename_i heq
  have:=Ty.aR heq
  subst this
  unfold te at h
  split at h
  ·cases h
  rename_i Lk
  have Ll:hi=none:=by
   cases hi with
   |none=>rfl
   |some _=>cases Lk
  subst Ll
  obtain⟨l,h,h1,hl⟩:=zb1 h
  cases h
  have hx:=hr.aG x
  rw[dS] at hx
  obtain⟨r0,hβ,cap,hv,mh⟩:=hx
  have hu:=(hE.ty T _ hT).dj
  have hbd:=zea (P:=P) (isS:=true) hr hl (hi:=none) (m:=n) (n:=n) (c:=cap) rfl h1 (Nat.le_refl _) mh X.w
  rw[Option.map_none] at hbd
  refine aH.plain hr (v:= .slice (if cap=l then some ⟨r0,0,none⟩ else(some (⟨r0,0,none⟩:Addr)).map (·.add (l*ta.cells))) (n-l) (cap-l)) ?_ ⟨r0,hβ,?_⟩ (fun _ _ _ e=>by cases e;exact A5 hr dS)
  ·simp only[execOp,ho,Sem.run_bind,Instr.sliceAt,run_underlying hu.1,Result.andThen_ok,Instr.slice,hv,Option.map_none,hbd,Sem.run_pure,lC hE hu.2]
  ·show∃wG off,_=Value.slice (some ⟨r0,off,none⟩) (n-l) wG/\_
   by_cases e':cap=l
   ·rw[if_pos e']
    exact⟨_,_,rfl,by omega,h1,.inl ⟨by omega,rfl⟩⟩
   ·rw[if_neg e']
    refine⟨cap-l,l*ta.cells,?_,by omega,h1,.inr rfl⟩
    rw[Option.map_some,j8,Nat.zero_add]
 ·rename_i id n t dS
  have hx:=hr.aG x
  rw[dS] at hx
  obtain⟨r0,hβ,hv⟩:=hx
  unfold qG at h
  split at h
  case h_2=>cases h
  rename_i u' hT B5 Lk
  have lo0:lo=none:=by
   cases lo with
   |none=>rfl
   |some _=>cases B5
  have Ll:hi=none:=by
   cases hi with
   |none=>rfl
   |some _=>cases Lk
  subst lo0 Ll
  split at h
  case isFalse=>cases h
  rename_i heq
  have:=Ty.aR heq
  subst this
  split at h
  case h_2=>cases h
  rename_i B hB
  split at h
  case isFalse=>cases h
  rename_i dQ
  cases h
  have hb:=rG hB
  obtain⟨r,h1,wL⟩:=hr.boxes id B hb
  rw[hβ] at h1
  cases h1
  obtain⟨bt,bx,bo⟩:=B
  have e:=Ty.aR dQ
  simp only at e
  subst e
  obtain⟨cs,T',aP,aT,how,_⟩:=wL.cells rfl
  have hv:a.eval x= .pointer (some ⟨r0,0,none⟩):=by rw[((p8 rfl).1 hv).1];rfl
  obtain⟨e,iY,jM,_⟩:=(hE.ty T _ hT).dj
  have hlen:List.length (bx:List (El t))=n:=aT.1
  have ci:bI X id r0 ⟨.aZ .row t .unit,(bx:List (El t)),[]⟩:=⟨how,cs,T',aP,by have:=aT.2.1;rw[hlen];simpa using this,aT.2.2⟩
  have Le:(Ty.cast dQ bx:El (.arr n t))=bx:=rfl
  rw[Le]
  refine⟨X,.slice (some ⟨r0,0,none⟩) n n,.inl ?_,Ext.refl X,(hr.nQ hb hβ ci).fin ⟨r0,hβ,n,rfl,Nat.le_refl _⟩ (fun cc t' p' hm=> ?_)⟩
  ·simp only[execOp,ho,Sem.run_bind,Instr.sliceAt,run_underlying iY,Result.andThen_ok,Option.map_none,hv,Instr.sureAddr,Sem.run_pure,lC hE jM]
   simp [Instr.sliceBounds]
   intro _
   rw[j8]
  ·have hm':SV.ptr cc t' p'= .ptr id (.aZ (.fR n) t .unit) []:=by simpa using hm
   cases hm'
   exact⟨_,zes hb⟩
 ·exact ahi hE hr ho h
theorem acy(hr:Rel X s a){ops:List Oper}{fn:Fn}{fi ca:Array Operand}(ho:o.op= .makeFunc fn fi ca){C:FuncId->bO Out}(h:act E C ops o s some=some u):aH P X s a o u:=by
 unfold act at h
 cases fn with
 |func f=>
  simp only[ho] at h
  split at h
  case h_3=>cases h
  case h_2=>
   rename_i x y wQ BR
   have wQ:fi= #[]:=by rw[<-Array.toArray_toList (xs:=fi),wQ]
   have BR:ca= #[x,y]:=by rw[<-Array.toArray_toList (xs:=ca),BR]
   subst wQ BR
   unfold td at h
   split at h
   case h_2=>cases h
   rename_i t x1 u' y1 dS LQ
   cases h
   have hx:=hr.aG x
   have hy:=hr.aG y
   rw[dS] at hx
   rw[LQ] at hy
   obtain⟨ad,cs,h1,h2,h3,h4⟩:=hx
   obtain⟨pQ,eA,k1,k2,k3,k4⟩:=hy
   refine aH.plain hr (v:= .func (.func f) #[] #[.pointer (some ad),.pointer (some pQ)]) ?_ ⟨ad,pQ,cs,eA,rfl,⟨h2,h3,h4⟩,k2,k3,k4⟩ (fun _ _ _ e=>by cases e)
   simp [execOp,ho,Instr.makeFunc,h1,k1]
  rename_i x wQ BR
  have wQ:fi= #[]:=by rw[<-Array.toArray_toList (xs:=fi),wQ]
  have BR:ca= #[x]:=by rw[<-Array.toArray_toList (xs:=ca),BR]
  subst wQ BR
  unfold l9 at h
  split at h
  case h_2=>cases h
  rename_i id u' dS
  split at h
  case isTrue=>cases h
  rename_i hs
  cases h
  have hx:=hr.aG x
  rw[dS] at hx
  obtain⟨r0,hβ,hv⟩:=hx
  have hv:=((RI (by simpa using hs)).1 hv).1
  refine aH.plain hr (v:= .func (.func f) #[] #[.pointer (some ⟨r0,0,none⟩)]) ?_ ⟨r0,hβ,rfl⟩ (fun _ _ _ e=>by cases e;exact A5 hr dS)
  have hv:a.eval x= .pointer (some ⟨r0,0,none⟩):=by rw[hv];simp [Ty.off]
  simp [execOp,ho,Instr.makeFunc,hv]
 |_=>simp only[ho] at h;cases h
theorem NT{t:Ty}{xs:List (El t)}{n l:Nat}{cs:List Value}(h:aW X (.arr n t) xs cs)(hl:l<=n):aW X (.arr l t) (xs.take l:List (El t)) (cs.take (l*t.cells)):=by
 obtain⟨h1,h2,h3⟩:=h
 have hm:=Nat.mul_le_mul_right t.cells hl
 refine⟨by rw[List.length_take];omega,by rw[List.length_take];omega,fun j y hj=> ?_⟩
 have hj:(xs.take l)[j]? =some y:=hj
 rw[List.getElem?_take] at hj
 split at hj
 case isFalse=>cases hj
 rename_i wR
 have hk:(j+1)*t.cells<=l*t.cells:=Nat.mul_le_mul_right _ wR
 rw[Nat.add_mul,Nat.one_mul] at hk
 have e:((cs.take (l*t.cells)).drop (j*t.cells)).take t.cells=(cs.drop (j*t.cells)).take t.cells:=by
  rw[List.drop_take,List.take_take,Nat.min_eq_left (by omega)]
 rw[e]
 exact h3 j y hj
theorem NS{t:Ty}{xs:List (El t)}{n l:Nat}{cs:List Value}(h:aW X (.arr n t) xs cs)(hl:l<=n):aW X (.arr (n-l) t) (xs.drop l:List (El t)) (cs.drop (l*t.cells)):=by
 obtain⟨h1,h2,h3⟩:=h
 refine⟨by rw[List.length_drop];omega,by rw[List.length_drop,Nat.sub_mul];omega,fun j y hj=> ?_⟩
 have hj:(xs.drop l)[j]? =some y:=hj
 rw[List.getElem?_drop] at hj
 rw[List.drop_drop,<-Nat.add_mul]
 exact h3 (l+j) y hj
theorem OO{α:Type}(xs ys:List α)(lo:Nat)(h:lo+ys.length<=xs.length):(bJ xs ys lo).length=xs.length:=by
 unfold bJ;simp;omega
theorem zy4(hE:ar P E)(hr:Rel X s a){d x:Operand}{T e:TypeId}{t:Ty}{ts:Array TypeId}(ho:o.op= .call ⟨.builtin .copy,#[d,x],ts⟩)(gP:ts[0]? =some T)(hT:E.ty T=some (.sl e t)){id n lo:Nat}{ta tb:Ty}{p:List Nat}
 (dS:s.aG d= .ptr id (.aZ (.fR n) ta tb) p) (my:∀r,nP (.aZ (.fR n) ta tb) p r (a.eval d)->∃cap off,a.eval d= .slice (some ⟨r,off,none⟩) (n-lo) cap/\lo<=n/\((n=lo/\off=0)\/off=lo*ta.cells))
 (h:gL t s id n lo ta tb (s.aG x) e some=some u):aH P X s a o u:=by
 have hx:=hr.aG d
 rw[dS] at hx
 obtain⟨r0,hβ,hv⟩:=hx
 unfold gL at h
 split at h
 case isFalse=>cases h
 rename_i heq
 have:=Ty.aR heq
 subst this
 obtain⟨ys,h,qP⟩:=gy h
 split at h
 case h_2=>cases h
 rename_i B hB
 split at h
 case isFalse=>cases h
 rename_i dQ
 obtain⟨hb,r,h1,how,cs,T',aP,dt,eC⟩:=G8 hr hB dQ
 rw[hβ] at h1
 cases h1
 generalize(Ty.cast dQ B.x:List (El ta))=xs at*
 cases hn:Nat.beq n (List.length xs)<;>rw[hn] at h
 ·cases h
 cases B5:Nat.ble lo n<;>rw[B5] at h
 ·cases h
 cases h
 have hn:=Nat.eq_of_beq_eq_true hn
 have B5:=Nat.le_of_ble_eq_true B5
 obtain⟨cap,off,hd,_,LB⟩:=my r0 hv
 obtain⟨cx,mG,ev⟩:=qP X _ _ (hr.aG x)
 have acm:=mG
 obtain⟨A,c,wO,_⟩:=acm
 have ev:a.eval x= .slice A ys.length c:=by rw[ev,wO];rfl
 rw[wO] at mG
 obtain⟨_,hc,cy,ry,ny,sy⟩:=zb8 (X:=X) mG
 have hu:=(hE.ty T _ hT).dj
 have hm:(ys.take (n-lo)).length=min ys.length (n-lo):=by rw[List.length_take,Nat.min_comm]
 generalize B6:min ys.length (n-lo)=m at hm
 have hmy:m<=ys.length:=by omega
 have hmn:m<=n-lo:=by omega
 have htk:ys.take (n-lo)=ys.take m:=by
  rw[<-B6]
  rcases Nat.le_total ys.length (n-lo) with g|g
  ·rw[Nat.min_eq_left g,List.take_of_length_le g,List.take_of_length_le (Nat.le_refl _)]
  ·rw[Nat.min_eq_right g]
 have rz:=NT ry hmy
 have hzl:(cy.take (m*ta.cells)).length=m*ta.cells:=rz.2.1
 have dR:aW X (.arr xs.length ta) xs cs.toList:=⟨rfl,by simpa using dt,eC⟩
 have jI:(Builtin.firstCells ta.cells m (a.eval x)).run P X.w= .ok (cy.take (m*ta.cells)).toArray X.w:=by
  rw[ev]
  cases A with
  |none=>
   have:=ny rfl
   subst this
   have:m=0:=by simpa using hmy
   subst this
   simp [Builtin.firstCells]
  |some ad=>
   have:=run_loadCells_list (P:=P) X.w ad (cy.take (m*ta.cells)) (fun j v hj=>by
    rw[List.getElem?_take] at hj
    split at hj
    ·exact(sy ad rfl j v hj).2.1
    ·cases hj)
   rw[hzl] at this
   simpa [Builtin.firstCells] using this
 have dh:off+0+(cy.take (m*ta.cells)).length<=cs.size:=by
  rw[hzl,dt,<-hn]
  rcases LB with⟨g1,g2⟩|g
  ·have:m=0:=by omega
   subst this
   omega
  ·rw[g,Nat.add_zero,<-Nat.add_mul]
   exact Nat.mul_le_mul_right _ (by omega)
 let new:=(cs.toList.take off++cy.take (m*ta.cells)++cs.toList.drop (off+(cy.take (m*ta.cells)).length)).toArray
 have cH:=run_storeCells_at P r0 off T' (cy.take (m*ta.cells)) 0 cs X.w aP dh rz.one
 simp only[Nat.add_zero] at cH dh
 have bd:(execOp a.eval o).run P X.w= .ok (.value (.int .i64 m)) (X.row r0 new).w:=by
  have aat:Nat.min ys.length (n-lo)=m:=B6
  simp only[execOp,ho,resolve,invoke,builtin,Sem.run_bind,Sem.run_pure,Result.andThen_ok,List.map_toArray,List.map_cons,List.map_nil,Builtin.copy_,gP,hd]
  have e1:(Builtin.lenOf (a.eval x)).run P X.w= .ok ys.length X.w:=by rw[ev];simp [Builtin.lenOf]
  simp [run_underlying hu.1,e1,aat,jI,cH,goInt,lC hE hu.2]
  show _=X.w.setRow r0 new
  congr 1
  simp [new]
 have nH:new.toList=cs.toList.take off++cy.take (m*ta.cells)++cs.toList.drop (off+(cy.take (m*ta.cells)).length):=rfl
 have aT:aW X (.arr xs.length ta) (bJ xs (ys.take m) lo:List (El ta)) new.toList:=by
  rw[nH,hzl]
  by_cases m0:m=0
  ·subst m0
   have e1:bJ xs (ys.take 0) lo=xs:=by unfold bJ;simp
   rw[e1]
   simpa using dR
  ·have g:off=lo*ta.cells:=by rcases LB with⟨g1,_⟩|g<;>omega
   have h1:=NT dR (show lo<=xs.length by omega)
   have h3:=NS dR (show lo+m<=xs.length by omega)
   have:=HU h1 (HU rz h3)
   rw[show lo+(m+(xs.length-(lo+m)))=xs.length by omega] at this
   unfold bJ
   rw[show(ys.take m).length=m by rw[List.length_take];omega,g,<-Nat.add_mul,List.append_assoc]
   exact this
 have cw:new.size=cs.size:=by
  have h1:new.toList.length=xs.length*ta.cells:=aT.2.1
  rw[dt,<-h1];simp
 have ci:bI (X.row r0 new) id r0 ⟨.aZ .row ta tb,(bJ xs (ys.take (n-lo)) lo:List (El ta)),[]⟩:=by
  rw[htk]
  refine⟨how,new,T',setRow_heap X.w r0 cs new T' (0,0) aP,?_,fun j z hj=> ?_⟩
  ·rw[cw,dt]
   show _=List.length (bJ xs (ys.take m) lo)*_
   rw[OO _ _ _ (by rw[List.length_take];omega)]
  ·exact aW.av (fun _ _=>u6 (cs:=new) how) (aT.2.2 j z hj)
 refine⟨X.row r0 new,.int .i64 m,.inl bd,Yi how,?_⟩
 rw[hm]
 exact(hr.row hb hβ how ci).fin jd (fun id t p hm=>by simp [i64] at hm)
theorem ag7{X:az}(l:List UInt8):aW X (.arr l.length (.int .u8)) (l.map fun c=>(c.toNat:Int):List Int) (l.map fun c=>Value.int .u8 c.toNat):=by
 refine⟨by show(l.map _).length=_;simp,by simp [Ty.cells],fun j y hj=> ?_⟩
 have hj:(l.map fun c=>(c.toNat:Int))[j]? =some y:=hj
 rw[List.getElem?_map] at hj
 obtain⟨c,hc,rfl⟩:=Option.map_eq_some_iff.1 hj
 have:((l.map fun c=>Value.int .u8 c.toNat).drop (j*(Ty.int IntKind.u8).cells)).take (Ty.int IntKind.u8).cells=[Value.int .u8 c.toNat]:=by
  rw[show(Ty.int IntKind.u8).cells=1 from rfl,Nat.mul_one]
  apply List.ext_getElem?
  intro i
  rw[List.getElem?_take]
  cases i with
  |zero=>simp [hc]
  |succ i=>simp
 rw[this]
 rfl
theorem aeh(hE:ar P E)(hr:Rel X s a){d x:Operand}{T e:TypeId}{t:Ty}{ts:Array TypeId}(ho:o.op= .call ⟨.builtin .copy,#[d,x],ts⟩)(gP:ts[0]? =some T)(hT:E.ty T=some (.sl e t)){id n:Nat}{ta tb:Ty}
 (dS:s.aG d= .ptr id (.aZ (.fR n) ta tb) []) {y:ByteArray} {w:List (List Nat)} (LQ:s.aG x= .aj .str y w) (h:jE t s id n ta tb y some=some u):aH P X s a o u:=by
 have hx:=hr.aG d
 rw[dS] at hx
 obtain⟨r0,hβ,cap,hd,mh⟩:=hx
 unfold jE at h
 split at h
 case isFalse=>cases h
 rename_i aaq
 have:=Ty.aR aaq
 subst this
 split at h
 case isFalse=>cases h
 rename_i heq
 have:=Ty.aR heq
 subst this
 split at h
 case h_2=>cases h
 rename_i B hB
 split at h
 case isFalse=>cases h
 rename_i dQ
 obtain⟨hb,r,h1,how,cs,T',aP,dt,eC⟩:=G8 hr hB dQ
 rw[hβ] at h1
 cases h1
 generalize(Ty.cast dQ B.x:List Int)=xs at*
 cases hn:Nat.beq n (List.length xs)<;>rw[hn] at h
 ·cases h
 cases h
 have hn:=Nat.eq_of_beq_eq_true hn
 have hy:=hr.aG x
 rw[LQ] at hy
 obtain⟨cy,ry,ev,_⟩:=hy
 have ev:a.eval x= .string y:=by rw[ev,z24 ry]
 have hu:=(hE.ty T _ hT).dj
 have uI:(Ty.int IntKind.u8).cells=1:=rfl
 rw[uI,Nat.mul_one] at dt
 let l:=y.data.toList.take n
 have TJ:l.length=min n y.size:=by simp [l]
 have BP:List.take n (mY y)=l.map fun c=>(c.toNat:Int):=by simp [mY,l]
 have jI:(Builtin.firstCells 1 (Nat.min y.size n) (.string y)).run P X.w= .ok (l.map fun c=>Value.int .u8 c.toNat).toArray X.w:=by
  have e1:((y.extract 0 (Nat.min y.size n)).data.map fun b=>Value.int .u8 b.toNat)=(l.map fun c=>Value.int .u8 c.toNat).toArray:=by
   apply Array.ext'
   have e0:(y.extract 0 (Nat.min y.size n)).data.toList=l:=by
    rw[ByteArray.data_extract,Array.toList_extract,List.extract_eq_take_drop]
    show List.take (Nat.min y.size n-0) (y.data.toList.drop 0)=y.data.toList.take n
    rw[Nat.sub_zero,List.drop_zero]
    show List.take (min y.data.toList.length n) y.data.toList=y.data.toList.take n
    rw[Nat.min_comm,<-List.take_eq_take_min]
   rw[Array.toList_map,e0]
  simp only[Builtin.firstCells,Sem.run_pure,e1]
 have dh:0+(l.map fun c=>Value.int .u8 c.toNat).length<=cs.size:=by
  rw[List.length_map,dt,<-hn,TJ];omega
 let new:=((l.map fun c=>Value.int .u8 c.toNat)++cs.toList.drop l.length).toArray
 have rz:=ag7 (X:=X) l
 have cH:=run_storeCells_at P r0 0 T' (l.map fun c=>Value.int .u8 c.toNat) 0 cs X.w aP (by simpa using dh) rz.one
 have bd:(execOp a.eval o).run P X.w= .ok (.value (.int .i64 (l.length:Nat))) (X.row r0 new).w:=by
  have e1:(Builtin.lenOf (a.eval x)).run P X.w= .ok y.size X.w:=by rw[ev];simp [Builtin.lenOf]
  have e2:Nat.min y.size n=l.length:=by rw[TJ];exact Nat.min_comm _ _
  have e3:=jI
  rw[e2] at e3
  simp only[execOp,ho,resolve,invoke,builtin,Sem.run_bind,Sem.run_pure,Result.andThen_ok,List.map_toArray,List.map_cons,List.map_nil,Builtin.copy_,gP,hd]
  rw[ev] at e1⊢
  simp [run_underlying hu.1,e1,e2,e3,cH,goInt,lC hE hu.2,uI]
  rfl
 have dR:aW X (.arr xs.length (.int .u8)) xs cs.toList:=⟨rfl,by simpa [uI] using dt,eC⟩
 have aT:aW X (.arr xs.length (.int .u8)) (bJ xs (l.map fun c=>(c.toNat:Int)) 0:List Int) new.toList:=by
  have hle:l.length<=xs.length:=by rw[TJ];omega
  have h3:=NS dR hle
  have:=HU rz h3
  rw[show l.length+(xs.length-l.length)=xs.length by omega] at this
  unfold bJ
  simp only[List.take_zero,List.nil_append,Nat.zero_add,List.length_map]
  rw[uI,Nat.mul_one] at this
  exact this
 have cw:new.size=cs.size:=by
  have h1:new.toList.length=xs.length*1:=aT.2.1
  rw[dt];simpa using h1
 have ci:bI (X.row r0 new) id r0 ⟨.aZ .row (.int .u8) tb,(bJ xs (List.take n (mY y)) 0:List Int),[]⟩:=by
  rw[BP]
  refine⟨how,new,T',setRow_heap X.w r0 cs new T' (0,0) aP,?_,fun j z hj=> ?_⟩
  ·rw[cw,dt]
   show _=List.length (bJ xs (l.map fun c=>(c.toNat:Int)) 0)*_
   rw[OO _ _ _ (by rw[List.length_map,TJ];omega)]
   simp [uI]
  ·exact aW.av (fun _ _=>u6 (cs:=new) how) (aT.2.2 j z hj)
 refine⟨X.row r0 new,.int .i64 (l.length:Nat),.inl bd,Yi how,?_⟩
 have Ls:(List.take n (mY y)).length=l.length:=by rw[BP,List.length_map]
 rw[Ls]
 exact(hr.row hb hβ how ci).fin jd (fun id t p hm=>by simp [i64] at hm)
theorem ahh(hE:ar P E)(hr:Rel X s a){ops:List Oper}{er:Array Operand}{ts:Array TypeId}(ho:o.op= .call ⟨.builtin .copy,er,ts⟩){C:FuncId->bO Out}(h:act E C ops o s some=some u):aH P X s a o u:=by
 unfold act at h
 simp only[ho] at h
 split at h
 case h_2=>cases h
 rename_i d x T r qO BM
 have has:er= #[d,x]:=by rw[<-Array.toArray_toList (xs:=er),qO]
 have gP:ts[0]? =some T:=by rw[<-Array.getElem?_toList,BM];rfl
 subst has
 unfold copyV at h
 split at h
 ·rename_i e t id n ta tb hT dS
  split at h
  ·rename_i y w LQ
   exact aeh hE hr ho gP hT dS LQ h
  ·exact zy4 hE hr ho gP hT dS (fun r hv=>by
    obtain⟨cap,h1,h2⟩:=hv
    exact⟨cap,0,h1,Nat.zero_le _,.inr (by simp)⟩) h
 ·rename_i e t id n ta tb l hT dS
  exact zy4 hE hr ho gP hT dS (fun r hv=>by
   obtain⟨cap,off,h1,h2,h3,h4⟩:=hv
   exact⟨cap,off,h1,h3,h4⟩) h
 ·cases h
end Go.Ref

namespace Go.Ref
open Go
variable {P:Program} {E:Env} {X:az} {s:State} {a:Act} {o:Oper} {u:Out}
structure kl(X:az)(l:List SV)(b:Option bB)(args:Array Value):Prop where
 size:args.size=l.length
 rep:∀(i:Nat) sv v,l[i]? =some sv->args[i]? =some v->aA X (.c i 0) sv v
 ptr:∀id t p,SV.ptr id t p∈l->id=0/\b.isSome=true
 box:∀B,b=some B->∃r,X.β 0=some r/\bI X 0 r B
 rows:b=none->∀g pl n,X.ow g≠ .row pl n
def xZ(X Y:az)(b:Option bB)(r:List SV)(b':Option bB)(v:Value):Prop:=
 ∃r0,cM {Y with β:=fun _=>some r0} .r r v/\
  (∀B',b'=some B'->bI Y 0 r0 B'/\(b.isSome=true->X.β 0=some r0))/\
  ((b'=none\/b.isSome=true)->∀id t p,SV.ptr id t p∉r)
def ri(P:Program)(f:FuncId):Prop:=∃fn c,P.funcs[f]? =some fn/\(fn.name== "runtime.NumGoroutine")=false/\fn.body=some c
def de(P:Program)(C:ai)(f:FuncId):Prop:=
 ∀(l:List SV) (b:Option bB) (r:List SV) (b':Option bB),C (List SV×Option bB) f l b (fun r b=>some (r,b))=some (r,b')->ri P f/\
  ∀(X:az) (args:Array Value),kl X l b args->Calls P f args X.w fun e w'=>match e with
   | .returned v=>∃Y,Y.w=w'/\Ext X Y/\xZ X Y b r b' v
   |_=>False
def iZ(k:Option Nat):Ow->Bool
 | .box id=>decide (k=some id)
 | .row (.b id _) _=>decide (k=some id)
 |_=>false
def gR(k:Option Nat):Ow->Ow
 | .all=> .all
 | .ro n=> .ro n
 | .box id=>if k=some id then .box 0 else .ro 0
 | .row (.b id p) n=>if k=some id then .row (.b 0 p) n else .ro n
 | .row _ n=> .ro n
def iF(k:Option Nat)(d:Nat):Ow->Ow
 | .all=> .all
 | .ro n=> .ro n
 | .box 0=>match k with
   |some id=> .box id
   |none=> .ro 0
 | .box _=> .ro 0
 | .row (.r j p) n=> .row (.c d j p) n
 | .row (.b 0 p) n=>match k with
   |some id=> .row (.b id p) n
   |none=> .ro n
 | .row _ n=> .ro n
theorem M6{k:Option Nat}{w:Ow}{i:Nat}:(gR k w).used i↔w.used i:=by
 cases w with
 |all=>rfl
 |ro n=>rfl
 |box id=>simp only[gR];split<;>simp [Ow.used]
 |row pl n=>
  cases pl with
  |b id p=>simp only[gR];split<;>simp [Ow.used]
  |_=>rfl
theorem aey{k:Option Nat}{d:Nat}{w:Ow}{i:Nat}(h:w.used i):(iF k d w).used i:=by
 cases w with
 |all=>exact h
 |ro n=>exact h
 |box id=>exact h.elim
 |row pl n=>
  cases pl with
  |b id p=>
   cases id with
   |zero=>simp only[iF];split<;>exact h
   |succ id=>exact h
  |c i j p=>exact h
  |r j p=>exact h
theorem zyk{k:Option Nat}{w:Ow}(h:iZ k w=false):(gR k w).still:=by
 cases w with
 |all=>trivial
 |ro n=>trivial
 |box id=>simp only[iZ,decide_eq_false_iff_not] at h;simp only[gR];rw[if_neg h];trivial
 |row pl n=>
  cases pl with
  |b id p=>simp only[iZ,decide_eq_false_iff_not] at h;simp only[gR];rw[if_neg h];trivial
  |_=>trivial
def az.cJ(X:az)(k:Option Nat):az:=⟨X.w,fun g=>gR k (X.ow g),match k with
 |some id=>fun _=>X.β id
 |none=>X.β⟩
theorem uU{k:Option Nat}{ad:Addr}{v:Value}:(X.cJ k).aE ad v↔X.aE ad v:=by
 simp only[az.aE,az.cJ,M6]
def az.back(X Y:az)(k k':Option Nat)(d:Nat)(β:Nat->Option Nat):az:=
 ⟨Y.w,fun g=>if g<X.w.heap.size/\iZ k (X.ow g)=false then X.ow g else iF k' d (Y.ow g),β⟩
section
variable {k k':Option Nat} {d:Nat} {β:Nat->Option Nat} {Y:az}
theorem H4(h:Ext (X.cJ k) Y){g:Nat}(hg:g<X.w.heap.size)(hm:iZ k (X.ow g)=false):(X.back Y k k' d β).ow g=X.ow g/\(X.back Y k k' d β).w.heap[g]? =X.w.heap[g]? /\(Y.ow g).still/\Y.ow g=gR k (X.ow g):=by
 obtain⟨h1,h2⟩:=h.still g hg (zyk hm)
 refine⟨by simp only[az.back];rw[if_pos ⟨hg,hm⟩],h2,?_,h1⟩
 rw[h1];exact zyk hm
theorem ze8(h:Ext (X.cJ k) Y){g:Nat}(hs:¬(Y.ow g).still):(X.back Y k k' d β).ow g=iF k' d (Y.ow g):=by
 simp only[az.back]
 rw[if_neg]
 rintro⟨hg,hm⟩
 exact hs (H4 (k':=k') (d:=d) (β:=β) h hg hm).2.2.1
theorem uu(h:Ext (X.cJ k) Y){ad:Addr}{v:Value}(hs:Y.aE ad v):(X.back Y k k' d β).aE ad v:=by
 refine⟨hs.1,hs.2.1,?_⟩
 simp only[az.back]
 split
 ·rename_i hc
  have:=(H4 (k':=k') (d:=d) (β:=β) h hc.1 hc.2).2.2.2
  have hu:=hs.2.2
  rw[this,M6] at hu
  exact hu
 ·exact aey hs.2.2
theorem zt0(h:Ext (X.cJ k) Y)(hβ:β 0=X.β 0):Ext X (X.back Y k k' d β) where
 aE:=fun ad v hs=>uu h (h.aE ad v (uU.2 hs))
 size:=h.size
 os:=h.os
 tape:=h.tape
 output:=h.output
 β0:=hβ
 still:=fun g hg cH=>by
  have hm:iZ k (X.ow g)=false:=by cases hx:X.ow g<;>rw[hx] at cH<;>first|rfl|exact cH.elim
  obtain⟨h1,h2,_⟩:=H4 (k':=k') (d:=d) (β:=β) h hg hm
  exact⟨h1,h2⟩
theorem bz.back(h:Ext (X.cJ k) Y){pl:Place}(jg:∀n,iZ k (.row pl n)=false){e:TypeId}{m n:Nat}{v:Value}(ho:bz X pl e m n v):bz (X.back Y k k' d β) pl e m n v:=by
 rcases ho with ho|⟨g,cap,cur,h1,h2,h3,h4,h5,h6⟩
 ·exact .inl ho
 ·obtain⟨k1,k2,_⟩:=H4 (k':=k') (d:=d) (β:=β) h (Iz h2) (by rw[h6];exact jg _)
  exact .inr ⟨g,cap,cur,h1,k2.trans h2,h3,h4,h5,k1.trans h6⟩
theorem bq.back(h:Ext (X.cJ k) Y){pl:List Nat->Place}(jg:∀p n,iZ k (.row (pl p) n)=false){t:Ty}{x:El t}{cs:List Value}{own:List (List Nat)}(ho:bq X pl t x cs own):bq (X.back Y k k' d β) pl t x cs own:=fun p hp=>by
 obtain⟨e,t',xs,v,g0,g1,g2,g3⟩:=ho p hp
 exact⟨e,t',xs,v,g0,g1,g2,g3.back h (jg p)⟩
theorem bq.out(h:Ext (X.cJ k) Y){pl jb:List Nat->Place}(jg:∀p n,iF k' d (.row (pl p) n)= .row (jb p) n){t:Ty}{x:El t}{cs:List Value}{own:List (List Nat)}(ho:bq Y pl t x cs own):bq (X.back Y k k' d β) jb t x cs own:=fun p hp=>by
 obtain⟨e,t',xs,v,g0,g1,g2,g3⟩:=ho p hp
 refine⟨e,t',xs,v,g0,g1,g2,?_⟩
 rcases g3 with ho|⟨g,cap,cur,h1,h2,h3,h4,h5,h6⟩
 ·exact .inl ho
 ·refine .inr ⟨g,cap,cur,h1,h2,h3,h4,h5,?_⟩
  rw[ze8 h (by rw[h6];exact fun e=>e),h6,jg]
theorem aA.back(h:Ext (X.cJ k) Y){i j:Nat}{sv:SV}{v:Value}(hβ:∀id t p,sv= .ptr id t p->β id=X.β id)(hr:aA X (.c i j) sv v):aA (X.back Y k k' d β) (.c i j) sv v:=by
 cases sv with
 |undef=>trivial
 |skip=>exact hr
 |cG=>exact hr
 |gW=>exact hr
 |over=>exact hr
 |aj t x own=>
  obtain⟨cs,h1,h2,h3⟩:=hr
  exact⟨cs,h1.av (fun _ _ hs=>uu h (h.aE _ _ (uU.2 hs))),h2,h3.back h (fun _ _=>rfl)⟩
 |ptr id t p=>
  obtain⟨r,h1,h2⟩:=hr
  exact⟨r,(hβ id t p rfl).trans h1,h2⟩
 |view t x=>
  obtain⟨ad,cs,h1,h2,h3,h4⟩:=hr
  exact⟨ad,cs,h1,h2,h3.av (fun _ _ hs=>uu h (h.aE _ _ (uU.2 hs))),fun i u hi=>uu h (h.aE _ _ (uU.2 (h4 i u hi)))⟩
 |cap f t x u y=>exact uV (fun _ _ hs=>uu h (h.aE _ _ (uU.2 hs))) hr
theorem bI.back(h:Ext (X.cJ k) Y){id r:Nat}{B:bB}(hk:k≠some id)(hb:bI X id r B):bI (X.back Y k k' d β) id r B:=by
 obtain⟨h3,h1⟩:=hb
 have hm:iZ k (X.ow r)=false:=by rw[h3];simp [iZ,hk]
 obtain⟨k1,k2,_⟩:=H4 (k':=k') (d:=d) (β:=β) h h1.lt hm
 exact⟨k1.trans h3,h1.move (fun _ _ hs=>uu h (h.aE _ _ (uU.2 hs))) k2 (fun cs h4=>h4.back h (fun _ _=>by simp [iZ,hk])) fun _ g o ho hw=>by
  obtain⟨e1,e2,_⟩:=H4 (k':=k') (d:=d) (β:=β) h (Iz ho) (by rw[hw];simp [iZ,hk])
  exact⟨e2.trans ho,e1.trans hw⟩⟩
theorem bI.out(h:Ext (X.cJ k) Y){id r:Nat}{B:bB}(hk:k'=some id)(hb:bI Y 0 r B):bI (X.back Y k k' d β) id r B:=by
 obtain⟨h3,h1⟩:=hb
 refine⟨?_,h1.move (fun _ _ hs=>uu h hs) rfl (fun cs h4=>h4.out h (fun p n=>by simp [iF,hk])) fun _ g o ho hw=>⟨ho,by rw[ze8 h (by rw[hw];exact fun hh=>hh),hw];simp [iF,hk]⟩⟩
 rw[ze8 h (by rw[h3];exact fun e=>e),h3]
 simp [iF,hk]
theorem aA.out(h:Ext (X.cJ k) Y){r0 id j:Nat}{sv:SV}{v:Value}(hβ:∀cc t p,sv= .ptr cc t p->β id=some r0)(hr:aA {Y with β:=fun _=>some r0} (.r j) sv v):aA (X.back Y k k' d β) (.c d j) (sv.gY id) v:=by
 cases sv with
 |undef=>trivial
 |skip=>exact hr
 |cG=>exact hr
 |gW=>exact hr
 |over=>exact hr
 |aj t x own=>
  obtain⟨cs,h1,h2,h3⟩:=hr
  have h3:bq Y (.r j) t x cs own:=h3
  exact⟨cs,aW.av (fun ad v (hs:({Y with β:=fun _=>some r0}:az).aE ad v)=>uu (Y:=Y) h hs) h1,h2,h3.out h (fun _ _=>rfl)⟩
 |ptr cc t p=>
  obtain⟨r,h1,h2⟩:=hr
  have h1:some r0=some r:=h1
  cases h1
  exact⟨r0,hβ cc t p rfl,h2⟩
 |view t x=>
  obtain⟨ad,cs,h1,h2,h3,h4⟩:=hr
  exact⟨ad,cs,h1,h2,aW.av (fun ad v (hs:({Y with β:=fun _=>some r0}:az).aE ad v)=>uu (Y:=Y) h hs) h3,fun i u hi=>uu h (show Y.aE _ _ from h4 i u hi)⟩
 |cap f t x u y=>exact uV (X:={Y with β:=fun _=>some r0}) (fun ad v (hs:({Y with β:=fun _=>some r0}:az).aE ad v)=>uu (Y:=Y) h hs) hr
theorem Rel.back(h:Ext (X.cJ k) Y)(hr:Rel X s a)(hβ:∀(id:Nat) B,s.bs[id]? =some (some B)->β id=X.β id)(hk:∀(id:Nat) B,s.bs[id]? =some (some B)->k≠some id):Rel (X.back Y k k' d β) s a where
 size:=hr.size
 hN:=hr.hN
 bP:=fun i l v hl hv=>(hr.bP i l v hl hv).kg fun j sv u hm j5=>j5.back h (fun id t p e=>by
  obtain⟨B,hB⟩:=hr.live i l id t p hl (e▸List.mem_of_getElem? hm)
  exact hβ id B hB)
 boxes:=fun id B hB=>by
  obtain⟨r,h1,h2⟩:=hr.boxes id B hB
  exact⟨r,(hβ id B hB).trans h1,h2.back h (hk id B hB)⟩
 live:=hr.live
 defers:=hr.defers
theorem Rel.wF(h:Ext (X.cJ k) Y)(hr:Rel X s a){id r:Nat}{B B':bB}(hb:s.bs[id]? =some (some B))(hk:k=some id)(Lo:k'=some id)(hβ:X.β id=some r)(hB:bI Y 0 r B'):Rel (X.back Y k k' d X.β) (s.aL (some (id,B'))) a where
 size:=hr.size
 hN:=by simpa [State.aL] using hr.hN
 bP:=fun i l v hl hv=>(hr.bP i l v hl hv).kg fun j sv u hm j5=>j5.back h (fun _ _ _ _=>rfl)
 boxes:=fun cc B2 dk=>by
  have aq:id<s.bs.length:=(List.getElem?_eq_some_iff.1 hb).1
  simp only[State.aL,List.getElem?_set] at dk
  by_cases e:id=cc
  ·subst e
   rw[if_pos rfl,if_pos aq] at dk
   cases dk;exact⟨r,hβ,hB.out h Lo⟩
  ·rw[if_neg e] at dk
   obtain⟨r',h1,h2⟩:=hr.boxes cc B2 dk
   exact⟨r',h1,h2.back h (by rw[hk];intro e2;cases e2;exact e rfl)⟩
 live:=fun i l cc t p hi hm=>by
  have aq:id<s.bs.length:=(List.getElem?_eq_some_iff.1 hb).1
  obtain⟨B2,dk⟩:=hr.live i l cc t p hi hm
  simp only[State.aL,List.getElem?_set]
  by_cases e:id=cc
  ·subst e;exact⟨B',by rw[if_pos rfl,if_pos aq]⟩
  ·rw[if_neg e];exact⟨B2,dk⟩
 defers:=hr.defers
end
theorem aA.cJ{k:Option Nat}{pl jb:List Nat->Place}{t:Ty}{x:El t}{w:List (List Nat)}{v:Value}(hr:aA X pl (.aj t x w) v):aA (X.cJ k) jb (.aj t x []) v:=by
 obtain⟨cs,h1,h2,_⟩:=hr
 exact⟨cs,h1.av (fun _ _=>uU.2),h2,mO⟩
theorem bI.cJ{id r:Nat}{B:bB}(hb:bI X id r B):bI (X.cJ (some id)) 0 r B:=by
 obtain⟨h3,h1⟩:=hb
 refine⟨by simp [az.cJ,h3,gR],h1.move (fun _ _=>uU.2) rfl (fun cs h4 p hp=> ?_) fun _ g o ho hw=>⟨ho,by simp [az.cJ,hw,gR]⟩⟩
 obtain⟨e,t',xs,v,g0,g1,g2,g3⟩:=h4 p hp
 refine⟨e,t',xs,v,g0,g1,g2,?_⟩
 rcases g3 with ho|⟨g,cap,cur,k1,k2,k3,k4,k5,k6⟩
 ·exact .inl ho
 ·exact .inr ⟨g,cap,cur,k1,k2,k3,k4,k5,by simp [az.cJ,k6,gR]⟩
theorem NQ(hr:Rel X s a):∀(vs:List (SV×Value)) (l:List SV) (b:Option (Nat×bB)),(∀x∈vs,∃q,aA X q x.1 x.2)->mR s (vs.map (·.1))=some (l,b)->l.length=vs.length/\
 (∀id B,b=some (id,B)->s.bs[id]? =some (some B))/\
 (∀id t p,SV.ptr id t p∈l->id=0/\b.isSome=true)/\
 ∀k,(∀id B,b=some (id,B)->k=some id)->∀(i:Nat) sv x,l[i]? =some sv->vs[i]? =some x->∀q,aA (X.cJ k) q sv x.2:=by
 intro vs
 induction vs with
 |nil=>
  intro l b _ h
  simp only[List.map_nil,mR,Option.some.injEq,Prod.mk.injEq] at h
  obtain⟨rfl,rfl⟩:=h
  refine⟨rfl,(fun id B e=>by cases e),(fun id t p hm=>by cases hm),fun k _ i sv x hl=>by simp at hl⟩
 |cons x r ih=>
  intro l b jK h
  simp only[List.map_cons,mR] at h
  split at h
  ·cases h
  rename_i l1 b1 h1
  obtain⟨i1,i2,i3,i4⟩:=ih l1 b1 (fun y hy=>jK y (List.mem_cons_of_mem _ hy)) h1
  obtain⟨q0,hx⟩:=jK x List.mem_cons_self
  have fin:∀(sv:SV),l=sv::l1->(∀id B,b1=some (id,B)->b=b1)->(∀id B,b=some (id,B)->s.bs[id]? =some (some B))->(∀id t p,sv= .ptr id t p->id=0/\b.isSome=true)->
   (∀k,(∀id B,b=some (id,B)->k=some id)->∀q,aA (X.cJ k) q sv x.2)->l.length=(x::r).length/\
   (∀id B,b=some (id,B)->s.bs[id]? =some (some B))/\
   (∀id t p,SV.ptr id t p∈l->id=0/\b.isSome=true)/\
   ∀k,(∀id B,b=some (id,B)->k=some id)->∀(i:Nat) sv y,l[i]? =some sv->(x::r)[i]? =some y->∀q,aA (X.cJ k) q sv y.2:=by
   intro sv hl hb ci ct aT
   subst hl
   refine⟨by simp [i1],ci,fun id t p hm=> ?_,fun k hk i sv' y hl hv=> ?_⟩
   ·rcases List.mem_cons.1 hm with e|hm
    ·exact ct id t p e.symm
    ·obtain⟨j1,j2⟩:=i3 id t p hm
     cases uH:b1 with
     |none=>rw[uH] at j2;cases j2
     |some bb=>rw[hb bb.1 bb.2 uH];exact⟨j1,j2⟩
   ·cases i with
    |zero=>
     simp only[List.getElem?_cons_zero,Option.some.injEq] at hl hv
     subst hl hv
     exact aT k hk
    |succ i=>
     simp only[List.getElem?_cons_succ] at hl hv
     exact i4 k (fun id B e=>hk id B (by rw[hb id B e];exact e)) i sv' y hl hv
  obtain⟨x1,x2⟩:=x
  simp only at h hx fin
  split at h
  ·cases h
   exact fin _ rfl (fun _ _ _=>rfl) i2 (fun _ _ _ e=>by cases e) (fun k _ q=>hx.cJ)
  ·cases h
   exact fin _ rfl (fun _ _ _=>rfl) i2 (fun _ _ _ e=>by cases e) (fun k _ q=>hx)
  ·cases h
   refine fin _ rfl (fun _ _ _=>rfl) i2 (fun _ _ _ e=>by cases e) (fun k _ q=> ?_)
   obtain⟨ad,cs,g1,g2,g3,g4⟩:=hx
   exact⟨ad,cs,g1,g2,g3.av (fun _ _=>uU.2),fun i w hi=>uU.2 (g4 i w hi)⟩
  ·rename_i id t
   split at h
   case h_2=>cases h
   rename_i B hB
   split at h
   case isFalse=>cases h
   cases h
   obtain⟨rr,g1,g2⟩:=hx
   refine fin _ rfl (fun _ _ e=>by cases e) (fun id B e=>by cases e;exact rG hB) (fun _ _ _ e=>by cases e;exact⟨rfl,rfl⟩) (fun k hk q=> ?_)
   have:=hk id B rfl
   subst this
   exact⟨rr,g1,g2⟩
  ·cases h
def kS(P:Program)(X:az)(s:State)(a:Act)(o:Oper)(u:Out):Prop:=
 ∀(next:Act->World->Prop) (Q:Exit->Act->World->Prop),(∀Y v,Ext X Y->Rel Y (s.apply o.dst u) (a.put o.dst v)->next (a.put o.dst v) Y.w)->o.wp P a X.w next Q
theorem aH.does(h:aH P X s a o u):kS P X s a o u:=fun next Q hn=>by
 obtain⟨Y,v,h1,h2,h3⟩:=h
 unfold Oper.wp
 rcases h1 with h1|⟨h1,rfl⟩
 ·rw[h1,Oper.upon_value];exact hn Y v h2 h3
 ·rw[h1,Oper.upon_skip];exact hn Y _ h2 h3
theorem ahp{f:FuncId}(h:ri P f){er:Array Operand}{ts:Array TypeId}(ho:o.op= .call ⟨.value (.func f),er,ts⟩)(w:World):(execOp a.eval o).run P w= .ok (.enter f (er.map a.eval)) w:=by
 obtain⟨fn,c,h1,h2,h3⟩:=h
 simp [execOp,ho,resolve,Deferred.ofValue,Act.eval,invoke,callFunc,h1,h3]
 simpa using h2
theorem zz2{l:List SV}{id:Nat}(h:∀id t p,SV.ptr id t p∉l):l.map (SV.gY id)=l:=by
 induction l with
 |nil=>rfl
 |cons v r ih=>
  rw[List.map_cons,ih (fun id t p hm=>h id t p (List.mem_cons_of_mem _ hm))]
  congr 1
  cases v<;>first|rfl|skip
  exact absurd (List.mem_cons_self) (h _ _ _)
theorem ztn{k k':Option Nat}{d:Nat}{β:Nat->Option Nat}{Y:az}(h:Ext (X.cJ k) Y){r0 id:Nat}{r:List SV}{v:Value}(hβ:∀cc t p,SV.ptr cc t p∈r->β id=some r0)(hr:cM {Y with β:=fun _=>some r0} .r r v):cM (X.back Y k k' d β) (.c d) (r.map (SV.gY id)) v:=by
 match r,hr with
 | [sv],hr=>exact aA.out h (fun cc t p e=>hβ cc t p (by simp [e])) hr
 | [],⟨vs,h1,h2,h3⟩=>exact⟨vs,h1,h2,fun j s u hs=>by simp at hs⟩
 |x::y::r,⟨vs,h1,h2,h3⟩=>
  refine⟨vs,h1,by simpa using h2,fun j sv u hs hu=> ?_⟩
  have hs:((x::y::r).map (SV.gY id))[j]? =some sv:=hs
  rw[List.getElem?_map] at hs
  obtain⟨s0,gj,rfl⟩:=Option.map_eq_some_iff.1 hs
  exact aA.out h (fun cc t p e=>hβ cc t p (e▸List.mem_of_getElem? gj)) (h3 j s0 u gj hu)
theorem aev:∀g pl n,(X.cJ none).ow g≠ .row pl n:=fun g pl n=>by
 show gR none (X.ow g)≠_
 cases X.ow g with
 |row q m=>cases q<;>simp [gR]
 |_=>simp [gR]
theorem zej(hr:Rel X s a){C:ai}(hC:C.Nat){f:FuncId}(hf:de P C f){vs:List (SV×Value)}(Al:∀x∈vs,∃q,aA X q x.1 x.2)(eD:ri P f->(execOp a.eval o).run P X.w= .ok (.enter f (vs.map (·.2)).toArray) X.w)(h:fp (C Out) s o.dst f (vs.map (·.1)) some=some u):kS P X s a o u:=by
 have bd:=eD
 clear eD
 unfold fp at h
 have enter:∀(l:List SV) (b:Option (Nat×bB)) (k:Option Nat),mR s (vs.map (·.1))=some (l,b)->(∀id B,b=some (id,B)->k=some id)->(b=none->k=none)->kl (X.cJ k) l (b.map (·.2)) (vs.map (·.2)).toArray:=by
  intro l b k cp hk B3
  obtain⟨i1,i2,i3,i4⟩:=NQ hr vs l b Al cp
  refine⟨by simpa using i1.symm,fun i sv v hl hv=> ?_,fun id t p hm=> ?_,fun B hB=> ?_,fun hb=> ?_⟩
  ·rw[List.getElem?_toArray,List.getElem?_map] at hv
   obtain⟨x,hx,rfl⟩:=Option.map_eq_some_iff.1 hv
   exact i4 k hk i sv x hl hx _
  ·obtain⟨j1,j2⟩:=i3 id t p hm
   exact⟨j1,by simpa using j2⟩
  ·obtain⟨bb,BO,rfl⟩:=Option.map_eq_some_iff.1 hB
   obtain⟨id,B⟩:=bb
   obtain⟨r,h1,h2⟩:=hr.boxes id B (i2 id B BO)
   have:=hk id B BO
   subst this
   exact⟨r,h1,h2.cJ⟩
  ·have hb:b=none:=by cases b<;>simp at hb⊢
   rw[B3 hb]
   exact aev
 split at h
 ·rename_i l cp
  obtain⟨⟨r,b'⟩,tm,h⟩:=lF (hC Out _ f l none _ (fun r b=>some (r,b)) (fun z=>match z.2 with
   |none=>some {v:=z.1}
   |some B=>match o.dst with
    |some d=>match s.bs[d+1]? with
     |some none=>some {v:=z.1.map (SV.gY (d+1)),bx:=some (d+1,B)}
     |_=>none
    |none=>none) (fun r b=>rfl)) h
  obtain⟨eD,tH⟩:=hf l none r b' tm
  have ig:=enter l none none cp (fun id B e=>by cases e) (fun _=>rfl)
  intro next Q hn
  unfold Oper.wp
  rw[bd eD,Oper.upon_enter]
  refine(tH (X.cJ none) _ ig).mono fun e w' he=> ?_
  cases e with
  |returned v=>
   obtain⟨Y,rfl,bn,r0,aT,ci,tK⟩:=he
   simp only at h
   cases b' with
   |none=>
    cases h
    have hp:=tK (.inl rfl)
    have bW:=zt0 (k':=none) (d:=o.dst.getD 0) (β:=X.β) bn rfl
    refine hn (X.back Y none none (o.dst.getD 0) X.β) v bW ?_
    refine(Rel.back (k':=none) bn hr (fun _ _ _=>rfl) (fun _ _ _=>by simp)).fin ?_ (fun id t p hm=>absurd hm (hp id t p))
    have:=ztn (k':=none) (d:=o.dst.getD 0) (β:=X.β) (id:=0) bn (fun cc t p hm=>absurd hm (hp cc t p)) aT
    rw[zz2 hp] at this
    exact this
   |some B=>
    simp only at h
    split at h
    case h_2=>cases h
    rename_i d hd
    split at h
    case h_2=>cases h
    rename_i jZ
    cases h
    have aq:d+1<s.bs.length:=(List.getElem?_eq_some_iff.1 jZ).1
    obtain⟨hB,_⟩:=ci B rfl
    let β:Nat->Option Nat:=fun id=>if id=d+1 then some r0 else X.β id
    have hβd:β (d+1)=some r0:=by simp [β]
    have bW:=zt0 (k':=some (d+1)) (d:=d) (β:=β) bn (by simp [β])
    refine hn (X.back Y none (some (d+1)) d β) v bW ?_
    have bD:=(Rel.back (k':=some (d+1)) (d:=d) (β:=β) bn hr (fun id B2 dk=>by
     show(if _ then _ else _)=_
     rw[if_neg (fun e=>by rw[e,jZ] at dk;cases dk)]) (fun _ _ _=>by simp)).gn aq jZ hβd (hB.out bn rfl)
    rw[hd]
    refine bD.put (fun d' e=> ?_) (fun id t p hm=> ?_)
    ·cases e
     exact ztn bn (fun _ _ _ _=>hβd) aT
    ·obtain⟨s0,_,he0⟩:=List.mem_map.1 hm
     have:id=d+1:=by
      cases s0<;>simp [SV.gY] at he0
      exact he0.1.symm
     subst this
     exact⟨B,by simp [State.close,State.aL,List.getElem?_set,aq]⟩
  |panicked c=>exact he.elim
  |outgrown=>exact he.elim
 ·rename_i l id B cp
  obtain⟨⟨r,b'⟩,tm,h⟩:=lF (hC Out _ f l (some B) _ (fun r b=>some (r,b)) (fun z=>match z.2 with
   |some B'=>if B'.t.cu B.t=true then some {v:=z.1,bx:=some (id,B')} else none
   |none=>none) (fun r b=>rfl)) h
  obtain⟨eD,tH⟩:=hf l (some B) r b' tm
  have ig:=enter l (some (id,B)) (some id) cp (fun id B e=>by cases e;rfl) (fun e=>by cases e)
  obtain⟨_,i2,_,_⟩:=NQ hr vs l _ Al cp
  have hb:=i2 id B rfl
  intro next Q hn
  unfold Oper.wp
  rw[bd eD,Oper.upon_enter]
  refine(tH (X.cJ (some id)) _ ig).mono fun e w' he=> ?_
  cases e with
  |returned v=>
   obtain⟨Y,rfl,bn,r0,aT,ci,tK⟩:=he
   simp only at h
   cases b' with
   |none=>cases h
   |some B'=>
    simp only at h
    split at h
    case isFalse=>cases h
    cases h
    have hp:=tK (.inr rfl)
    obtain⟨hB,hβ⟩:=ci B' rfl
    have hβ:=hβ rfl
    have bW:=zt0 (k':=some id) (d:=o.dst.getD 0) (β:=X.β) bn rfl
    refine hn (X.back Y (some id) (some id) (o.dst.getD 0) X.β) v bW ?_
    refine(Rel.wF (k:=some id) (k':=some id) bn hr hb rfl rfl hβ hB).fin ?_ (fun id t p hm=>absurd hm (hp id t p))
    have:=ztn (k':=some id) (d:=o.dst.getD 0) (β:=X.β) (id:=0) bn (fun cc t p hm=>absurd hm (hp cc t p)) aT
    rw[zz2 hp] at this
    exact this
  |panicked c=>exact he.elim
  |outgrown=>exact he.elim
 ·cases h
theorem ze7(hr:Rel X s a)(er:Array Operand):∀x∈er.toList.map (fun x=>(s.aG x,a.eval x)),∃q,aA X q x.1 x.2:=fun x hx=>by
 obtain⟨y,_,rfl⟩:=List.mem_map.1 hx
 exact⟨_,hr.aG y⟩
theorem Np{X:az}{pl:List Nat->Place}{sv:SV}{v:Value}(h:aA X pl sv v):aA X pl sv.shut v:=by
 cases sv with
 |aj t x own=>
  obtain⟨cs,h1,h2,_⟩:=h
  exact⟨cs,h1,h2,mO⟩
 |_=>exact h
theorem ahZ{X:az}{pl:Nat->List Nat->Place}{l:List SV}{v:Value}(h:cM X pl l v):cM X pl (l.map SV.shut) v:=by
 match l,h with
 | [sv],h=>exact Np (sv:=sv) h
 | [],h=>exact h
 |x::y::r,⟨vs,g1,g2,g3⟩=>
  refine⟨vs,g1,by simpa using g2,fun j sv u ln hu=> ?_⟩
  have ln:((x::y::r).map SV.shut)[j]? =some sv:=ln
  rw[List.getElem?_map] at ln
  obtain⟨s0,gj,rfl⟩:=Option.map_eq_some_iff.1 ln
  exact Np (g3 j s0 u gj hu)
theorem ahY{l:List SV}{j:Nat}{t:Ty}{p:List Nat}(h:SV.ptr j t p∈l.map SV.shut):SV.ptr j t p∈l:=by
 obtain⟨s0,gj,he⟩:=List.mem_map.1 h
 cases s0<;>first|(cases he;done)|(rw[<-he];exact gj)|skip
theorem Rel.bV(hr:Rel X s a){d:Nat}{l:List SV}:Rel X {s with sl:=s.sl.set d l} a->Rel X {s with sl:=s.sl.set d (l.map SV.shut)} a:=fun h=>{
 size:=by simpa using hr.size
 hN:=by simpa using hr.hN
 bP:=fun i l' v hl hv=>by
  replace hl:(s.sl.set d (l.map SV.shut))[i]? =some l':=hl
  rw[List.getElem?_set] at hl
  split at hl
  ·rename_i wP
   split at hl
   ·cases hl
    rename_i aq
    exact ahZ (h.bP i l v (by show(s.sl.set d l)[i]? =_;rw[List.getElem?_set,if_pos wP,if_pos aq]) hv)
   ·cases hl
  ·rename_i wP
   exact h.bP i l' v (by show(s.sl.set d l)[i]? =_;rw[List.getElem?_set,if_neg wP];exact hl) hv
 boxes:=h.boxes
 live:=fun i l' id t p hl hm=>by
  replace hl:(s.sl.set d (l.map SV.shut))[i]? =some l':=hl
  rw[List.getElem?_set] at hl
  split at hl
  ·rename_i wP
   split at hl
   ·cases hl
    rename_i aq
    exact h.live i l id t p (by show(s.sl.set d l)[i]? =_;rw[List.getElem?_set,if_pos wP,if_pos aq]) (ahY hm)
   ·cases hl
  ·rename_i wP
   exact h.live i l' id t p (by show(s.sl.set d l)[i]? =_;rw[List.getElem?_set,if_neg wP];exact hl) hm
 defers:=h.defers}
theorem kS.shut(h:kS P X s a o u):kS P X s a o u.shut:=fun next Q hn=>h next Q fun Y v bn bD=>hn Y v bn (by
 unfold State.apply at bD⊢
 show Rel Y (((s.close u.cl).aL u.bx).aQ o.dst (u.v.map SV.shut)) _
 generalize(s.close u.cl).aL u.bx=s1 at*
 cases hd:o.dst with
 |none=>rw[hd] at bD;exact bD
 |some d=>
  rw[hd] at bD
  have e:=Rel.bV (X:=Y) (s:={s1 with sl:=s1.sl.set d u.v}) (a:=a.put (some d) v) (d:=d) (l:=u.v) bD (by
   show Rel Y {s1 with sl:=(s1.sl.set d u.v).set d u.v} _
   rw[List.set_set];exact bD)
  show Rel Y {s1 with sl:=s1.sl.set d (u.v.map SV.shut)} _
  have e2:Rel Y {s1 with sl:=(s1.sl.set d u.v).set d (u.v.map SV.shut)} (a.put (some d) v):=e
  rw[List.set_set] at e2
  exact e2)
theorem ahf(hr:Rel X s a){C:ai}(hC:C.Nat){f:FuncId}(hf:de P C f){ops:List Oper}{er:Array Operand}{ts:Array TypeId}(ho:o.op= .call ⟨.value (.func f),er,ts⟩)(h:act E (C Out) ops o s some=some u):kS P X s a o u:=by
 unfold act at h
 simp only[ho] at h
 obtain⟨u0,h0,h1⟩:=lF (Uj hC (F:=fun u=>some (bif eY E o.dst then u.shut else u)) (G:=some) (K:=fun u=>some (bif eY E o.dst then u.shut else u)) (fun _=>rfl)) h
 have hd:kS P X s a o u0:=by
  refine zej hr hC hf (ze7 hr er) (fun eD=> ?_) (by rw[List.map_map];exact h0)
  rw[ahp eD ho]
  congr 2
  apply Array.toList_inj.1
  simp [Function.comp_def]
 cases hs:eY E o.dst with
 |false=>rw[hs] at h1;cases h1;exact hd
 |true=>rw[hs] at h1;cases h1;exact hd.shut
theorem an7{f:FuncId}(h:ri P f){x:Operand}{v:Value}{er:Array Operand}{ts:Array TypeId}(ho:o.op= .call ⟨.value x,er,ts⟩)(hx:a.eval x= .func (.func f) #[] #[v])(w:World):(execOp a.eval o).run P w= .ok (.enter f (er.map a.eval++ #[v])) w:=by
 obtain⟨fn,c,h1,h2,h3⟩:=h
 simp [execOp,ho,resolve,Deferred.ofValue,hx,invoke,callFunc,h1,h3]
 simpa using h2
theorem akX{f:FuncId}(h:ri P f){x:Operand}{v v2:Value}{er:Array Operand}{ts:Array TypeId}(ho:o.op= .call ⟨.value x,er,ts⟩)(hx:a.eval x= .func (.func f) #[] #[v,v2])(w:World):(execOp a.eval o).run P w= .ok (.enter f (er.map a.eval++ #[v,v2])) w:=by
 obtain⟨fn,c,h1,h2,h3⟩:=h
 simp [execOp,ho,resolve,Deferred.ofValue,hx,invoke,callFunc,h1,h3]
 simpa using h2
theorem aee(hr:Rel X s a){C:ai}(hC:C.Nat)(hf:∀f,de P C f){ops:List Oper}{y:Nat}{er:Array Operand}{ts:Array TypeId}(ho:o.op= .call ⟨.value (.tmp y),er,ts⟩)(h:act E (C Out) ops o s some=some u):kS P X s a o u:=by
 unfold act at h
 simp only[ho] at h
 split at h
 case h_3=>cases h
 case h_2=>
  rename_i f t x1 u' y1 dS
  have hx:=hr.aG (.tmp y)
  rw[dS] at hx
  obtain⟨ad,pQ,cs,eA,hv,⟨g2,g3,g4⟩,k2,k3,k4⟩:=hx
  refine zej hr hC (hf f) (vs:=er.toList.map (fun x=>(s.aG x,a.eval x))++ [(.view t x1,.pointer (some ad)),(.view u' y1,.pointer (some pQ))]) (fun x hx=> ?_) (fun eD=> ?_) (by rw[List.map_append,List.map_map];exact h)
  ·rcases List.mem_append.1 hx with hx|hx
   ·exact ze7 hr er x hx
   ·rcases List.mem_cons.1 hx with rfl|hx
    ·exact⟨.r 0,ad,cs,rfl,g2,g3,g4⟩
    ·rw[List.mem_singleton.1 hx]
     exact⟨.r 0,pQ,eA,rfl,k2,k3,k4⟩
  ·rw[akX eD ho hv]
   congr 2
   apply Array.toList_inj.1
   simp [Function.comp_def]
 rename_i id f t b dS
 have hx:=hr.aG (.tmp y)
 rw[dS] at hx
 obtain⟨r0,hβ,hv⟩:=hx
 have hv:a.eval (.tmp y)= .func (.func f) #[] #[.pointer (some ⟨r0,0,none⟩)]:=hv
 split at h
 case isTrue=>cases h
 rename_i hs
 refine zej hr hC (hf f) (vs:=er.toList.map (fun x=>(s.aG x,a.eval x))++ [(.ptr id t [],.pointer (some ⟨r0,0,none⟩))]) (fun x hx=> ?_) (fun eD=> ?_) (by rw[List.map_append,List.map_map];exact h)
 ·rcases List.mem_append.1 hx with hx|hx
  ·exact ze7 hr er x hx
  ·rw[List.mem_singleton.1 hx]
   exact⟨.r 0,r0,hβ,(RI (by simpa using hs)).2 ⟨by simp [Ty.off],by simp [Ty.ff]⟩⟩
 ·rw[an7 eD ho hv]
  congr 2
  apply Array.toList_inj.1
  simp [Function.comp_def]
end Go.Ref

namespace Go.Ref
open Go
variable {P:Program} {E:Env} {X:az} {s:State} {a:Act} {o:Oper} {u:Out}
theorem akJ(hE:ar P E)(hr:Rel X s a){C:ai}(hC:C.Nat)(hf:∀f,de P C f){ops:List Oper}(h:act E (C Out) ops o s some=some u):kS P X s a o u:=by
 cases ho:o.op with
 |move x=>exact(ahk hr ho h).does
 |assign x=>exact(adB hr ho h).does
 |pick c x y=>exact(ahm hr ho h).does
 |binOp op T x y T'=>exact(ak4 hE hr ho h).does
 |unOp op T x=>exact(aob hr ho h).does
 |convert S T x=>exact(ahg hE hr ho h).does
 |load T x=>exact(ahj hE hr ho h).does
 |store T x y=>exact(ael hE hr ho h).does
 |nilCheck x=>exact(acz hr ho h).does
 |fieldAddr T x j=>exact(acq hE hr ho h).does
 |indexAddr T x i=>exact(acr hE hr ho h).does
 |index T x i=>exact(aej hE hr ho h).does
 |field T x j=>exact(aei hE hr ho h).does
 |slice T x lo hi mx=>
  cases mx with
  |none=>exact(ak6 hE hr ho h).does
  |some m=>unfold act at h;simp only[ho] at h;cases h
 |alloc T=>exact(aec hE hr ho h).does
 |box T x=>exact(ak5 hE hr ho h).does
 |build T parts=>exact(aed hE hr ho h).does
 |buildSlice T n parts=>exact(zy3 hE hr ho h).does
 |extract x j=>exact(acZ hr ho h).does
 |makeMap T r=>exact(ac2 hE hr ho h).does
 |lookup T x i ok=>exact(adC hE hr ho h).does
 |mapUpdate T m k x=>exact(zdg hE hr (.inl ho) h).does
 |insert T m k x=>exact(zdg hE hr (.inr ho) h).does
 |range T x=>exact(aek hE hr ho h).does
 |next x str=>exact(ahl hr ho h).does
 |makeSlice T l c=>exact(acs hE hr ho h).does
 |makeFunc fn fi ca=>exact(acy hr ho h).does
 |call c=>
  obtain⟨callee,args,ts⟩:=c
  cases callee with
  |value x=>
   cases x with
   |func f=>exact ahf hr hC (hf f) ho h
   |tmp y=>exact aee hr hC hf ho h
   |_=>unfold act at h;simp only[ho] at h;cases h
  |builtin b=>
   cases b with
   |len=>exact(ak7 (x:= .const Go.undef) (T:=0) hE hr ho h).does
   |append=>exact(adA hE hr ho h).does
   |copy=>exact(ahh hE hr ho h).does
   |max=>exact(MN (g:=true) hr ho h).does
   |min=>exact(MN (g:=false) hr ho h).does
   |_=>unfold act at h;simp only[ho] at h;cases h
  |_=>unfold act at h;simp only[ho] at h;cases h
 |_=>unfold act at h;simp only[ho] at h;cases h
theorem Rel.know(hr:Rel X s a){d:Nat}{p:Bool}{o:List (List Nat)}(h:s.slot d=[.aj .bool p o]):Rel X (s.aQ (some d) (bl p)) a/\a.tmps[d]? =some (.bool p):=by
 have hd:d<s.sl.length:=by
  rcases Nat.lt_or_ge d s.sl.length with h1|h1
  ·exact h1
  ·simp [State.slot,List.getElem?_eq_none h1] at h
 have tn:d<a.tmps.size:=by rw[<-hr.size];exact hd
 have hv:a.tmps[d]? =some (a.tmps.getD d Go.undef):=by simp [Array.getElem?_eq_getElem tn]
 have hs:=hr.slot d
 rw[h] at hs
 have hb:=Ri (X:=X) hs
 rw[hb] at hv
 refine⟨?_,hv⟩
 have aaz:a.put (some d) (.bool p)=a:=by
  cases a with
  |mk tmps defers=>
   simp only[Act.put,Act.mk.injEq,and_true]
   apply Array.ext_getElem?
   intro i
   rw[Array.getElem?_setIfInBounds]
   split
   ·rename_i e
    subst e
    first
     |exact hv.symm
     |(rw[if_pos tn];exact hv.symm)
   ·rfl
 have:=hr.put (d:=some d) (l:=bl p) (v:= .bool p) (fun _ _=>mN) (fun id t q hm=>by simp [bl] at hm)
 rw[aaz] at this
 exact this
theorem Fb(hE:ar P E)(hr:Rel X s a){C:ai}(hC:C.Nat)(hf:∀f,de P C f){ops:Array Oper}{i:Nat}(hi:ops[i]? =some o){s':State}(h:step E (C State) ops.toList o s some=some s'){Q:Exit->Act->World->Prop}{K:Act->World->Prop}
 (hK:∀Y a',Ext X Y->Rel Y s' a'->K a' Y.w):wpOp P ops Q i K a X.w:=by
 unfold wpOp
 simp only[hi]
 have uK:∀{s1:State},Rel X s1 a->(act E (C State) ops.toList o s1 fun u=>some (s1.apply o.dst u))=some s'->o.wp P a X.w K Q:=by
  intro s1 eV h1
  obtain⟨u,hu,h2⟩:=lF (xK hC (F:=fun u=>some (s1.apply o.dst u)) (G:=some) (K:=fun u=>some (s1.apply o.dst u)) (fun _=>rfl)) h1
  cases h2
  exact akJ hE eV hC hf hu K Q (fun Y v bn bD=>hK Y _ bn bD)
 have jJ:∀{s1:State},Rel X s1 a->some (s1.aQ o.dst [.skip])=some s'->K (a.put o.dst Go.undef) X.w:=by
  intro s1 eV h1
  cases h1
  exact hK X _ (Ext.refl X) (eV.skip o.dst)
 unfold step at h
 simp only at h
 split at h
 ·rename_i hg
  have hw:Region.wanted o (yielded ops a.tmps)=true:=by simp [Region.wanted,hg]
  rw[if_pos hw]
  exact .inl (uK hr h)
 ·rename_i g want hg
  split at h
  ·cases h
  rename_i d hd
  have hd':(ops[g]?).bind (·.dst)=some d:=by simpa [SI] using hd
  split at h
  ·rename_i p hs
   obtain⟨eV,hv⟩:=hr.know hs
   have hy:yielded ops a.tmps g=some p:=by simp [yielded,hd',hv]
   have hw:Region.wanted o (yielded ops a.tmps)=(p==want):=by simp [Region.wanted,hg,hy]
   cases p<;>cases want<;>simp only[cond_true,cond_false] at h<;>rw[hw]
   ·exact .inl (uK eV h)
   ·exact jJ eV h
   ·exact jJ eV h
   ·exact .inl (uK eV h)
  ·rename_i hs
   have jL:=hr.slot d
   rw[hs] at jL
   have my:a.tmps.getD d Go.undef=Go.undef:=jL
   have hy:yielded ops a.tmps g=none:=by
    simp only[yielded,hd',Option.bind_some]
    cases ht:a.tmps[d]? with
    |none=>rfl
    |some v=>
     have:v=Go.undef:=by
      rw[<-my]
      simp [Array.getD_eq_getD_getElem?,ht]
     subst this
     rfl
   have hw:Region.wanted o (yielded ops a.tmps)=false:=by simp [Region.wanted,hg,hy]
   rw[hw]
   exact jJ hr h
  ·cases h
theorem OU(hE:ar P E){C:ai}(hC:C.Nat)(hf:∀f,de P C f){ops:Array Oper}{s':State}{Q:Exit->Act->World->Prop}:∀(l:List Nat) (X:az) (s:State) (a:Act),Rel X s a->(∀i∈l,i<ops.size)->
 steps E (C State) ops.toList (l.map fun i=>ops.getD i default) s some=some s'->(∀Y a',Ext X Y->Rel Y s' a'->Q .normal a' Y.w)->wpOps P ops Q l a X.w
 | [],X,s,a,hr,_,h,hQ=>by
   cases h
   exact hQ X a (Ext.refl X) hr
 |i::r,X,s,a,hr,hl,h,hQ=>by
  simp only[List.map_cons,steps] at h
  obtain⟨s1,h1,h2⟩:=lF (ztp hC (F:=fun s=>steps E (C State) ops.toList (r.map fun i=>ops.getD i default) s some) (G:=some) (K:=fun s=>steps E (C State) ops.toList (r.map fun i=>ops.getD i default) s some) (fun _=>rfl)) h
  have hi:ops[i]? =some (ops.getD i default):=by
   have:=hl i (by simp)
   simp [this]
  rw[wpOps_cons]
  refine Fb hE hr hC hf hi h1 fun Y a' bn bD=> ?_
  exact OU hE hC hf r Y s1 a' bD (fun j hj=>hl j (List.mem_cons_of_mem _ hj)) h2 fun Z a2 bW dy=>hQ Z a2 (bn.trans bW) dy
end Go.Ref

namespace Go.Ref
open Go
variable {P:Program} {E:Env} {X:az} {s:State} {a:Act} {o:Oper} {u:Out}
theorem zt9(i j:Nat):(bit i).testBit j=decide (i=j):=by
 simp [bit,Nat.shiftLeft_eq,Nat.testBit_two_pow]
theorem xt:∀(l:List Nat) (j:Nat),(iE l).testBit j=decide (j∈l)
 | [],j=>by simp [iE]
 |i::r,j=>by
  rw[iE,Nat.testBit_or,zt9,xt r j]
  by_cases h:i=j
  ·subst h;simp
  ·have h':¬j=i:=fun e=>h e.symm
   simp [h,h']
theorem UA{a b:Nat}(h:Nat.beq (a&&&b) 0=true)(j:Nat):a.testBit j=true->b.testBit j=false:=by
 intro ha
 have h0:=Nat.eq_of_beq_eq_true h
 have:=congrArg (fun n=>Nat.testBit n j) h0
 simp only[Nat.testBit_and,Nat.zero_testBit,ha,Bool.true_and] at this
 exact this
theorem ze4:∀(l:List Edge) (j:Nat),(lD l).testBit j=true->∃e∈l,Region.binds .any e=true/\e.on=j
 | [],j,h=>by simp [lD] at h
 |e::r,j,h=>by
  simp only[lD] at h
  cases hb:Region.binds .any e with
  |false=>
   rw[hb] at h
   obtain⟨e',h1,h2⟩:=ze4 r j h
   exact⟨e',List.mem_cons_of_mem _ h1,h2⟩
  |true=>
   rw[hb] at h
   simp only[cond_true,Nat.testBit_or,zt9,Bool.or_eq_true,decide_eq_true_eq] at h
   rcases h with h|h
   ·exact⟨e,by simp,hb,h⟩
   ·obtain⟨e',h1,h2⟩:=ze4 r j h
    exact⟨e',List.mem_cons_of_mem _ h1,h2⟩
theorem Mo:∀(l:List Edge) (e:Edge),e∈l->Region.binds .any e=true->(lD l).testBit e.on=true
 |e'::r,e,h,hb=>by
  simp only[lD]
  rcases List.mem_cons.1 h with rfl|h
  ·rw[hb];simp [Nat.testBit_or,zt9]
  ·have:=Mo r e h hb
   cases Region.binds .any e'<;>simp [Nat.testBit_or,this]
theorem agU{m i j:Nat}(h:Nat.ble (m+1) (bit i)=true)(hj:m.testBit j=true):j<i:=by
 have h1:m<2^i:=by
  have:=Nat.le_of_ble_eq_true h
  simp only[bit,Nat.shiftLeft_eq,Nat.one_mul] at this
  omega
 rcases Nat.lt_or_ge j i with h2|h2
 ·exact h2
 ·have h3:m<2^j:=Nat.lt_of_lt_of_le h1 (Nat.pow_le_pow_right (by omega) h2)
  rw[Nat.testBit_lt_two_pow h3] at hj
  cases hj
def eH(E:Env)(C:ai)(ops:List Oper)(o:Oper)(s:State):Option Out:=
 match o.guard with
 |none=>act E (C Out) ops o s some
 |some (g,want)=>match SI ops g with
  |none=>none
  |some d=>match s.slot d with
   | [.aj .bool p []]=>if p=want then act E (C Out) ops o s some else some {v:=[.skip]}
   | [.skip]=>some {v:=[.skip]}
   |_=>none
theorem H5{d:Nat}{l:List SV}(h:s.slot d=l):s.aQ (some d) l=s:=by
 cases s with
 |mk sl bs=>
  simp only[State.aQ,State.mk.injEq,and_true]
  simp only[State.slot] at h
  apply List.ext_getElem?
  intro i
  rw[List.getElem?_set]
  split
  ·rename_i e
   subst e
   split
   ·rename_i aq
    rw[List.getD_eq_getElem?_getD,List.getElem?_eq_getElem aq] at h
    rw[List.getElem?_eq_getElem aq]
    simpa using h.symm
   ·rename_i aq
    rw[List.getElem?_eq_none (by omega)]
  ·rfl
theorem ah4{C:ai}(hC:C.Nat){R:Type}{ops:List Oper}{i:Nat}{tr:List dL}{K:State->List dL->Option R}{z:R}(h:kM E (C R) ops o i s tr K=some z):
 ∃u,eH E C ops o s=some u/\fits (lD o.after.toList) (fO ops o i s u) tr=true/\K (s.apply o.dst u) (fO ops o i s u::tr)=some z:=by
 have uK:(act E (C R) ops o s fun u=>bif fits (lD o.after.toList) (fO ops o i s u) tr then K (s.apply o.dst u) (fO ops o i s u::tr) else none)=some z->
  ∃u,act E (C Out) ops o s some=some u/\fits (lD o.after.toList) (fO ops o i s u) tr=true/\K (s.apply o.dst u) (fO ops o i s u::tr)=some z:=by
  intro h
  obtain⟨u,h1,h2⟩:=lF (xK hC (F:=fun u=>bif fits (lD o.after.toList) (fO ops o i s u) tr then K (s.apply o.dst u) (fO ops o i s u::tr) else none) (G:=some) (K:=fun u=>bif fits (lD o.after.toList) (fO ops o i s u) tr then K (s.apply o.dst u) (fO ops o i s u::tr) else none) (fun _=>rfl)) h
  cases hf:fits (lD o.after.toList) (fO ops o i s u) tr with
  |false=>rw[hf] at h2;cases h2
  |true=>rw[hf] at h2;exact⟨u,h1,hf,h2⟩
 have jJ:(bif fits (lD o.after.toList) (fO ops o i s {v:=[.skip]}) tr then K (s.apply o.dst {v:=[.skip]}) (fO ops o i s {v:=[.skip]}::tr) else none)=some z->
  fits (lD o.after.toList) (fO ops o i s {v:=[.skip]}) tr=true/\K (s.apply o.dst {v:=[.skip]}) (fO ops o i s {v:=[.skip]}::tr)=some z:=by
  intro h
  cases hf:fits (lD o.after.toList) (fO ops o i s {v:=[.skip]}) tr with
  |false=>rw[hf] at h;cases h
  |true=>rw[hf] at h;exact⟨rfl,h⟩
 unfold kM at h
 unfold eH
 simp only at h
 split at h
 ·rename_i hg
  try simp only[hg]
  exact uK h
 ·rename_i g want hg
  try simp only[hg]
  split at h
  ·cases h
  rename_i d hd
  try simp only[hd]
  split at h
  ·rename_i p hs
   have ln:s.slot d=bl p:=hs
   try simp only[hs]
   cases p<;>cases want<;>simp only[cond_true,cond_false] at h
   ·rw[H5 ln] at h;rw[if_pos rfl];exact uK h
   ·rw[H5 ln] at h;rw[if_neg (by simp)];exact⟨_,rfl,jJ h⟩
   ·rw[H5 ln] at h;rw[if_neg (by simp)];exact⟨_,rfl,jJ h⟩
   ·rw[H5 ln] at h;rw[if_pos rfl];exact uK h
  ·rename_i hs
   try simp only[hs]
   exact⟨_,rfl,jJ h⟩
  ·cases h
theorem adK{C:ai}(hC:C.Nat){ops:List Oper}(h:eH E C ops o s=some u):step E (C State) ops o s some=some (s.apply o.dst u):=by
 have uK:act E (C Out) ops o s some=some u->(act E (C State) ops o s fun u=>some (s.apply o.dst u))=some (s.apply o.dst u):=by
  intro h
  rw[xK hC (F:=fun u=>some (s.apply o.dst u)) (G:=some) (K:=fun u=>some (s.apply o.dst u)) (fun _=>rfl),h]
  rfl
 unfold eH at h
 unfold step
 simp only
 split at h
 ·rename_i hg
  try simp only[hg]
  exact uK h
 ·rename_i g want hg
  try simp only[hg]
  split at h
  ·cases h
  rename_i d hd
  try simp only[hd]
  split at h
  ·rename_i p hs
   have ln:s.slot d=bl p:=hs
   try simp only[hs]
   split at h
   ·rename_i e
    subst e
    cases p<;>simp only[cond_true,cond_false]<;>rw[H5 ln]<;>exact uK h
   ·rename_i e
    cases h
    cases p<;>cases want<;>simp only[cond_true,cond_false]<;>first|exact absurd rfl e|(rw[H5 ln];rfl)
  ·rename_i hs
   try simp only[hs]
   cases h
   rfl
  ·cases h
structure lO(ts bs:List Nat)(s s':State):Prop where
 sl:∀t∈ts,s.slot t=s'.slot t
 bs:∀id∈bs,s.bs[id]? =s'.bs[id]?
theorem alR{l:List Operand}{t:Nat}:Operand.tmp t∈l->t∈rh l:=by
 induction l with
 |nil=>intro h;cases h
 |cons x r ih=>
  intro h
  rcases List.mem_cons.1 h with e|h
  ·subst e;simp [rh]
  ·have:=ih h
   cases x<;>simp [rh,this]
theorem zk5{s s':State}{ts:List Nat}(h:∀t∈ts,s.slot t=s'.slot t){l:List Operand}(hl:∀t∈rh l,t∈ts){x:Operand}(hx:x∈l):s.aG x=s'.aG x:=by
 cases x with
 |tmp t=>simp only[State.aG,State.xc,h t (hl t (alR hx))]
 |_=>rfl
theorem aeE(j:Nat):bV [SV.undef] j=[SV.undef]:=by
 cases j<;>rfl
theorem zay{s:State}{i j t:Nat}:(s.cO i j).slot t=if t=i then bV (s.slot t) j else s.slot t:=by
 simp only[State.cO,State.slot,List.getD_eq_getElem?_getD,List.getElem?_set]
 by_cases e:t=i
 ·subst e
  rw[if_pos rfl,if_pos rfl]
  by_cases aq:t<s.sl.length
  ·rw[if_pos aq];rfl
  ·rw[if_neg aq,List.getElem?_eq_none (by omega)]
   simp [aeE]
 ·rw[if_neg e,if_neg (fun h=>e h.symm)]
theorem zqr{t:Nat}:∀{c:List (Nat×Nat)} {s s':State},s.slot t=s'.slot t->(s.close c).slot t=(s'.close c).slot t
 | [],s,s',h=>h
 |(i,j)::r,s,s',h=>by
  rw[HW,HW]
  refine zqr (c:=r) ?_
  rw[zay,zay,h]
theorem zrc{ts:List Nat}:∀{l:List (Nat×Operand)} {s s':State},(∀t∈ts,s.slot t=s'.slot t)->(∀t∈rh (l.map (·.2)),t∈ts)->lN s l=lN s' l
 | [],s,s',h,hl=>rfl
 |(i,x)::r,s,s',h,hl=>by
  have hx:s.aG x=s'.aG x:=zk5 h hl (by simp)
  have hr:∀c:List (Nat×Nat),lN (s.close c) r=lN (s'.close c) r:=fun c=>zrc (fun t ht=>zqr (h t ht)) (fun t ht=>hl t (by
   cases x<;>simp [rh,ht]))
  simp only[lN,hx,hr]
theorem z87{s s':State}:∀{l:List SV},(∀id∈l.flatMap b8,s.box id=s'.box id)->mR s l=mR s' l
 | [],h=>rfl
 |v::r,h=>by
  have hr:mR s r=mR s' r:=z87 fun id fU=>h id (by simp only[List.flatMap_cons,List.mem_append];exact .inr fU)
  simp only[mR,hr]
  split
  ·rfl
  ·rename_i l b _
   cases v with
   |ptr id t p=>
    have hb:s.box id=s'.box id:=h id (by simp [b8])
    cases p with
    |nil=>cases b<;>simp only[hb]
    |cons _ _=>rfl
   |_=>rfl
theorem agN{C:FuncId->bO Out}{ops:List Oper}{s s':State}(h:lO (looks ops o) (zz s o) s s'):act E C ops o s some=act E C ops o s' some:=by
 have jL:∀t∈rh o.op.operands.toList,s.slot t=s'.slot t:=fun t ht=>h.sl t (by simp only[looks,List.mem_append];exact .inl ht)
 have cr:∀x∈o.op.operands.toList,s.aG x=s'.aG x:=fun x hx=>zk5 jL (fun _ ht=>ht) hx
 have ci:∀id∈zz s o,s.box id=s'.box id:=fun id fU=>by
  simp only[State.box,List.getD_eq_getElem?_getD,h.bs id fU]
 unfold act
 cases ho:o.op with
 |move x=>
  have ht:mH s x=mH s' x:=by
   cases x with
   |tmp t=>
    have:s.slot t=s'.slot t:=jL t (by simp [ho,Op.operands,rh])
    simp only[mH,this]
   |_=>rfl
  simp only;rw[cr x (by simp [ho,Op.operands]),ht]
 |assign x=>simp only;rw[cr x (by simp [ho,Op.operands])]
 |pick c x y=>simp only;rw[cr c (by simp [ho,Op.operands]),cr x (by simp [ho,Op.operands]),cr y (by simp [ho,Op.operands])]
 |binOp op T x y T'=>simp only;rw[cr x (by simp [ho,Op.operands]),cr y (by simp [ho,Op.operands])]
 |unOp op T x=>simp only;rw[cr x (by simp [ho,Op.operands])]
 |convert S T x=>
  have hx:=cr x (by simp [ho,Op.operands])
  simp only
  rw[<-hx]
  split
  ·rename_i id n ta tb e
   simp only[jD,ci id (by simp [zz,ho,e,b8])]
  ·rfl
 |makeMap T r=>
  cases r with
  |some r=>rfl
  |none=>
   simp only
   cases hd:o.dst with
   |none=>rfl
   |some d=>
    have:=h.bs (d+1) (by simp [zz,ho,hd])
    simp only[jS,this]
 |lookup T x i ok=>
  cases ok with
  |true=>rfl
  |false=>
   simp only
   rw[<-cr x (by simp [ho,Op.operands]),<-cr i (by simp [ho,Op.operands])]
   unfold kH vk
   split
   ·split
    ·rename_i e
     simp only[ci _ (by simp only[zz,ho,e,b8];exact List.mem_singleton.2 rfl)]
    ·rfl
   ·rfl
 |mapUpdate T m k x=>
  simp only
  rw[<-cr m (by simp [ho,Op.operands]),<-cr k (by simp [ho,Op.operands]),<-cr x (by simp [ho,Op.operands])]
  unfold lz vk
  split
  ·split
   ·rename_i e
    simp only[ci _ (by simp only[zz,ho,e,b8];exact List.mem_singleton.2 rfl)]
   ·rfl
  ·rfl
 |insert T m k x=>
  simp only
  rw[<-cr m (by simp [ho,Op.operands]),<-cr k (by simp [ho,Op.operands]),<-cr x (by simp [ho,Op.operands])]
  unfold lz vk
  split
  ·split
   ·rename_i e
    simp only[ci _ (by simp only[zz,ho,e,b8];exact List.mem_singleton.2 rfl)]
   ·rfl
  ·rfl
 |range T x=>
  simp only
  rw[<-cr x (by simp [ho,Op.operands])]
  cases hd:o.dst with
  |none=>rfl
  |some d=>
   have:=h.bs (d+1) (by simp [zz,ho,hd])
   simp only[jS,this]
 |next x str=>
  cases str with
  |false=>rfl
  |true=>
   simp only
   rw[<-cr x (by simp [ho,Op.operands])]
   unfold kJ
   split
   ·rename_i e
    simp only[ci _ (by simp only[zz,ho,e,b8];exact List.mem_singleton.2 rfl)]
   ·rfl
 |makeSlice T l c=>
  simp only
  rw[<-cr l (by simp [ho,Op.operands]),<-cr c (by simp [ho,Op.operands])]
  cases hd:o.dst with
  |none=>rfl
  |some d=>
   have:=h.bs (d+1) (by simp [zz,ho,hd])
   simp only[kI,jS,this]
 |load T x=>
  have hx:=cr x (by simp [ho,Op.operands])
  simp only
  rw[<-hx]
  unfold load
  split
  ·split
   ·rfl
   ·rename_i id t p e
    simp only[G6,ci id (by simp [zz,ho,e,b8])]
   ·rfl
  ·rfl
 |store T x y=>
  have hx:=cr x (by simp [ho,Op.operands])
  have hy:=cr y (by simp [ho,Op.operands])
  simp only
  rw[<-hx]
  unfold store
  rw[<-hy]
  split
  ·split
   ·rename_i id t p e
    simp only[Gv,ci id (by simp [zz,ho,e,b8])]
   ·rfl
  ·rfl
 |nilCheck x=>simp only;rw[cr x (by simp [ho,Op.operands])]
 |fieldAddr T x j=>simp only;rw[cr x (by simp [ho,Op.operands])]
 |indexAddr T x i=>simp only;rw[cr x (by simp [ho,Op.operands]),cr i (by simp [ho,Op.operands])]
 |index T x i=>simp only;rw[cr x (by simp [ho,Op.operands]),cr i (by simp [ho,Op.operands])]
 |field T x j=>simp only;rw[cr x (by simp [ho,Op.operands])]
 |slice T x lo hi mx=>
  cases mx with
  |none=>
   simp only
   have B5:lo.map s.aG=lo.map s'.aG:=by
    cases lo with
    |none=>rfl
    |some l=>simp only[Option.map_some,cr l (by simp [ho,Op.operands])]
   have Lk:hi.map s.aG=hi.map s'.aG:=by
    cases hi with
    |none=>rfl
    |some l=>simp only[Option.map_some,cr l (by simp [ho,Op.operands])]
   rw[<-cr x (by simp [ho,Op.operands]),B5,Lk]
   split
   ·rfl
   ·rename_i id n t e
    simp only[qG,ci id (by simp [zz,ho,e,b8])]
   ·rfl
  |some m=>rfl
 |makeFunc fn fi ca=>
  cases fn with
  |func f=>
   simp only
   split
   ·rename_i x e1 e2
    have hm:x∈o.op.operands.toList:=by
     simp only[ho,Op.operands,Array.toList_append,List.mem_append,e2]
     exact .inr (by simp)
    rw[cr x hm]
   ·rename_i x y e1 e2
    have hm:∀z∈ [x,y],z∈o.op.operands.toList:=fun z hz=>by
     simp only[ho,Op.operands,Array.toList_append,List.mem_append,e2]
     exact .inr hz
    rw[cr x (hm x (by simp)),cr y (hm y (by simp))]
   ·rfl
  |_=>rfl
 |alloc T=>
  simp only
  cases hd:o.dst with
  |none=>split<;>simp_all
  |some d=>
   have:=h.bs (d+1) (by simp [zz,ho,hd])
   cases E.ty T<;>simp only[this]
 |box T x=>
  have hx:=cr x (by simp [ho,Op.operands])
  simp only
  cases hd:o.dst with
  |none=>split<;>simp_all
  |some d=>
   have:=h.bs (d+1) (by simp [zz,ho,hd])
   cases E.ty T<;>simp only[this,hx]
 |build T parts=>
  have hp:lN s parts.toList=lN s' parts.toList:=zrc jL (fun t ht=>by simpa [ho,Op.operands] using ht)
  simp only[hp]
 |buildSlice T n parts=>
  have hp:(parts.toList.map fun p=>(p.1,s.aG p.2))=parts.toList.map fun p=>(p.1,s'.aG p.2):=List.map_congr_left fun p hp=>by
   rw[cr p.2 (by
    simp only[ho,Op.operands]
    exact List.mem_map.2 ⟨p,hp,rfl⟩)]
  simp only[hp]
 |extract x j=>
  cases x with
  |tmp t=>
   have:s.slot t=s'.slot t:=jL t (by simp [ho,Op.operands,rh])
   simp only[this]
  |_=>rfl
 |call c=>
  obtain⟨callee,args,ts⟩:=c
  cases callee with
  |value x=>
   cases x with
   |func f=>
    have cp:args.toList.map s.aG=args.toList.map s'.aG:=List.map_congr_left fun x hx=>cr x (by
     simp only[ho,Op.operands,Call.operands,Array.toList_append,List.mem_append]
     exact .inr hx)
    have jZ:mR s (args.toList.map s'.aG)=mR s' (args.toList.map s'.aG):=z87 fun id fU=>ci id (by
     simp only[zz,ho,List.mem_append]
     refine .inl ?_
     rw[<-cp,List.flatMap_map] at fU
     exact fU)
    simp only[fp,cp,jZ]
    cases hd:o.dst with
    |none=>rfl
    |some d=>
     have:=h.bs (d+1) (by simp [zz,ho,hd])
     simp only[this]
   |tmp y=>
    have hy:s.aG (.tmp y)=s'.aG (.tmp y):=cr (.tmp y) (by
     simp only[ho,Op.operands,Call.operands,Array.toList_append,List.mem_append]
     exact .inl (by simp))
    have cp:args.toList.map s.aG=args.toList.map s'.aG:=List.map_congr_left fun x hx=>cr x (by
     simp only[ho,Op.operands,Call.operands,Array.toList_append,List.mem_append]
     exact .inr hx)
    simp only
    rw[<-hy]
    split
    ·rename_i id f t b e
     have jZ:mR s (args.toList.map s'.aG++ [.ptr id t []])=mR s' (args.toList.map s'.aG++ [.ptr id t []]):=z87 fun cc fU=>ci cc (by
      simp only[zz,ho,List.mem_append,e]
      rw[List.flatMap_append,List.mem_append] at fU
      rcases fU with fU|fU
      ·refine .inl ?_
       rw[<-cp,List.flatMap_map] at fU
       exact fU
      ·exact .inr (.inl (by simpa [b8] using fU)))
     simp only[fp,cp,jZ]
     cases hd:o.dst with
     |none=>rfl
     |some d=>
      have:=h.bs (d+1) (by simp [zz,ho,hd])
      simp only[this]
    ·rename_i f t x u y e
     have jZ:mR s (args.toList.map s'.aG++ [.view t x,.view u y])=mR s' (args.toList.map s'.aG++ [.view t x,.view u y]):=z87 fun cc fU=>ci cc (by
      simp only[zz,ho,List.mem_append]
      rw[List.flatMap_append,List.mem_append] at fU
      rcases fU with fU|fU
      ·refine .inl ?_
       rw[<-cp,List.flatMap_map] at fU
       exact fU
      ·simp [b8] at fU)
     simp only[fp,cp,jZ]
     cases hd:o.dst with
     |none=>rfl
     |some d=>
      have:=h.bs (d+1) (by simp [zz,ho,hd])
      simp only[this]
    ·rfl
   |_=>rfl
  |builtin b=>
   have cp:∀x∈args.toList,s.aG x=s'.aG x:=fun x hx=>cr x (by
    simp only[ho,Op.operands,Call.operands,Array.toList_append,List.mem_append]
    exact .inr hx)
   cases b with
   |copy=>
    simp only
    split
    ·rename_i d x T r e1 e2
     rw[cp x (by rw[e1];simp),<-cp d (by rw[e1];simp)]
     unfold copyV
     split
     ·rename_i e0 t0 id n ta tb hT e
      have hb:s.box id=s'.box id:=ci id (by simp only[zz,ho,e1,List.flatMap_cons,e,b8];exact List.mem_append_left _ (List.mem_singleton.2 rfl))
      simp only[gL,jE,hb]
     ·rename_i e0 t0 id n ta tb l hT e
      have hb:s.box id=s'.box id:=ci id (by simp only[zz,ho,e1,List.flatMap_cons,e,b8];exact List.mem_append_left _ (List.mem_singleton.2 rfl))
      simp only[gL,hb]
     ·rfl
    ·rfl
   |len=>
    simp only
    split
    ·rename_i x T e1 e2
     rw[cp x (by rw[e1];simp)]
    ·rfl
   |append=>
    simp only
    split
    ·rename_i x y T U e1 e2
     rw[cp x (by rw[e1];simp),cp y (by rw[e1];simp)]
    ·rfl
   |max=>
    simp only
    split
    ·rename_i x y e1
     rw[cp x (by rw[e1];simp),cp y (by rw[e1];simp)]
    ·rfl
   |min=>
    simp only
    split
    ·rename_i x y e1
     rw[cp x (by rw[e1];simp),cp y (by rw[e1];simp)]
    ·rfl
   |_=>rfl
  |_=>rfl
 |_=>rfl
end Go.Ref

namespace Go.Ref
open Go
variable {P:Program} {E:Env} {X:az} {s:State} {a:Act} {o:Oper} {u:Out}
def Ts:List (Nat×Nat)->Nat->List SV->List SV
 | [],_,l=>l
 |(i,j)::r,t,l=>Ts r t (if t=i then bV l j else l)
theorem T9{t:Nat}:∀{c:List (Nat×Nat)} {s:State},(s.close c).slot t=Ts c t (s.slot t)
 | [],s=>rfl
 |(i,j)::r,s=>by rw[HW,T9 (c:=r),zay];rfl
theorem rE{t:Nat}:∀{c:List (Nat×Nat)} {l:List SV},t∉c.map (·.1)->Ts c t l=l
 | [],l,h=>rfl
 |(i,j)::r,l,h=>by
  simp only[List.map_cons,List.mem_cons,not_or] at h
  simp only[Ts]
  rw[if_neg h.1]
  exact rE h.2
theorem HZ{d:Option Nat}:(s.apply d u).sl.length=s.sl.length:=by
 cases d with
 |none=>simp only[State.apply,State.aQ];cases u.bx<;>simp [State.aL,Ru]
 |some d=>simp only[State.apply,State.aQ,List.length_set];cases u.bx<;>simp [State.aL,Ru]
theorem Ro{d:Option Nat}{t:Nat}:(s.apply d u).slot t=if d=some t/\t<s.sl.length then u.v else Ts u.cl t (s.slot t):=by
 have hb:∀(s:State) b,(s.aL b).slot t=s.slot t:=fun s b=>by cases b<;>rfl
 cases d with
 |none=>
  simp only[State.apply,State.aQ,hb,T9]
  rw[if_neg (by simp)]
 |some d=>
  simp only[State.apply]
  by_cases e:d=t
  ·subst e
   by_cases aq:d<s.sl.length
   ·rw[if_pos ⟨rfl,aq⟩]
    have:d<((s.close u.cl).aL u.bx).sl.length:=by
     have:((s.close u.cl).aL u.bx).sl.length=s.sl.length:=by cases u.bx<;>simp [State.aL,Ru]
     omega
    simp only[State.aQ,State.slot,List.getD_eq_getElem?_getD,List.getElem?_set_self this,Option.getD_some]
   ·rw[if_neg (fun h=>aq h.2)]
    have:((s.close u.cl).aL u.bx).sl.length<=d:=by
     have:((s.close u.cl).aL u.bx).sl.length=s.sl.length:=by cases u.bx<;>simp [State.aL,Ru]
     omega
    have h2:(((s.close u.cl).aL u.bx).aQ (some d) u.v).slot d=((s.close u.cl).aL u.bx).slot d:=by
     simp only[State.aQ,State.slot]
     rw[List.set_eq_of_length_le this]
    rw[h2,hb,T9]
  ·rw[if_neg (fun h=>e (by injection h.1))]
   have h2:(((s.close u.cl).aL u.bx).aQ (some d) u.v).slot t=((s.close u.cl).aL u.bx).slot t:=by
    simp only[State.aQ,State.slot,List.getD_eq_getElem?_getD,List.getElem?_set_ne e]
   rw[h2,hb,T9]
theorem RD{d:Option Nat}{id:Nat}:(s.apply d u).bs[id]? =match u.bx with
 |some (cc,B)=>if cc=id then(s.bs[id]?).map (fun _=>some B) else s.bs[id]?
 |none=>s.bs[id]? :=by
 have hs:∀(s:State) d l,(s.aQ d l).bs=s.bs:=fun s d l=>by cases d<;>rfl
 simp only[State.apply,hs]
 cases hb:u.bx with
 |none=>simp only[State.aL,xw]
 |some b=>
  obtain⟨cc,B⟩:=b
  simp only[State.aL,xw]
  rw[List.getElem?_set]
  by_cases e:cc=id
  ·subst e
   rw[if_pos rfl,if_pos rfl]
   by_cases aq:cc<s.bs.length
   ·rw[if_pos aq,List.getElem?_eq_getElem aq];rfl
   ·rw[if_neg aq,List.getElem?_eq_none (by omega)];rfl
  ·rw[if_neg e,if_neg e]
theorem ah2{s s':State}(h1:s.sl.length=s'.sl.length)(h2:∀t,s.slot t=s'.slot t)(h3:∀id:Nat,s.bs[id]? =s'.bs[id]?):s=s':=by
 cases s with
 |mk sl bs=>
  cases s' with
  |mk sl' bs'=>
   simp only[State.mk.injEq]
   refine⟨List.ext_getElem? fun i=> ?_,List.ext_getElem? h3⟩
   have:=h2 i
   simp only[State.slot,List.getD_eq_getElem?_getD] at this h1
   by_cases aq:i<sl.length
   ·rw[List.getElem?_eq_getElem aq,List.getElem?_eq_getElem (by omega)] at this⊢
    simpa using this
   ·rw[List.getElem?_eq_none (by omega),List.getElem?_eq_none (by omega)]
structure Bg(R1 W1 b1 c1 R2 W2 b2 c2:List Nat):Prop where
 h1:∀t∈W1,t∉R2/\t∉W2
 h2:∀t∈W2,t∉R1
 h3:∀id∈c1,id∉b2/\id∉c2
 h4:∀id∈c2,id∉b1
theorem acV{o1 o2:Oper}{ops:List Oper}{i1 i2:Nat}{s1 s2:State}{u1 u2:Out}(h:(fO ops o1 i1 s1 u1).apart (fO ops o2 i2 s2 u2)=true):
 Bg (looks ops o1) (o1.dst.toList++u1.cl.map (·.1)) (zz s1 o1) (u1.bx.toList.map (·.1)) (looks ops o2) (o2.dst.toList++u2.cl.map (·.1)) (zz s2 o2) (u2.bx.toList.map (·.1)):=by
 simp only[dL.apart,fO,Bool.and_eq_true] at h
 obtain⟨g1,g2,g3,g4⟩:=h
 refine⟨fun t ht=> ?_,fun t ht=> ?_,fun t ht=> ?_,fun t ht=> ?_⟩
 ·have:=UA g1 t (by rw[xt];exact decide_eq_true ht)
  simp only[Nat.testBit_or,xt,Bool.or_eq_false_iff,decide_eq_false_iff_not] at this
  exact this
 ·have:=UA g2 t (by rw[xt];exact decide_eq_true ht)
  simpa only[xt,decide_eq_false_iff_not] using this
 ·have:=UA g3 t (by rw[xt];exact decide_eq_true ht)
  simp only[Nat.testBit_or,xt,Bool.or_eq_false_iff,decide_eq_false_iff_not] at this
  exact this
 ·have:=UA g4 t (by rw[xt];exact decide_eq_true ht)
  simpa only[xt,decide_eq_false_iff_not] using this
theorem zqn{d:Option Nat}{ts bs:List Nat}(h1:∀t∈ts,t∉d.toList++u.cl.map (·.1))(h2:∀id∈bs,id∉u.bx.toList.map (·.1)):lO ts bs (s.apply d u) s where
 sl:=fun t ht=>by
  have h:=h1 t ht
  simp only[List.mem_append,not_or] at h
  rw[Ro,if_neg (fun hc=>h.1 (by rw[hc.1];simp)),rE h.2]
 bs:=fun id fU=>by
  have h:=h2 id fU
  rw[RD]
  cases hb:u.bx with
  |none=>rfl
  |some b=>
   obtain⟨cc,B⟩:=b
   rw[hb] at h
   simp only
   rw[if_neg (fun e=>h (by simp [e]))]
theorem ad6{d1 d2:Option Nat}{u1 u2:Out}(h1:∀t∈d1.toList++u1.cl.map (·.1),t∉d2.toList++u2.cl.map (·.1))(h2:∀id∈u1.bx.toList.map (·.1),id∉u2.bx.toList.map (·.1)):
 (s.apply d1 u1).apply d2 u2=(s.apply d2 u2).apply d1 u1:=by
 refine ah2 (by rw[HZ,HZ,HZ,HZ]) (fun t=> ?_) (fun id=> ?_)
 ·rw[Ro,Ro,Ro,Ro,HZ,HZ]
  by_cases HI:d1=some t
  ·have hm:t∈d1.toList++u1.cl.map (·.1):=by rw[HI];simp
   have hn:=h1 t hm
   simp only[List.mem_append,not_or] at hn
   have tn:¬d2=some t:=fun e=>hn.1 (by rw[e];simp)
   by_cases aq:t<s.sl.length
   ·rw[if_neg (fun h=>tn h.1),if_pos ⟨HI,aq⟩,rE hn.2,if_pos ⟨HI,aq⟩]
   ·rw[if_neg (fun h=>tn h.1),if_neg (fun h=>aq h.2),if_neg (fun h=>aq h.2),if_neg (fun h=>aq h.2),rE hn.2,rE hn.2]
  ·by_cases tn:d2=some t
   ·have hn:t∉d1.toList++u1.cl.map (·.1):=fun hm=>h1 t hm (by rw[tn];simp)
    simp only[List.mem_append,not_or] at hn
    by_cases aq:t<s.sl.length
    ·rw[if_pos ⟨tn,aq⟩,if_neg (fun h=>HI h.1),if_pos ⟨tn,aq⟩,rE hn.2]
    ·rw[if_neg (fun h=>aq h.2),if_neg (fun h=>aq h.2),if_neg (fun h=>aq h.2),if_neg (fun h=>aq h.2),rE hn.2,rE hn.2]
   ·rw[if_neg (fun h=>tn h.1),if_neg (fun h=>HI h.1),if_neg (fun h=>HI h.1),if_neg (fun h=>tn h.1)]
    by_cases hm:t∈u1.cl.map (·.1)
    ·have hn:=h1 t (by simp only[List.mem_append];exact .inr hm)
     simp only[List.mem_append,not_or] at hn
     rw[rE hn.2,rE hn.2]
    ·rw[rE hm,rE hm]
 ·rw[RD,RD,RD,RD]
  cases uH:u1.bx with
  |none=>rfl
  |some b1=>
   obtain⟨id1,B1⟩:=b1
   cases rA:u2.bx with
   |none=>rfl
   |some b2=>
    obtain⟨id2,B2⟩:=b2
    rw[uH,rA] at h2
    have ct:id1≠id2:=fun e=>h2 id1 (by simp) (by simp [e])
    simp only
    by_cases e1:id1=id
    ·subst e1
     rw[if_neg (fun e=>ct e.symm),if_pos rfl,if_pos rfl,if_neg (fun e=>ct e.symm)]
    ·by_cases e2:id2=id
     ·subst e2
      rw[if_pos rfl,if_neg e1,if_neg e1,if_pos rfl]
     ·rw[if_neg e2,if_neg e1,if_neg e1,if_neg e2]
theorem zre{ops:List Oper}{s s':State}(h:∀t∈looks ops o,s.slot t=s'.slot t):zz s o=zz s' o:=by
 have cr:∀x∈o.op.operands.toList,s.aG x=s'.aG x:=fun x hx=>zk5 (ts:=rh o.op.operands.toList) (fun t ht=>h t (by simp only[looks,List.mem_append];exact .inl ht)) (fun _ ht=>ht) hx
 unfold zz
 cases ho:o.op with
 |load T x=>simp only;rw[cr x (by simp [ho,Op.operands])]
 |store T x y=>simp only;rw[cr x (by simp [ho,Op.operands])]
 |convert S T x=>simp only;rw[cr x (by simp [ho,Op.operands])]
 |slice T x lo hi mx=>simp only;rw[cr x (by simp [ho,Op.operands])]
 |lookup T x i ok=>simp only;rw[cr x (by simp [ho,Op.operands])]
 |mapUpdate T m k x=>simp only;rw[cr m (by simp [ho,Op.operands])]
 |insert T m k x=>simp only;rw[cr m (by simp [ho,Op.operands])]
 |next x str=>simp only;rw[cr x (by simp [ho,Op.operands])]
 |call c=>
  obtain⟨callee,args,ts⟩:=c
  have:(args.toList.map fun x=>b8 (s.aG x))=args.toList.map fun x=>b8 (s'.aG x):=List.map_congr_left fun x hx=>by
   rw[cr x (by
    simp only[ho,Op.operands,Call.operands,Array.toList_append,List.mem_append]
    exact .inr hx)]
  cases callee with
  |value f=>
   simp only
   have hf:s.aG f=s'.aG f:=cr f (by
    simp only[ho,Op.operands,Call.operands,Array.toList_append,List.mem_append]
    exact .inl (by simp))
   rw[hf,List.flatMap_def,List.flatMap_def,this]
  |builtin b=>
   cases b with
   |copy=>simp only;rw[List.flatMap_def,List.flatMap_def,this]
   |_=>rfl
  |_=>rfl
 |_=>rfl
theorem z171{C:ai}{ops:List Oper}{s s':State}(h:lO (looks ops o) (zz s o) s s'):eH E C ops o s=eH E C ops o s':=by
 unfold eH
 rw[agN h]
 split
 ·rfl
 ·rename_i g want hg
  split
  ·rfl
  ·rename_i d hd
   rw[h.sl d (by simp [looks,hg,hd])]
theorem swap{C:ai}{ops:List Oper}{o1 o2:Oper}{i1 i2:Nat}{u1 u2:Out}(h1:eH E C ops o1 s=some u1)(h2:eH E C ops o2 (s.apply o1.dst u1)=some u2)(h:(fO ops o1 i1 s u1).apart (fO ops o2 i2 (s.apply o1.dst u1) u2)=true):
 eH E C ops o2 s=some u2/\fO ops o2 i2 s u2=fO ops o2 i2 (s.apply o1.dst u1) u2/\eH E C ops o1 (s.apply o2.dst u2)=some u1/\fO ops o1 i1 (s.apply o2.dst u2) u1=fO ops o1 i1 s u1/\
  (s.apply o2.dst u2).apply o1.dst u1=(s.apply o1.dst u1).apply o2.dst u2:=by
 have hp:=acV h
 have ag1:lO (looks ops o2) (zz (s.apply o1.dst u1) o2) (s.apply o1.dst u1) s:=zqn (fun t ht hm=>(hp.h1 t hm).1 ht) (fun id fU hm=>(hp.h3 id hm).1 fU)
 have eV:=zre (ops:=ops) (o:=o2) ag1.sl
 have ag2:lO (looks ops o1) (zz s o1) (s.apply o2.dst u2) s:=zqn (fun t ht hm=>hp.h2 t hm ht) (fun id fU hm=>hp.h4 id hm fU)
 have eN:=zre (ops:=ops) (o:=o1) ag2.sl
 refine⟨by rw[<-z171 ag1];exact h2,by simp only[fO,eV],?_,by simp only[fO,eN],(ad6 (fun t ht=>(hp.h1 t ht).2) (fun id fU=>(hp.h3 id fU).2)).symm⟩
 rw[z171 (s:=s.apply o2.dst u2) (s':=s) ⟨ag2.sl,fun id fU=>ag2.bs id (by rw[<-eN];exact fU)⟩]
 exact h1
end Go.Ref

namespace Go.Ref
open Go
variable {P:Program} {E:Env} {X:az} {s:State} {a:Act} {o:Oper} {u:Out}
def qz(E:Env)(C:ai)(ops:Array Oper):List Nat->State->List dL->State->Prop
 | [],s,tr,z=>s=z/\tr=[]
 |i::r,s,f::tr,z=>∃u,eH E C ops.toList (ops.getD i default) s=some u/\f=fO ops.toList (ops.getD i default) i s u/\qz E C ops r (s.apply (ops.getD i default).dst u) tr z
 |_::_,_,[],_=>False
def aft(ops:Array Oper)(i:Nat):Nat:=lD (ops.getD i default).after.toList
def Bf(ops:Array Oper)(a b:dL):Prop:=(aft ops b.i).testBit a.i=true\/a.apart b=true
theorem Rd{C:ai}{ops:Array Oper}:∀{l:List Nat} {s z:State} {tr:List dL},qz E C ops l s tr z->tr.map (·.i)=l
 | [],s,z,tr,h=>by rw[h.2];rfl
 |i::r,s,z,f::tr,h=>by
  obtain⟨u,_,rfl,h3⟩:=h
  simp only[List.map_cons,Rd h3]
  rfl
 |_::_,s,z,[],h=>h.elim
theorem zri{C:ai}(hC:C.Nat){ops:Array Oper}{z:State}:∀(l:List Nat) (i:Nat) (s:State) (tr:List dL),(∀(j:Nat) k,l[j]? =some k->k=i+j)->
 Bd E (C State) ops.toList (l.map fun k=>ops.getD k default) i s tr some=some z->∃Cp,qz E C ops l s Cp z/\(∀a∈tr,∀b∈Cp,Bf ops a b)/\Cp.Pairwise (Bf ops)/\∀k∈l,Nat.ble (aft ops k+1) (bit k)=true
 | [],i,s,tr,hl,h=>by
   cases h
   exact⟨[],⟨rfl,rfl⟩,(fun a _ b hb=>by cases hb),List.Pairwise.nil,fun k hk=>by cases hk⟩
 |k::r,i,s,tr,hl,h=>by
  have hk:k=i:=by simpa using hl 0 k rfl
  subst hk
  simp only[List.map_cons,Bd] at h
  obtain⟨u,h1,h2,h3⟩:=ah4 hC h
  obtain⟨Cp,r1,r2,r3,r4⟩:=zri hC r (k+1) _ _ (fun j k' hj=>by
   have:=hl (j+1) k' hj
   omega) h3
  simp only[fits,Bool.and_eq_true] at h2
  obtain⟨h2a,h2b⟩:=h2
  have h2b:=List.all_eq_true.1 h2b
  refine⟨fO ops.toList (ops.getD k default) k s u::Cp,⟨u,h1,rfl,r1⟩,fun a ha b hb=> ?_,?_,fun k' Lo=> ?_⟩
  ·rcases List.mem_cons.1 hb with rfl|hb
   ·have:=h2b a ha
    simp only[Bool.or_eq_true] at this
    exact this
   ·exact r2 a (List.mem_cons_of_mem _ ha) b hb
  ·exact List.pairwise_cons.2 ⟨fun b hb=>r2 _ (by simp) b hb,r3⟩
  ·rcases List.mem_cons.1 Lo with rfl|Lo
   ·exact h2a
   ·exact r4 k' Lo
theorem OY{C:ai}{ops:Array Oper}{z:State}{i:Nat}{q:List Nat}:∀(p:List Nat) (s:State) (tr:List dL),qz E C ops (p++i::q) s tr z->(∀(tp:List dL) f tq,tr=tp++f::tq->tp.length=p.length->∀a∈tp,a.apart f=true)->
 ∃tp f tq u,tr=tp++f::tq/\tp.length=p.length/\eH E C ops.toList (ops.getD i default) s=some u/\f=fO ops.toList (ops.getD i default) i s u/\qz E C ops (p++q) (s.apply (ops.getD i default).dst u) (tp++tq) z
 | [],s,[],h,zY=>h.elim
 | [],s,f::tr,h,zY=>by
   obtain⟨u,h1,h2,h3⟩:=h
   exact⟨[],f,tr,u,rfl,rfl,h1,h2,h3⟩
 |j::p,s,[],h,zY=>h.elim
 |j::p,s,g::tr,h,zY=>by
  obtain⟨uj,h1,h2,h3⟩:=h
  obtain⟨tp,f,tq,u,e1,e2,k1,k2,k3⟩:=OY p _ tr h3 (fun tp f tq e hl a ha=>zY (g::tp) f tq (by rw[e];rfl) (by simp [hl]) a (List.mem_cons_of_mem _ ha))
  have hg:=zY (g::tp) f tq (by rw[e1];rfl) (by simp [e2]) g (by simp)
  rw[h2,k2] at hg
  obtain⟨w1,w2,w3,w4,w5⟩:=swap h1 k1 hg
  refine⟨g::tp,f,tq,u,by rw[e1];rfl,by simp [e2],w1,by rw[k2,w2],uj,w3,by rw[h2,w4],?_⟩
  rw[w5]
  exact k3
theorem alL{l:List Nat}{i:Nat}(h:i∈l):∃p q,l=p++i::q:=List.append_of_mem h
theorem aen{p q:List Nat}{i:Nat}(h:(p++i::q).Nodup):(p++i::q).filter (fun j=> !(Nat.beq j i))=p++q:=by
 have h':=List.nodup_append.1 h
 have hp:∀j∈p,j≠i:=fun j hj=>h'.2.2 j hj i (by simp)
 have hq:∀j∈q,j≠i:=fun j hj e=>by
  have:=(List.nodup_cons.1 h'.2.1).1
  rw[e] at hj;exact this hj
 rw[List.filter_append,List.filter_cons]
 have hb:∀j,j≠i->(!(Nat.beq j i))=true:=fun j hj=>by
  cases hh:Nat.beq j i with
  |false=>rfl
  |true=>exact absurd (Nat.eq_of_beq_eq_true hh) hj
 rw[List.filter_eq_self.2 (fun j hj=>hb j (hp j hj)),List.filter_eq_self.2 (fun j hj=>hb j (hq j hj))]
 have:(!(Nat.beq i i))=false:=by simp
 rw[this]
 simp
def rest(n:Nat)(listed:Array Bool):List Nat:=(List.range n).filter fun i=> !listed.getD i true
theorem alG{n:Nat}{listed:Array Bool}(hs:listed.size=n){i:Nat}{p q:List Nat}(h:rest n listed=p++i::q):rest n (listed.setIfInBounds i true)=p++q:=by
 have hnd:(rest n listed).Nodup:=List.nodup_range.filter _
 rw[h] at hnd
 rw[<-aen hnd,<-h]
 simp only[rest,List.filter_filter]
 refine List.filter_congr fun j hj=> ?_
 have hjn:=List.mem_range.1 hj
 by_cases e:j=i
 ·subst e
  have:(listed.setIfInBounds j true).getD j true=true:=by simp [Array.getD_eq_getD_getElem?,hs,hjn]
  rw[this];simp
 ·have h1:(listed.setIfInBounds i true).getD j true=listed.getD j true:=by
   simp only[Array.getD_eq_getD_getElem?]
   rw[Array.getElem?_setIfInBounds_ne (fun h=>e h.symm)]
  have h2:Nat.beq j i=false:=by
   cases hh:Nat.beq j i with
   |false=>rfl
   |true=>exact absurd (Nat.eq_of_beq_eq_true hh) e
  rw[h1,h2];simp
theorem Nk{ops:Array Oper}{listed:Array Bool}{i:Nat}(h:i∈Region.ready .any ops listed):i∈rest ops.size listed/\∀e∈(ops.getD i default).after.toList,Region.binds .any e=true->listed.getD e.on false=true:=by
 unfold Region.ready at h
 obtain⟨h1,h2⟩:=List.mem_filter.1 h
 have hi:=List.mem_range.1 h1
 rw[Bool.and_eq_true] at h2
 refine⟨List.mem_filter.2 ⟨h1,h2.1⟩,fun e he hb=> ?_⟩
 have h3:=h2.2
 rw[Array.getElem?_eq_getElem hi] at h3
 simp only[Option.map_some,Option.getD_some] at h3
 have cI:ops.getD i default=ops[i]:=by simp [hi]
 rw[cI] at he
 have h4:=Array.all_eq_true_iff_forall_mem.1 h3 e (by simpa using he)
 rw[hb] at h4
 simpa using h4
theorem alF{ops:Array Oper}{listed:Array Bool}{i:Nat}(h:i∈rest ops.size listed)(ha:∀e∈(ops.getD i default).after.toList,Region.binds .any e=true->listed.getD e.on false=true):i∈Region.ready .any ops listed:=by
 obtain⟨h1,h2⟩:=List.mem_filter.1 h
 have hi:=List.mem_range.1 h1
 refine List.mem_filter.2 ⟨h1,?_⟩
 rw[Bool.and_eq_true]
 refine⟨h2,?_⟩
 have cI:ops.getD i default=ops[i]:=by simp [hi]
 rw[Array.getElem?_eq_getElem hi]
 simp only[Option.map_some,Option.getD_some]
 refine Array.all_eq_true_iff_forall_mem.2 fun e he=> ?_
 cases hb:Region.binds .any e with
 |false=>rfl
 |true=>
  rw[ha e (by rw[cI];simpa using he) hb]
  simp
theorem ak8(hE:ar P E){C:ai}(hC:C.Nat)(hf:∀f,de P C f){ops:Array Oper}{z:State}{Q:Exit->Act->World->Prop}(nE:∀k,k<ops.size->Nat.ble (aft ops k+1) (bit k)=true):
 ∀(cF:Nat) (listed:Array Bool) (X:az) (s:State) (a:Act) (tr:List dL),Rel X s a->listed.size=ops.size->cF=(rest ops.size listed).length->qz E C ops (rest ops.size listed) s tr z->tr.Pairwise (Bf ops)->
  (∀Y a',Ext X Y->Rel Y z a'->Q .normal a' Y.w)->wpAny P .any ops Q cF listed a X.w:=by
 intro cF
 have done:∀(listed:Array Bool),listed.size=ops.size->Region.ready .any ops listed=[]->rest ops.size listed=[]:=by
  intro listed hs hr
  rcases hl:rest ops.size listed with _|⟨i,r⟩
  ·rfl
  have fS:i∈rest ops.size listed:=by rw[hl];simp
  have eE:=List.mem_range.1 (List.mem_filter.1 fS).1
  have tL:i∈Region.ready .any ops listed:=by
   refine alF fS fun e he hb=> ?_
   have aq:e.on<i:=agU (nE i eE) (Mo _ e he hb)
   cases hx:listed.getD e.on false with
   |true=>rfl
   |false=>
    exfalso
    have nG:e.on<listed.size:=by omega
    have rD:listed.getD e.on true=false:=by
     simp only[Array.getD_eq_getD_getElem?,Array.getElem?_eq_getElem nG,Option.getD_some] at hx⊢
     exact hx
    have hm:e.on∈rest ops.size listed:=List.mem_filter.2 ⟨List.mem_range.2 (by omega),by rw[rD];rfl⟩
    have pV:(rest ops.size listed).Pairwise (· < ·):=List.pairwise_lt_range.filter _
    rw[hl] at pV hm
    rcases List.mem_cons.1 hm with e1|hm
    ·omega
    ·have:=(List.pairwise_cons.1 pV).1 _ hm
     omega
  rw[hr] at tL
  cases tL
 induction cF with
 |zero=>
  intro listed X s a tr hr hs HJ kF LH hQ
  have tE:rest ops.size listed=[]:=List.eq_nil_of_length_eq_zero HJ.symm
  rw[tE] at kF
  obtain⟨rfl,_⟩:=kF
  refine⟨?_,hQ X a (Ext.refl X) hr⟩
  rcases hrd:Region.ready .any ops listed with _|⟨i,r⟩
  ·rfl
  ·have:=(Nk (i:=i) (by rw[hrd];simp)).1
   rw[tE] at this
   cases this
 |succ cF ih=>
  intro listed X s a tr hr hs HJ kF LH hQ
  refine⟨fun Lz=> ?_,fun i hi=> ?_⟩
  ·rw[done listed hs Lz] at HJ
   cases HJ
  ·obtain⟨fS,aan⟩:=Nk hi
   obtain⟨p,q,TL⟩:=alL fS
   have eE:=List.mem_range.1 (List.mem_filter.1 fS).1
   rw[TL] at kF
   have wW:=Rd kF
   obtain⟨tp,f,tq,u,e1,e2,k1,k2,k3⟩:=OY p s tr kF (fun tp f tq e hl a' Lb=>by
    have wQ:f.i=i:=by
     rw[e,List.map_append,List.map_cons] at wW
     have:=List.append_inj wW (by simp [hl])
     injection this.2
    have haj:a'.i∈p:=by
     rw[e,List.map_append,List.map_cons] at wW
     have:=List.append_inj wW (by simp [hl])
     rw[<-this.1]
     exact List.mem_map.2 ⟨a',Lb,rfl⟩
    rw[e] at LH
    have Lh:=(List.pairwise_append.1 LH).2.2 a' Lb f (by simp)
    rcases Lh with hb|hb
    ·exfalso
     rw[wQ] at hb
     obtain⟨ed,he1,he2,he3⟩:=ze4 _ _ hb
     have tz:=aan ed he1 he2
     have eW:a'.i∈rest ops.size listed:=by rw[TL];exact List.mem_append_left _ haj
     have nH:=(List.mem_filter.1 eW).2
     have aq:=List.mem_range.1 (List.mem_filter.1 eW).1
     have nG:a'.i<listed.size:=by omega
     rw[he3] at tz
     simp only[Array.getD_eq_getD_getElem?,Array.getElem?_eq_getElem nG,Option.getD_some] at tz nH
     rw[tz] at nH
     cases nH
    ·exact hb)
   have eW:=alG hs TL
   have hio:ops[i]? =some (ops.getD i default):=by simp [eE]
   refine Fb hE hr hC hf hio (adK hC k1) fun Y a' bn bD=> ?_
   refine ih (listed.setIfInBounds i true) Y _ a' (tp++tq) bD (by simp [hs]) ?_ (by rw[eW];exact k3) ?_ (fun Z a2 bW dy=>hQ Z a2 (bn.trans bW) dy)
   ·rw[eW]
    rw[TL] at HJ
    simp only[List.length_append,List.length_cons] at HJ⊢
    omega
   ·rw[e1] at LH
    obtain⟨a1,a2,a3⟩:=List.pairwise_append.1 LH
    exact List.pairwise_append.2 ⟨a1,(List.pairwise_cons.1 a2).2,fun x hx y hy=>a3 x hx y (List.mem_cons_of_mem _ hy)⟩
theorem ahn(hE:ar P E)(hm:P.follows .mixedOrders=true){C:ai}(hC:C.Nat)(hf:∀f,de P C f){id:Nat}{ops:Array Oper}{z:State}{Q:Exit->Act->World->Prop}(hr:Rel X s a)(h:Bd E (C State) ops.toList ops.toList 0 s [] some=some z)
 (hQ:∀Y a',Ext X Y->Rel Y z a'->Q .normal a' Y.w):(Code.region id ops true).wp P Q a X.w:=by
 have nL:(List.range ops.size).map (fun i=>ops.getD i default)=ops.toList:=by
  apply List.ext_getElem?
  intro i
  rw[List.getElem?_map]
  by_cases hi:i<ops.size
  ·simp [hi]
  ·simp [hi]
 have eW:rest ops.size (Array.replicate ops.size false)=List.range ops.size:=by
  refine List.filter_eq_self.2 fun i hi=> ?_
  have:=List.mem_range.1 hi
  simp [this]
 obtain⟨Cp,r1,_,r3,r4⟩:=zri hC (List.range ops.size) 0 s [] (fun j k hj=>by
  have:=(List.getElem?_eq_some_iff.1 hj)
  obtain⟨h1,h2⟩:=this
  simp at h2
  omega) (by rw[nL];exact h)
 have hk:fa s X {X with w:={X.w with drawn:=X.w.drawn+1}}:=⟨Nat.le_refl _,rfl,rfl,rfl,fun g _=>⟨rfl,rfl⟩,rfl,fun _ _ _=>rfl⟩
 refine wp_region_any hm ?_
 exact ak8 hE hC hf (fun k hk=>r4 k (List.mem_range.2 hk)) ops.size (Array.replicate ops.size false) _ s a Cp (hr.dB hk) (by simp) (by rw[eW];simp) (by rw[eW];exact r1) r3 (fun Y a' bn bD=>hQ Y a' (hk.ext.trans bn) bD)
end Go.Ref

namespace Go.Ref
open Go
variable {P:Program} {E:Env} {X:az} {s:State} {a:Act}
theorem aW.flat{X Y:az}:∀{t:Ty} {x:El t} {cs:List Value},t.flat=true->aW X t x cs->aW Y t x cs
 | .bool,_,_,_,hr=>hr
 | .int _,_,_,_,hr=>hr
 | .str,_,_,_,hr=>hr
 | .unit,_,_,_,hr=>hr
 | .sl _ _,_,_,hf,_=>by cases hf
 | .aZ _ _ _,_,_,hf,_=>by cases hf
 | .arr n t,xs,cs,hf,⟨h1,h2,h3⟩=>⟨h1,h2,fun j x hj=>aW.flat (t:=t) hf (h3 j x hj)⟩
 | .pair a b,x,cs,hf,⟨c1,c2,h1,h2,h3⟩=>by
   have hf:(a.flat&&b.flat)=true:=hf
   rw[Bool.and_eq_true] at hf
   exact⟨c1,c2,h1,aW.flat hf.1 h2,aW.flat hf.2 h3⟩
theorem aA.flat{X Y:az}{pl:List Nat->Place}{sv:SV}{v:Value}(hf:sv.flat=true)(hr:aA X pl sv v):aA Y pl sv v:=by
 cases sv with
 |aj t x own=>
  have hf:(t.flat&&own.isEmpty)=true:=hf
  rw[Bool.and_eq_true] at hf
  obtain⟨cs,h1,h2,_⟩:=hr
  have:own=[]:=List.isEmpty_iff.1 hf.2
  subst this
  exact⟨cs,h1.flat hf.1,h2,mO⟩
 |undef=>trivial
 |skip=>exact hr
 |cG=>exact hr
 |gW=>exact hr
 |over=>exact hr
 |_=>cases hf
theorem zjt{o:Nat}:∀{sl:List (List SV)} {i:Nat},kE o i sl=true->∀(j:Nat) l,sl[j]? =some l->i+j≠o->∀sv∈l,SV.flat sv=true
 | [],i,_,j,l,h,_=>by simp at h
 |l0::r,i,h,j,l,hl,ct=>by
  rw[kE,Bool.and_eq_true,Bool.or_eq_true] at h
  cases j with
  |zero=>
   cases hl
   rcases h.1 with h1|h1
   ·exact absurd (Nat.eq_of_beq_eq_true h1) ct
   ·exact fun sv hm=>List.all_eq_true.1 h1 sv hm
  |succ j=>exact zjt h.2 j l hl (by omega)
structure m5(X:az)(a:Act)(o:Nat)(e:TypeId)(xs:List Int)(own:List (List Nat))(g c:Nat)(cur:Array Value):Prop where
 val:a.tmps.getD o Go.undef= .slice (some ⟨g,0,none⟩) xs.length c
 heap:X.w.heap[g]? =some (.cells cur e (0,0))
 cell:∀(j:Nat) x,xs[j]? =some x->X.w.cell? ⟨g,j,none⟩=some (.int .u8 x)
 le:xs.length<=c
 most:c<=maxLen
 size:cur.size=c
 ow:X.ow g= .row (.c o 0 []) (xs.length*1)
 own:∀p∈own,p=[]
theorem aoq{o:Nat}{e:TypeId}{xs:List Int}{own:List (List Nat)}(hr:Rel X s a)(hs:s.slot o=[.aj (.sl e (.int .u8)) xs own])(bU:mZ own []=true){i:Nat}(hi:i<xs.length):∃g c cur,m5 X a o e xs own g c cur:=by
 have jL:=hr.slot o
 rw[hs] at jL
 obtain⟨cs,aT,hv,hO⟩:=(show aA X (.c o 0) (.aj (.sl e (.int .u8)) xs own) (a.tmps.getD o Go.undef) from jL)
 have fS:([]:List Nat)∈own:=by
  unfold mZ at bU
  obtain⟨q,h1,h2⟩:=List.any_eq_true.1 bU
  have:q=[]:=by simpa using h2
  rw[<-this];exact h1
 have eB:∀p∈own,p=[]:=fun p hp=>by
  obtain⟨e2,t2,xs2,v2,g1,g2,g3,g4⟩:=hO p hp
  cases p with
  |cons q r=>simp [El.get] at g2
  |nil=>rfl
 obtain⟨e1,t1,xs1,v1,_,hg,hc,b6⟩:=hO [] fS
 simp only[El.get,Option.some.injEq] at hg
 cases hg
 obtain⟨A,c,dR,hle,eC⟩:=aT
 subst dR
 have hv:a.tmps.getD o Go.undef= .slice A xs.length c:=hv
 have Aj:v1= .slice A xs.length c:=by
  have:([Value.slice A xs.length c]:List Value)[0]? =some v1:=hc
  simpa using this.symm
 subst Aj
 rcases b6 with⟨_,h0⟩|⟨g,cap,cur,h1,h2,h3,h4,h5,h6⟩
 ·have h0:List.length xs=0:=h0
  omega
 injection h1 with k1 k2 k3
 subst k1 k3
 have h5:cur.size=c*1:=h5
 have h6:X.ow g= .row (.c o 0 []) (List.length xs*1):=h6
 have gN:∀(j:Nat) x,xs[j]? =some x->X.w.cell? ⟨g,j,none⟩=some (.int .u8 x):=fun j x hj=>by
  obtain⟨ad,eA,e1,_,e2,e3⟩:=eC j x hj
  cases e1
  have e2:eA=[.int .u8 x]:=e2
  subst e2
  have:=(e3 0 (.int .u8 x) rfl).2.1
  rw[j8] at this
  simpa [Ty.cells] using this
 exact⟨g,c,cur,hv,h2,gN,hle,h4,by omega,h6,eB⟩
theorem alE{o:Nat}{e:TypeId}{xs:List Int}{own:List (List Nat)}{X0:az}(hF:∀g pl n,X0.ow g≠ .row pl n)(hx:Ext X0 X)(hr:Rel X s a)(ho:o<s.sl.length)(uJ:kE o 0 s.sl=true)(jZ:s.bs.all Option.isNone=true)
 {g c:Nat} {cur:Array Value} (hR:m5 X a o e xs own g c cur) {i:Nat} (hi:i<xs.length) (z:Int):
   Ext X0 (X.row g (cur.toList.take i++ [Value.int .u8 z]++cur.toList.drop (i+1)).toArray)/\Rel (X.row g (cur.toList.take i++ [Value.int .u8 z]++cur.toList.drop (i+1)).toArray) ⟨s.sl.set o [.aj (.sl e (.int .u8)) (xs.set i z:List Int) own],s.bs⟩ a:=by
 obtain⟨hv,h2,gN,hle,h4,h5,h6,eB⟩:=hR
 refine⟨?_,?_⟩
 ·
  have lm:∀b,b≠g->(X.row g (cur.toList.take i++ [Value.int .u8 z]++cur.toList.drop (i+1)).toArray).w.heap[b]? =X.w.heap[b]? :=fun b hb=>setRow_other X.w g b _ hb
  have tF:∀ad v,X0.aE ad v->ad.block≠g:=fun ad v dH e0=>by
   have aq:=az.gZ dH
   have hu:=dH.2.2
   cases hw:X0.ow ad.block with
   |all=>have:=(hx.still ad.block aq (by rw[hw];trivial)).1;rw[e0,h6] at this;rw[<-e0,hw] at this;cases this
   |ro n=>have:=(hx.still ad.block aq (by rw[hw];trivial)).1;rw[e0,h6] at this;rw[<-e0,hw] at this;cases this
   |box id=>rw[hw] at hu;exact hu
   |row pl n=>exact hF _ _ _ hw
  refine⟨fun ad v dH=> ?_,?_,hx.os,hx.tape,hx.output,hx.β0,fun b hb cH=> ?_⟩
  ·have h7:=hx.aE ad v dH
   refine⟨h7.1,?_,h7.2.2⟩
   have:=h7.2.1
   simp only[World.cell?] at this⊢
   rw[lm _ (tF ad v dH)];exact this
  ·have:=hx.size
   simpa [az.row] using this
  ·have h7:=hx.still b hb cH
   have ct:b≠g:=fun e0=>by
    have h8:=h7.1
    rw[e0,h6] at h8
    rw[e0,<-h8] at cH
    exact cH
   exact⟨h7.1,(lm b ct).trans h7.2⟩
 ·generalize kf:(cur.toList.take i++ [Value.int .u8 z]++cur.toList.drop (i+1)).toArray=new
  have nH:new.toList=cur.toList.take i++ [Value.int .u8 z]++cur.toList.drop (i+1):=by rw[<-kf]
  have fk:new.size=cur.size:=by
   have:new.toList.length=cur.toList.length:=by rw[nH];simp;omega
   simpa using this
  have aP:(X.row g new).w.heap[g]? =some (.cells new e (0,0)):=setRow_heap X.w g cur new e (0,0) h2
  refine⟨by simpa using hr.size,by simpa using hr.hN,fun j l v hl mV=> ?_,fun id B hB=> ?_,fun j l id t p hl hm=> ?_,hr.defers⟩
  ·rw[List.getElem?_set] at hl
   by_cases LC:o=j
   ·subst LC
    rw[if_pos rfl,if_pos ho] at hl
    cases hl
    have hvv:a.tmps.getD o Go.undef=v:=by rw[Array.getD_eq_getD_getElem?,mV];rfl
    rw[hvv] at hv
    subst hv
    refine⟨[.slice (some ⟨g,0,none⟩) xs.length c],?_,rfl,fun p hp=> ?_⟩
    ·refine aW.xi (t:= .int .u8) (List.length_set ..) hle fun j x hj=>⟨⟨g,0,none⟩,[.int .u8 x],rfl,rfl,rfl,fun k w hk=> ?_⟩
     have wR:j<xs.length:=by have:=(List.getElem?_eq_some_iff.1 hj).1;rw[List.length_set] at this;exact this
     cases k with
     |succ k=>simp at hk
     |zero=>
      have hk:Value.int .u8 x=w:=by simpa using hk
      subst hk
      refine⟨AU rfl _,?_,?_⟩
      ·rw[j8]
       show(X.row g new).w.cell? _=_
       simp only[World.cell?,aP,Ty.cells]
       rw[show 0+(j*1+0)=j by omega,<-Array.getElem?_toList,nH]
       have hj:(xs.set i z)[j]? =some x:=hj
       rw[List.getElem?_set] at hj
       have aqc:i<cur.toList.length:=by simp;omega
       by_cases hij:i=j
       ·subst hij
        rw[if_pos rfl,if_pos hi] at hj
        cases hj
        rw[List.append_assoc,List.getElem?_append_right (by simp;omega)]
        have:i-(cur.toList.take i).length=0:=by simp;omega
        rw[this];rfl
       ·rw[if_neg hij] at hj
        have uI:=gN j x hj
        simp only[World.cell?,h2] at uI
        rw[<-Array.getElem?_toList] at uI
        rcases Nat.lt_or_ge j i with aq|TG
        ·rw[List.append_assoc,List.getElem?_append_left (by simp;omega),List.getElem?_take,if_pos aq]
         exact uI
        ·have hgt:i<j:=by omega
         rw[List.getElem?_append_right (by simp;omega),List.getElem?_drop]
         have:i+1+(j-(cur.toList.take i++ [Value.int .u8 z]).length)=j:=by simp;omega
         rw[this]
         exact uI
      ·rw[j8]
       show Ow.used (X.ow g) _
       rw[h6]
       show _<_
       simp only[Ty.cells]
       omega
    ·have:=eB p hp
     subst this
     refine⟨e,.int .u8,(xs.set i z:List Int),_,by simp [Ty.ff],rfl,rfl,?_⟩
     have hls:List.length (xs.set i z)=xs.length:=List.length_set ..
     rw[hls]
     exact .inr ⟨g,c,new,rfl,aP,hle,h4,by rw[fk,h5];simp [Ty.cells],h6⟩
   ·rw[if_neg LC] at hl
    have:=zjt uJ j l hl (by omega)
    exact(hr.bP j l v hl mV).kg fun k sv u hk hu=>hu.flat (this sv (List.mem_of_getElem? hk))
  ·have:=List.all_eq_true.1 jZ (some B) (List.mem_of_getElem? hB)
   cases this
  ·rw[List.getElem?_set] at hl
   by_cases LC:o=j
   ·subst LC
    rw[if_pos rfl,if_pos ho] at hl
    cases hl
    simp at hm
   ·rw[if_neg LC] at hl
    have:=zjt uJ j l hl (by omega) _ hm
    cases this
theorem qc{a:Act}{d i:Nat}{v:Value}(hd:d<a.tmps.size):(a.put (some d) v).tmps.getD i Go.undef=if d=i then v else a.tmps.getD i Go.undef:=by
 simp only[Act.put,Array.getD_eq_getD_getElem?,Array.getElem?_setIfInBounds]
 split
 ·first|rfl|(rw[if_pos hd];rfl)
 ·rfl
theorem rI{a:Act}{d:Nat}{v:Value}:(a.put (some d) v).tmps.size=a.tmps.size:=by simp [Act.put]
theorem raw{ops:Array Oper}{Q:Exit->Act->World->Prop}{i d:Nat}{rest:List Nat}{a:Act}{w:World}{o:Oper}{v:Value}(hi:ops[i]? =some o)(hd:isDst o d=true)(bd:(execOp a.eval o).run P w= .ok (.value v) w)(K:wpOps P ops Q rest (a.put (some d) v) w):wpOps P ops Q (i::rest) a w:=by
 have rC:o.dst=some d/\o.guard=none:=by
  unfold isDst at hd
  split at hd
  ·rename_i d' h1 h2
   exact⟨by rw[h1,Nat.eq_of_beq_eq_true hd],h2⟩
  ·cases hd
 rw[wpOps_cons]
 unfold wpOp
 simp only[hi]
 have hw:Region.wanted o (yielded ops a.tmps)=true:=by simp [Region.wanted,rC.2]
 rw[if_pos hw]
 refine .inl ?_
 unfold Oper.wp
 rw[bd,Oper.upon_value,rC.1]
 exact K
theorem uX{x:Operand}{i:Nat}(h:eX x i=true):x= .tmp i:=by
 unfold eX at h
 split at h
 ·rw[Nat.eq_of_beq_eq_true h]
 ·cases h
theorem P0{T:TypeId}(h:wY E T=true):E.ty T=some (.int .u8):=by
 unfold wY at h
 split at h
 ·assumption
 ·cases h
theorem zyo{T:TypeId}(h:Yf E T=true):∃e,E.ty T=some (.sl e (.int .u8)):=by
 unfold Yf at h
 split at h
 ·exact⟨_,by assumption⟩
 ·cases h
theorem uY{o:Oper}{d x:Nat}(h:Hu o d x=true):isDst o d=true/\∀(a:Act) (w:World),(execOp a.eval o).run P w= .ok (.value (a.tmps.getD x Go.undef)) w:=by
 unfold Hu at h
 rw[Bool.and_eq_true] at h
 refine⟨h.1,fun a w=> ?_⟩
 have h:=h.2
 split at h
 ·rename_i y ho
  have:=uX h
  subst this
  simp only[execOp,ho]
  rfl
 ·cases h
theorem Yh(hE:ar P E){o:Oper}{d x:Nat}(h:isLen E o d x=true):isDst o d=true/\∀(a:Act) (w:World) A n c,a.tmps.getD x Go.undef= .slice A n c->(execOp a.eval o).run P w= .ok (.value (.int .i64 n)) w:=by
 unfold isLen at h
 rw[Bool.and_eq_true] at h
 refine⟨h.1,fun a w A n c hv=> ?_⟩
 have h:=h.2
 split at h
 ·rename_i er ts ho
  split at h
  ·rename_i y T qO BM
   have has:er= #[y]:=by rw[<-Array.toArray_toList (xs:=er),qO]
   have gP:ts= #[T]:=by rw[<-Array.toArray_toList (xs:=ts),BM]
   subst has gP
   rw[Bool.and_eq_true] at h
   have:=uX h.1
   subst this
   obtain⟨e,hT⟩:=zyo h.2
   have hu:=(hE.ty T _ hT).dj
   have ev:a.eval (.tmp x)= .slice A n c:=hv
   simp [execOp,ho,resolve,invoke,builtin,Builtin.len_,ev,run_underlying hu.1,goInt]
  ·cases h
 ·cases h
theorem UE{o:Oper}{d x:Nat}(h:zyp o d x=true):isDst o d=true/\∀(a:Act) (w:World) (n:Int),a.tmps.getD x Go.undef= .int .i64 n->(execOp a.eval o).run P w= .ok (.value (.int .i64 (IntKind.i64.wrap (n-1)))) w:=by
 unfold zyp at h
 rw[Bool.and_eq_true] at h
 refine⟨h.1,fun a w n hv=> ?_⟩
 have h:=h.2
 split at h
 ·rename_i T y c T' ho
  rw[Bool.and_eq_true] at h
  have:=uX h.1
  subst this
  have hc:=of_decide_eq_true h.2
  subst hc
  have ev:a.eval (.tmp x)= .int .i64 n:=hv
  have ec:a.eval (.const (.int .i64 1))= .int .i64 1:=rfl
  obtain⟨sv,v,hl,Cb,_,hr,_⟩:=zt7 (P:=P) (op:= .sub) (T:=T) (k:= .i64) (k':= .i64) (m:=n) (n:=1) w rfl
  cases hl
  have:=AM (hr ⟨w,fun _=> .all,fun _=>none⟩ (fun _=> .r 0 []))
  subst this
  simp only[execOp,ho,Sem.run_bind,ev,ec,TZ,Result.andThen_ok,Cb,Sem.run_pure]
 ·cases h
theorem Qh{o:Oper}{d x y:Nat}(h:tR o d x y=true):isDst o d=true/\∀(a:Act) (w:World) (n m:Int),a.tmps.getD x Go.undef= .int .u8 n->a.tmps.getD y Go.undef= .int .u8 m->(execOp a.eval o).run P w= .ok (.value (.int .u8 (IntKind.u8.wrap (n+m)))) w:=by
 unfold tR at h
 rw[Bool.and_eq_true] at h
 refine⟨h.1,fun a w n m hv hu=> ?_⟩
 have h:=h.2
 split at h
 ·rename_i T u v T' ho
  rw[Bool.and_eq_true] at h
  have:=uX h.1
  subst this
  have:=uX h.2
  subst this
  have ev:a.eval (.tmp x)= .int .u8 n:=hv
  have eu:a.eval (.tmp y)= .int .u8 m:=hu
  obtain⟨sv,v,hl,Cb,_,hr,_⟩:=zt7 (P:=P) (op:= .add) (T:=T) (k:= .u8) (k':= .u8) (m:=n) (n:=m) w rfl
  cases hl
  have:=AM (hr ⟨w,fun _=> .all,fun _=>none⟩ (fun _=> .r 0 []))
  subst this
  simp only[execOp,ho,Sem.run_bind,ev,eu,TZ,Result.andThen_ok,Cb,Sem.run_pure]
 ·cases h
theorem zxt(hE:ar P E){o:Oper}{d x i:Nat}(h:wX E o d x i=true):isDst o d=true/\∀(a:Act) (w:World) (g n c:Nat) (j:Int),a.tmps.getD x Go.undef= .slice (some ⟨g,0,none⟩) n c->a.tmps.getD i Go.undef= .int .i64 j->0<=j->j<n->(execOp a.eval o).run P w= .ok (.value (.pointer (some ⟨g,j.toNat,none⟩))) w:=by
 unfold wX at h
 rw[Bool.and_eq_true] at h
 refine⟨h.1,fun a w g n c j hv hj h0 h1=> ?_⟩
 have h:=h.2
 split at h
 ·rename_i T y z ho
  rw[Bool.and_eq_true,Bool.and_eq_true] at h
  have:=uX h.1
  subst this
  have:=uX h.2.1
  subst this
  obtain⟨e,hT⟩:=zyo h.2.2
  have hu:=(hE.ty T _ hT).dj
  have ev:a.eval (.tmp x)= .slice (some ⟨g,0,none⟩) n c:=hv
  have ei:a.eval (.tmp i)= .int .i64 j:=hj
  simp only[execOp,ho,Sem.run_bind,Instr.indexAt,ei,ev,asIntOf,Sem.run_pure,Result.andThen_ok,run_underlying hu.1,Sem.run_ite,h0,h1,and_self,if_true,lC hE hu.2]
  simp [Ty.cells,j8]
 ·cases h
theorem OA(hE:ar P E){o:Oper}{d x:Nat}(h:Gd E o d x=true):isDst o d=true/\∀(a:Act) (w:World) (g j:Nat) (y:Int),a.tmps.getD x Go.undef= .pointer (some ⟨g,j,none⟩)->w.cell? ⟨g,j,none⟩=some (.int .u8 y)->(execOp a.eval o).run P w= .ok (.value (.int .u8 y)) w:=by
 unfold Gd at h
 rw[Bool.and_eq_true] at h
 refine⟨h.1,fun a w g j y hv hc=> ?_⟩
 have h:=h.2
 split at h
 ·rename_i T z ho
  rw[Bool.and_eq_true] at h
  have:=uX h.1
  subst this
  have hT:=P0 h.2
  have ev:a.eval (.tmp x)= .pointer (some ⟨g,j,none⟩):=hv
  have hl:=HT (P:=P) hE hT (X:=⟨w,fun _=> .all,fun _=>none⟩) (x:=y) (cs:=[.int .u8 y]) rfl (ad:=⟨g,j,none⟩) (w:=w) (fun k v hk=>by
   cases k with
   |zero=>rw[j8];have hk:Value.int .u8 y=v:=by simpa using hk
          rw[<-hk];exact hc
   |succ k=>simp at hk)
  simp only[execOp,ho,Sem.run_bind,Instr.loadAt,ev,Instr.sureAddr,Sem.run_pure,Result.andThen_ok,hl]
  rfl
 ·cases h
theorem aou(hE:ar P E){ops:Array Oper}{Q:Exit->Act->World->Prop}{o:Oper}{x y:Nat}(h:tQ E o x y=true){k:Nat}{rest:List Nat}(hi:ops[k]? =some o){a:Act}{X:az}{g j:Nat}{z:Int}{cur:Array Value}{T':TypeId}(hv:a.tmps.getD x Go.undef= .pointer (some ⟨g,j,none⟩))(hz:a.tmps.getD y Go.undef= .int .u8 z)(hg:X.w.heap[g]? =some (.cells cur T' (0,0)))(hj:j+1<=cur.size)
 (K:wpOps P ops Q rest (a.put none Go.undef) (X.row g (cur.toList.take j++ [Value.int .u8 z]++cur.toList.drop (j+1)).toArray).w):wpOps P ops Q (k::rest) a X.w:=by
 unfold tQ at h
 rw[Bool.and_eq_true] at h
 have rC:o.dst=none/\o.guard=none:=by
  have h:=h.1
  split at h
  ·exact⟨by assumption,by assumption⟩
  ·cases h
 have h:=h.2
 rw[wpOps_cons]
 unfold wpOp
 simp only[hi]
 have hw:Region.wanted o (yielded ops a.tmps)=true:=by simp [Region.wanted,rC.2]
 rw[if_pos hw]
 refine .inl ?_
 unfold Oper.wp
 split at h
 ·rename_i T u v ho
  rw[Bool.and_eq_true,Bool.and_eq_true] at h
  have:=uX h.1
  subst this
  have:=uX h.2.1
  subst this
  have hT:=P0 h.2.2
  have ev:a.eval (.tmp x)= .pointer (some ⟨g,j,none⟩):=hv
  have ez:a.eval (.tmp y)= .int .u8 z:=hz
  have cH:=T1 (P:=P) hE hT (X:=X) (x:=z) (cs:=[.int .u8 z]) rfl (off:=j) (w:=X.w) (r:=g) (cur:=cur) (T':=T') hg hj
  have Lu:dJ (.int .u8) [.int .u8 z]= .int .u8 z:=rfl
  rw[Lu] at cH
  have bd:(execOp a.eval o).run P X.w= .ok .skip (X.row g (cur.toList.take j++ [Value.int .u8 z]++cur.toList.drop (j+1)).toArray).w:=by
   simp only[execOp,ho,Sem.run_bind,Instr.storeAt,ev,Instr.sureAddr,Sem.run_pure,Result.andThen_ok,ez,cH]
   rfl
  rw[bd,Oper.upon_skip,rC.1]
  exact K
 ·cases h
theorem Nb:∀(n m:Nat) (sl:List (List SV)),(jP n m sl).length=sl.length
 |0,m,sl=>rfl
 |n+1,m,sl=>by rw[jP,Nb n (m+1),List.length_set]
def dead(s:State)(d:Nat):State:=s.aQ (some d) [.undef]
theorem Rel.dead(hr:Rel X s a)(d:Nat)(v:Value):Rel X (Ref.dead s d) (a.put (some d) v):=hr.put (fun _ _=>trivial) (fun id t p hm=>by simp at hm)
theorem ah9(hE:ar P E){X0:az}(hF:∀g pl n,X0.ow g≠ .row pl n)(hx:Ext X0 X)(hr:Rel X s a){q:Nat×Nat×Nat}{id:Nat}{ops:Array Oper}{s':State}(h:kN E q ops.toList s some=some s'){Q:Exit->Act->World->Prop}(hQ:∀Y a',Ext X0 Y->Rel Y s' a'->Q .normal a' Y.w):(Code.region id ops false).wp P Q a X.w:=by
 obtain⟨o,x,m⟩:=q
 unfold kN at h
 simp only at h
 cases iA:Gi E o x m ops.toList with
 |false=>rw[iA] at h;cases h
 |true=>
 rw[iA,cond_true] at h
 cases hb:(Nat.ble (o+1) m&&(Nat.ble (x+1) m&&(!(Nat.beq o x)&&Nat.ble (m+13) s.sl.length))) with
 |false=>rw[hb] at h;cases h
 |true=>
 rw[hb,cond_true] at h
 simp only[Bool.and_eq_true,Bool.not_eq_true',Nat.ble_eq] at hb
 obtain⟨hom,hxm,hox,qM⟩:=hb
 split at h
 case h_2=>cases h
 rename_i et xs own y ow2 iX hsx
 cases bU:mZ own [] with
 |false=>rw[bU] at h;cases h
 |true=>
 rw[bU,cond_true] at h
 cases uJ:(kE o 0 (jP 13 m s.sl)&&s.bs.all Option.isNone) with
 |false=>rw[uJ] at h;cases h
 |true=>
 rw[uJ,cond_true] at h
 rw[Bool.and_eq_true] at uJ
 obtain⟨h0,h1,h⟩:=AO h
 cases h
 generalize hj:IntKind.i64.wrap ((List.length xs:Int)-1)=j at h0 h1
 have hi:j.toNat<xs.length:=by omega
 obtain⟨g,c,cur,hR⟩:=aoq hr iX bU hi
 have dt:m+13<=a.tmps.size:=by rw[<-hr.size];exact qM
 have hy:a.tmps.getD x Go.undef= .int .u8 y:=by
  have jL:=hr.slot x
  rw[hsx] at jL
  exact AM (show aA X (.c x 0) (.aj (.int .u8) y ow2) _ from jL)
 have hgx:xs[j.toNat]? =some (xs.getD j.toNat 0):=by rw[List.getD_eq_getElem?_getD,List.getElem?_eq_getElem hi];rfl
 have wO:=hR.cell _ _ hgx
 unfold Gi at iA
 split at iA
 case h_2=>cases iA
 rename_i o0 o1 o2 o3 o4 o5 o6 o7 o8 o9 o10 o11 o12 o13 nI
 simp only[Bool.and_eq_true] at iA
 obtain⟨k0,k1,k2,k3,k4,k5,k6,k7,k8,k9,k10,k11,k12,k13⟩:=iA
 have cI:∀i,ops[i]? =([o0,o1,o2,o3,o4,o5,o6,o7,o8,o9,o10,o11,o12,o13]:List Oper)[i]? :=fun i=>by rw[<-Array.getElem?_toList,nI]
 have cw:ops.size=14:=by rw[<-Array.length_toList,nI];rfl
 refine wp_region ?_
 rw[cw,show List.range 14=[0,1,2,3,4,5,6,7,8,9,10,11,12,13] from rfl]
 have vo:=hR.val
 generalize Al:(Value.slice (some ⟨g,0,none⟩) xs.length c)=vs at vo
 refine raw (cI 0) (uY (P:=P) k0).1 ((uY k0).2 a X.w) ?_
 rw[vo]
 have e1:=fun i=>qc (i:=i) (v:=vs) (show m<a.tmps.size by omega)
 have r1:=hr.dead m vs
 generalize hp1:a.put (some m) vs=a1 at e1 r1
 have z1:a1.tmps.size=a.tmps.size:=by rw[<-hp1,rI]
 refine raw (cI 1) (uY (P:=P) k1).1 ((uY k1).2 a1 X.w) ?_
 rw[e1,if_neg (by omega),vo]
 have e2:=fun i=>qc (a:=a1) (i:=i) (v:=vs) (show m+1<a1.tmps.size by omega)
 have r2:=r1.dead (m+1) vs
 generalize hp2:a1.put (some (m+1)) vs=a2 at e2 r2
 have z2:a2.tmps.size=a.tmps.size:=by rw[<-hp2,rI,z1]
 refine raw (cI 2) (Yh hE k2).1 ((Yh hE k2).2 a2 X.w _ _ _ (by rw[e2,if_pos rfl];exact Al.symm)) ?_
 have e3:=fun i=>qc (a:=a2) (i:=i) (v:= .int .i64 (xs.length:Nat)) (show m+2<a2.tmps.size by omega)
 have r3:=r2.dead (m+2) (.int .i64 (xs.length:Nat))
 generalize hp3:a2.put (some (m+2)) (.int .i64 (xs.length:Nat))=a3 at e3 r3⊢
 have z3:a3.tmps.size=a.tmps.size:=by rw[<-hp3,rI,z2]
 refine raw (cI 3) (UE (P:=P) k3).1 ((UE k3).2 a3 X.w _ (by rw[e3,if_pos rfl])) ?_
 rw[hj]
 have e4:=fun i=>qc (a:=a3) (i:=i) (v:= .int .i64 j) (show m+3<a3.tmps.size by omega)
 have r4:=r3.dead (m+3) (.int .i64 j)
 generalize hp4:a3.put (some (m+3)) (.int .i64 j)=a4 at e4 r4⊢
 have z4:a4.tmps.size=a.tmps.size:=by rw[<-hp4,rI,z3]
 have q4:∀i,i<m->a4.tmps.getD i Go.undef=a.tmps.getD i Go.undef:=fun i hi=>by rw[e4,if_neg (by omega),e3,if_neg (by omega),e2,if_neg (by omega),e1,if_neg (by omega)]
 have qm:a4.tmps.getD m Go.undef=vs:=by rw[e4,if_neg (by omega),e3,if_neg (by omega),e2,if_neg (by omega),e1,if_pos rfl]
 refine raw (cI 4) (uY (P:=P) k4).1 ((uY k4).2 a4 X.w) ?_
 rw[q4 o (by omega),vo]
 have e5:=fun i=>qc (a:=a4) (i:=i) (v:=vs) (show m+4<a4.tmps.size by omega)
 have r5:=r4.dead (m+4) vs
 generalize hp5:a4.put (some (m+4)) vs=a5 at e5 r5⊢
 have z5:a5.tmps.size=a.tmps.size:=by rw[<-hp5,rI,z4]
 refine raw (cI 5) (uY (P:=P) k5).1 ((uY k5).2 a5 X.w) ?_
 rw[e5,if_neg (by omega),q4 o (by omega),vo]
 have e6:=fun i=>qc (a:=a5) (i:=i) (v:=vs) (show m+5<a5.tmps.size by omega)
 have r6:=r5.dead (m+5) vs
 generalize hp6:a5.put (some (m+5)) vs=a6 at e6 r6⊢
 have z6:a6.tmps.size=a.tmps.size:=by rw[<-hp6,rI,z5]
 refine raw (cI 6) (Yh hE k6).1 ((Yh hE k6).2 a6 X.w _ _ _ (by rw[e6,if_pos rfl];exact Al.symm)) ?_
 have e7:=fun i=>qc (a:=a6) (i:=i) (v:= .int .i64 (xs.length:Nat)) (show m+6<a6.tmps.size by omega)
 have r7:=r6.dead (m+6) (.int .i64 (xs.length:Nat))
 generalize hp7:a6.put (some (m+6)) (.int .i64 (xs.length:Nat))=a7 at e7 r7⊢
 have z7:a7.tmps.size=a.tmps.size:=by rw[<-hp7,rI,z6]
 refine raw (cI 7) (UE (P:=P) k7).1 ((UE k7).2 a7 X.w _ (by rw[e7,if_pos rfl])) ?_
 rw[hj]
 have e8:=fun i=>qc (a:=a7) (i:=i) (v:= .int .i64 j) (show m+7<a7.tmps.size by omega)
 have r8:=r7.dead (m+7) (.int .i64 j)
 generalize hp8:a7.put (some (m+7)) (.int .i64 j)=a8 at e8 r8⊢
 have z8:a8.tmps.size=a.tmps.size:=by rw[<-hp8,rI,z7]
 have q8:∀i,i<=m+3->a8.tmps.getD i Go.undef=a4.tmps.getD i Go.undef:=fun i hi=>by rw[e8,if_neg (by omega),e7,if_neg (by omega),e6,if_neg (by omega),e5,if_neg (by omega)]
 refine raw (cI 8) (zxt hE k8).1 ((zxt hE k8).2 a8 X.w g xs.length c j (by rw[e8,if_neg (by omega),e7,if_neg (by omega),e6,if_neg (by omega),e5,if_pos rfl];exact Al.symm) (by rw[e8,if_pos rfl]) h0 h1) ?_
 have e9:=fun i=>qc (a:=a8) (i:=i) (v:= .pointer (some ⟨g,j.toNat,none⟩)) (show m+8<a8.tmps.size by omega)
 have r9:=r8.dead (m+8) (.pointer (some ⟨g,j.toNat,none⟩))
 generalize hp9:a8.put (some (m+8)) (.pointer (some ⟨g,j.toNat,none⟩))=a9 at e9 r9⊢
 have z9:a9.tmps.size=a.tmps.size:=by rw[<-hp9,rI,z8]
 refine raw (cI 9) (OA hE k9).1 ((OA hE k9).2 a9 X.w g j.toNat _ (by rw[e9,if_pos rfl]) wO) ?_
 generalize hwx:xs.getD j.toNat 0=wx
 have HC:=fun i=>qc (a:=a9) (i:=i) (v:= .int .u8 wx) (show m+9<a9.tmps.size by omega)
 have j6:=r9.dead (m+9) (.int .u8 wx)
 generalize aaw:a9.put (some (m+9)) (.int .u8 wx)=Bw at HC j6⊢
 have z10:Bw.tmps.size=a.tmps.size:=by rw[<-aaw,rI,z9]
 refine raw (cI 10) (uY (P:=P) k10).1 ((uY k10).2 Bw X.w) ?_
 rw[HC,if_neg (by omega),e9,if_neg (by omega),q8 x (by omega),q4 x (by omega),hy]
 have HD:=fun i=>qc (a:=Bw) (i:=i) (v:= .int .u8 y) (show m+10<Bw.tmps.size by omega)
 have jV:=j6.dead (m+10) (.int .u8 y)
 generalize aax:Bw.put (some (m+10)) (.int .u8 y)=Bz at HD jV⊢
 have z11:Bz.tmps.size=a.tmps.size:=by rw[<-aax,rI,z10]
 refine raw (cI 11) (Qh (P:=P) k11).1 ((Qh k11).2 Bz X.w wx y (by rw[HD,if_neg (by omega),HC,if_pos rfl]) (by rw[HD,if_pos rfl])) ?_
 generalize hwz:IntKind.u8.wrap (wx+y)=wz
 have e12:=fun i=>qc (a:=Bz) (i:=i) (v:= .int .u8 wz) (show m+11<Bz.tmps.size by omega)
 have lv:=jV.dead (m+11) (.int .u8 wz)
 generalize aay:Bz.put (some (m+11)) (.int .u8 wz)=a12 at e12 lv⊢
 have z12:a12.tmps.size=a.tmps.size:=by rw[<-aay,rI,z11]
 have q12:∀i,i<=m+3->a12.tmps.getD i Go.undef=a4.tmps.getD i Go.undef:=fun i hi=>by rw[e12,if_neg (by omega),HD,if_neg (by omega),HC,if_neg (by omega),e9,if_neg (by omega),q8 i hi]
 refine raw (cI 12) (zxt hE k12).1 ((zxt hE k12).2 a12 X.w g xs.length c j (by rw[q12 m (by omega),qm];exact Al.symm) (by rw[q12 (m+3) (by omega),e4,if_pos rfl]) h0 h1) ?_
 have TD:=fun i=>qc (a:=a12) (i:=i) (v:= .pointer (some ⟨g,j.toNat,none⟩)) (show m+12<a12.tmps.size by omega)
 have jW:=lv.dead (m+12) (.pointer (some ⟨g,j.toNat,none⟩))
 generalize aqi:a12.put (some (m+12)) (.pointer (some ⟨g,j.toNat,none⟩))=K0 at TD jW⊢
 have aam:m5 X K0 o et xs own g c cur:=⟨by rw[TD,if_neg (by omega),q12 o (by omega),q4 o (by omega),hR.val],hR.heap,hR.cell,hR.le,hR.most,hR.size,hR.ow,hR.own⟩
 refine aou hE k13 (cI 13) (by rw[TD,if_pos rfl]) (by rw[TD,if_neg (by omega),e12,if_pos rfl]) hR.heap (by rw[hR.size];have:=hR.le;omega) ?_
 have aaC:Rel X ⟨jP 13 m s.sl,s.bs⟩ K0:=jW
 obtain⟨hX,bD⟩:=alE hF hx aaC (by rw[Nb];omega) uJ.1 uJ.2 aam hi wz
 have aar:=hQ _ K0 hX (by
  unfold AG
  rw[hj,hwx,hwz]
  exact bD)
 exact aar
end Go.Ref

namespace Go.Ref
open Go
variable {P:Program} {E:Env} {X:az} {s:State} {a:Act}
structure nq(X Y:az)(g0:Nat):Prop where
 heap:∀b,b≠g0->Y.w.heap[b]? =X.w.heap[b]?
 ow:Y.ow=X.ow
 β:Y.β=X.β
theorem nq.aE{Y:az}{g0:Nat}(h:nq X Y g0){ad:Addr}{v:Value}(ct:ad.block≠g0)(hs:X.aE ad v):Y.aE ad v:=by
 refine⟨hs.1,?_,?_⟩
 ·have:=hs.2.1
  simp only[World.cell?] at this⊢
  rw[h.heap _ ct];exact this
 ·rw[h.ow];exact hs.2.2
theorem PV{own:List (List Nat)}{p:List Nat}(h:mZ own p=true):p∈own:=by
 unfold mZ at h
 obtain⟨q,h1,h2⟩:=List.any_eq_true.1 h
 have:q=p:=by simpa using h2
 rw[<-this];exact h1
def plS(pl:List Nat->Place):List Nat->Place
 |j::p=>pl ((j+1)::p)
 | []=>pl []
theorem alB{pl:List Nat->Place}{a b:Ty}{x:El (.pair a b)}{c1 c2:List Value}{own:List (List Nat)}(hr:aW X a x.1 c1)(h:bq X pl (.pair a b) x (c1++c2) own):bq X (fun p=>pl (0::p)) a x.1 c1 (Tt own [0]):=fun p hp=>by
 unfold Tt at hp
 obtain⟨q,hq,rfl⟩:=List.mem_map.1 hp
 obtain⟨hq,fC⟩:=List.mem_filter.1 hq
 match q,fC with
 |0::q,_=>
  obtain⟨e,t',xs,v,g0,g1,g2,g3⟩:=h (0::q) hq
  have g2:(c1++c2)[a.off q]? =some v:=g2
  refine⟨e,t',xs,v,g0,g1,?_,g3⟩
  show c1[a.off q]? =some v
  rw[<-g2,List.getElem?_append_left]
  obtain⟨_,k2,_⟩:=SH hr (show a.ff q from g0) (show El.get a q x.1=_ from g1)
  have k2:a.off q+1<=a.cells:=k2
  have:=hr.len
  omega
 | [],fC=>simp at fC
 |(j+1)::q,fC=>simp at fC
theorem alC{pl:List Nat->Place}{a b:Ty}{x:El (.pair a b)}{c1 c2:List Value}{own:List (List Nat)}(hl:c1.length=a.cells)(h:bq X pl (.pair a b) x (c1++c2) own):bq X (plS pl) b x.2 c2 (wI own):=fun p hp=>by
 unfold wI at hp
 obtain⟨q,hq,he⟩:=List.mem_filterMap.1 hp
 match q,he with
 |(j+1)::q,he=>
  cases he
  obtain⟨e,t',xs,v,g0,g1,g2,g3⟩:=h ((j+1)::q) hq
  refine⟨e,t',xs,v,g0,g1,?_,g3⟩
  have g2:(c1++c2)[a.cells+b.off (j::q)]? =some v:=g2
  rw[List.getElem?_append_right (by omega)] at g2
  rw[<-g2]
  congr 1
  omega
 | [],he=>cases he
 |0::q,he=>cases he
theorem bq.Ma{Y:az}{g0:Nat}(h:nq X Y g0){pl:List Nat->Place}(jg:∀p n,X.ow g0≠ .row (pl p) n){t:Ty}{x:El t}{cs:List Value}{own:List (List Nat)}(ho:bq X pl t x cs own):bq Y pl t x cs own:=fun p hp=>by
 obtain⟨e,t',xs,v,k0,k1,k2,k3⟩:=ho p hp
 refine⟨e,t',xs,v,k0,k1,k2,?_⟩
 rcases k3 with ho|⟨g,cap,cur,h1,h2,h3,h4,h5,h6⟩
 ·exact .inl ho
 ·have ct:g≠g0:=fun e=>jg p _ (e▸h6)
  exact .inr ⟨g,cap,cur,h1,(h.heap g ct).trans h2,h3,h4,h5,by rw[h.ow];exact h6⟩
theorem aW.cE{Y:az}{g0:Nat}(h:nq X Y g0):∀{t:Ty} {x:El t} {cs:List Value} {own:List (List Nat)} {pl:List Nat->Place},(∀p n,X.ow g0≠ .row (pl p) n)->t.cE own=true->aW X t x cs->bq X pl t x cs own->aW Y t x cs
 | .bool,_,_,_,_,_,_,hr,_=>hr
 | .int _,_,_,_,_,_,_,hr,_=>hr
 | .str,_,_,_,_,_,_,hr,_=>hr
 | .unit,_,_,_,_,_,_,hr,_=>hr
 | .aZ _ _ _,_,_,_,_,_,hs,_,_=>by cases hs
 | .arr n t,xs,cs,own,pl,_,hs,hr,_=>aW.flat (t:= .arr n t) (show t.flat=true from hs) hr
 | .pair a b,x,cs,own,pl,jg,hs,hr,ho=>by
   have hs:(a.cE (Tt own [0])&&b.cE (wI own))=true:=hs
   rw[Bool.and_eq_true] at hs
   obtain⟨c1,c2,h1,h2,h3⟩:=hr
   subst h1
   exact⟨c1,c2,rfl,aW.cE h (pl:=fun p=>pl (0::p)) (fun p n=>jg _ n) hs.1 h2 (alB h2 ho),aW.cE h (pl:=plS pl) (fun p n=>by cases p<;>exact jg _ n) hs.2 h3 (alC h2.len ho)⟩
 | .sl e t,xs,cs,own,pl,jg,hs,hr,ho=>by
   have hs:(t.flat&&mZ own [])=true:=hs
   rw[Bool.and_eq_true] at hs
   obtain⟨A,c,dR,hle,eC⟩:=hr
   subst dR
   refine⟨A,c,rfl,hle,fun j x hj=> ?_⟩
   obtain⟨ad,eA,e1,e2,e3,e4⟩:=eC j x hj
   subst e1
   refine⟨ad,eA,rfl,e2,e3.flat hs.1,fun i v hi=>h.aE ?_ (e4 i v hi)⟩
   obtain⟨e1,t1,xs1,v1,_,hg,hc,b6⟩:=ho [] (PV hs.2)
   simp only[El.get,Option.some.injEq] at hg
   cases hg
   have Aj:v1= .slice (some ad) xs.length c:=by
    have:([Value.slice (some ad) xs.length c]:List Value)[0]? =some v1:=hc
    simpa using this.symm
   subst Aj
   rcases b6 with⟨h0,_⟩|⟨g,cap,cur,h1,h2,h3,h4,h5,h6⟩
   ·cases h0
   ·injection h1 with k1 k2 k3
    cases k1
    rw[j8]
    intro e
    have e:g=g0:=e
    exact jg [] _ (e▸h6)
theorem aA.cE{Y:az}{g0:Nat}(h:nq X Y g0){pl:List Nat->Place}(jg:∀p n,X.ow g0≠ .row (pl p) n){bs:List (Option bB)}{sv:SV}{v:Value}(hs:sv.cE bs=true)(hr:aA X pl sv v):aA Y pl sv v:=by
 cases sv with
 |aj t x own=>
  obtain⟨cs,h1,h2,h3⟩:=hr
  exact⟨cs,h1.cE h jg hs h3,h2,h3.Ma h jg⟩
 |undef=>trivial
 |skip=>exact hr
 |cG=>exact hr
 |gW=>exact hr
 |over=>exact hr
 |ptr id t p=>
  obtain⟨r,h1,h2⟩:=hr
  exact⟨r,by rw[h.β];exact h1,h2⟩
 |_=>cases hs
theorem aeF{bs:List (Option bB)}{id:Nat}{B:bB}(h:(bs.map zz5)[id]? =some (some B)):bs[id]? =some (some B)/\B.cE=true:=by
 rw[List.getElem?_map] at h
 obtain⟨b0,h0,h1⟩:=Option.map_eq_some_iff.1 h
 cases b0 with
 |none=>cases h1
 |some B0=>
  unfold zz5 at h1
  simp only at h1
  cases hb:B0.cE with
  |false=>rw[hb] at h1;cases h1
  |true=>rw[hb] at h1;cases h1;exact⟨h0,hb⟩
structure aac(X:az)(o:Nat)(e:TypeId)(k n:Nat)(v:Value)(g c:Nat)(cur:Array Value):Prop where
 val:v= .slice (some ⟨g,0,none⟩) n c
 heap:X.w.heap[g]? =some (.cells cur e (0,0))
 le:n<=c
 size:cur.size=c*k
 ow:X.ow g= .row (.c o 0 []) (n*k)
theorem L2{o:Nat}{e:TypeId}{t:Ty}{xs:List (El t)}{own:List (List Nat)}(hr:Rel X s a)(hs:s.slot o=[.aj (.sl e t) xs own])(bU:mZ own []=true){i:Nat}(hi:i<xs.length):∃g c cur,aac X o e t.cells xs.length (a.tmps.getD o Go.undef) g c cur:=by
 have jL:=hr.slot o
 rw[hs] at jL
 obtain⟨cs,aT,hv,hO⟩:=(show aA X (.c o 0) (.aj (.sl e t) xs own) (a.tmps.getD o Go.undef) from jL)
 obtain⟨e1,t1,xs1,v1,_,hg,hc,b6⟩:=hO [] (PV bU)
 simp only[El.get,Option.some.injEq] at hg
 cases hg
 obtain⟨A,c,dR,hle,eC⟩:=aT
 subst dR
 have hv:a.tmps.getD o Go.undef= .slice A xs.length c:=hv
 have Aj:v1= .slice A xs.length c:=by
  have:([Value.slice A xs.length c]:List Value)[0]? =some v1:=hc
  simpa using this.symm
 subst Aj
 rcases b6 with⟨_,h0⟩|⟨g,cap,cur,h1,h2,h3,h4,h5,h6⟩
 ·have h0:List.length xs=0:=h0
  omega
 injection h1 with k1 k2 k3
 subst k1 k3
 exact⟨g,c,cur,hv,h2,hle,h5,h6⟩
theorem OQ{g:Nat}{new:Array Value}:nq X (X.row g new) g:=⟨fun b hb=>setRow_other X.w g b _ hb,rfl,rfl⟩
theorem alH{X0:az}(hF:∀g pl n,X0.ow g≠ .row pl n)(hx:Ext X0 X){g m:Nat}{pl:Place}{new:Array Value}(how:X.ow g= .row pl m):Ext X0 (X.row g new):=by
 have lm:∀b,b≠g->(X.row g new).w.heap[b]? =X.w.heap[b]? :=fun b hb=>setRow_other X.w g b _ hb
 have tF:∀ad v,X0.aE ad v->ad.block≠g:=fun ad v dH e0=>by
  have aq:=az.gZ dH
  have hu:=dH.2.2
  cases hw:X0.ow ad.block with
  |all=>have:=(hx.still ad.block aq (by rw[hw];trivial)).1;rw[e0,how] at this;rw[<-e0,hw] at this;cases this
  |ro n=>have:=(hx.still ad.block aq (by rw[hw];trivial)).1;rw[e0,how] at this;rw[<-e0,hw] at this;cases this
  |box id=>rw[hw] at hu;exact hu
  |row pl n=>exact hF _ _ _ hw
 refine⟨fun ad v dH=>OQ.aE (tF ad v dH) (hx.aE ad v dH),?_,hx.os,hx.tape,hx.output,hx.β0,fun b hb cH=> ?_⟩
 ·have:=hx.size
  simpa [az.row] using this
 ·have h7:=hx.still b hb cH
  have ct:b≠g:=fun e0=>by
   have h8:=h7.1
   rw[e0,how] at h8
   rw[e0,<-h8] at cH
   exact cH
  exact⟨h7.1,(lm b ct).trans h7.2⟩
theorem ah0(hr:Rel X s a){x g m:Nat}{new:Array Value}(how:X.ow g= .row (.c x 0 []) m):Rel (X.row g new) (s.cE x) a:=by
 have hB:nq X (X.row g new) g:=OQ
 refine⟨by simpa [State.cE] using hr.size,by simpa [State.cE] using hr.hN,fun j l v hl hv=> ?_,fun id B hb=> ?_,fun j l id t p hl hm=> ?_,hr.defers⟩
 ·simp only[State.cE,List.getElem?_map] at hl
  obtain⟨l0,h0,rfl⟩:=Option.map_eq_some_iff.1 hl
  unfold hold
  cases eB:l0.all (SV.cE s.bs) with
  |false=>trivial
  |true=>
   rw[cond_true]
   rw[List.getElem?_set] at h0
   by_cases hxj:x=j
   ·subst hxj
    rw[if_pos rfl] at h0
    split at h0
    ·cases h0;trivial
    ·cases h0
   ·rw[if_neg hxj] at h0
    exact(hr.bP j l0 v h0 hv).kg fun k sv u hk hu=>hu.cE hB (fun p n e=>by rw[how] at e;injection e with e _;injection e with e _;exact hxj e) (List.all_eq_true.1 eB sv (List.mem_of_getElem? hk))
 ·obtain⟨h1,h2⟩:=aeF hb
  obtain⟨r,k1,k2⟩:=hr.boxes id B h1
  unfold bB.cE at h2
  rw[Bool.and_eq_true] at h2
  have fk:B.t.bM=false:=by simpa using h2.1
  obtain⟨cs,T,aP,aT,nJ,bU⟩:=k2.cells fk
  have ct:r≠g:=fun e=>by rw[e,how] at nJ;cases nJ
  have jg:∀p n,X.ow g≠ .row (.b id p) n:=fun p n e=>by rw[how] at e;injection e with e _;cases e
  exact⟨r,k1,by rw[hB.ow];exact nJ,dA.of fk ((hB.heap r ct).trans aP) (aT.cE hB jg h2.2 bU) (bU.Ma hB jg)⟩
 ·simp only[State.cE,List.getElem?_map] at hl
  obtain⟨l0,h0,rfl⟩:=Option.map_eq_some_iff.1 hl
  unfold hold at hm
  cases eB:l0.all (SV.cE s.bs) with
  |false=>rw[eB] at hm;simp at hm
  |true=>
   rw[eB,cond_true] at hm
   have h1:=List.all_eq_true.1 eB _ hm
   unfold SV.cE at h1
   simp only at h1
   split at h1
   case h_2=>cases h1
   rename_i B hB
   have hb:=rG (s:=s) hB
   exact⟨B,by simp only[State.cE,List.getElem?_map,hb,Option.map_some,zz5,h1,cond_true]⟩
theorem zyq{α:Type}:∀{l r:List α} {x y:α},Yg l=some (r,x,y)->l=r++ [x,y]
 | [],_,_,_,h=>by cases h
 | [_],_,_,_,h=>by cases h
 | [a,b],_,_,_,h=>by cases h;rfl
 |a::b::c::r,_,_,_,h=>by
  simp only[Yg] at h
  split at h
  case h_2=>cases h
  rename_i l x y hl
  cases h
  have:=zyq (l:=b::c::r) hl
  rw[this];rfl
theorem OT(hE:ar P E){C:ai}(hC:C.Nat)(hf:∀f,de P C f){ops:Array Oper}{s':State}{Q:Exit->Act->World->Prop}{rest:List Nat}:∀(l:List Nat) (X:az) (s:State) (a:Act),Rel X s a->(∀i∈l,i<ops.size)->
 steps E (C State) ops.toList (l.map fun i=>ops.getD i default) s some=some s'->(∀Y a',Ext X Y->Rel Y s' a'->wpOps P ops Q rest a' Y.w)->wpOps P ops Q (l++rest) a X.w
 | [],X,s,a,hr,_,h,hQ=>by
   cases h
   exact hQ X a (Ext.refl X) hr
 |i::r,X,s,a,hr,hl,h,hQ=>by
  simp only[List.map_cons,steps] at h
  obtain⟨s1,h1,h2⟩:=lF (ztp hC (F:=fun s=>steps E (C State) ops.toList (r.map fun i=>ops.getD i default) s some) (G:=some) (K:=fun s=>steps E (C State) ops.toList (r.map fun i=>ops.getD i default) s some) (fun _=>rfl)) h
  have hi:ops[i]? =some (ops.getD i default):=by
   have:=hl i (by simp)
   simp [this]
  rw[List.cons_append,wpOps_cons]
  refine Fb hE hr hC hf hi h1 fun Y a' bn bD=> ?_
  exact OT hE hC hf r Y s1 a' bD (fun j hj=>hl j (List.mem_cons_of_mem _ hj)) h2 fun Z a2 bW dy=>hQ Z a2 (bn.trans bW) dy
theorem alD(hE:ar P E){X0:az}(hF:∀g pl n,X0.ow g≠ .row pl n)(hx:Ext X0 X)(hr:Rel X s a){ops:Array Oper}{k l:Nat}{oA oS:Oper}(hA:ops[k]? =some oA)(hS:ops[l]? =some oS){s':State}(h:iI E oA oS s some=some s'){Q:Exit->Act->World->Prop}(hQ:∀Y a',Ext X0 Y->Rel Y s' a'->Q .normal a' Y.w):wpOps P ops Q [k,l] a X.w:=by
 unfold iI at h
 split at h
 case h_2=>cases h
 rename_i T x i T' d vo hoA hoS
 cases iA:(isDst oA d&&(!(Nat.beq x d)&&tV oS)) with
 |false=>rw[iA] at h;cases h
 |true=>
 rw[iA,cond_true] at h
 rw[Bool.and_eq_true,Bool.and_eq_true] at iA
 obtain⟨hd,hxd,rC⟩:=iA
 have rC:oS.dst=none/\oS.guard=none:=by
  unfold tV at rC
  split at rC
  ·exact⟨by assumption,by assumption⟩
  ·cases rC
 have hxd:x≠d:=fun e=>by rw[e] at hxd;simp at hxd
 unfold tY at h
 split at h
 case h_2=>cases h
 rename_i e t xs own hsx
 cases hb:mZ own [] with
 |false=>rw[hb] at h;cases h
 |true=>
 rw[hb,cond_true] at h
 split at h
 case h_2=>cases h
 rename_i u w hT zX
 cases hu:(u.cu (.sl e t)&&(w.cu t&&Nat.ble (d+1) s.sl.length)) with
 |false=>rw[hu] at h;cases h
 |true=>
 rw[hu,cond_true] at h
 rw[Bool.and_eq_true,Bool.and_eq_true] at hu
 have:=Ty.aR hu.1
 subst this
 have:=Ty.aR hu.2.1
 subst this
 have hds:d<a.tmps.size:=by rw[<-hr.size];exact Nat.le_of_ble_eq_true hu.2.2
 obtain⟨n,kk,h,hn⟩:=ztj h
 obtain⟨y,h,hy⟩:=gy h
 obtain⟨h0,h1,h⟩:=AO h
 cases h
 have hi:n.toNat<xs.length:=by omega
 obtain⟨g,c,cur,hR⟩:=L2 hr hsx hb hi
 have eE:=hn X _ _ (hr.aG i)
 have hU:=hE.ty T _ hT
 have ev:a.eval (.tmp x)= .slice (some ⟨g,0,none⟩) xs.length c:=hR.val
 have LL:(execOp a.eval oA).run P X.w= .ok (.value (.pointer (some ⟨g,n.toNat*w.cells,none⟩))) X.w:=by
  have aq:n<(xs.length:Int):=h1
  simp only[execOp,hoA,Sem.run_bind,Instr.indexAt,eE,ev,asIntOf,Sem.run_pure,Result.andThen_ok,run_underlying hU.dj.1,Sem.run_ite,h0,aq,and_self,if_true,lC hE hU.dj.2]
  simp [j8]
 refine raw hA hd LL ?_
 have eV:Rel X (s.aQ (some d) [.undef]) (a.put (some d) (.pointer (some ⟨g,n.toNat*w.cells,none⟩))):=hr.put (fun _ _=>trivial) (fun id t p hm=>by simp at hm)
 have evd:(a.put (some d) (.pointer (some ⟨g,n.toNat*w.cells,none⟩))).eval (.tmp d)= .pointer (some ⟨g,n.toNat*w.cells,none⟩):=by
  show(a.put (some d) _).tmps.getD d Go.undef=_
  rw[qc hds,if_pos rfl]
 generalize a.put (some d) (.pointer (some ⟨g,n.toNat*w.cells,none⟩))=a1 at eV evd⊢
 obtain⟨cs,mG,evy⟩:=hy X _ _ (eV.aG vo)
 have hle:(n.toNat+1)*w.cells<=c*w.cells:=Nat.mul_le_mul_right _ (by have:=hR.le;omega)
 rw[Nat.add_mul,Nat.one_mul] at hle
 have cH:=T1 (P:=P) hE zX mG (r:=g) (off:=n.toNat*w.cells) (w:=X.w) hR.heap (by rw[hR.size];exact hle)
 rw[wpOps_cons]
 unfold wpOp
 simp only[hS]
 have hw:Region.wanted oS (yielded ops a1.tmps)=true:=by simp [Region.wanted,rC.2]
 rw[if_pos hw]
 refine .inl ?_
 unfold Oper.wp
 generalize kf:(cur.toList.take (n.toNat*w.cells)++cs++cur.toList.drop (n.toNat*w.cells+cs.length)).toArray=new at cH
 have bd:(execOp a1.eval oS).run P X.w= .ok .skip (X.row g new).w:=by
  simp only[execOp,hoS,Sem.run_bind,Instr.storeAt,evd,Instr.sureAddr,Sem.run_pure,Result.andThen_ok,evy,cH]
  rfl
 rw[bd,Oper.upon_skip,rC.1]
 exact hQ _ a1 (alH hF hx hR.ow) (ah0 eV hR.ow)
theorem ahP(hE:ar P E){C:ai}(hC:C.Nat)(hf:∀f,de P C f){X0:az}(hF:∀g pl n,X0.ow g≠ .row pl n)(hx:Ext X0 X)(hr:Rel X s a){id:Nat}{ops:Array Oper}{s':State}(h:kL E (C State) ops.toList s some=some s'){Q:Exit->Act->World->Prop}(hQ:∀Y a',Ext X0 Y->Rel Y s' a'->Q .normal a' Y.w):(Code.region id ops false).wp P Q a X.w:=by
 unfold kL at h
 split at h
 case h_2=>cases h
 rename_i l oA oS hl
 obtain⟨s1,h1,h2⟩:=lF (Rz hC (F:=fun s=>iI E oA oS s some) (G:=some) (K:=fun s=>iI E oA oS s some) (fun _=>rfl) l s) h
 have nI:=zyq hl
 have cw:ops.size=l.length+2:=by rw[<-Array.length_toList,nI];simp
 refine wp_region ?_
 have nL:List.range ops.size=List.range l.length++ [l.length,l.length+1]:=by
  rw[cw,List.range_succ,List.range_succ,List.append_assoc];rfl
 rw[nL]
 have hA:ops[l.length]? =some oA:=by rw[<-Array.getElem?_toList,nI,List.getElem?_append_right (Nat.le_refl _),Nat.sub_self];rfl
 have hS:ops[l.length+1]? =some oS:=by rw[<-Array.getElem?_toList,nI,List.getElem?_append_right (by omega),Nat.add_sub_cancel_left];rfl
 have qL:(List.range l.length).map (fun i=>ops.getD i default)=l:=by
  apply List.ext_getElem?
  intro i
  rw[List.getElem?_map]
  by_cases hi:i<l.length
  ·have h3:ops[i]? =l[i]? :=by rw[<-Array.getElem?_toList,nI,List.getElem?_append_left hi]
   have h4:i<ops.size:=by omega
   rw[List.getElem?_range hi,<-h3]
   simp [h4]
  ·rw[List.getElem?_eq_none (by simpa using hi),List.getElem?_eq_none (by omega)];rfl
 refine OT hE hC hf (List.range l.length) X s a hr (fun i hi=>by have:=List.mem_range.1 hi;omega) (by rw[qL];exact h1) fun Y a' bn bD=> ?_
 exact alD hE hF (hx.trans bn) bD hA hS h2 hQ
end Go.Ref

namespace Go.Ref
open Go
variable {P:Program} {E:Env} {X:az} {s:State} {a:Act}
def Ex.exit':Ex->Exit
 | .normal=> .normal
 | .exit id=> .exit id
 | .ret=> .ret
theorem aio{Q:Exit->Act->World->Prop}{c:Code}(I:Nat->Act->World->Prop)(round:∀n a w,I n a w->∃m,n=m+1/\c.wp P (Exit.then (I m) Q) a w){n:Nat}{a:Act}{w:World}(h₀:I n a w):(Code.loop c).wp P Q a w:=by
 intro b k cs
 have key:∀n a w,I n a w->∃e a' w',Q e a' w'/\Arrives P (lone (b.at a (.code c:: .inLoop c::k)) cs w) b k cs e a' w':=by
  intro n
  induction n with
  |zero=>intro a w h;obtain⟨m,hm,_⟩:=round 0 a w h;cases hm
  |succ n ih=>
   intro a w h
   obtain⟨m,hm,hr⟩:=round (n+1) a w h
   cases hm
   obtain⟨e,a₁,w₁,hq,mf⟩:=hr b (.inLoop c::k) cs
   cases e with
   |normal=>
    obtain⟨e₂,a₂,w₂,hq₂,harr₂⟩:=ih a₁ w₁ hq
    exact⟨e₂,a₂,w₂,hq₂,.of_steps (Steps.trans mf (.one step_inLoop)) harr₂⟩
   |exit id=>exact⟨_,a₁,w₁,hq,.pass (x:= .inLoop c) rfl (fun _ _=> .inl (by simp)) mf⟩
   |goto l=>exact⟨_,a₁,w₁,hq,.pass (x:= .inLoop c) rfl (fun _ _=> .inl (by simp)) mf⟩
   |ret=>exact⟨_,a₁,w₁,hq,.pass (x:= .inLoop c) rfl (fun _ _=> .inl (by simp)) mf⟩
   |panic ch=>exact⟨_,a₁,w₁,hq,.pass (x:= .inLoop c) rfl (fun _ _=> .inl (by simp)) mf⟩
   |outgrown=>exact⟨_,a₁,w₁,hq,.pass (x:= .inLoop c) rfl (fun _ _=> .inl (by simp)) mf⟩
 obtain⟨e,a',w',hq,mf⟩:=key n a w h₀
 exact⟨e,a',w',hq,.of_steps (.one step_loop) mf⟩
theorem Rv{α:Type}(z:α)(l:List Nat):∀(xs:List α) (i j:Nat),(fE z l i xs)[j]? =(xs[j]?).map fun x=>bif l.any (Nat.beq (i+j)) then x else z
 | [],i,j=>by simp [fE]
 |x::r,i,0=>by simp [fE]
 |x::r,i,j+1=>by
  simp only[fE,List.getElem?_cons_succ]
  rw[Rv z l r (i+1) j,show i+1+j=i+(j+1) by omega]
theorem zk1{α:Type}(z:α)(l:List Nat):∀(xs:List α) (i:Nat),(fE z l i xs).length=xs.length
 | [],i=>rfl
 |x::r,i=>by simp [fE,zk1 z l r]
theorem OC{p q:List Nat}:∀{l:List (List Nat)},q∈tP p l->q=p\/q∈l
 | [],h=>by simp [tP] at h;exact .inl h
 |r::l,h=>by
  simp only[tP] at h
  cases hl:ltL r p with
  |false=>rw[hl] at h;simpa using h
  |true=>
   rw[hl] at h
   rcases List.mem_cons.1 h with h|h
   ·exact .inr (by simp [h])
   ·rcases OC h with h|h
    ·exact .inl h
    ·exact .inr (List.mem_cons_of_mem _ h)
theorem zk2{q:List Nat}:∀{l:List (List Nat)},q∈pY l->q∈l
 | [],h=>h
 |p::l,h=>by
  rcases OC h with h|h
  ·simp [h]
  ·exact List.mem_cons_of_mem _ (zk2 h)
theorem alz{v:SV}{id:Nat}{t:Ty}{p:List Nat}(h:v.norm= .ptr id t p):v= .ptr id t p:=by
 cases v<;>simp [SV.norm] at h
 obtain⟨h1,h2,h3⟩:=h
 rw[h1,h2,h3]
theorem aA.norm{pl:List Nat->Place}{sv:SV}{v:Value}(hr:aA X pl sv v):aA X pl sv.norm v:=by
 cases sv with
 |aj t x own=>
  obtain⟨cs,h1,h2,h3⟩:=hr
  exact⟨cs,h1,h2,fun p hp=>h3 p (zk2 hp)⟩
 |_=>exact hr
theorem cM.norm{pl:Nat->List Nat->Place}{l:List SV}{v:Value}(hr:cM X pl l v):cM X pl (l.map SV.norm) v:=by
 match l,hr with
 | [s],hr=>exact aA.norm hr
 | [],hr=>exact hr
 |x::y::r,⟨vs,h1,h2,h3⟩=>
  refine⟨vs,h1,by simpa using h2,fun j s u hs hu=> ?_⟩
  have hs:((x::y::r).map SV.norm)[j]? =some s:=hs
  rw[List.getElem?_map] at hs
  obtain⟨s0,gj,rfl⟩:=Option.map_eq_some_iff.1 hs
  exact aA.norm (h3 j s0 u gj hu)
theorem dA.less{r:Nat}{pl:List Nat->Place}{t:Ty}{x:El t}{own mF:List (List Nat)}(ho:∀p∈mF,p∈own)(h:dA X r pl t x own):dA X r pl t x mF:=by
 unfold dA at h⊢
 split at h
 ·exact h
 ·exact h
 ·exact h
 ·exact⟨h.1,fun hm=>h.2 (ho [] hm)⟩
 ·exact h.elim
 ·obtain⟨cs,T,h1,h2,h3⟩:=h
  exact⟨cs,T,h1,h2,fun p hp=>h3 p (ho p hp)⟩
theorem Rel.norm(hr:Rel X s a):Rel X s.norm a where
 size:=by simpa [State.norm] using hr.size
 hN:=by simpa [State.norm] using hr.hN
 bP:=fun i l v hl hv=>by
  simp only[State.norm,List.getElem?_map] at hl
  obtain⟨l0,h0,rfl⟩:=Option.map_eq_some_iff.1 hl
  exact cM.norm (hr.bP i l0 v h0 hv)
 boxes:=fun id B hB=>by
  simp only[State.norm,List.getElem?_map] at hB
  obtain⟨b0,h0,h1⟩:=Option.map_eq_some_iff.1 hB
  obtain⟨B0,rfl,rfl⟩:=Option.map_eq_some_iff.1 h1
  obtain⟨r,g1,g2,g3⟩:=hr.boxes id B0 h0
  exact⟨r,g1,g2,g3.less fun p hp=>zk2 hp⟩
 live:=fun i l id t p hl hm=>by
  simp only[State.norm,List.getElem?_map] at hl
  obtain⟨l0,h0,rfl⟩:=Option.map_eq_some_iff.1 hl
  obtain⟨v0,hv0,he⟩:=List.mem_map.1 hm
  rw[alz he] at hv0
  obtain⟨B,hB⟩:=hr.live i l0 id t p h0 hv0
  exact⟨B.norm,by simp [State.norm,hB]⟩
 defers:=hr.defers
theorem Rr(hr:Rel X s a){l:List Nat}{R:Type}{K:State->Option R}{z:R}(h:re l s K=some z):∃s',K s'=some z/\Rel X s' a:=by
 unfold re at h
 simp only at h
 cases hb:(fE [.undef] l 0 s.sl).all (fun v=>v.all (SV.roots l)) with
 |false=>rw[hb] at h;cases h
 |true=>
  rw[hb] at h
  refine⟨_,h,Rel.norm ?_⟩
  have jZ:s.bs=s.bs.headD none::s.bs.tail:=by
   have:=hr.hN
   cases hs:s.bs with
   |nil=>rw[hs] at this;simp at this
   |cons b r=>rfl
  have cI:∀(id:Nat) B,(s.bs.headD none::fE none l 0 s.bs.tail)[id]? =some (some B)->s.bs[id]? =some (some B):=by
   intro id B hB
   rw[jZ]
   cases id with
   |zero=>exact hB
   |succ id=>
    simp only[List.getElem?_cons_succ] at hB⊢
    rw[Rv] at hB
    obtain⟨x,hx,he⟩:=Option.map_eq_some_iff.1 hB
    rw[hx]
    cases hl:l.any (Nat.beq (0+id))<;>rw[hl] at he
    ·cases he
    ·rw[<-he];rfl
  refine⟨by rw[zk1];exact hr.size,?_,fun i v x hv hx=> ?_,fun id B hB=>hr.boxes id B (cI id B hB),fun i v id t p hv hm=> ?_,hr.defers⟩
  ·simp only[List.length_cons,zk1,List.length_tail]
   have:=hr.hN
   omega
  ·rw[Rv] at hv
   obtain⟨y,hy,rfl⟩:=Option.map_eq_some_iff.1 hv
   cases hl:l.any (Nat.beq (0+i)) with
   |false=>trivial
   |true=>exact hr.bP i y x hy hx
  ·have LJ:SV.roots l (.ptr id t p)=true:=by
    have:=List.all_eq_true.1 hb v (List.mem_of_getElem? hv)
    exact List.all_eq_true.1 this _ hm
   rw[Rv] at hv
   obtain⟨y,hy,he⟩:=Option.map_eq_some_iff.1 hv
   have hm':SV.ptr id t p∈y:=by
    cases hl:l.any (Nat.beq (0+i)) with
    |false=>rw[hl] at he;subst he;simp at hm
    |true=>rw[hl] at he;subst he;exact hm
   obtain⟨B,hB⟩:=hr.live i y id t p hy hm'
   refine⟨B,?_⟩
   rw[jZ] at hB
   cases id with
   |zero=>exact hB
   |succ id=>
    simp only[List.getElem?_cons_succ] at hB⊢
    rw[Rv,hB]
    have:l.any (Nat.beq id)=true:=LJ
    have h2:l.any (Nat.beq (0+id))=true:=by rw[Nat.zero_add];exact this
    simp [this]
theorem akY{Y:az}{id:Nat}{pl:Nat->List Nat->Place}{l:List SV}{v:Value}(hr:cM Y pl l v):cM Y pl (wH id l) v:=by
 have key:∀(sv:SV) (q:List Nat->Place) (w:Value),aA Y q sv w->aA Y q (match sv with
  | .ptr j _ _=>bif Nat.beq j id then .undef else sv
  |v=>v) w:=by
  intro sv q w h
  cases sv with
  |ptr j t p=>
   simp only
   cases Nat.beq j id with
   |true=>trivial
   |false=>exact h
  |_=>exact h
 match l,hr with
 | [sv],hr=>exact key sv _ _ hr
 | [],hr=>exact hr
 |x::y::r,⟨vs,h1,h2,h3⟩=>
  refine⟨vs,h1,by simpa [wH] using h2,fun j s u hs hu=> ?_⟩
  have hs:(wH id (x::y::r))[j]? =some s:=hs
  unfold wH at hs
  rw[List.getElem?_map] at hs
  obtain⟨s0,gj,rfl⟩:=Option.map_eq_some_iff.1 hs
  exact key s0 _ _ (h3 j s0 u gj hu)
theorem an8{id:Nat}{l:List SV}{j:Nat}{t:Ty}{p:List Nat}(h:SV.ptr j t p∈wH id l):SV.ptr j t p∈l/\j≠id:=by
 unfold wH at h
 obtain⟨s0,gj,he⟩:=List.mem_map.1 h
 cases s0 with
 |ptr j' t' p'=>
  simp only at he
  cases hb:Nat.beq j' id with
  |true=>rw[hb] at he;cases he
  |false=>
   rw[hb] at he
   cases he
   exact⟨gj,fun e=>Nat.ne_of_beq_eq_false hb e⟩
 |_=>simp only at he;cases he
def az.still(X:az)(r n:Nat):az:={X with ow:=fun g=>if g=r then .ro n else X.ow g}
theorem xr{r n id:Nat}(h:X.ow r= .box id){ad:Addr}{v:Value}(hs:X.aE ad v):(X.still r n).aE ad v:=by
 have ct:ad.block≠r:=fun e=>by
  have:=hs.2.2
  rw[e,h] at this
  exact this
 refine⟨hs.1,hs.2.1,?_⟩
 simp only[az.still]
 rw[if_neg ct]
 exact hs.2.2
theorem Nq{r n id:Nat}(h:X.ow r= .box id):Ext X (X.still r n) where
 aE:=fun _ _=>xr h
 size:=Nat.le_refl _
 os:=rfl
 tape:=rfl
 output:=rfl
 β0:=rfl
 still:=fun g _ cH=>by
  have ct:g≠r:=fun e=>by rw[e,h] at cH;exact cH
  exact⟨by simp only[az.still];rw[if_neg ct],rfl⟩
theorem bz.dU{r n id:Nat}(h:X.ow r= .box id){pl:Place}{e:TypeId}{k m:Nat}{v:Value}(ho:bz X pl e k m v):bz (X.still r n) pl e k m v:=by
 rcases ho with ho|⟨g,cap,cur,h1,h2,h3,h4,h5,h6⟩
 ·exact .inl ho
 ·have ct:g≠r:=fun e=>by rw[e,h] at h6;cases h6
  exact .inr ⟨g,cap,cur,h1,h2,h3,h4,h5,by simp only[az.still];rw[if_neg ct];exact h6⟩
theorem bq.dU{r n id:Nat}(h:X.ow r= .box id){pl:List Nat->Place}{t:Ty}{x:El t}{c:List Value}{own:List (List Nat)}(ho:bq X pl t x c own):bq (X.still r n) pl t x c own:=fun p hp=>by
 obtain⟨e,t',xs,v,g0,g1,g2,g3⟩:=ho p hp
 exact⟨e,t',xs,v,g0,g1,g2,g3.dU h⟩
theorem aA.dU{r n id:Nat}(h:X.ow r= .box id){pl:List Nat->Place}{sv:SV}{v:Value}(hr:aA X pl sv v):aA (X.still r n) pl sv v:=by
 cases sv with
 |aj t x own=>
  obtain⟨c,h1,h2,h3⟩:=hr
  exact⟨c,h1.av (fun _ _=>xr h),h2,h3.dU h⟩
 |view t x=>
  obtain⟨ad,c,h1,h2,h3,h4⟩:=hr
  exact⟨ad,c,h1,h2,h3.av (fun _ _=>xr h),fun i u hi=>xr h (h4 i u hi)⟩
 |cap f t x u y=>exact uV (fun _ _=>xr h) hr
 |_=>exact hr
theorem zjg(l:List Nat):∀(xs:List (Option bB)) (i j:Nat),(iz l i xs)[j]? =(xs[j]?).map fun b=>bif l.any (Nat.beq (i+j)) then b.map (fun B=>{B with own:=[]}) else b
 | [],i,j=>by simp [iz]
 |x::r,i,0=>by simp [iz]
 |x::r,i,j+1=>by
  simp only[iz,List.getElem?_cons_succ]
  rw[zjg l r (i+1) j,show i+1+j=i+(j+1) by omega]
theorem MO(l:List Nat):∀(xs:List (Option bB)) (i:Nat),(iz l i xs).length=xs.length
 | [],i=>rfl
 |x::r,i=>by simp [iz,MO l r]
theorem Rel.drop(hr:Rel X s a)(l:List Nat):Rel X (s.drop l) a where
 size:=hr.size
 hN:=by simp only[State.drop,MO];exact hr.hN
 bP:=hr.bP
 boxes:=fun id B hB=>by
  simp only[State.drop,zjg] at hB
  obtain⟨b0,h0,h1⟩:=Option.map_eq_some_iff.1 hB
  cases hl:l.any (Nat.beq (0+id)) with
  |false=>rw[hl] at h1;simp only[cond_false] at h1;subst h1;exact hr.boxes id B h0
  |true=>
   rw[hl] at h1
   simp only[cond_true] at h1
   obtain⟨B0,rfl,rfl⟩:=Option.map_eq_some_iff.1 h1
   obtain⟨r,g1,g2,g3⟩:=hr.boxes id B0 h0
   exact⟨r,g1,g2,g3.less fun p hp=>by cases hp⟩
 live:=fun i v id t p hv hm=>by
  obtain⟨B,hB⟩:=hr.live i v id t p hv hm
  simp only[State.drop,zjg,hB,Option.map_some]
  cases l.any (Nat.beq (0+id))<;>exact⟨_,rfl⟩
 defers:=hr.defers
theorem alQ(hr:Rel X s a){r:Nat}{R:Type}{K:State->Option R}{z:R}(h:qT E r s K=some z):∃Y s',Y.w=X.w/\Ext X Y/\K s'=some z/\Rel Y s' a:=by
 unfold qT at h
 split at h
 ·exact⟨X,s,rfl,Ext.refl X,h,hr⟩
 rename_i d T hfz
 split at h
 case h_2=>cases h
 rename_i id n ta tb e t jL hT
 split at h
 case isFalse=>cases h
 rename_i heq
 have:=Ty.aR heq
 subst this
 split at h
 case h_2=>cases h
 rename_i B hB
 split at h
 case isFalse=>cases h
 rename_i dQ
 obtain⟨hb,rr,h1,how,cs,T',aP,dt,eC⟩:=G8 hr hB dQ
 generalize(Ty.cast dQ B.x:List (El ta))=xs at*
 cases hn:Nat.beq n (List.length xs) with
 |false=>rw[hn] at h;cases h
 |true=>
  rw[hn] at h
  have hn:=Nat.eq_of_beq_eq_true hn
  have hd:d<s.sl.length:=by
   rcases Nat.lt_or_ge d s.sl.length with h1|h1
   ·exact h1
   ·simp [State.slot,List.getElem?_eq_none h1] at jL
  have mu:=hr.slot d
  rw[jL] at mu
  obtain⟨r0,hβ,cap,hv,mh⟩:=(show aA X (.c d 0) (.ptr id (.aZ (.fR n) ta tb) []) _ from mu)
  rw[h1] at hβ
  cases hβ
  have aq:id<s.bs.length:=(List.getElem?_eq_some_iff.1 hb).1
  refine⟨X.still rr (xs.length*ta.cells),_,rfl,Nq how,h,?_,?_,fun i l v hl hx=> ?_,fun cc B' fM=> ?_,fun i l j t p hl hm=> ?_,hr.defers⟩
  ·simpa using hr.size
  ·simpa using hr.hN
  ·replace hl:((s.sl.map (wH id)).set d [.aj (.sl e ta) xs []])[i]? =some l:=hl
   rw[List.getElem?_set] at hl
   split at hl
   ·rename_i wP
    subst wP
    rw[if_pos (by simpa using hd)] at hl
    cases hl
    have LO:a.tmps.getD d Go.undef=v:=by
     rw[Array.getD_eq_getD_getElem?,hx];rfl
    rw[LO] at hv
    refine⟨[v],?_,rfl,mO⟩
    rw[hv,hn]
    refine aW.xi rfl (by omega) (fun j y hj=>⟨⟨rr,0,none⟩,_,rfl,rfl,(eC j y hj).av (fun _ _=>xr how),fun i u hi=> ?_⟩)
    have wR:=(List.getElem?_eq_some_iff.1 hj).1
    have hle:(j+1)*ta.cells<=xs.length*ta.cells:=Nat.mul_le_mul_right _ wR
    rw[Nat.add_mul,Nat.one_mul] at hle
    rw[List.getElem?_take] at hi
    split at hi
    case isFalse=>cases hi
    rename_i TH
    rw[List.getElem?_drop] at hi
    refine⟨AU rfl _,?_,?_⟩
    ·rw[j8,Nat.zero_add]
     show X.w.cell? _=_
     simp only[World.cell?,aP]
     simpa using hi
    ·rw[j8,Nat.zero_add]
     show Ow.used (if rr=rr then .ro (xs.length*ta.cells) else X.ow rr) _
     rw[if_pos rfl]
     show j*ta.cells+i<_
     omega
   ·rw[List.getElem?_map] at hl
    obtain⟨l0,h0,rfl⟩:=Option.map_eq_some_iff.1 hl
    exact akY ((hr.bP i l0 v h0 hx).kg fun j sv u hm j5=>j5.dU how)
  ·replace fM:(s.bs.set id none)[cc]? =some (some B'):=fM
   rw[List.getElem?_set] at fM
   split at fM
   ·rename_i Lm
    cases fM
   ·rename_i Lm
    obtain⟨r',g1,g2,g3⟩:=hr.boxes cc B' fM
    have ct:r'≠rr:=fun e2=>by rw[e2,how] at g2;cases g2;exact Lm rfl
    exact⟨r',g1,by simp only[az.still];rw[if_neg ct];exact g2,g3.move (fun _ _=>xr how) rfl (fun cs h5=>h5.dU how) fun _ g o ho hw=>⟨ho,by simp only[az.still];rw[if_neg (fun e3=>by rw[e3,how] at hw;cases hw)];exact hw⟩⟩
  ·replace hl:((s.sl.map (wH id)).set d [.aj (.sl e ta) xs []])[i]? =some l:=hl
   rw[List.getElem?_set] at hl
   split at hl
   ·rw[if_pos (by simpa using hd)] at hl
    cases hl
    simp at hm
   ·rw[List.getElem?_map] at hl
    obtain⟨l0,h0,rfl⟩:=Option.map_eq_some_iff.1 hl
    obtain⟨hm,ct⟩:=an8 hm
    obtain⟨B2,dk⟩:=hr.live i l0 j t p h0 hm
    exact⟨B2,by show(s.bs.set id none)[j]? =_;rw[List.getElem?_set,if_neg (fun e=>ct e.symm)];exact dk⟩
theorem NB(hr:Rel X s a){id rr:Nat}{B:bB}(hb:s.bs[id]? =some (some B))(hs:B.t.bM=false)(h1:X.β id=some rr)(how:X.ow rr= .box id){cs:Array Value}{T:TypeId}(aP:X.w.heap[rr]? =some (.cells cs T (0,0)))(aT:aW X B.t B.x cs.toList){pl:List Nat->Place}{sv:SV}{v:Value}(h:aA X pl sv v):aA (X.still rr cs.size) pl (xX id B sv) v:=by
 have dB:=h.dU (n:=cs.size) how
 cases sv with
 |ptr j t p=>
  unfold xX
  simp only
  cases hj:Nat.beq j id with
  |false=>exact dB
  |true=>
   have:=Nat.eq_of_beq_eq_true hj
   subst this
   simp only[cond_true]
   split
   case isFalse=>trivial
   rename_i heq
   have:=Ty.aR heq
   subst this
   split
   case h_2=>trivial
   rename_i u y cI
   obtain⟨r0,hβ,hv⟩:=h
   rw[h1] at hβ
   cases hβ
   obtain⟨hv,eE⟩:=(p8 hs).1 hv
   obtain⟨k1,k2,k3⟩:=SH aT eE cI
   refine⟨_,_,hv,rfl,k3.av (fun _ _=>xr how),fun i w hi=>⟨AU rfl _,?_,?_⟩⟩
   ·exact UB aP hi
   ·rw[j8]
    show Ow.used (if rr=rr then .ro cs.size else X.ow rr) _
    rw[if_pos rfl]
    rw[List.getElem?_take] at hi
    split at hi
    case isFalse=>cases hi
    rw[List.getElem?_drop] at hi
    have:=(List.getElem?_eq_some_iff.1 hi).1
    show _<cs.size
    simpa using this
 |_=>exact dB
theorem aij(hr:Rel X s a){id rr:Nat}{B:bB}(hb:s.bs[id]? =some (some B))(hs:B.t.bM=false)(h1:X.β id=some rr)(how:X.ow rr= .box id){cs:Array Value}{T:TypeId}(aP:X.w.heap[rr]? =some (.cells cs T (0,0)))(aT:aW X B.t B.x cs.toList){pl:Nat->List Nat->Place}{l:List SV}{v:Value}(h:cM X pl l v):cM (X.still rr cs.size) pl (l.map (xX id B)) v:=by
 match l,h with
 | [sv],h=>exact NB hr hb hs h1 how aP aT h
 | [],⟨vs,g1,g2,g3⟩=>exact⟨vs,g1,g2,fun j sv u ln=>by simp at ln⟩
 |x::y::r,⟨vs,g1,g2,g3⟩=>
  refine⟨vs,g1,by simpa using g2,fun j sv u ln hu=> ?_⟩
  have ln:((x::y::r).map (xX id B))[j]? =some sv:=ln
  rw[List.getElem?_map] at ln
  obtain⟨s0,gj,rfl⟩:=Option.map_eq_some_iff.1 ln
  exact NB hr hb hs h1 how aP aT (g3 j s0 u gj hu)
theorem alV{id:Nat}{B:bB}{l:List SV}{j:Nat}{t:Ty}{p:List Nat}(h:SV.ptr j t p∈l.map (xX id B)):SV.ptr j t p∈l/\j≠id:=by
 obtain⟨s0,gj,he⟩:=List.mem_map.1 h
 unfold xX at he
 cases s0 with
 |ptr j' t' p'=>
  simp only at he
  cases hb:Nat.beq j' id with
  |true=>
   rw[hb] at he
   simp only[cond_true] at he
   split at he
   ·split at he<;>cases he
   ·cases he
  |false=>
   rw[hb] at he
   cases he
   exact⟨gj,fun e=>Nat.ne_of_beq_eq_false hb e⟩
 |_=>simp only at he;cases he
theorem adD(hr:Rel X s a){id:Nat}{R:Type}{K:State->Option R}{z:R}(h:Yd id s K=some z):∃Y s',Y.w=X.w/\Ext X Y/\K s'=some z/\Rel Y s' a:=by
 unfold Yd at h
 split at h
 case h_2=>cases h
 rename_i B hB
 split at h
 case isTrue=>cases h
 rename_i hs
 have hs:B.t.bM=false:=by simpa using hs
 have hb:=rG hB
 obtain⟨rr,h1,wL⟩:=hr.boxes id B hb
 obtain⟨cs,T,aP,aT,how,_⟩:=wL.cells hs
 refine⟨X.still rr cs.size,_,rfl,Nq how,h,by simpa using hr.size,by simpa using hr.hN,fun i l v hl hx=> ?_,fun cc B' fM=> ?_,fun i l j t p hl hm=> ?_,hr.defers⟩
 ·replace hl:(s.sl.map fun l=>l.map (xX id B))[i]? =some l:=hl
  rw[List.getElem?_map] at hl
  obtain⟨l0,h0,rfl⟩:=Option.map_eq_some_iff.1 hl
  exact aij hr hb hs h1 how aP aT (hr.bP i l0 v h0 hx)
 ·replace fM:(s.bs.set id none)[cc]? =some (some B'):=fM
  rw[List.getElem?_set] at fM
  split at fM
  ·split at fM<;>cases fM
  ·rename_i Lm
   obtain⟨r',g1,g2,g3⟩:=hr.boxes cc B' fM
   have ct:r'≠rr:=fun e2=>by rw[e2,how] at g2;cases g2;exact Lm rfl
   exact⟨r',g1,by simp only[az.still];rw[if_neg ct];exact g2,g3.move (fun _ _=>xr how) rfl (fun cs h5=>h5.dU how) fun _ g o ho hw=>⟨ho,by simp only[az.still];rw[if_neg (fun e3=>by rw[e3,how] at hw;cases hw)];exact hw⟩⟩
 ·replace hl:(s.sl.map fun l=>l.map (xX id B))[i]? =some l:=hl
  rw[List.getElem?_map] at hl
  obtain⟨l0,h0,rfl⟩:=Option.map_eq_some_iff.1 hl
  obtain⟨hm,ct⟩:=alV hm
  obtain⟨B2,dk⟩:=hr.live i l0 j t p h0 hm
  exact⟨B2,by show(s.bs.set id none)[j]? =_;rw[List.getElem?_set,if_neg (fun e=>ct e.symm)];exact dk⟩
theorem zr3{R:Type}{K:State->Option R}{z:R}:∀(l:List Nat) (X:az) (s:State),Rel X s a->Iy l s K=some z->∃Y s',Y.w=X.w/\Ext X Y/\K s'=some z/\Rel Y s' a
 | [],X,s,hr,h=>⟨X,s,rfl,Ext.refl X,h,hr⟩
 |id::r,X,s,hr,h=>by
  obtain⟨Y,s1,h1,h2,h3,h4⟩:=adD hr h
  obtain⟨Z,s2,k1,k2,k3,k4⟩:=zr3 r Y s1 h4 h3
  exact⟨Z,s2,k1.trans h1,h2.trans k2,k3,k4⟩
def Fr(E:Env)(X0:az):Prop:=E.sp≠none->∀g pl n,X0.ow g≠ .row pl n
def z183(P:Program)(E:Env)(C:ai)(k:Nat)(c:Code):Prop:=
 ∀(X0 X:az) (s:State) (a:Act) (e:Ex) (s':State),Fr E X0->Ext X0 X->Rel X s a->ev E (C (Ex×State)) k c s (fun e s=>some (e,s))=some (e,s')->
  ∀(Q:Exit->Act->World->Prop),(∀Y a',Ext X0 Y->Rel Y s' a'->Q e.exit' a' Y.w)->c.wp P Q a X.w
theorem als(hr:Rel X s a){k r:Nat}{R:Type}{K:State->Option R}{z:R}(h:mB E k r s K=some z):∃s',K s'=some z/\Rel X s' a:=by
 unfold mB at h
 split at h
 ·exact⟨s,h,hr⟩
 ·obtain⟨s',h1,h2⟩:=Rr hr h
  refine⟨s',?_,h2⟩
  unfold aY at h1
  split at h1
  ·cases h1
  ·exact h1
theorem ahC{C:ai}(hC:C.Nat){k:Nat}{b:Code}(hb:z183 P E C k b){l lx:List Nat}{Q:Exit->Act->World->Prop}{e':Ex}{s':State}{X0:az}(hF:Fr E X0)(hQ:∀Y a',Ext X0 Y->Rel Y s' a'->Q e'.exit' a' Y.w):
 ∀(n:Nat) (a:Act) (w:World),(∃X s,X.w=w/\Ext X0 X/\Rel X s a/\aw (ev E (C (Ex×State)) k b) l lx n s (fun e s=>some (e,s))=some (e',s'))->
  ∃m,n=m+1/\b.wp P (Exit.then (fun a w=>∃X s,X.w=w/\Ext X0 X/\Rel X s a/\aw (ev E (C (Ex×State)) k b) l lx m s (fun e s=>some (e,s))=some (e',s')) Q) a w:=by
 rintro n a w ⟨X,s,rfl,bn,hr,h⟩
 cases n with
 |zero=>cases h
 |succ m=>
  refine⟨m,rfl,?_⟩
  simp only[aw] at h
  obtain⟨⟨e1,s2⟩,h1,h2⟩:=lF (vj hC b _ (fun e s=>some (e,s)) (K:=fun z=>match z.1 with
   | .normal=>re l z.2 fun s=>aw (ev E (C (Ex×State)) k b) l lx m s (fun e s=>some (e,s))
   |e=>re lx z.2 fun s=>some (e,s)) (fun e s=>by cases e<;>rfl) s) h
  refine hb X0 X s a e1 s2 hF bn hr h1 _ fun Y a' bW bD=> ?_
  cases e1 with
  |normal=>
   obtain⟨s3,h3,B9⟩:=Rr bD h2
   exact⟨Y,s3,rfl,bW,B9,h3⟩
  |exit id=>
   obtain⟨s3,h3,B9⟩:=Rr bD h2
   cases h3
   exact hQ Y a' bW B9
  |ret=>
   obtain⟨s3,h3,B9⟩:=Rr bD h2
   cases h3
   exact hQ Y a' bW B9
theorem zk9(hE:ar P E)(hm:P.follows .mixedOrders=true){C:ai}(hC:C.Nat)(hf:∀f,de P C f){id:Nat}{ops:Array Oper}{d:Bool}{X00 X0:az}{s0:State}{a:Act}{e:Ex}{s':State}(hx:Ext X00 X0)(hr0:Rel X0 s0 a)(h0:IB E (C (Ex×State)) id ops d s0 ((fun e s=>some (e,s)) Ex.normal)=some (e,s')){Q:Exit->Act->World->Prop}(hQ0:∀Y a',Ext X00 Y->Rel Y s' a'->Q e.exit' a' Y.w):(Code.region id ops d).wp P Q a X0.w:=by
 unfold IB at h0
 obtain⟨X1,s1,TQ,Ac,h01,eV⟩:=alQ hr0 h0
 obtain⟨X,s,uL,bW,h,hr⟩:=zr3 _ X1 s1 eV h01
 have hw:X.w=X0.w:=uL.trans TQ
 have Ab:Ext X0 X:=Ac.trans bW
 clear h01 eV TQ uL Ac bW
 have hQ:∀Y a',Ext X Y->Rel Y s' a'->Q e.exit' a' Y.w:=fun Y a' bn bD=>hQ0 Y a' (hx.trans (Ab.trans bn)) bD
 rw[<-hw]
 clear h0 hr0 hQ0 Ab hw
 cases d with
 |true=>
  simp only[cond_true] at h
  obtain⟨s1,h1,h2⟩:=lF (zew hC (F:=fun s=>some (Ex.normal,s)) (G:=some) (K:=fun s=>some (Ex.normal,s)) (fun _=>rfl) ops.toList 0 s []) h
  cases h2
  exact ahn hE hm hC hf hr h1 hQ
 |false=>
  simp only[cond_false] at h
  obtain⟨s1,h1,h2⟩:=lF (Rz hC (F:=fun s=>some (Ex.normal,s)) (G:=some) (K:=fun s=>some (Ex.normal,s)) (fun _=>rfl) ops.toList s) h
  cases h2
  refine wp_region (OU hE hC hf (List.range ops.size) X s a hr (fun i hi=>List.mem_range.1 hi) ?_ hQ)
  have:(List.range ops.size).map (fun i=>ops.getD i default)=ops.toList:=by
   apply List.ext_getElem?
   intro i
   rw[List.getElem?_map]
   by_cases hi:i<ops.size
   ·simp [hi]
   ·simp [hi]
  rw[this];exact h1
theorem Gp(hE:ar P E)(hm:P.follows .mixedOrders=true){C:ai}(hC:C.Nat)(hf:∀f,de P C f)(k:Nat):∀c:Code,z183 P E C k c
 | .skip=>fun X0 X s a e s' hF hx hr h Q hQ=>by
   simp only[ev,Option.some.injEq,Prod.mk.injEq] at h
   obtain⟨rfl,rfl⟩:=h
   exact wp_skip (hQ X a hx hr)
 | .region id ops d=>fun X0 X s a e s' hF hx hr h Q hQ=>by
   simp only[ev] at h
   split at h
   ·rename_i j q lK
    cases hj:Nat.beq id j with
    |true=>
     rw[hj,cond_true] at h
     cases d with
     |true=>cases h
     |false=>
      cases hq:Nat.beq q.2.2 0 with
      |true=>
       simp only[hq,cond_true] at h
       obtain⟨s1,h1,h2⟩:=lF (ON hC (F:=fun s=>some (Ex.normal,s)) (G:=some) (K:=fun s=>some (Ex.normal,s)) (fun _=>rfl)) h
       cases h2
       exact ahP hE hC hf (hF (by rw[lK];exact fun e=>by cases e)) hx hr h1 hQ
      |false=>
      simp only[hq,cond_false] at h
      obtain⟨s1,h1,h2⟩:=lF (OV (F:=fun s=>some (Ex.normal,s)) (G:=some) (K:=fun s=>some (Ex.normal,s)) (fun _=>rfl)) h
      cases h2
      exact ah9 hE (hF (by rw[lK];exact fun e=>by cases e)) hx hr h1 hQ
    |false=>
     rw[hj,cond_false] at h
     exact zk9 hE hm hC hf hx hr h hQ
   ·exact zk9 hE hm hC hf hx hr h hQ
 | .seq x y=>fun X0 X s a e s' hF hx hr h Q hQ=>by
   simp only[ev] at h
   obtain⟨⟨e1,s1⟩,h1,h2⟩:=lF (vj hC x _ (fun e s=>some (e,s)) (K:=fun z=>match z.1 with
    | .normal=>mB E k (uq y) z.2 fun s=>ev E (C (Ex×State)) k y s (fun e s=>some (e,s))
    |e=>some (e,z.2)) (fun e s=>by cases e<;>rfl) s) h
   refine wp_seq (Gp hE hm hC hf k x X0 X s a e1 s1 hF hx hr h1 _ fun Y a' bn bD=> ?_)
   cases e1 with
   |normal=>
    obtain⟨s2,h2,bD⟩:=als bD h2
    exact Gp hE hm hC hf k y X0 Y s2 a' e s' hF bn bD h2 Q hQ
   |exit id=>cases h2;exact hQ Y a' bn bD
   |ret=>cases h2;exact hQ Y a' bn bD
 | .cond c x y=>fun X0 X s a e s' hF hx hr h Q hQ=>by
   simp only[ev] at h
   have hc:=hr.aG c
   split at h
   case h_2=>cases h
   rename_i p w hs
   rw[hs] at hc
   have hv:=Ri hc
   have eV:Rel X (s.aQ (uf c) (bl p)) a:=by
    cases c with
    |tmp i=>
     have jL:s.slot i=[.aj .bool p w]:=by
      have hh:one (s.slot i)= .aj .bool p w:=hs
      match hm:s.slot i,hh with
      | [sv],hh=>have BZ:sv= .aj .bool p w:=hh;rw[BZ]
      | [],hh=>cases hh
      |_::_::_,hh=>cases hh
     exact(hr.know jL).1
    |_=>exact hr
   refine wp_cond_split hv (fun hp=> ?_) (fun hp=> ?_)
   ·subst hp
    exact Gp hE hm hC hf k x X0 X _ a e s' hF hx eV h Q hQ
   ·subst hp
    exact Gp hE hm hC hf k y X0 X _ a e s' hF hx eV h Q hQ
 | .block id b=>fun X0 X s a e s' hF hx hr h Q hQ=>by
   simp only[ev] at h
   obtain⟨⟨e1,s1⟩,h1,h2⟩:=lF (vj hC b _ (fun e s=>some (e,s)) (K:=fun z=>match z.1 with
    | .exit j=>bif Nat.beq j id then some (.normal,z.2) else some (.exit j,z.2)
    |e=>some (e,z.2)) (fun e s=>by cases e<;>rfl) s) h
   refine wp_block (Gp hE hm hC hf k b X0 X s a e1 s1 hF hx hr h1 _ fun Y a' bn bD=> ?_)
   cases e1 with
   |normal=>cases h2;exact hQ Y a' bn bD
   |ret=>cases h2;exact hQ Y a' bn bD
   |exit j=>
    simp only at h2
    show(if j=id then Q .normal a' Y.w else Q (.exit j) a' Y.w)
    cases hj:Nat.beq j id with
    |true=>
     rw[hj] at h2;cases h2
     rw[if_pos (Nat.eq_of_beq_eq_true hj)]
     exact hQ Y a' bn bD
    |false=>
     rw[hj] at h2;cases h2
     rw[if_neg (Nat.ne_of_beq_eq_false hj)]
     exact hQ Y a' bn bD
 | .loop b=>fun X0 X s a e s' hF hx hr h Q hQ=>by
   simp only[ev] at h
   obtain⟨s1,h,eV⟩:=Rr (hr.drop _) h
   exact aio _ (ahC hC (Gp hE hm hC hf k b) hF (Q:=Q) hQ) ⟨X,s1,rfl,hx,eV,h⟩
 | .exit id=>fun X0 X s a e s' hF hx hr h Q hQ=>by
   simp only[ev,Option.some.injEq,Prod.mk.injEq] at h
   obtain⟨rfl,rfl⟩:=h
   exact wp_exit (hQ X a hx hr)
 | .ret=>fun X0 X s a e s' hF hx hr h Q hQ=>by
   simp only[ev,Option.some.injEq,Prod.mk.injEq] at h
   obtain⟨rfl,rfl⟩:=h
   exact wp_ret (hQ X a hx hr)
 | .rangeFunc .. =>fun X0 X s a e s' hF hx hr h Q hQ=>by simp only[ev] at h;cases h
 | .scope _=>fun X0 X s a e s' hF hx hr h Q hQ=>by simp only[ev] at h;cases h
 | .label _=>fun X0 X s a e s' hF hx hr h Q hQ=>by simp only[ev] at h;cases h
 | .goto _=>fun X0 X s a e s' hF hx hr h Q hQ=>by simp only[ev] at h;cases h
 | .refuse _=>fun X0 X s a e s' hF hx hr h Q hQ=>by simp only[ev] at h;cases h
end Go.Ref

namespace Go.Ref
open Go
variable {P:Program} {E:Env} {X:az} {s:State} {a:Act}
def ej(X Y:az):Prop:=Y.w=X.w/\∀g j p n,X.ow g= .row (.r j p) n->Y.ow g= .row (.r j p) n
theorem ej.refl(X:az):ej X X:=⟨rfl,fun _ _ _ _ h=>h⟩
theorem ej.trans{X Y Z:az}(h:ej X Y)(k:ej Y Z):ej X Z:=⟨k.1.trans h.1,fun g j p n e=>k.2 g j p n (h.2 g j p n e)⟩
theorem aA.AE{X Y:az}(h:ej X Y)(hx:Ext X Y)(hβ:Y.β=X.β){j:Nat}{sv:SV}{v:Value}(hr:aA X (.r j) sv v):aA Y (.r j) sv v:=by
 cases sv with
 |undef=>trivial
 |skip=>exact hr
 |cG=>exact hr
 |gW=>exact hr
 |over=>exact hr
 |aj t x own=>
  obtain⟨cs,h1,h2,h3⟩:=hr
  refine⟨cs,h1.mono hx,h2,fun p hp=> ?_⟩
  obtain⟨e,t',xs,v,g0,g1,g2,g3⟩:=h3 p hp
  refine⟨e,t',xs,v,g0,g1,g2,?_⟩
  rcases g3 with ho|⟨g,cap,cur,k1,k2,k3,k4,k5,k6⟩
  ·exact .inl ho
  ·exact .inr ⟨g,cap,cur,k1,by rw[h.1];exact k2,k3,k4,k5,h.2 _ _ _ _ k6⟩
 |ptr id t p=>obtain⟨r,h1,h2⟩:=hr;exact⟨r,by rw[hβ];exact h1,h2⟩
 |view t x=>
  obtain⟨ad,cs,h1,h2,h3,h4⟩:=hr
  exact⟨ad,cs,h1,h2,h3.mono hx,fun i u hi=>hx.aE _ _ (h4 i u hi)⟩
 |cap f t x u y=>exact uV hx.aE hr
theorem aeH{X:az}{i j:Nat}{q:List Nat->Place}:ej X (X.turn i j q):=⟨rfl,fun g j p n h=>by simp only[az.turn,h]⟩
theorem adM{X:az}{id:Nat}{p:List Nat}{q:List Nat->Place}:ej X (X.fX id p q):=⟨rfl,fun g j p n h=>by simp only[az.fX,h]⟩
theorem E9(hE:ar P E):∀(rs:List ResultVar) (X:az) (s s':State) (l:List SV) (j0:Nat),Rel X s a->fW E s rs=some (l,s')->
 ∃Y vs,Y.w=X.w/\Ext X Y/\ej X Y/\Y.β=X.β/\Rel Y s' a/\vs.length=l.length/\(∀(j:Nat) sv v,l[j]? =some sv->vs[j]? =some v->aA Y (.r (j0+j)) sv v)/\
  (rs.mapM (m:=Sem) fun x=>match x with
    | .tmp t=>pure (a.tmps.getD t Go.undef)
    | .cell ad t=>do loadVar t (<-asAddr (a.tmps.getD ad Go.undef))).run P X.w= .ok vs X.w
 | [],X,s,s',l,j0,hr,h=>by
   simp only[fW,Option.some.injEq,Prod.mk.injEq] at h
   obtain⟨rfl,rfl⟩:=h
   exact⟨X,[],rfl,Ext.refl X,ej.refl X,rfl,hr,rfl,fun j sv v hl=>by simp at hl,by simp⟩
 | .tmp t::r,X,s,s',l,j0,hr,h=>by
   simp only[fW] at h
   split at h
   case h_2=>cases h
   rename_i l1 s1 h1
   cases h
   have key:∃Y,Y.w=X.w/\Ext X Y/\ej X Y/\Y.β=X.β/\Rel Y (s.close [(t,0)]) a/\aA Y (.r j0) (one (s.slot t)) (a.tmps.getD t Go.undef):=by
    have cr:=hr.aG (.tmp t)
    cases hs:one (s.slot t) with
    |aj ty x w=>
     have cr:aA X (.c t 0) (one (s.slot t)) (a.tmps.getD t Go.undef):=cr
     rw[hs] at cr
     obtain⟨cs,g1,g2,g3⟩:=cr
     have hT:dE (s.close [(t,0)]) X (X.turn t 0 (.r j0)):=Nv fun p=>cL.close
     exact⟨X.turn t 0 (.r j0),rfl,hT.ext,aeH,rfl,(hr.close _).mod hT.mod,cs,g1.av (fun _ _=>hT.aE.1),g2,g3.ly⟩
    |_=>
     refine⟨X,rfl,Ext.refl X,ej.refl X,rfl,hr.close _,?_⟩
     have cr:aA X (.c t 0) (one (s.slot t)) (a.tmps.getD t Go.undef):=cr
     rw[hs] at cr
     exact cr
   obtain⟨Y,hw,bn,cH,hβ,bD,aT⟩:=key
   obtain⟨Z,vs,uL,bW,tO,hβ2,dy,hlen,mo,bd⟩:=E9 hE r Y _ s' l1 (j0+1) bD h1
   refine⟨Z,a.tmps.getD t Go.undef::vs,uL.trans hw,bn.trans bW,cH.trans tO,hβ2.trans hβ,dy,by simp [hlen],fun j sv v hl hv=> ?_,?_⟩
   ·cases j with
    |zero=>
     simp only[List.getElem?_cons_zero,Option.some.injEq] at hl hv
     subst hl hv
     exact aT.AE tO bW hβ2
    |succ j=>
     simp only[List.getElem?_cons_succ] at hl hv
     rw[show j0+(j+1)=j0+1+j by omega]
     exact mo j sv v hl hv
   ·rw[hw] at bd
    simp only[List.mapM_cons,Sem.run_bind,Sem.run_pure,Result.andThen_ok,bd]
 | .cell p T::r,X,s,s',l,j0,hr,h=>by
   simp only[fW] at h
   split at h
   case h_2=>cases h
   rename_i id tt t jL hT
   split at h
   case h_2=>cases h
   rename_i B hB
   split at h
   case isFalse=>cases h
   rename_i heq
   rw[Bool.and_eq_true] at heq
   have fk:tt.bM=false:=by simpa using heq.2
   have hte:=Ty.aR heq.1
   have hnB:B.t.bM=false:=hte▸hE.ij hT
   split at h
   case h_2=>cases h
   rename_i l1 s1 h1
   cases h
   have hb:=rG hB
   obtain⟨r0,hβ,wL⟩:=hr.boxes id B hb
   obtain⟨cs,T',aP,aT,how,bU⟩:=wL.cells hnB
   have mu:=hr.slot p
   rw[jL] at mu
   obtain⟨r1,hβ1,hvp⟩:aA X (.c p 0) (.ptr id tt []) (a.tmps.getD p Go.undef):=mu
   obtain⟨hv,_⟩:=(p8 fk).1 hvp
   rw[hβ] at hβ1
   cases hβ1
   have eV:Rel X (s.aL (some (id,{B with own:=[]}))) a:=hr.nQ hb hβ ⟨how,dA.of hnB aP aT mO⟩
   have HN:∀q,¬cL (s.aL (some (id,{B with own:=[]}))) (.b id ([]++q)):=by
    rintro q ⟨B2,dk,hp⟩
    rw[zes hb] at dk
    cases dk
    cases hp
   have lI:=zz8 (X:=X) (q:= .r j0) HN
   have LI:aA (X.fX id [] (.r j0)) (.r j0) (.aj B.t B.x B.own) (dJ B.t cs.toList):=by
    refine⟨cs.toList,aT.av (fun _ _=>lI.aE.1),rfl,fun q hq=> ?_⟩
    obtain⟨e,t',xs,v,g0,g1,g2,g3⟩:=bU q hq
    exact⟨e,t',xs,v,g0,g1,g2,bz.p6 (p:=[]) g3⟩
   obtain⟨Z,vs,uL,bW,tO,hβ2,dy,hlen,mo,bd⟩:=E9 hE r (X.fX id [] (.r j0)) _ s' l1 (j0+1) (eV.mod lI.mod) h1
   refine⟨Z,dJ B.t cs.toList::vs,uL,lI.ext.trans bW,adM.trans tO,hβ2,dy,by simp [hlen],fun j sv v hl hv=> ?_,?_⟩
   ·cases j with
    |zero=>
     simp only[List.getElem?_cons_zero,Option.some.injEq] at hl hv
     subst hl hv
     exact LI.AE tO bW hβ2
    |succ j=>
     simp only[List.getElem?_cons_succ] at hl hv
     rw[show j0+(j+1)=j0+1+j by omega]
     exact mo j sv v hl hv
   ·have hl:=HT (P:=P) hE (hte▸hT:E.ty T=some B.t) aT (ad:=⟨r0,0,none⟩) (w:=X.w) (fun i v hi=>by
     rw[j8,Nat.zero_add]
     simp only[World.cell?,aP]
     simpa using hi)
    have hw3:(X.fX id [] (.r j0)).w=X.w:=rfl
    rw[hw3] at bd
    have mV:a.tmps.getD p Go.undef= .pointer (some ⟨r0,0,none⟩):=by simpa [Ty.off] using hv
    have ha:(asAddr (.pointer (some ⟨r0,0,none⟩))).run P X.w= .ok ⟨r0,0,none⟩ X.w:=by simp [asAddr]
    simp only[List.mapM_cons,Sem.run_bind,Sem.run_pure,Result.andThen_ok,bd,mV,ha,hl]
def az.zero(X:az)(id:Nat):az:=
 {X with ow:=fun g=>match X.ow g with
  | .box cc=>if cc=id then .box 0 else .box cc
  | .row (.b cc p) n=>if cc=id then .row (.b 0 p) n else .row (.b cc p) n
  |w=>w}
theorem H3{id:Nat}{ad:Addr}{v:Value}(h:X.aE ad v):(X.zero id).aE ad v:=by
 refine⟨h.1,h.2.1,?_⟩
 have:=h.2.2
 simp only[az.zero]
 cases hx:X.ow ad.block with
 |box i=>rw[hx] at this;exact this.elim
 |row pl n=>
  rw[hx] at this
  cases pl with
  |b i p=>simp only;split<;>exact this
  |_=>exact this
 |_=>rw[hx] at this;exact this
theorem alZ{id:Nat}:Ext X (X.zero id) where
 aE:=fun _ _=>H3
 size:=Nat.le_refl _
 os:=rfl
 tape:=rfl
 output:=rfl
 β0:=rfl
 still:=fun g _ cH=>by
  refine⟨?_,rfl⟩
  simp only[az.zero]
  cases hx:X.ow g with
  |box i=>rw[hx] at cH;exact cH.elim
  |row pl n=>rw[hx] at cH;exact cH.elim
  |_=>rfl
theorem bI.zero{id r:Nat}{B:bB}(h:bI X id r B):bI (X.zero id) 0 r B:=by
 obtain⟨h3,h1⟩:=h
 refine⟨by simp [az.zero,h3],h1.move (fun _ _=>H3) rfl (fun cs h4 p hp=> ?_) fun _ g o ho hw=>⟨ho,by simp [az.zero,hw]⟩⟩
 obtain⟨e,t',xs,v,g0,g1,g2,g3⟩:=h4 p hp
 refine⟨e,t',xs,v,g0,g1,g2,?_⟩
 rcases g3 with ho|⟨g,cap,cur,k1,k2,k3,k4,k5,k6⟩
 ·exact .inl ho
 ·exact .inr ⟨g,cap,cur,k1,k2,k3,k4,k5,by simp [az.zero,k6]⟩
theorem aA.zero{id j r0:Nat}{sv:SV}{v:Value}(hp:∀cc t p,sv= .ptr cc t p->X.β cc=some r0)(h:aA X (.r j) sv v):aA {X.zero id with β:=fun _=>some r0} (.r j) (sv.gY 0) v:=by
 cases sv with
 |undef=>trivial
 |skip=>exact h
 |cG=>exact h
 |gW=>exact h
 |over=>exact h
 |aj t x own=>
  obtain⟨cs,h1,h2,h3⟩:=h
  refine⟨cs,aW.av (Y:={X.zero id with β:=fun _=>some r0}) (fun ad v hs=>(H3 hs:(X.zero id).aE ad v)) h1,h2,fun p hp=> ?_⟩
  obtain⟨e,t',xs,v,g0,g1,g2,g3⟩:=h3 p hp
  refine⟨e,t',xs,v,g0,g1,g2,?_⟩
  rcases g3 with ho|⟨g,cap,cur,k1,k2,k3,k4,k5,k6⟩
  ·exact .inl ho
  ·exact .inr ⟨g,cap,cur,k1,k2,k3,k4,k5,by simp [az.zero,k6]⟩
 |ptr cc t p=>
  obtain⟨r,h1,h2⟩:=h
  have:=hp cc t p rfl
  rw[h1] at this
  cases this
  exact⟨r0,rfl,h2⟩
 |view t x=>
  obtain⟨ad,cs,h1,h2,h3,h4⟩:=h
  exact⟨ad,cs,h1,h2,aW.av (Y:={X.zero id with β:=fun _=>some r0}) (fun ad v hs=>(H3 hs:(X.zero id).aE ad v)) h3,fun i u hi=>(H3 (h4 i u hi):(X.zero id).aE _ _)⟩
 |cap f t x u y=>exact uV (Y:={X.zero id with β:=fun _=>some r0}) (fun ad v hs=>(H3 hs:(X.zero id).aE ad v)) h
theorem aA.anyβ{j r0:Nat}{sv:SV}{v:Value}(hp:∀cc t p,sv≠ .ptr cc t p)(h:aA X (.r j) sv v):aA {X with β:=fun _=>some r0} (.r j) sv v:=by
 cases sv with
 |undef=>trivial
 |skip=>exact h
 |cG=>exact h
 |gW=>exact h
 |over=>exact h
 |aj t x own=>
  obtain⟨cs,h1,h2,h3⟩:=h
  exact⟨cs,aW.av (X:=X) (Y:={X with β:=fun _=>some r0}) (fun ad v (hs:X.aE ad v)=>(hs:({X with β:=fun _=>some r0}:az).aE ad v)) h1,h2,h3⟩
 |ptr cc t p=>exact absurd rfl (hp cc t p)
 |view t x=>
  obtain⟨ad,cs,h1,h2,h3,h4⟩:=h
  exact⟨ad,cs,h1,h2,aW.av (X:=X) (Y:={X with β:=fun _=>some r0}) (fun ad v (hs:X.aE ad v)=>(hs:({X with β:=fun _=>some r0}:az).aE ad v)) h3,h4⟩
 |cap f t x u y=>exact uV (X:=X) (Y:={X with β:=fun _=>some r0}) (fun ad v (hs:X.aE ad v)=>(hs:({X with β:=fun _=>some r0}:az).aE ad v)) h
theorem UF:∀{l:List SV} {id:Nat} {t:Ty} {p:List Nat},SV.ptr id t p∈l->id∈Bc l
 |v::r,id,t,p,h=>by
  rcases List.mem_cons.1 h with e|h
  ·subst e;simp [Bc]
  ·have:=UF h
   cases v<;>simp [Bc,this]
theorem E8{l:List SV}{vs:List Value}(hlen:vs.length=l.length)(h:∀(j:Nat) sv v,l[j]? =some sv->vs[j]? =some v->aA X (.r j) sv v):cM X .r l (if h:vs.toArray.size=1 then vs.toArray[0] else .tuple vs.toArray):=by
 match l,vs,hlen with
 | [sv],[v],_=>exact h 0 sv v rfl rfl
 | [],[],_=>exact⟨#[],rfl,rfl,fun j s u hs=>by simp at hs⟩
 |x::y::r,u::v::w,hlen=>
  refine⟨(u::v::w).toArray,by simp,by simpa using hlen,fun j s z hs hz=>h j s z hs (by simpa using hz)⟩
theorem ac3{Z:az}{s':State}{b:Option bB}{l' r:List SV}{b':Option bB}{vs:List Value}(hX:Ext X Z)(dy:Rel Z s' a)(hlen:vs.length=l'.length)(ii:∀(j:Nat) sv v,l'[j]? =some sv->vs[j]? =some v->aA Z (.r j) sv v)
 (eN:I5 s' b l' (fun r b=>some (r,b))=some (r,b')):∃Y',Y'.w=Z.w/\Ext X Y'/\xZ X Y' b r b' (if h:vs.toArray.size=1 then vs.toArray[0] else .tuple vs.toArray):=by
 unfold I5 at eN
 cases b with
 |some B=>
  cases hp:Bc l' with
  |cons _ _=>rw[hp] at eN;cases eN
  |nil=>
   rw[hp] at eN
   have tF:∀id t p,SV.ptr id t p∉l':=fun id t p hm=>by
    have:=UF hm
    rw[hp] at this;cases this
   cases fM:s'.box 0 with
   |none=>simp only[fM] at eN;cases eN
   |some B'=>
    simp only[fM] at eN
    cases eN
    obtain⟨r0,h3,h4⟩:=dy.boxes 0 B' (rG fM)
    refine⟨Z,rfl,hX,r0,E8 hlen fun j sv v h1 h2=>(ii j sv v h1 h2).anyβ (fun id t p e=>tF id t p (e▸List.mem_of_getElem? h1)),fun B2 dk=> ?_,fun _=>tF⟩
    cases dk
    exact⟨h4,fun _=>by rw[<-hX.β0];exact h3⟩
 |none=>
  cases hp:Bc l' with
  |nil=>
   rw[hp] at eN
   have tF:∀id t p,SV.ptr id t p∉l':=fun id t p hm=>by
    have:=UF hm
    rw[hp] at this;cases this
   cases eN
   exact⟨Z,rfl,hX,0,E8 hlen fun j sv v h1 h2=>(ii j sv v h1 h2).anyβ (fun id t p e=>tF id t p (e▸List.mem_of_getElem? h1)),(fun B2 dk=>by cases dk),fun _=>tF⟩
  |cons id rest=>
   rw[hp] at eN
   cases rest with
   |cons _ _=>cases eN
   |nil=>
    cases hB:s'.box id with
    |none=>simp only[hB] at eN;cases eN
    |some B=>
     simp only[hB] at eN
     cases eN
     obtain⟨r0,h3,h4⟩:=dy.boxes id B (rG hB)
     refine⟨Z.zero id,rfl,hX.trans alZ,r0,?_,fun B2 dk=> ?_,fun hh=> ?_⟩
     ·refine E8 (by simpa using hlen) fun j sv v h1 h2=> ?_
      rw[List.getElem?_map] at h1
      obtain⟨s0,gj,rfl⟩:=Option.map_eq_some_iff.1 h1
      refine(ii j s0 v gj h2).zero fun cc t p e=> ?_
      have:=UF (e▸List.mem_of_getElem? gj)
      rw[hp] at this
      simp only[List.mem_singleton] at this
      subst this
      exact h3
     ·cases dk
      exact⟨h4.zero,fun hh=>by cases hh⟩
     ·rcases hh with hh|hh<;>cases hh
theorem Uo:∀(ts:List Ty) (l:List SV),(aS ts l).length=l.length
 | [],l=>by simp [aS]
 |t::r,[]=>by simp [aS]
 |t::r,v::q=>by
  cases t<;>cases v<;>simp [aS,Uo r q]
theorem Ng{X:az}:∀(ts:List Ty) (l:List SV) (i:Nat) (sv:SV) (v:Value),(aS ts l)[i]? =some sv->(∀sv,l[i]? =some sv->∃pl,aA X pl sv v)->∀q,(∃xj,l[i]? =some xj/\(sv=xj\/sv=xj.shut\/xj= .cG))/\((∀xj,l[i]? =some xj->aA X q xj v)->aA X q sv v)
 | [],l,i,sv,v,h,_,q=>by
   have h:l[i]? =some sv:=by simpa [aS] using h
   exact⟨⟨sv,h,.inl rfl⟩,fun hh=>hh sv h⟩
 |t::r,[],i,sv,v,h,_,q=>by simp [aS] at h
 |t::r,x::y,i,sv,v,h,hx,q=>by
  cases i with
  |zero=>
   have key:(aS (t::r) (x::y))[0]? =some sv->(sv=x.shut)\/(x= .cG/\∃e u,sv= .aj (.sl e u) ([]:List (El u)) []):=by
    intro h
    cases t<;>cases x<;>simp only[aS,List.getElem?_cons_zero,Option.some.injEq] at h<;>first|exact .inl h.symm|exact .inr ⟨rfl,_,_,h.symm⟩
   rcases key h with rfl|⟨rfl,e,u,rfl⟩
   ·exact⟨⟨x,rfl,.inr (.inl rfl)⟩,fun hh=>(hh x rfl).shut⟩
   ·refine⟨⟨_,rfl,.inr (.inr rfl)⟩,fun hh=> ?_⟩
    have:=hh _ rfl
    exact⟨[.slice none 0 0],⟨none,0,rfl,Nat.le_refl _,fun j x hj=>by simp at hj⟩,this,mO⟩
  |succ i=>
   have h':(aS r y)[i]? =some sv:=by
    cases t<;>cases x<;>simpa [aS] using h
   have:=Ng r y i sv v h' (fun sv hs=>hx sv (by simpa using hs)) q
   simpa using this
theorem ahJ{ts:List Ty}{l:List SV}{id:Nat}{t:Ty}{p:List Nat}(h:SV.ptr id t p∈aS ts l):SV.ptr id t p∈l:=by
 induction ts generalizing l with
 |nil=>simpa [aS] using h
 |cons u r ih=>
  cases l with
  |nil=>simp [aS] at h
  |cons v q=>
   have key:SV.ptr id t p=v.shut\/SV.ptr id t p∈aS r q:=by
    cases u<;>cases v<;>simp [aS,SV.shut] at h⊢ <;>first|exact h|exact .inr h|skip
   rcases key with e|hm
   ·rw[UG e.symm];simp
   ·exact List.mem_cons_of_mem _ (ih hm)
theorem aoh(hE:ar P E)(hm:P.follows .mixedOrders=true){C C0:ai}(hC0:C0.Nat)(hf0:∀f,de P C0 f){f:FuncId}{fn:Func}{code:Code}(j4:P.funcs[f]? =some fn)(tD:(fn.name== "runtime.NumGoroutine")=false)(pR:fn.body=some code)
 (hC:∀(l:List SV) (b:Option bB) (r:List SV) (b':Option bB),C (List SV×Option bB) f l b (fun r b=>some (r,b))=some (r,b')->∃k,iW E (C0 (List SV×Option bB)) k fn code l b (fun r b=>some (r,b))=some (r,b')):de P C f:=by
 intro l b r b' h
 refine⟨⟨fn,code,j4,tD,pR⟩,fun X args ig=> ?_⟩
 obtain⟨k,h⟩:=hC l b r b' h
 unfold iW at h
 cases hg:(E.sp.isSome&&b.isSome) with
 |true=>rw[hg] at h;cases h
 |false=>
 rw[hg,cond_false] at h
 have hF:Fr E X:=fun ct=>ig.rows (by
  cases hE2:E.sp with
  |none=>exact absurd hE2 ct
  |some z=>
   cases b with
   |none=>rfl
   |some B=>rw[hE2] at hg;cases hg)
 simp only at h
 obtain⟨⟨e,s⟩,h1,h2⟩:=lF (vj hC0 code _ (fun e s=>some (e,s)) (K:=fun z=>match z.1 with
  | .exit _=>none
  |_=>match fW E z.2 fn.results.toList with
   |some (l,s')=>I5 s' b (iG E l) (fun r b=>some (r,b))
   |none=>none) (fun e s=>by cases e<;>rfl) _) h
 refine calls_of_wp j4 pR ?_
 have dt:=ig.size
 refine Gp hE hm hC0 hf0 k code X X _ _ e s hF (Ext.refl X) (?_:Rel X _ _) h1 _ fun Y a' bn bD=> ?_
 ·have nH:=Uo E.ps l
  refine⟨by simp [dt,nH],by simp [nH],fun i sl v hs hv=> ?_,fun id B hB=> ?_,fun i sl id t p hs hm=> ?_,rfl⟩
  ·by_cases hi:i<l.length
   ·rw[List.getElem?_append_left (by simpa [nH] using hi),List.getElem?_map] at hs
    obtain⟨sv,j5,rfl⟩:=Option.map_eq_some_iff.1 hs
    rw[Array.getElem?_append_left (by omega)] at hv
    exact(Ng E.ps l i sv v j5 (fun sv h0=>⟨_,ig.rep i sv v h0 hv⟩) (.c i 0)).2 fun xj h0=>ig.rep i xj v h0 hv
   ·rw[List.getElem?_append_right (by simp [nH];omega),List.getElem?_replicate] at hs
    split at hs
    ·cases hs;trivial
    ·cases hs
  ·cases id with
   |zero=>
    simp only[List.getElem?_cons_zero,Option.some.injEq] at hB
    exact ig.box B hB
   |succ id=>
    simp only[List.getElem?_cons_succ,List.getElem?_replicate] at hB
    split at hB<;>cases hB
  ·by_cases hi:i<l.length
   ·rw[List.getElem?_append_left (by simpa [nH] using hi),List.getElem?_map] at hs
    obtain⟨sv,j5,rfl⟩:=Option.map_eq_some_iff.1 hs
    simp only[List.mem_singleton] at hm
    subst hm
    obtain⟨rfl,hb⟩:=ig.ptr id t p (ahJ (List.mem_of_getElem? j5))
    cases b with
    |none=>cases hb
    |some B=>exact⟨B,rfl⟩
   ·rw[List.getElem?_append_right (by simp [nH];omega),List.getElem?_replicate] at hs
    split at hs
    ·cases hs;simp at hm
    ·cases hs
 ·
  have aaA:∃l s',fW E s fn.results.toList=some (l,s')/\I5 s' b (iG E l) (fun r b=>some (r,b))=some (r,b')/\(e= .normal\/e= .ret):=by
   cases e with
   |exit id=>cases h2
   |normal=>
    simp only at h2
    split at h2
    ·exact⟨_,_,by assumption,h2,.inl rfl⟩
    ·cases h2
   |ret=>
    simp only at h2
    split at h2
    ·exact⟨_,_,by assumption,h2,.inr rfl⟩
    ·cases h2
  obtain⟨l',s',eV,eN,he⟩:=aaA
  obtain⟨Z,vs,hw,bW,cH,hβ,dy,hlen,mo,bd⟩:=E9 hE fn.results.toList Y s s' l' 0 bD eV
  have Ag:(results fn a'.tmps).run P Y.w= .ok (if h:vs.toArray.size=1 then vs.toArray[0] else .tuple vs.toArray) Y.w:=by
   unfold results
   simp only[Array.mapM_eq_mapM_toList,Sem.run_bind,Sem.run_map,Sem.run_pure,Result.andThen_ok]
   exact congrArg (fun r:Result (List Value)=>(r.andThen fun a w'=>Result.ok a.toArray w').andThen fun a w'=>Result.ok (if h:a.size=1 then a[0] else Value.tuple a) w') bd
  have hX:Ext X Z:=bn.trans bW
  have ii:∀(j:Nat) sv v,l'[j]? =some sv->vs[j]? =some v->aA Z (.r j) sv v:=fun j sv v h1 h2=>by
   have:=mo j sv v h1 h2
   rwa [Nat.zero_add] at this
  have Lr:vs.length=(iG E l').length:=by
   unfold iG
   cases E.ro<;>simpa using hlen
  have Ca:∀(j:Nat) sv v,(iG E l')[j]? =some sv->vs[j]? =some v->aA Z (.r j) sv v:=fun j sv v h1 h2=>by
   unfold iG at h1
   cases hro:E.ro with
   |false=>rw[hro] at h1;exact ii j sv v h1 h2
   |true=>
    rw[hro,cond_true,List.getElem?_map] at h1
    obtain⟨s0,gj,rfl⟩:=Option.map_eq_some_iff.1 h1
    exact aA.eY (ii j s0 v gj h2)
  have fin:=ac3 (b:=b) hX dy Lr Ca eN
  obtain⟨Y',TP,hX',hL⟩:=fin
  have TP:=TP.trans hw
  rcases he with rfl|rfl
  ·exact⟨bD.defers,_,Ag,Y',TP,hX',hL⟩
  ·exact⟨bD.defers,_,Ag,Y',TP,hX',hL⟩
end Go.Ref

namespace Go.Ref
open Go
variable {P:Program} {E:Env}
def Wf:(t:Ty)->El t->Prop
 | .bool,_=>True
 | .int k,n=>(Lit.int k n).wf=true
 | .str,s=>s.size<=maxLen
 | .sl _ t,xs=>List.length xs<=maxLen/\∀x∈(xs:List (El t)),Wf t x
 | .arr n t,xs=>List.length xs=n/\∀x∈(xs:List (El t)),Wf t x
 | .unit,_=>True
 | .pair a b,x=>Wf a x.1/\Wf b x.2
 | .aZ _ _ _,_=>False
theorem HV(hE:ar P E){T:TypeId}{t:Ty}(ht:E.ty T=some t):P.cellsOf T=t.cells:=by
 obtain⟨i,h1,h2,_⟩:=(hE.ty T t ht).info
 simp [Program.cellsOf,h1,h2]
def Ty.fK:Ty->Bool
 | .sl _ t=> !(Nat.beq t.cells 0)&&t.fK
 | .arr _ t=>t.fK
 | .pair a b=>a.fK&&b.fK
 |_=>true
def uw(w:World)(β:Nat->Option Nat):az:=⟨w,fun _=> .all,β⟩
theorem ahM{w:World}{β:Nat->Option Nat}{a:Addr}{v:Value}(h:w.cell? a=some v):(uw w β).aE a v:=⟨World.cell?_spot h,h,trivial⟩
theorem zqq{α:Type}{n:Nat}{p:Nat->α->Prop}(h:∀i,i<n->∃x,p i x):∃xs:List α,xs.length=n/\∀(i:Nat) x,xs[i]? =some x->p i x:=by
 induction n with
 |zero=>exact⟨[],rfl,fun i x hi=>by simp at hi⟩
 |succ n ih=>
  obtain⟨xs,h1,h2⟩:=ih fun i hi=>h i (by omega)
  obtain⟨y,hy⟩:=h n (by omega)
  refine⟨xs++ [y],by simp [h1],fun i x hi=> ?_⟩
  rw[List.getElem?_append] at hi
  split at hi
  ·exact h2 i x hi
  ·rename_i aq
   have hi2:i-xs.length=0:=by
    have:=(List.getElem?_eq_some_iff.1 hi).1
    simp at this
    omega
   rw[hi2] at hi
   simp only[List.getElem?_cons_zero,Option.some.injEq] at hi
   subst hi
   have:i=n:=by omega
   subst this
   exact hy
section
variable {H:Type} {enc:TypeId×Value->H} {w:World} {base:Nat} {spare:Nat->Bool} {held:Bool} {β:Nat->Option Nat}
theorem aop(hE:ar P E):∀t:Ty,
 (∀(T:TypeId) (cF:Nat) (cs:List Value) (x:DataW H×List MemPlace),E.ty T=some t->t.fK=true->DataW.trod enc P w base spare held cF T cs=some x->∃y:El t,aW (uw w β) t y cs/\Wf t y)/\
 (∀(fl:List Field) (off cF:Nat) (cs:List Value),iK E fl t off->t.fK=true->off+t.cells<=cs.length->(∀f∈fl,∃x,DataW.trod enc P w base spare held cF f.type ((cs.drop f.offset).take (P.cellsOf f.type))=some x)->
   ∃y:El t,aW (uw w β) t y ((cs.drop off).take t.cells)/\Wf t y):=by
 intro t
 have kK:∀{t:Ty},t.di=false->t≠ .unit->∀(fl:List Field) (off:Nat),¬iK E fl t off:=by
  intro t h1 h2 fl off h
  cases t<;>cases fl<;>simp_all [iK,Ty.di]
 induction t with
 |aZ k a b _ _=>exact⟨fun T cF cs x hT iX h=>absurd (hE.ij hT) (by simp [Ty.bM]),fun fl off cF cs hf=>absurd hf (kK rfl (by simp) fl off)⟩
 |bool=>
  refine⟨fun T cF cs x hT iX h=> ?_,fun fl off cF cs hf=>absurd hf (kK rfl (by simp) fl off)⟩
  have hu:=(hE.ty T _ hT).dj
  cases cF with
  |zero=>simp [DataW.trod] at h
  |succ m=>
   unfold DataW.trod at h
   rw[hu] at h
   split at h<;>try(first|cases h;done|(simp_all;done))
   rename_i b _
   exact⟨b,rfl,trivial⟩
 |int k=>
  refine⟨fun T cF cs x hT iX h=> ?_,fun fl off cF cs hf=>absurd hf (kK rfl (by simp) fl off)⟩
  have hu:=(hE.ty T _ hT).dj
  cases cF with
  |zero=>simp [DataW.trod] at h
  |succ m=>
   unfold DataW.trod at h
   rw[hu] at h
   split at h<;>simp_all
   rename_i k1 k2 n hk
   subst hk
   exact⟨n,rfl,h.1.2⟩
 |str=>
  refine⟨fun T cF cs x hT iX h=> ?_,fun fl off cF cs hf=>absurd hf (kK rfl (by simp) fl off)⟩
  have hu:=(hE.ty T _ hT).dj
  cases cF with
  |zero=>simp [DataW.trod] at h
  |succ m=>
   unfold DataW.trod at h
   rw[hu] at h
   split at h<;>simp_all
   rename_i s
   exact⟨s,rfl,h.1⟩
 |sl e t ih=>
  refine⟨fun T cF cs x hT iX h=> ?_,fun fl off cF cs hf=>absurd hf (kK rfl (by simp) fl off)⟩
  obtain⟨hu,he⟩:=(hE.ty T _ hT).dj
  have hc:=HV hE he
  rcases Go.Deep.open_slice hu h with⟨rfl,_⟩|⟨a,len,cap,m,n,D,Pl,rfl,hb,hl,hm,B6,_,eC⟩
  ·exact⟨[],⟨none,0,rfl,Nat.le_refl _,fun j x hj=>by simp at hj⟩,by simp [maxLen],fun x hx=>by cases hx⟩
  ·have hlm:len<=m:=by rw[B6];split<;>omega
   have hk:0<t.cells/\t.fK=true:=by
    simp only[Ty.fK,Bool.and_eq_true,Bool.not_eq_true'] at iX
    refine⟨?_,iX.2⟩
    rcases Nat.eq_zero_or_pos t.cells with h0|h0
    ·rw[h0] at iX;simp at iX
    ·exact h0
   obtain⟨ys,h1,h2⟩:=zqq (n:=len) (p:=fun i (y:El t)=>∃eA,w.cells? base (a.add (i*t.cells)) t.cells=some eA/\aW (uw w β) t y eA/\Wf t y) (fun i hi=>by
    obtain⟨eA,g1,g2⟩:=eC i (by omega)
    rw[hc] at g1
    obtain⟨y,k1,k2⟩:=ih.1 e n eA _ he hk.2 g2
    exact⟨y,eA,g1,k1,k2⟩)
   refine⟨ys,aW.xi h1 hl (fun j y hj=> ?_),by show ys.length<=_;omega,fun y hy=> ?_⟩
   ·obtain⟨eA,g1,g2,g3⟩:=h2 j y hj
    obtain⟨_,hlen,gN⟩:=World.cells?_some g1
    have hj0:=(List.getElem?_eq_some_iff.1 hj).1
    obtain⟨c0,e1,_⟩:=h2 0 _ (List.getElem?_eq_getElem (by omega))
    obtain⟨_,aqd,BT⟩:=World.cells?_some e1
    have Ai:a.spot=none:=by
     have:=BT 0 (by omega)
     rw[List.getElem?_eq_getElem (by omega)] at this
     have h3:=World.cell?_spot this
     simpa [Addr.add] using h3
    refine⟨a,eA,rfl,Ai,g2,fun i v hi=>ahM ?_⟩
    have hil:=(List.getElem?_eq_some_iff.1 hi).1
    have:=gN i (by omega)
    rw[SE a Ai,hi] at this
    exact this
   ·obtain⟨i,hi⟩:=List.mem_iff_getElem?.1 hy
    obtain⟨eA,_,_,g3⟩:=h2 i y hi
    exact g3
 |arr n t ih=>
  refine⟨fun T cF cs x hT iX h=> ?_,fun fl off cF cs hf=>absurd hf (kK rfl (by simp) fl off)⟩
  obtain⟨e,hu,he,_⟩:=(hE.ty T _ hT).dj
  have hc:=HV hE he
  have Ld:=HV hE hT
  obtain⟨xs,m,rfl,_,hl,Am,eC⟩:=DataW.trod_array hu h
  obtain⟨ys,h1,h2⟩:=zqq (n:=n) (p:=fun i (y:El t)=>aW (uw w β) t y ((cs.drop (i*t.cells)).take t.cells)/\Wf t y) (fun i hi=>by
   have g:=eC i hi
   rw[hc,List.getElem?_eq_getElem (by omega)] at g
   exact ih.1 e m _ _ he iX g)
  refine⟨ys,⟨h1,by rw[hl,Ld];rfl,fun j y hj=>(h2 j y hj).1⟩,h1,fun y hy=> ?_⟩
  obtain⟨i,hi⟩:=List.mem_iff_getElem?.1 hy
  exact(h2 i y hi).2
 |unit=>
  refine⟨fun T cF cs x hT iX h=> ?_,fun fl off cF cs hf iX hle eB=>⟨(),by simp [Ty.cells,aW],trivial⟩⟩
  obtain⟨fs,hu,dh,_⟩:=(hE.ty T _ hT).dj
  have Ld:=HV hE hT
  obtain⟨xs,m,rfl,_,hl,_⟩:=DataW.trod_struct hu h
  rw[Ld] at hl
  refine⟨(),?_,trivial⟩
  exact List.eq_nil_of_length_eq_zero hl
 |pair ta tb lp lq=>
  have step:∀(fl:List Field) (off cF:Nat) (cs:List Value),iK E fl (.pair ta tb) off->(Ty.pair ta tb).fK=true->off+(Ty.pair ta tb).cells<=cs.length->(∀f∈fl,∃x,DataW.trod enc P w base spare held cF f.type ((cs.drop f.offset).take (P.cellsOf f.type))=some x)->
   ∃y:El (.pair ta tb),aW (uw w β) (.pair ta tb) y ((cs.drop off).take (Ty.pair ta tb).cells)/\Wf (.pair ta tb) y:=by
   intro fl off cF cs hf iX hle eB
   cases fl with
   |nil=>simp [iK] at hf
   |cons f fl=>
    obtain⟨f1,f2,f3,f4⟩:=hf
    simp only[Ty.fK,Bool.and_eq_true] at iX
    simp only[Ty.cells] at hle
    obtain⟨x,hx⟩:=eB f (by simp)
    rw[HV hE f2,f1] at hx
    obtain⟨y1,r1,w1⟩:=lp.1 f.type cF _ x f2 iX.1 hx
    obtain⟨y2,r2,w2⟩:=lq.2 fl (off+ta.cells) cF cs f4 iX.2 (by omega) (fun g hg=>eB g (List.mem_cons_of_mem _ hg))
    refine⟨(y1,y2),⟨_,_,?_,r1,r2⟩,w1,w2⟩
    simp only[Ty.cells]
    rw[<-List.drop_drop]
    exact List.take_add
  refine⟨fun T cF cs x hT iX h=> ?_,step⟩
  obtain⟨fs,hu,dh,_⟩:=(hE.ty T _ hT).dj
  have Ld:=HV hE hT
  obtain⟨xs,m,rfl,_,hl,Am,eC⟩:=DataW.trod_struct hu h
  rw[Ld] at hl
  obtain⟨y,r,wf⟩:=step fs.toList 0 m cs dh iX (by omega) (fun f hf=>by
   obtain⟨i,hi⟩:=List.mem_iff_getElem?.1 hf
   have hi':fs[i]? =some f:=by simpa using hi
   have:=eC i f hi'
   have aq:=(List.getElem?_eq_some_iff.1 hi).1
   rw[List.getElem?_eq_getElem (by simp at aq;omega)] at this
   exact⟨_,this⟩)
  refine⟨y,?_,wf⟩
  rw[List.drop_zero,<-hl,List.take_length] at r
  exact r
end
end Go.Ref

namespace Go.Ref
open Go
variable {P:Program} {E:Env}
def Gc:Value->Value->Bool
 | .bool a,.bool b=>a==b
 | .int k a,.int j b=>decide (k=j)&&decide (a=b)
 | .string a,.string b=>Nat.beq a.size 0&&Nat.beq b.size 0
 | .slice none 0 0,.slice none 0 0=>true
 |_,_=>false
theorem zqv{a:ByteArray}(h:a.size=0):a=⟨#[]⟩:=by
 cases a with
 |mk d=>
  have:d.size=0:=h
  have:=Array.eq_empty_of_size_eq_zero this
  rw[this]
theorem ag8{a b:Value}(h:Gc a b=true):a=b:=by
 unfold Gc at h
 split at h
 ·simp at h;rw[h]
 ·simp at h;rw[h.1,h.2]
 ·simp only[Bool.and_eq_true] at h
  rw[zqv (Nat.eq_of_beq_eq_true h.1),zqv (Nat.eq_of_beq_eq_true h.2)]
 ·rfl
 ·cases h
def SG:List Value->List Value->Bool
 | [],[]=>true
 |a::r,b::q=>Gc a b&&SG r q
 |_,_=>false
theorem zef:∀{a b:List Value},SG a b=true->a=b
 | [],[],_=>rfl
 |a::r,b::q,h=>by
  simp only[SG,Bool.and_eq_true] at h
  rw[ag8 h.1,zef h.2]
def Gl(t:Ty)(v:Value):Bool:=
 match v with
 | .agg cs=>t.agg&&SG cs.toList (zt t)
 |v=> !t.agg&&SG [v] (zt t)
theorem aip{t:Ty}{v:Value}(h:Gl t v=true):v=dJ t (zt t):=by
 unfold Gl at h
 split at h
 ·simp only[Bool.and_eq_true] at h
  rw[je h.1,<-zef h.2]
 ·simp only[Bool.and_eq_true,Bool.not_eq_true'] at h
  rw[<-zef h.2,SK h.1]
def qJ(E:Env):List Field->Ty->Nat->Bool
 | [],.unit,_=>true
 |f::r,.pair a b,off=>Nat.beq f.offset off&&((match E.ty f.type with
  |some t=>t.cu a
  |none=>false)&&(!(f.name== "_")&&qJ E r b (off+a.cells)))
 |_,_,_=>false
theorem zte:∀{fl:List Field} {t:Ty} {off:Nat},qJ E fl t off=true->iK E fl t off
 | [],t,off,h=>by cases t<;>simp_all [qJ,iK]
 |f::r,t,off,h=>by
  cases t<;>simp only[qJ,Bool.and_eq_true] at h<;>try(cases h;done)
  obtain⟨h1,h2,h3,h4⟩:=h
  refine⟨Nat.eq_of_beq_eq_true h1,?_,?_,zte h4⟩
  ·cases hf:E.ty f.type with
   |none=>rw[hf] at h2;cases h2
   |some u=>rw[hf] at h2;rw[Ty.aR h2]
  ·simpa using h3
def xn(E:Env)(T:TypeId)(t:Ty):Bool:=
 match E.ty T with
 |some u=>u.cu t
 |none=>false
theorem Qj{T:TypeId}{t:Ty}(h:xn E T t=true):E.ty T=some t:=by
 unfold xn at h
 split at h
 ·rename_i u hu;rw[hu,Ty.aR h]
 ·cases h
def Cr(P:Program)(E:Env)(T:TypeId)(t:Ty):Bool:=
 match P.underlying T,t with
 |some .bool,.bool=>true
 |some (.int k),.int j=>decide (k=j)
 |some .string,.str=>true
 |some (.slice e),.sl e' u=>Nat.beq e e'&&xn E e u
 |some (.array n e),.arr m u=>Nat.beq n m&&(xn E e u&& !P.eqGuardType P.depth T)
 |some (.struct fs),.unit=>qJ E fs.toList .unit 0&&(!P.stoodInHeld T&& !P.eqGuardType P.depth T)
 |some (.struct fs),.pair a b=>qJ E fs.toList (.pair a b) 0&&(!P.stoodInHeld T&& !P.eqGuardType P.depth T)
 |_,_=>false
theorem alU{T:TypeId}{t:Ty}(h:Cr P E T t=true):QL P E T t:=by
 unfold Cr at h
 split at h
 ·assumption
 ·rename_i k j hu;rw[<-of_decide_eq_true h];exact hu
 ·assumption
 ·rename_i e e' u hu
  simp only[Bool.and_eq_true] at h
  have:=Nat.eq_of_beq_eq_true h.1
  subst this
  exact⟨hu,Qj h.2⟩
 ·rename_i n e m u hu
  simp only[Bool.and_eq_true] at h
  have:=Nat.eq_of_beq_eq_true h.1
  subst this
  exact⟨e,hu,Qj h.2.1,by simpa using h.2.2⟩
 ·rename_i fs hu
  simp only[Bool.and_eq_true,Bool.not_eq_true'] at h
  exact⟨fs,hu,zte h.1,h.2.1,h.2.2⟩
 ·rename_i fs a b hu
  simp only[Bool.and_eq_true,Bool.not_eq_true'] at h
  exact⟨fs,hu,zte h.1,h.2.1,h.2.2⟩
 ·cases h
def Ao(P:Program)(E:Env)(T:TypeId)(t:Ty):Bool:=
 match P.info? T with
 |some i=>Nat.beq i.size t.cells&&(Nat.beq i.bytes (E.bytes T)&&match i.zero with
  |some v=>Gl t v
  |none=>false)
 |none=>false
def BK(P:Program)(E:Env)(T:TypeId):Bool:=
 match E.ty T with
 |some t=>Ao P E T t&&Cr P E T t
 |none=>true
theorem ald{T:TypeId}{t:Ty}(h:BK P E T=true)(ht:E.ty T=some t):ld P E T t:=by
 unfold BK at h
 rw[ht] at h
 simp only[Bool.and_eq_true] at h
 refine⟨?_,alU h.2⟩
 have h1:=h.1
 unfold Ao at h1
 split at h1
 ·rename_i i hi
  simp only[Bool.and_eq_true] at h1
  obtain⟨g1,g2,g3⟩:=h1
  split at g3
  ·rename_i v hv
   exact⟨i,hi,Nat.eq_of_beq_eq_true g1,Nat.eq_of_beq_eq_true g2,by rw[hv,aip g3]⟩
  ·cases g3
 ·cases h1
def ptB(P:Program)(T:TypeId):Bool:=
 match P.underlying T with
 |some (.pointer _)=>true
 |_=>false
structure oR where
 HQ:List (Option Ty)
 bts:List Nat
 Ax:List Bool
 TS:List (TypeId×TypeId×TypeId):=[]
def xb:List (TypeId×TypeId×TypeId)->TypeId->Option (TypeId×TypeId)
 | [],_=>none
 |q::r,T=>bif Nat.beq q.1 T then some q.2 else xb r T
def mpB(P:Program)(q:TypeId×TypeId×TypeId):Bool:=
 match P.underlying q.1 with
 |some (.map k e)=>Nat.beq k q.2.1&&Nat.beq e q.2.2
 |_=>false
theorem P3{P:Program}:∀{l:List (TypeId×TypeId×TypeId)},l.all (mpB P)=true->∀{T k e:TypeId},xb l T=some (k,e)->P.underlying T=some (.map k e)
 |q::r,hl,T,k,e,h=>by
  simp only[List.all_cons,Bool.and_eq_true] at hl
  unfold xb at h
  cases hq:Nat.beq q.1 T with
  |false=>rw[hq] at h;exact P3 hl.2 h
  |true=>
   rw[hq] at h
   have:=Nat.eq_of_beq_eq_true hq
   subst this
   have h1:=hl.1
   unfold mpB at h1
   split at h1
   ·rename_i k' e' hu
    simp only[Bool.and_eq_true] at h1
    have a1:=Nat.eq_of_beq_eq_true h1.1
    have a2:=Nat.eq_of_beq_eq_true h1.2
    rw[hu,a1,a2]
    have h:some q.2=some (k,e):=h
    injection h with h
    rw[h]
   ·cases h1
def oR.env(t:oR)(dB kG:Nat->List Nat)(outs:List Nat)(ps:List Ty):Env:=⟨fun T=>t.HQ.getD T none,fun T=>t.bts.getD T 0,fun T=>t.Ax.getD T false,dB,kG,outs,ps,xb t.TS,fun _=>none,fun _=>none,fun _=>[],[],false,[],fun _=>[],fun _=>none,none⟩
def oR.tg(t:oR):Env:=t.env (fun _=>[]) (fun _=>[]) [] []
def oR.ok(P:Program)(t:oR):Bool:=(List.range t.HQ.length).all (BK P t.tg)&&((List.range t.Ax.length).all (fun T=> !t.Ax.getD T false||ptB P T)&&t.TS.all (mpB P))
theorem uW{E':Env}(h1:E.ty=E'.ty)(h2:E.bytes=E'.bytes){T:TypeId}{t:Ty}(h:ld P E T t):ld P E' T t:=by
 have dh:∀(fl:List Field) (t:Ty) (off:Nat),iK E fl t off->iK E' fl t off:=by
  intro fl
  induction fl with
  |nil=>intro t off h;cases t<;>simp_all [iK]
  |cons f r ih=>
   intro t off h
   cases t<;>simp only[iK] at h⊢ <;>try exact h
   exact⟨h.1,by rw[<-h1];exact h.2.1,h.2.2.1,ih _ _ h.2.2.2⟩
 refine⟨by rw[<-h2];exact h.info,?_⟩
 have hu:=h.dj
 cases t with
 |bool=>exact hu
 |int k=>exact hu
 |str=>exact hu
 |sl e u=>exact⟨hu.1,by rw[<-h1];exact hu.2⟩
 |arr n u=>obtain⟨e,g1,g2⟩:=hu;exact⟨e,g1,by rw[<-h1];exact g2⟩
 |unit=>obtain⟨fs,g1,g2,g3⟩:=hu;exact⟨fs,g1,dh _ _ _ g2,g3⟩
 |pair a b=>obtain⟨fs,g1,g2,g3⟩:=hu;exact⟨fs,g1,dh _ _ _ g2,g3⟩
 |aZ k a b=>exact hu.elim
theorem ar.join(h:ar P E)(j:Nat->Option (List Nat)):ar P {E with join:=j}:=
 ⟨fun T u hT=>uW (E:=E) (E':={E with join:=j}) rfl rfl (h.ty T u hT),h.pt,h.mp,h.bl⟩
theorem ar.fz(h:ar P E)(j:Nat->Option (Nat×TypeId)):ar P {E with fz:=j}:=
 ⟨fun T u hT=>uW (E:=E) (E':={E with fz:=j}) rfl rfl (h.ty T u hT),h.pt,h.mp,h.bl⟩
theorem ar.dr(h:ar P E)(j:Nat->List Nat):ar P {E with dr:=j}:=
 ⟨fun T u hT=>uW (E:=E) (E':={E with dr:=j}) rfl rfl (h.ty T u hT),h.pt,h.mp,h.bl⟩
theorem ar.sh(h:ar P E)(j:List Nat):ar P {E with sh:=j}:=
 ⟨fun T u hT=>uW (E:=E) (E':={E with sh:=j}) rfl rfl (h.ty T u hT),h.pt,h.mp,h.bl⟩
theorem ar.mv(h:ar P E)(j:List Nat):ar P {E with mv:=j}:=
 ⟨fun T u hT=>uW (E:=E) (E':={E with mv:=j}) rfl rfl (h.ty T u hT),h.pt,h.mp,h.bl⟩
theorem ar.fr(h:ar P E)(j:Nat->List Nat):ar P {E with fr:=j}:=
 ⟨fun T u hT=>uW (E:=E) (E':={E with fr:=j}) rfl rfl (h.ty T u hT),h.pt,h.mp,h.bl⟩
def blB(P:Program)(T:TypeId):Bool:=
 match P.info? T with
 |some i=>match i.zero with
  |some (.agg a)=>match a.toList with
   | [.pointer none,.slice none 0 0]=>true
   |_=>false
  |_=>false
 |none=>false
theorem ar.fQ(h:ar P E)(T e:TypeId)(hT:blB P T=true):ar P {E with bl:=fun t=>bif Nat.beq t T then some e else none}:=
 ⟨fun T' u hT=>uW (E:=E) (E':={E with bl:=fun t=>bif Nat.beq t T then some e else none}) rfl rfl (h.ty T' u hT),h.pt,h.mp,fun T' e' he=>by
   have he:(bif Nat.beq T' T then some e else none)=some e':=he
   cases hb:Nat.beq T' T with
   |false=>rw[hb] at he;cases he
   |true=>
    have:=Nat.eq_of_beq_eq_true hb
    subst this
    unfold blB at hT
    split at hT
    case h_2=>cases hT
    rename_i i hi
    split at hT
    case h_2=>cases hT
    rename_i a ha
    split at hT
    case h_2=>cases hT
    rename_i hl
    exact⟨i,hi,by rw[ha];congr 1;congr 1;apply Array.ext';rw[hl]⟩⟩
theorem ar.sp(h:ar P E)(j:Option (Nat×Nat×Nat×Nat)):ar P {E with sp:=j}:=
 ⟨fun T u hT=>uW (E:=E) (E':={E with sp:=j}) rfl rfl (h.ty T u hT),h.pt,h.mp,h.bl⟩
theorem ar.ro(h:ar P E)(j:Bool):ar P {E with ro:=j}:=
 ⟨fun T u hT=>uW (E:=E) (E':={E with ro:=j}) rfl rfl (h.ty T u hT),h.pt,h.mp,h.bl⟩
theorem oR.lk{t:oR}(h:t.ok P=true)(dB kG:Nat->List Nat)(outs:List Nat)(ps:List Ty):ar P (t.env dB kG outs ps):=by
 unfold oR.ok at h
 simp only[Bool.and_eq_true] at h
 refine⟨fun T u hT=> ?_,fun T hT=> ?_,fun T k e hT=>P3 h.2.2 hT,fun T e hT=>by cases hT⟩
 ·refine uW (E:=t.tg) (E':=t.env dB kG outs ps) rfl rfl (ald ?_ hT)
  refine List.all_eq_true.1 h.1 T (List.mem_range.2 ?_)
  have zX:t.HQ.getD T none=some u:=hT
  rcases Nat.lt_or_ge T t.HQ.length with h1|h1
  ·exact h1
  ·rw[List.getD_eq_getElem?_getD,List.getElem?_eq_none h1] at zX;cases zX
 ·have zX:t.Ax.getD T false=true:=hT
  have aq:T<t.Ax.length:=by
   rcases Nat.lt_or_ge T t.Ax.length with h1|h1
   ·exact h1
   ·rw[List.getD_eq_getElem?_getD,List.getElem?_eq_none h1] at zX;cases zX
  have:=List.all_eq_true.1 h.2.1 T (List.mem_range.2 aq)
  rw[zX] at this
  simp only[Bool.not_true,Bool.false_or] at this
  unfold ptB at this
  split at this
  ·rename_i e he;exact⟨e,he⟩
  ·cases this
end Go.Ref

namespace Go.Ref
open Go
variable {P:Program} {E:Env}
abbrev Pure:=(R:Type)->List SV->Option bB->(List SV->Option bB->Option R)->Option R
def Pure.Nat(g:Pure):Prop:=∀(R S:Type) l b (F:List SV->Option bB->Option R) (G:List SV->Option bB->Option S) (K:S->Option R),(∀r b,F r b=(G r b).bind K)->g R l b F=(g S l b G).bind K
def ai.none:ai:=fun _ _ _ _ _=> .none
def ai.add(C:ai)(n:FuncId)(ps:List Ty)(g:Pure):ai:=fun R f l b K=>bif Nat.beq f n then g R (aS ps l) b K else C R f l b K
theorem alx:ai.none.Nat:=fun _ _ _ _ _ _ _ _ _=>rfl
theorem ahI(f:FuncId):de P ai.none f:=fun _ _ _ _ h=>by cases h
theorem X6{C:ai}{n:FuncId}{ps:List Ty}{g:Pure}(hC:C.Nat)(hg:g.Nat):(C.add n ps g).Nat:=fun R S f l b F G K h=>by
 unfold ai.add
 cases Nat.beq f n with
 |false=>exact hC R S f l b F G K h
 |true=>exact hg R S _ b F G K h
theorem akK(hE:ar P E)(hm:P.follows .mixedOrders=true){C:ai}(hC:C.Nat)(h0:∀f,de P C f){n:FuncId}{ps:List Ty}{g:Pure}{fn:Func}{code:Code}(j4:P.funcs[n]? =some fn)(tD:(fn.name== "runtime.NumGoroutine")=false)(pR:fn.body=some code)
 (h:∀(l:List SV) (b:Option bB) (r:List SV) (b':Option bB),g (List SV×Option bB) (aS ps l) b (fun r b=>some (r,b))=some (r,b')->∃k,iW E (C (List SV×Option bB)) k fn code l b (fun r b=>some (r,b))=some (r,b')):∀f,de P (C.add n ps g) f:=by
 intro f
 by_cases e:f=n
 ·subst e
  refine aoh hE hm hC h0 j4 tD pR fun l b r b' hc=>h l b r b' ?_
  unfold ai.add at hc
  have:Nat.beq f f=true:=by simp
  rw[this] at hc
  exact hc
 ·intro l b r b' hc
  unfold ai.add at hc
  have:Nat.beq f n=false:=by
   cases hh:Nat.beq f n with
   |false=>rfl
   |true=>exact absurd (Nat.eq_of_beq_eq_true hh) e
  rw[this] at hc
  exact h0 f l b r b' hc
def sub:List Nat->Code->Code
 | [],c=>c
 |0::p,.seq a _=>sub p a
 |_::p,.seq _ b=>sub p b
 |0::p,.cond _ a _=>sub p a
 |_::p,.cond _ _ b=>sub p b
 |_::p,.block _ b=>sub p b
 |_::p,.loop b=>sub p b
 |_,c=>c
section
variable {R:Type}
def zk(id:Nat)(K:Ex->State->Option R):Ex->State->Option R:=fun e s=>match e with
 | .exit j=>bif Nat.beq j id then K .normal s else K (.exit j) s
 |e=>K e s
def aF(E:Env)(C:FuncId->bO R)(k:Nat)(b:Code)(K:Ex->State->Option R):Ex->State->Option R:=fun e s=>match e with
 | .normal=>mB E k (uq b) s fun s=>ev E C k b s K
 |e=>K e s
def aD(E:Env)(rs:List ResultVar)(bx:Option bB)(K:List SV->Option bB->Option R):Ex->State->Option R:=fun e s=>match e with
 | .exit _=>none
 |_=>match fW E s rs with
  |some (l,s')=>I5 s' bx (iG E l) K
  |none=>none
end
section
variable {R:Type}
def ix(l:List SV)(K:Option R):Option R:=
 match l with
 | []=>K
 |_=>none
def iy(t:Ty)(l:List SV)(K:El t->Option R):Option R:=
 match l with
 | [a]=>a.el t K
 |_=>none
def gG(t u:Ty)(l:List SV)(K:El t->El u->Option R):Option R:=
 match l with
 | [a,b]=>a.el t fun x=>b.el u fun y=>K x y
 |_=>none
def kB(t u v:Ty)(l:List SV)(K:El t->El u->El v->Option R):Option R:=
 match l with
 | [a,b,c]=>a.el t fun x=>b.el u fun y=>c.el v fun z=>K x y z
 |_=>none
def kC(t u v w:Ty)(l:List SV)(K:El t->El u->El v->El w->Option R):Option R:=
 match l with
 | [a,b,c,d]=>a.el t fun x=>b.el u fun y=>c.el v fun z=>d.el w fun z'=>K x y z z'
 |_=>none
end
theorem aod{R:Type}{t:Ty}{v:SV}{r:List Ty}{q:List SV}{K:El t->Option R}{z:R}{v':SV}{q':List SV}(hn:aS (t::r) (v::q)=v'::q')(h:v'.el t K=some z):∃y,v'= .aj t y []/\q'=aS r q/\K y=some z:=by
 have key:v'=v.shut/\q'=aS r q\/(∃e u,t= .sl e u/\v'= .aj (.sl e u) ([]:List (El u)) []/\q'=aS r q):=by
  cases t<;>cases v<;>simp only[aS,List.cons.injEq] at hn<;>first|exact .inl ⟨hn.1.symm,hn.2.symm⟩|exact .inr ⟨_,_,rfl,hn.1.symm,hn.2.symm⟩
 rcases key with⟨rfl,rfl⟩|⟨e,u,rfl,rfl,rfl⟩
 ·cases v with
  |aj t' x own=>
   simp only[SV.shut,SV.el] at h
   split at h
   ·rename_i heq
    have:=Ty.aR heq
    subst this
    exact⟨x,rfl,rfl,h⟩
   ·cases h
  |cG=>cases t<;>first|(simp [SV.shut,SV.el] at h;done)|(simp [aS,SV.shut] at hn;done)
  |_=>simp [SV.shut,SV.el] at h
 ·simp only[SV.el,Ty.bS,dite_true] at h
  exact⟨[],rfl,rfl,h⟩
theorem ztk(hE:ar P E){H:Type}{enc:TypeId×Value->H}{w:World}{spare:Nat->Bool}{held:Bool}{β:Nat->Option Nat}{base b:Nat}{T:TypeId}{t:Ty}{v:Value}{d:DataW H}{ps:List MemPlace}(hT:E.ty T=some t)(iX:t.fK=true)
 (hv:Value.okWide P w .any b T v) (hd:DataW.Trod enc P w base spare held T v d ps):∃y:El t,Wf t y/\∀q,aA (uw w β) q (.aj t y []) v:=by
 obtain⟨cF,hd⟩:=hd
 obtain⟨y,r,wf⟩:=(aop (β:=β) hE t).1 T cF _ _ hT iX hd
 refine⟨y,wf,fun q=>⟨_,r,?_,mO⟩⟩
 have hu:=(hE.ty T t hT).dj
 have hl:=r.len
 cases ht:t.agg with
 |true=>
  rw[je ht]
  have:∃cs,v= .agg cs:=by
   unfold Value.okWide at hv
   cases t with
   |arr n t=>obtain⟨e,h1,_⟩:=hu;rw[h1] at hv;obtain⟨cs,h,_⟩:=hv;exact⟨cs,h⟩
   |unit=>obtain⟨fs,h1,_⟩:=hu;rw[h1] at hv;obtain⟨cs,h,_⟩:=hv;exact⟨cs,h⟩
   |pair a b=>obtain⟨fs,h1,_⟩:=hu;rw[h1] at hv;obtain⟨cs,h,_⟩:=hv;exact⟨cs,h⟩
   |aZ k a b=>exact absurd (hE.ij hT) (by simp [Ty.bM])
   |_=>simp [Ty.agg] at ht
  obtain⟨cs,rfl⟩:=this
  rfl
 |false=>
  have aav:∀cs,v≠ .agg cs:=by
   rintro cs rfl
   unfold Value.okWide at hv
   cases t with
   |bool=>have hu:P.underlying T=some .bool:=hu;rw[hu] at hv;unfold Cell.okWide at hv;rw[hu] at hv;unfold Cell.ok at hv;rw[hu] at hv;exact hv
   |int k=>have hu:P.underlying T=some (.int k):=hu;rw[hu] at hv;unfold Cell.okWide at hv;rw[hu] at hv;unfold Cell.ok at hv;rw[hu] at hv;exact hv
   |str=>have hu:P.underlying T=some .string:=hu;rw[hu] at hv;unfold Cell.okWide at hv;rw[hu] at hv;unfold Cell.ok at hv;rw[hu] at hv;exact hv
   |sl e t=>have hu:P.underlying T=some (.slice e):=hu.1;rw[hu] at hv;unfold Cell.okWide at hv;rw[hu] at hv;unfold Cell.ok at hv;rw[hu] at hv;exact hv
   |_=>simp [Ty.agg] at ht
  have hc:v.cells.toList=[v]:=by
   cases v<;>first|rfl|exact absurd rfl (aav _)
  rw[hc,SK ht]
theorem aeG{w:World}{β:Nat->Option Nat}{Y:az}(h:Ext (uw w β) Y):∀g,g<w.heap.size->Y.w.heap[g]? =w.heap[g]? :=fun g hg=>(h.still g hg trivial).2
end Go.Ref

namespace Go.Ref
open Go
theorem Gk{x:Int}(h1: -9223372036854775808<=x)(h2:x<=9223372036854775807):IntKind.i64.wrap x=x:=by
 simp [IntKind.wrap,IntKind.signed,IntKind.bits]
 omega
theorem aim{R:Type}{j n:Nat}{x:Option R}(h:j<n):zd (j:Int) n x=x:=by
 unfold zd
 rw[decide_eq_true (by omega:(0:Int)<=j),decide_eq_true (by omega:(j:Int)<n)]
 rfl
variable {P:Program} {E:Env}
def SM(X:az):List SV->List Value->Prop
 | [],[]=>True
 |s::l,v::vs=>(∀q,aA X q s v)/\(∀id t p,s≠ .ptr id t p)/\SM X l vs
 |_,_=>False
theorem zy5{X:az}:∀{l:List SV} {vs:List Value},SM X l vs->vs.length=l.length/\∀(i:Nat) s v,l[i]? =some s->vs[i]? =some v->(∀q,aA X q s v)/\∀id t p,s≠ .ptr id t p
 | [],[],_=>⟨rfl,fun i s v h=>by simp at h⟩
 |s::l,v::vs,h=>by
  obtain⟨h1,h2,h3⟩:=h
  obtain⟨g1,g2⟩:=zy5 h3
  refine⟨by simp [g1],fun i s' v' hs hv=> ?_⟩
  cases i with
  |zero=>
   simp only[List.getElem?_cons_zero,Option.some.injEq] at hs hv
   subst hs hv
   exact⟨h1,h2⟩
  |succ i=>
   simp only[List.getElem?_cons_succ] at hs hv
   exact g2 i s' v' hs hv
theorem ala{X:az}{l:List SV}{args:Array Value}(h:SM X l args.toList)(hX:∀g pl n,X.ow g≠ .row pl n):kl X l none args:=by
 obtain⟨h1,h2⟩:=zy5 h
 refine⟨by simpa using h1,fun i sv v hs hv=>(h2 i sv v hs (by simpa using hv)).1 _,fun id t p hm=> ?_,fun B hB=>(by cases hB),fun _=>hX⟩
 obtain⟨i,hi⟩:=List.mem_iff_getElem?.1 hm
 have aq:=(List.getElem?_eq_some_iff.1 hi).1
 have nG:i<args.toList.length:=by omega
 exact absurd rfl ((h2 i _ _ hi (List.getElem?_eq_getElem nG)).2 id t p)
theorem ahW{C:ai}{f:FuncId}(ho:de P C f){l:List SV}{args:Array Value}{W:World}{b:Bool}(hc:C (List SV×Option bB) f l none (fun r b=>some (r,b))=some ([.aj .bool b []],none))(ig:SM (uw W fun _=>none) l args.toList):
 Calls P f args W fun e w'=>e= .returned (.bool b)/\RowKit.Below W.heap.size W w':=by
 refine((ho l none _ _ hc).2 (uw W fun _=>none) args (ala ig fun g pl n e=>by cases e)).mono fun e w' he=> ?_
 cases e with
 |returned v=>
  obtain⟨Y,rfl,bn,r0,aT,_,_⟩:=he
  have aT:aA {Y with β:=fun _=>some r0} (.r 0) (.aj .bool b []) v:=aT
  refine⟨by rw[Ri aT],bn.os,bn.tape,bn.output,bn.size,fun k hk=>aeG bn k hk⟩
 |panicked c=>exact he.elim
 |outgrown=>exact he.elim
end Go.Ref

namespace Go.Ref
open Go
variable {P:Program} {E:Env}
def bs(l:List Nat):ByteArray:=⟨(l.map UInt8.ofNat).toArray⟩
@[irreducible] def ah:Nat:=18446744073709551616
theorem aew{R:Type}(f:Unit->Option R):aY ah f=f ():=by
 have:ah=18446744073709551615+1:=by unfold ah;rfl
 rw[this];rfl
section
variable {R S:Type}
def iB(body:State->(Ex->State->Option R)->Option R)(l lx:List Nat)(k:Nat)(K:Ex->State->Option R):Ex->State->Option R:=fun e s=>match e with
 | .normal=>re l s fun s=>aw body l lx k s K
 |e=>re lx s fun s=>K e s
def nx(t:Ty)(own:List (List Nat))(l:List SV)(b:Option bB)(K:El t->List SV->Option R):Option R:=
 match l,b with
 | .ptr 0 u []::r,some B=>if h:B.t.cu t=true then if(u.cu t&&B.own==own)=true then K (Ty.cast h B.x) r else none else none
 |_,_=>none
def kA(t pt bt:Ty)(own:List (List Nat))(l:List SV)(b:Option bB)(K:El t->El bt->Option R):Option R:=
 match l,b with
 | [a,.ptr 0 u []],some B=>if h:B.t.cu bt=true then if(u.cu pt&&B.own==own)=true then a.el t fun y=>K y (Ty.cast h B.x) else none else none
 |_,_=>none
def I2(t u v w:Ty)(l:List SV)(K:El t->El u->El v->El w->Option R):Option R:=
 match l with
 | [a,b,.view v' x,.view w' y]=>if h:v'.cu v=true then if h2:w'.cu w=true then a.el t fun p=>b.el u fun q=>K p q (Ty.cast h x) (Ty.cast h2 y) else none else none
 |_=>none
def fI(b:Option bB)(K:Option R):Option R:=
 match b with
 |none=>K
 |some _=>none
theorem Gq{b:Option bB}{F:Option R}{G:Option S}{K:S->Option R}(h:F=G.bind K):fI b F=(fI b G).bind K:=by
 cases b
 ·exact h
 ·rfl
theorem Gn{b:Option bB}{F:Option R}{z:R}(h:fI b F=some z):b=none/\F=some z:=by
 cases b
 ·exact⟨rfl,h⟩
 ·cases h
theorem zjd(c:Bool)(x y:Option S)(F:S->Option R):(bif c then x else y).bind F=bif c then x.bind F else y.bind F:=by cases c<;>rfl
theorem adO(i:Int)(n:Nat)(x:Option S)(F:S->Option R):(zd i n x).bind F=zd i n (x.bind F):=by
 unfold zd;rw[zjd,zjd];rfl
theorem ahH(F:S->Option R):(none:Option S).bind F=none:=Eq.trans rfl rfl
theorem zc(x:S)(F:S->Option R):(some x).bind F=F x:=Eq.trans rfl rfl
theorem alM{α β:Type}(f:α->Option S)(g:β->Option S)(e:α⊕β)(F:S->Option R):(Sum.elim f g e).bind F=Sum.elim (fun x=>(f x).bind F) (fun x=>(g x).bind F) e:=by cases e<;>rfl
theorem agX{α:Type}(x:Option α)(f:α->Option S)(F:S->Option R):(x.bind f).bind F=x.bind fun y=>(f y).bind F:=by cases x<;>rfl
theorem Ms{l:List SV}{F:Option R}{G:Option S}{K:S->Option R}(h:F=G.bind K):ix l F=(ix l G).bind K:=by
 unfold ix;split
 ·exact h
 ·rfl
theorem Mt{t:Ty}{l:List SV}{F:El t->Option R}{G:El t->Option S}{K:S->Option R}(h:∀x,F x=(G x).bind K):iy t l F=(iy t l G).bind K:=by
 unfold iy;split
 ·exact zv h
 ·rfl
theorem Mu{t u:Ty}{l:List SV}{F:El t->El u->Option R}{G:El t->El u->Option S}{K:S->Option R}(h:∀x y,F x y=(G x y).bind K):gG t u l F=(gG t u l G).bind K:=by
 unfold gG;split
 ·exact zv fun x=>zv fun y=>h x y
 ·rfl
theorem agS{t u v:Ty}{l:List SV}{F:El t->El u->El v->Option R}{G:El t->El u->El v->Option S}{K:S->Option R}(h:∀x y z,F x y z=(G x y z).bind K):kB t u v l F=(kB t u v l G).bind K:=by
 unfold kB;split
 ·exact zv fun x=>zv fun y=>zv fun z=>h x y z
 ·rfl
theorem agT{t u v w:Ty}{l:List SV}{F:El t->El u->El v->El w->Option R}{G:El t->El u->El v->El w->Option S}{K:S->Option R}(h:∀x y z a,F x y z a=(G x y z a).bind K):kC t u v w l F=(kC t u v w l G).bind K:=by
 unfold kC;split
 ·exact zv fun x=>zv fun y=>zv fun z=>zv fun a=>h x y z a
 ·rfl
theorem NP{t:Ty}{own:List (List Nat)}{l:List SV}{b:Option bB}{F:El t->List SV->Option R}{G:El t->List SV->Option S}{K:S->Option R}(h:∀x r,F x r=(G x r).bind K):nx t own l b F=(nx t own l b G).bind K:=by
 unfold nx;split
 ·split
  ·split
   ·exact h _ _
   ·rfl
  ·rfl
 ·rfl
theorem agR{t pt bt:Ty}{own:List (List Nat)}{l:List SV}{b:Option bB}{F:El t->El bt->Option R}{G:El t->El bt->Option S}{K:S->Option R}(h:∀x y,F x y=(G x y).bind K):kA t pt bt own l b F=(kA t pt bt own l b G).bind K:=by
 unfold kA;split
 ·split
  ·split
   ·exact zv fun y=>h _ _
   ·rfl
  ·rfl
 ·rfl
theorem ad7{t u v w:Ty}{l:List SV}{F:El t->El u->El v->El w->Option R}{G:El t->El u->El v->El w->Option S}{K:S->Option R}(h:∀x y z a,F x y z a=(G x y z a).bind K):I2 t u v w l F=(I2 t u v w l G).bind K:=by
 unfold I2;split
 ·split
  ·split
   ·exact zv fun x=>zv fun y=>h x y _ _
   ·rfl
  ·rfl
 ·rfl
theorem uT{α:Type}{m:Option α}{F:α->Option R}{G:α->Option S}{K:S->Option R}(h:∀r,F r=(G r).bind K):m.bind F=(m.bind G).bind K:=by
 cases m with
 |none=>rfl
 |some x=>exact h x
theorem Qg{α β:Type}{f:α->Option R}{g:β->Option R}{f':α->Option S}{g':β->Option S}{K:S->Option R}{e:α⊕β}(h1:∀x,f x=(f' x).bind K)(h2:∀x,g x=(g' x).bind K):Sum.elim f g e=(Sum.elim f' g' e).bind K:=by
 cases e with
 |inl x=>exact h1 x
 |inr x=>exact h2 x
end
section
variable {R:Type}
theorem ahr{C:FuncId->bO R}{k:Nat}{fn:Func}{code:Code}{l q:List SV}{b:Option bB}{K:List SV->Option bB->Option R}(h:aS E.ps l=q)(hq:aS E.ps q=q)(hl:q.length=l.length):iW E C k fn code l b K=iW E C k fn code q b K:=by
 unfold iW
 simp only[h,hq,hl]
theorem Nh:∀{ts:List Ty} {q:List SV},(∀s∈q,s.shut=s/\s≠ .cG)->aS ts q=q
 |ts,[],_=>by cases ts<;>simp [aS]
 | [],q,_=>by simp [aS]
 |t::r,v::q,h=>by
  have h1:=h v (by simp)
  have h2:=Nh (ts:=r) (q:=q) (fun s hs=>h s (by simp [hs]))
  cases t<;>cases v<;>simp [aS,h2]<;>first|exact h1.1|exact absurd rfl h1.2
theorem aly{ts:List Ty}{l:List SV}(h:aS ts l=[]):l=[]:=by
 have:=Uo ts l
 rw[h] at this
 exact List.length_eq_zero_iff.1 this.symm
theorem ahK{t:Ty}{r:List Ty}{l:List SV}{v':SV}{q':List SV}(h:aS (t::r) l=v'::q'):∃v q,l=v::q:=by
 cases l with
 |nil=>simp [aS] at h
 |cons v q=>exact⟨v,q,rfl⟩
theorem qY{t:Ty}{r:List Ty}{l:List SV}{a:SV}{q':List SV}{K:El t->Option R}{z:R}(hn:aS (t::r) l=a::q')(h:a.el t K=some z):∃y v q,a= .aj t y []/\l=v::q/\aS r q=q'/\K y=some z:=by
 obtain⟨v,q,rfl⟩:=ahK hn
 obtain⟨y,h1,h2,h3⟩:=aod hn h
 exact⟨y,v,q,h1,rfl,h2.symm,h3⟩
theorem Gs{l q:List SV}(hn:aS E.ps l=q)(hd:∀s∈q,s.shut=s/\s≠ .cG){C:FuncId->bO R}{k:Nat}{fn:Func}{code:Code}{b:Option bB}{K:List SV->Option bB->Option R}:iW E C k fn code l b K=iW E C k fn code q b K:=
 ahr hn (Nh hd) (by rw[<-hn,Uo])
theorem Ht{t:Ty}{x:El t}:(SV.aj t x []).shut=SV.aj t x []/\SV.aj t x []≠ .cG:=⟨rfl,by simp⟩
def kY(E:Env)(l q:List SV):Prop:=∀{R:Type} (C:FuncId->bO R) (k:Nat) (fn:Func) (code:Code) (b:Option bB) (K:List SV->Option bB->Option R),iW E C k fn code l b K=iW E C k fn code q b K
theorem xe{l:List SV}{F:Option R}{z:R}(jK:E.ps=[])(h:ix (aS [] l) F=some z):F=some z/\kY E l []:=by
 unfold ix at h
 split at h
 ·rename_i hn
  have:=aly hn
  subst this
  exact⟨h,fun C k fn code b K=>rfl⟩
 ·cases h
theorem acd{t:Ty}{l:List SV}{F:El t->Option R}{z:R}(jK:E.ps=[t])(h:iy t (aS [t] l) F=some z):∃x,F x=some z/\kY E l [.aj t x []]:=by
 unfold iy at h
 split at h
 ·rename_i a hn
  obtain⟨x,v,q,rfl,rfl,h1,h⟩:=qY hn h
  refine⟨x,h,fun C k fn code b K=>Gs (by rw[jK];exact hn) ?_⟩
  intro s hs
  simp only[List.mem_cons,List.not_mem_nil,or_false] at hs
  subst hs;exact Ht
 ·cases h
theorem tX{t u:Ty}{l:List SV}{F:El t->El u->Option R}{z:R}(jK:E.ps=[t,u])(h:gG t u (aS [t,u] l) F=some z):∃x y,F x y=some z/\kY E l [.aj t x [],.aj u y []]:=by
 unfold gG at h
 split at h
 ·rename_i a b hn
  obtain⟨x,v,q,rfl,rfl,h1,h⟩:=qY hn h
  obtain⟨y,v',q',rfl,rfl,h2,h⟩:=qY h1 h
  refine⟨x,y,h,fun C k fn code b K=>Gs (by rw[jK];exact hn) ?_⟩
  intro s hs
  simp only[List.mem_cons,List.not_mem_nil,or_false] at hs
  rcases hs with rfl|rfl<;>exact Ht
 ·cases h
theorem ace{t u v:Ty}{l:List SV}{F:El t->El u->El v->Option R}{z:R}(jK:E.ps=[t,u,v])(h:kB t u v (aS [t,u,v] l) F=some z):∃x y a,F x y a=some z/\kY E l [.aj t x [],.aj u y [],.aj v a []]:=by
 unfold kB at h
 split at h
 ·rename_i a b c hn
  obtain⟨x,v,q,rfl,rfl,h1,h⟩:=qY hn h
  obtain⟨y,v',q',rfl,rfl,h2,h⟩:=qY h1 h
  obtain⟨w,v',q',rfl,rfl,h3,h⟩:=qY h2 h
  refine⟨x,y,w,h,fun C k fn code b K=>Gs (by rw[jK];exact hn) ?_⟩
  intro s hs
  simp only[List.mem_cons,List.not_mem_nil,or_false] at hs
  rcases hs with rfl|rfl|rfl<;>exact Ht
 ·cases h
theorem acf{t u v w:Ty}{l:List SV}{F:El t->El u->El v->El w->Option R}{z:R}(jK:E.ps=[t,u,v,w])(h:kC t u v w (aS [t,u,v,w] l) F=some z):∃x y a b,F x y a b=some z/\kY E l [.aj t x [],.aj u y [],.aj v a [],.aj w b []]:=by
 unfold kC at h
 split at h
 ·rename_i a b c d hn
  obtain⟨x,v,q,rfl,rfl,h1,h⟩:=qY hn h
  obtain⟨y,v',q',rfl,rfl,h2,h⟩:=qY h1 h
  obtain⟨w,v',q',rfl,rfl,h3,h⟩:=qY h2 h
  obtain⟨w',v',q',rfl,rfl,h4,h⟩:=qY h3 h
  refine⟨x,y,w,w',h,fun C k fn code b K=>Gs (by rw[jK];exact hn) ?_⟩
  intro s hs
  simp only[List.mem_cons,List.not_mem_nil,or_false] at hs
  rcases hs with rfl|rfl|rfl|rfl<;>exact Ht
 ·cases h
theorem Mr{t:Ty}{own:List (List Nat)}{l:List SV}{b:Option bB}{F:El t->List SV->Option R}{z:R}(h:nx t own l b F=some z):∃x r,l= .ptr 0 t []::r/\b=some ⟨t,x,own⟩/\F x r=some z:=by
 unfold nx at h
 split at h
 ·rename_i u r B
  split at h
  ·rename_i hB
   split at h
   ·rename_i hu
    simp only[Bool.and_eq_true,beq_iff_eq] at hu
    obtain⟨h1,h2⟩:=hu
    obtain⟨Bt,Bx,Bo⟩:=B
    have:=Ty.aR hB
    have h3:=Ty.aR h1
    subst this
    subst h3
    subst h2
    exact⟨Bx,r,rfl,rfl,h⟩
   ·cases h
  ·cases h
 ·cases h
theorem Rc{t:Ty}:(SV.ptr 0 t []).shut=SV.ptr 0 t []/\SV.ptr 0 t []≠ .cG:=⟨rfl,by simp⟩
theorem kY.ptr{t:Ty}{ts:List Ty}{q q':List SV}(jK:E.ps= .unit::ts)(hn:aS ts q=q')(hd:∀s∈q',s.shut=s/\s≠ .cG):kY E (.ptr 0 t []::q) (.ptr 0 t []::q'):=fun C k fn code b K=>
 Gs (by rw[jK];simp [aS,SV.shut,hn]) (fun s hs=>by
  rcases List.mem_cons.1 hs with rfl|hs
  ·exact Rc
  ·exact hd s hs)
theorem L1{t pt bt:Ty}{own:List (List Nat)}{l:List SV}{b:Option bB}{F:El t->El bt->Option R}{z:R}(jK:E.ps=[t,.unit])(h:kA t pt bt own (aS [t,.unit] l) b F=some z):
 ∃x y,b=some ⟨bt,y,own⟩/\F x y=some z/\kY E l [.aj t x [],.ptr 0 pt []]:=by
 unfold kA at h
 split at h
 ·rename_i a u B hn
  split at h
  ·rename_i hB
   split at h
   ·rename_i hu
    simp only[Bool.and_eq_true,beq_iff_eq] at hu
    obtain⟨h1,h2⟩:=hu
    obtain⟨Bt,Bx,Bo⟩:=B
    have:=Ty.aR hB
    have h3:=Ty.aR h1
    subst this
    subst h3
    subst h2
    obtain⟨y,v,q,rfl,rfl,h4,h⟩:=qY hn h
    refine⟨y,Bx,rfl,h,fun C k fn code b K=>Gs (by rw[jK];exact hn) ?_⟩
    intro s hs
    simp only[List.mem_cons,List.not_mem_nil,or_false] at hs
    rcases hs with rfl|rfl
    ·exact Ht
    ·exact Rc
   ·cases h
  ·cases h
 ·cases h
theorem Ql{t:Ty}{x:El t}:(SV.view t x).shut=SV.view t x/\SV.view t x≠ .cG:=⟨rfl,by simp⟩
theorem L0{t u v w:Ty}{l:List SV}{F:El t->El u->El v->El w->Option R}{z:R}(jK:E.ps=[t,u,.unit,.unit])(h:I2 t u v w (aS [t,u,.unit,.unit] l) F=some z):
 ∃p q x y,F p q x y=some z/\kY E l [.aj t p [],.aj u q [],.view v x,.view w y]:=by
 unfold I2 at h
 split at h
 ·rename_i a b v' x w' y hn
  split at h
  ·rename_i hv
   split at h
   ·rename_i hw
    have:=Ty.aR hv
    have h3:=Ty.aR hw
    subst this
    subst h3
    obtain⟨p,v1,q1,rfl,rfl,h4,h⟩:=qY hn h
    obtain⟨q,v2,q2,rfl,rfl,h5,h⟩:=qY h4 h
    refine⟨p,q,x,y,h,fun C k fn code b K=>Gs (by rw[jK];exact hn) ?_⟩
    intro s hs
    simp only[List.mem_cons,List.not_mem_nil,or_false] at hs
    rcases hs with rfl|rfl|rfl|rfl
    ·exact Ht
    ·exact Ht
    ·exact Ql
    ·exact Ql
   ·cases h
  ·cases h
 ·cases h
end
end Go.Ref

namespace Go.Ref
open Go
variable {P:Program} {E:Env}
def az.after(X:az)(w:World):az:=⟨w,fun g=>if g<X.w.heap.size then X.ow g else .ro 0,X.β⟩
theorem zxq{X:az}{w:World}(h:RowKit.Below X.w.heap.size X.w w){a:Addr}{v:Value}(hs:X.aE a v):(X.after w).aE a v:=by
 have aq:=az.gZ hs
 refine⟨hs.1,?_,?_⟩
 ·have:=hs.2.1
  simp only[World.cell?] at this⊢
  rw[show(X.after w).w=w from rfl,h.block _ aq];exact this
 ·simp only[az.after];rw[if_pos aq];exact hs.2.2
theorem agO{X:az}{w:World}(h:RowKit.Below X.w.heap.size X.w w):Ext X (X.after w) where
 aE:=fun _ _=>zxq h
 size:=h.size
 os:=h.os
 tape:=h.tape
 output:=h.output
 β0:=rfl
 still:=fun g hg _=>⟨by simp only[az.after];rw[if_pos hg],h.block g hg⟩
theorem alo{C:ai}(h0:∀f,de P C f){n:FuncId}{g:Pure}(eD:ri P n)
 (h:∀(l:List SV) (b:Option bB) (r:List SV) (b':Option bB),g (List SV×Option bB) l b (fun r b=>some (r,b))=some (r,b')->b'=none/\(∀id t p,SV.ptr id t p∉r)/\
   ∀(X:az) (args:Array Value),kl X l b args->Calls P n args X.w fun e w'=>∃v,e= .returned v/\RowKit.Below X.w.heap.size X.w w'/\∀Y:az,Y.w=w'->(∀a v,X.aE a v->Y.aE a v)->cM Y .r r v):∀f,de P (C.add n [] g) f:=by
 intro f
 by_cases e:f=n
 ·subst e
  intro l b r b' hc
  unfold ai.add at hc
  have hb:Nat.beq f f=true:=by simp
  rw[hb] at hc
  have hc:g (List SV×Option bB) (aS [] l) b (fun r b=>some (r,b))=some (r,b'):=hc
  have hl:aS [] l=l:=by cases l<;>rfl
  rw[hl] at hc
  obtain⟨rfl,hp,BS⟩:=h l b r b' hc
  refine⟨eD,fun X args ig=>(BS X args ig).mono fun e w' he=> ?_⟩
  obtain⟨v,rfl,hB,aT⟩:=he
  refine⟨X.after w',rfl,agO hB,0,aT {X.after w' with β:=fun _=>some 0} rfl (fun a v hs=>(zxq hB hs:(X.after w').aE a v)),fun B' fM=>(by cases fM),fun _=>hp⟩
 ·intro l b r b' hc
  unfold ai.add at hc
  have:Nat.beq f n=false:=by
   cases hh:Nat.beq f n with
   |false=>rfl
   |true=>exact absurd (Nat.eq_of_beq_eq_true hh) e
  rw[this] at hc
  exact h0 f l b r b' hc
theorem MQ{X:az}{l:List SV}{b:Option bB}{args:Array Value}(h:kl X l b args){i:Nat}{sv:SV}(hs:l[i]? =some sv){x:ByteArray}(hx:∀(X:az) (pl:List Nat->Place) (v:Value),aA X pl sv v->∃cs,aW X .str x cs/\v=dJ .str cs):args[i]? =some (.string x):=by
 have aq:i<args.size:=by rw[h.size];exact(List.getElem?_eq_some_iff.1 hs).1
 rw[Array.getElem?_eq_getElem aq]
 obtain⟨cs,h1,h2⟩:=hx X _ _ (h.rep i sv _ hs (Array.getElem?_eq_getElem aq))
 rw[h2,z24 h1]
theorem aho{X:az}{l:List SV}{b:Option bB}{args:Array Value}(h:kl X l b args){i:Nat}{sv:SV}(hs:l[i]? =some sv){k:IntKind}{n:Int}(hx:∀(X:az) (pl:List Nat->Place) (v:Value),aA X pl sv v->∃cs,aW X (.int k) n cs/\v=dJ (.int k) cs):args[i]? =some (.int k n):=by
 have aq:i<args.size:=by rw[h.size];exact(List.getElem?_eq_some_iff.1 hs).1
 rw[Array.getElem?_eq_getElem aq]
 obtain⟨cs,h1,h2⟩:=hx X _ _ (h.rep i sv _ hs (Array.getElem?_eq_getElem aq))
 rw[h2,kP h1]
theorem akM{args:Array Value}{v:Value}(hs:args.size=1)(h:args[0]? =some v):args= #[v]:=by
 apply Array.ext'
 match hl:args.toList,(show args.toList.length=1 by simpa using hs) with
 | [x],_=>
   have:args.toList[0]? =some v:=by simpa using h
   rw[hl] at this
   simpa using this
theorem NR{args:Array Value}{u v:Value}(hs:args.size=2)(h:args[0]? =some u)(h1:args[1]? =some v):args= #[u,v]:=by
 apply Array.ext'
 match hl:args.toList,(show args.toList.length=2 by simpa using hs) with
 | [x,y],_=>
   have a:args.toList[0]? =some u:=by simpa using h
   have b:args.toList[1]? =some v:=by simpa using h1
   rw[hl] at a b
   simp at a b
   rw[a,b]
theorem alp{C:ai}(h0:∀f,de P C f){n:FuncId}(eD:ri P n)(F:ByteArray->Int->Option ByteArray)
 (h:∀(s:ByteArray) (k:Int) (r:ByteArray),F s k=some r->∀w:World,Calls P n #[.string s,.int .i64 k] w fun e w'=>e= .returned (.string r)/\RowKit.Below w.heap.size w w'):
 ∀f,de P (C.add n [] fun R l b K=>fI b (gG .str (.int .i64) l fun x0 x1=>(F x0 x1).bind fun r=>K [.aj .str r []] none)) f:=by
 refine alo h0 eD fun l b r b' hc=> ?_
 obtain⟨hb,hc2⟩:=Gn hc
 clear hc
 subst hb
 have hc:=hc2
 clear hc2
 unfold gG at hc
 split at hc
 case h_2=>cases hc
 rename_i sa sb
 obtain⟨s,hc,hs⟩:=gy hc
 obtain⟨k,hc,hk⟩:=gy hc
 have hc:((F s k).bind fun r=>some (([SV.aj .str r []]:List SV),(none:Option bB)))=some (r,b'):=hc
 cases hF:F s k with
 |none=>rw[hF] at hc;cases hc
 |some x=>
  rw[hF] at hc
  cases hc
  refine⟨rfl,fun id t p hm=>by simp at hm,fun X args ig=> ?_⟩
  have e:=NR ig.size (MQ ig rfl hs) (aho ig rfl hk)
  rw[e]
  exact(h s k x hF X.w).mono fun e w' ⟨he,hB⟩=>⟨_,he,hB,fun Y _ _=>AV⟩
end Go.Ref
namespace bF
open Go Go.Ref
def strings_Repeat(s:ByteArray)(k:Int):Option ByteArray:=
 bif decide (0<=k) then bif decide (k<=9223372036854775807) then bif decide ((s.size:Int)*k<=140737488355328) then some ⟨(Go.Lib.repeatL s.data.toList k.toNat).toArray⟩ else none else none else none
theorem zex{P:Program}{ρ:Go.Shelf.Ren}(L:Go.Proofs.Lays.n105 P ρ)(B:Go.Proofs.Builder.Extra P ρ){n:FuncId}(hn:ρ.f 105=n)(s:ByteArray)(k:Int)(r:ByteArray)(h:strings_Repeat s k=some r)(w:World):
 Calls P n #[.string s,.int .i64 k] w fun e w'=>e= .returned (.string r)/\RowKit.Below w.heap.size w w':=by
 subst hn
 unfold strings_Repeat at h
 by_cases h0:0<=k
 ·by_cases h1:k<=9223372036854775807
  ·by_cases h2:(s.size:Int)*k<=140737488355328
   ·rw[decide_eq_true h0,decide_eq_true h1,decide_eq_true h2] at h
    cases h
    obtain⟨c,rfl⟩:∃c:Nat,k=(c:Int):=⟨k.toNat,by omega⟩
    exact Go.Proofs.Any.strings_Repeat L B s c w (by omega) (by rw[<-Int.natCast_mul] at h2;omega)
   ·rw[decide_eq_true h0,decide_eq_true h1,decide_eq_false h2] at h;cases h
  ·rw[decide_eq_true h0,decide_eq_false h1] at h;cases h
 ·rw[decide_eq_false h0] at h;cases h
end bF

namespace Go.Ref
open Go Go.Shelf Go.RowKit Go.Proofs
variable {P:Program} {E:Env} {ρ:Ren}
abbrev xk(T e:TypeId):Ty:= .aZ (.fQ T e) .unit .unit
def TY(x s:ByteArray):Option (Int×ByteArray):=bif decide (x.size+s.size<=140737488355328) then some ((s.size:Int),x++s) else none
def z5g(x:ByteArray):Option (ByteArray×ByteArray):=some (x,x)
def Th(T e:TypeId):Pure:=fun R l b K=>nx (xk T e) [[]] l b fun x0 l=>iy .str l fun x1=>(TY x0 x1).bind fun r=>K [.aj (.int .i64) r.1 [],.undef] (some ⟨xk T e,r.2,[[]]⟩)
def Tg(T e:TypeId):Pure:=fun R l b K=>nx (xk T e) [[]] l b fun x0 l=>ix l ((z5g x0).bind fun r=>K [.aj .str r.1 []] (some ⟨xk T e,r.2,[]⟩))
theorem ap1(T e:TypeId):(Th T e).Nat:=fun R S l b F G K h=>NP fun _ _=>Mt fun _=>uT fun _=>h _ _
theorem ap0(T e:TypeId):(Tg T e).Nat:=fun R S l b F G K h=>NP fun _ _=>Ms (uT fun _=>h _ _)
theorem adf(x s:ByteArray):Lib.strCells (x++s)=Lib.strCells x++Lib.strCells s:=by
 simp [Lib.strCells,ByteArray.data_append]
def az.fQ(X:az)(w:World)(r:Nat)(g:Option Nat):az:=⟨w,fun k=>if k=r then .box 0 else if g=some k then .row (.b 0 []) 0 else if k<X.w.heap.size then X.ow k else .ro 0,X.β⟩
theorem PN{X:az}{w:World}{r:Nat}{g0 g:Option Nat}(how:X.ow r= .box 0)(h0:∀k,g0=some k->X.ow k= .row (.b 0 []) 0)(h:fP r g0 X.w w)(hg:∀k,g=some k->g0=some k\/X.w.heap.size<=k):Ext X (X.fQ w r g):=by
 have dB:∀k,k<X.w.heap.size->X.ow k≠ .box 0->X.ow k≠ .row (.b 0 []) 0->(X.fQ w r g).ow k=X.ow k/\w.heap[k]? =X.w.heap[k]? :=fun k hk h1 h2=>by
  have hr:k≠r:=fun e=>h1 (by rw[e];exact how)
  have hg1:g≠some k:=fun e=>by
   rcases hg k e with e2|e2
   ·exact h2 (h0 k e2)
   ·omega
  have hg2:some k≠g0:=fun e=>h2 (h0 k e.symm)
  refine⟨?_,h.block k hk hr hg2⟩
  simp only[az.fQ]
  rw[if_neg hr,if_neg hg1,if_pos hk]
 refine⟨fun a v hs=> ?_,h.size,h.os,h.tape,h.output,rfl,fun k hk cH=> ?_⟩
 ·have aq:=az.gZ hs
  have hu:=hs.2.2
  obtain⟨k1,k2⟩:=dB a.block aq (fun e=>by rw[e] at hu;exact hu) (fun e=>by rw[e] at hu;exact Nat.not_lt_zero _ hu)
  refine⟨hs.1,?_,by rw[k1];exact hu⟩
  have:=hs.2.1
  simp only[World.cell?] at this⊢
  rw[show(X.fQ w r g).w.heap=w.heap from rfl,k2];exact this
 ·exact dB k hk (fun e=>by rw[e] at cH;exact cH) (fun e=>by rw[e] at cH;exact cH)
theorem NW(n:Nat):Nat.beq n n=true:=by simp
theorem QN{f n:Nat}(e:f≠n):Nat.beq f n=false:=by
 cases hh:Nat.beq f n with
 |false=>rfl
 |true=>exact absurd (Nat.eq_of_beq_eq_true hh) e
theorem agZ{C:ai}(h0:∀f,de P C f){n T e:TypeId}(eD:ri P n)(L:Lays.n166 P ρ)(X0:Builder.Extra P ρ)(hn:ρ.f 166=n)(hT:ρ.t 72=T)(he:ρ.t 5=e):∀f,de P (C.add n [] (Th T e)) f:=by
 subst hT he
 intro f
 by_cases ef:f=n
 ·subst ef
  intro l b r b' hc
  unfold ai.add at hc
  rw[NW] at hc
  have hc:Th (ρ.t 72) (ρ.t 5) (List SV×Option bB) (aS [] l) b (fun r b=>some (r,b))=some (r,b'):=hc
  have hl:aS [] l=l:=by cases l<;>rfl
  rw[hl] at hc
  unfold Th at hc
  obtain⟨x,q,rfl,rfl,Lc⟩:=Mr hc
  clear hc
  have hc:=Lc
  clear Lc
  unfold iy at hc
  split at hc
  case h_2=>cases hc
  rename_i a
  obtain⟨s,hc,hs⟩:=gy hc
  unfold TY at hc
  cases hd:decide (ByteArray.size x+s.size<=140737488355328) with
  |false=>rw[hd] at hc;cases hc
  |true=>
   rw[hd] at hc
   cases hc
   have hlen:=of_decide_eq_true hd
   refine⟨eD,fun X args ig=> ?_⟩
   obtain⟨r0,hβ,how,⟨o,ho⟩,hb⟩:=ig.box _ rfl
   obtain⟨v,hB,hv⟩:=hb (by simp)
   have dt:args.size=2:=by rw[ig.size];rfl
   have a0:args[0]? =some (.pointer (some ⟨r0,0,none⟩)):=by
    rw[Array.getElem?_eq_getElem (by omega)]
    obtain⟨r1,g1,g2⟩:=ig.rep 0 _ _ rfl (Array.getElem?_eq_getElem (by omega))
    rw[hβ] at g1
    cases g1
    rw[((RI rfl).1 g2).1];rfl
   have a1:args[1]? =some (.string s):=MQ ig (i:=1) rfl hs
   rw[NR dt a0 a1,<-hn]
   refine(ag3 L X0 r0 v (Lib.strCells x) s X.w hB (by rw[Lib.strCells_length];exact hlen)).mono ?_
   rintro e w' ⟨rfl,v',fM,wM,kf⟩
   have hY:(X.fQ w' r0 v'.ownBlock).ow r0= .box 0:=by simp [az.fQ]
   refine⟨X.fQ w' r0 v'.ownBlock,rfl,PN how hv wM kf,r0,⟨_,rfl,rfl,fun j sv u hj hu=> ?_⟩,fun B' dk=> ?_,fun _ id t p hm=>by simp at hm⟩
   ·match j with
    |0=>cases hj;cases hu;exact jd
    |1=>cases hj;trivial
    |j+2=>simp at hj
   ·cases dk
    refine⟨⟨hY,?_,fun _=>⟨v',by rw[adf];exact fM,fun g hg=> ?_⟩⟩,fun _=>hβ⟩
    ·rcases fM.mT with h|h<;>exact⟨_,h⟩
    ·simp only[az.fQ]
     rw[if_neg (fun e=>fM.ne (by rw[hg,e])),if_pos hg]
 ·intro l b r b' hc
  unfold ai.add at hc
  rw[QN ef] at hc
  exact h0 f l b r b' hc
theorem agY{C:ai}(h0:∀f,de P C f){n T e:TypeId}(eD:ri P n)(L:Lays.n169 P ρ)(X0:Builder.Extra P ρ)(hn:ρ.f 169=n)(hT:ρ.t 72=T)(he:ρ.t 5=e):∀f,de P (C.add n [] (Tg T e)) f:=by
 subst hT he
 intro f
 by_cases ef:f=n
 ·subst ef
  intro l b r b' hc
  unfold ai.add at hc
  rw[NW] at hc
  have hc:Tg (ρ.t 72) (ρ.t 5) (List SV×Option bB) (aS [] l) b (fun r b=>some (r,b))=some (r,b'):=hc
  have hl:aS [] l=l:=by cases l<;>rfl
  rw[hl] at hc
  unfold Tg at hc
  obtain⟨x,q,rfl,rfl,Lc⟩:=Mr hc
  clear hc
  have hc:=Lc
  clear Lc
  unfold ix at hc
  split at hc
  case h_2=>cases hc
  cases hc
  refine⟨eD,fun X args ig=> ?_⟩
  obtain⟨r0,hβ,how,⟨o,ho⟩,hb⟩:=ig.box _ rfl
  obtain⟨v,hB,hv⟩:=hb (by simp)
  have dt:args.size=1:=by rw[ig.size];rfl
  have a0:args[0]? =some (.pointer (some ⟨r0,0,none⟩)):=by
   rw[Array.getElem?_eq_getElem (by omega)]
   obtain⟨r1,g1,g2⟩:=ig.rep 0 _ _ rfl (Array.getElem?_eq_getElem (by omega))
   rw[hβ] at g1
   cases g1
   rw[((RI rfl).1 g2).1];rfl
  rw[akM dt a0,<-hn]
  refine(akS L X0 r0 v (x:ByteArray).data.toList X.w hB).mono ?_
  rintro e w' ⟨rfl,wM⟩
  have hY:(X.fQ w' r0 none).ow r0= .box 0:=by simp [az.fQ]
  refine⟨X.fQ w' r0 none,rfl,PN how hv wM (fun k hk=>by cases hk),r0,?_,fun B' dk=> ?_,fun _ id t p hm=>by simp at hm⟩
  ·exact AV
  ·cases dk
   refine⟨⟨hY,⟨_,Array.getElem?_eq_getElem (Nat.lt_of_lt_of_le hB.lt wM.size)⟩,fun hm=>by cases hm⟩,fun _=>hβ⟩
 ·intro l b r b' hc
  unfold ai.add at hc
  rw[QN ef] at hc
  exact h0 f l b r b' hc
end Go.Ref

namespace Go.Ref
open Go
variable {P:Program} {R S:Type}
structure aJ(P:Program)(T:ai):Prop where
 mix:P.follows .mixedOrders=true
 nat:T.Nat
 tW:∀f,de P T f
noncomputable abbrev cd (fn:Func):Code:=fn.body.getD .skip
noncomputable abbrev BH (E:Env) (T:ai) (R:Type) (k:Nat) (fn:Func) (l:List SV) (b:Option bB) (K:List SV->Option bB->Option R):Option R:=iW E (T R) k fn (cd fn) l b K
abbrev KF(R:Type):Type:=List SV->Option bB->Option R
abbrev KX(R:Type):Type:=Ex->State->Option R
abbrev mS(β:Type):Type 1:=(R:Type)->β->KF R->Option R
def mS.Nat{β:Type}(o:mS β):Prop:=∀(R S:Type) r (F:KF R) (G:KF S) (K:S->Option R),(∀r b,F r b=(G r b).bind K)->o R r F=(o S r G).bind K
def zN(fn:Func):Bool:= !(fn.name== "runtime.NumGoroutine")&&fn.body.isSome
def tI(x:Int):SV:= .aj (.int .i64) x []
def tU(x:Int):SV:= .aj (.int .u8) x []
def tB(x:Bool):SV:= .aj .bool x []
def tS(x:ByteArray):SV:= .aj .str x []
theorem Ge{kk:Nat}(hF:kk=ah){R:Type}(f:Unit->Option R):aY kk f=f ():=by rw[hF];exact aew f
theorem ay:(∀{R S:Type} (c:Bool) (x y:Option S) (F:S->Option R),(bif c then x else y).bind F=bif c then x.bind F else y.bind F)/\(∀{R S:Type} (i:Int) (n:Nat) (x:Option S) (F:S->Option R),(zd i n x).bind F=zd i n (x.bind F))/\
 (∀{R S:Type} (F:S->Option R),(.none:Option S).bind F= .none)/\(∀{R S:Type} (x:S) (F:S->Option R),(some x).bind F=F x)/\(∀{R S α β:Type} (f:α->Option S) (g:β->Option S) (e:α⊕β) (F:S->Option R),(Sum.elim f g e).bind F=Sum.elim (fun x=>(f x).bind F) (fun x=>(g x).bind F) e)/\
 (∀{R S α:Type} (x:Option α) (f:α->Option S) (F:S->Option R),(x.bind f).bind F=x.bind fun y=>(f y).bind F)/\(∀{α β γ:Type} (f:α->γ) (g:β->γ) (x:α),Sum.elim f g (.inl x)=f x)/\(∀{α β γ:Type} (f:α->γ) (g:β->γ) (x:β),Sum.elim f g (.inr x)=g x):=
 ⟨zjd,adO,ahH,zc,alM,agX,fun _ _ _=>rfl,fun _ _ _=>rfl⟩
theorem aJ.none(hm:P.follows .mixedOrders=true):aJ P ai.none:=⟨hm,alx,ahI⟩
theorem aJ.add{E:Env}{T:ai}(h:aJ P T)(hE:ar P E){n:FuncId}{ps:List Ty}{g:Pure}{fn:Func}(j4:P.funcs[n]? =some fn)(hc:zN fn=true)(hg:g.Nat)
 (h1:∀(l:List SV) (b:Option bB) (r:List SV) (b':Option bB),g (List SV×Option bB) (aS ps l) b (fun r b=>some (r,b))=some (r,b')->∃k,iW E (T (List SV×Option bB)) k fn (cd fn) l b (fun r b=>some (r,b))=some (r,b')):aJ P (T.add n ps g):=by
 obtain⟨h2,h3⟩:=Bool.and_eq_true_iff.1 hc
 refine⟨h.mix,X6 h.nat hg,akK hE h.mix h.nat h.tW j4 (by simpa using h2) ?_ h1⟩
 cases e:fn.body with
 |none=>rw[e] at h3;cases h3
 |some c=>simp [cd,e]
def Cj{β:Type}(f:Option β)(o:mS β):Pure:=fun R l b K=>fI b (ix l (f.bind fun r=>o R r K))
theorem HP(E:Env){T:ai}{n:FuncId}(fn:Func){β:Type}{f:Option β}{o:mS β}(m:(R:Type)->Nat->KF R->Option R)(h0:aJ P T)(hE:ar P E)(j4:P.funcs[n]? =some fn)(hc:zN fn=true)(hp:E.ps=[])(ho:o.Nat)
 (h1:∀(R:Type) k (K:KF R),BH E T R k fn [] .none K=m R k K) (h2:∀(R:Type) kk (e:kk=ah) (K:KF R),m R kk K=f.bind fun r=>o R r K):aJ P (T.add n [] (Cj f o)):=
 h0.add hE j4 hc (fun R S l b F G K h=>Gq (Ms (uT fun _=>ho _ _ _ _ _ _ h))) fun l b r b' h=>by
  obtain⟨rfl,h5⟩:=Gn h
  obtain⟨h3,h4⟩:=xe hp h5
  exact⟨ah,(h4 _ _ _ _ _ _).trans (((h1 _ _ _).trans (h2 _ _ rfl _)).trans h3)⟩
def cC(t:Ty){β:Type}(f:El t->Option β)(o:mS β):Pure:=fun R l b K=>fI b (iy t l (fun x=>(f x).bind fun r=>o R r K))
theorem cD(E:Env){T:ai}{n:FuncId}(fn:Func){t:Ty}{β:Type}{f:El t->Option β}{o:mS β}(m:(R:Type)->Nat->El t->KF R->Option R)(h0:aJ P T)(hE:ar P E)(j4:P.funcs[n]? =some fn)(hc:zN fn=true)(hp:E.ps=[t])(ho:o.Nat)
 (h1:∀(R:Type) k x (K:KF R),BH E T R k fn [.aj t x []] .none K=m R k x K) (h2:∀(R:Type) kk (e:kk=ah) x (K:KF R),m R kk x K=(f x).bind fun r=>o R r K):aJ P (T.add n [t] (cC t f o)):=
 h0.add hE j4 hc (fun R S l b F G K h=>Gq (Mt fun _=>uT fun _=>ho _ _ _ _ _ _ h)) fun l b r b' h=>by
  obtain⟨rfl,h5⟩:=Gn h
  obtain⟨x,h3,h4⟩:=acd hp h5
  exact⟨ah,(h4 _ _ _ _ _ _).trans (((h1 _ _ x _).trans (h2 _ _ rfl x _)).trans h3)⟩
def cP(t u:Ty){β:Type}(f:El t->El u->Option β)(o:mS β):Pure:=fun R l b K=>fI b (gG t u l (fun x y=>(f x y).bind fun r=>o R r K))
theorem cR(E:Env){T:ai}{n:FuncId}(fn:Func){t u:Ty}{β:Type}{f:El t->El u->Option β}{o:mS β}(m:(R:Type)->Nat->El t->El u->KF R->Option R)(h0:aJ P T)(hE:ar P E)(j4:P.funcs[n]? =some fn)(hc:zN fn=true)(hp:E.ps=[t,u])(ho:o.Nat)
 (h1:∀(R:Type) k x y (K:KF R),BH E T R k fn [.aj t x [],.aj u y []] .none K=m R k x y K) (h2:∀(R:Type) kk (e:kk=ah) x y (K:KF R),m R kk x y K=(f x y).bind fun r=>o R r K):aJ P (T.add n [t,u] (cP t u f o)):=
 h0.add hE j4 hc (fun R S l b F G K h=>Gq (Mu fun _ _=>uT fun _=>ho _ _ _ _ _ _ h)) fun l b r b' h=>by
  obtain⟨rfl,h5⟩:=Gn h
  obtain⟨x,y,h3,h4⟩:=tX hp h5
  exact⟨ah,(h4 _ _ _ _ _ _).trans (((h1 _ _ x y _).trans (h2 _ _ rfl x y _)).trans h3)⟩
def gu(t u v:Ty){β:Type}(f:El t->El u->El v->Option β)(o:mS β):Pure:=fun R l b K=>fI b (kB t u v l (fun x y a=>(f x y a).bind fun r=>o R r K))
theorem gx(E:Env){T:ai}{n:FuncId}(fn:Func){t u v:Ty}{β:Type}{f:El t->El u->El v->Option β}{o:mS β}(m:(R:Type)->Nat->El t->El u->El v->KF R->Option R)(h0:aJ P T)(hE:ar P E)(j4:P.funcs[n]? =some fn)(hc:zN fn=true)(hp:E.ps=[t,u,v])(ho:o.Nat)
 (h1:∀(R:Type) k x y a (K:KF R),BH E T R k fn [.aj t x [],.aj u y [],.aj v a []] .none K=m R k x y a K) (h2:∀(R:Type) kk (e:kk=ah) x y a (K:KF R),m R kk x y a K=(f x y a).bind fun r=>o R r K):aJ P (T.add n [t,u,v] (gu t u v f o)):=
 h0.add hE j4 hc (fun R S l b F G K h=>Gq (agS fun _ _ _=>uT fun _=>ho _ _ _ _ _ _ h)) fun l b r b' h=>by
  obtain⟨rfl,h5⟩:=Gn h
  obtain⟨x,y,a,h3,h4⟩:=ace hp h5
  exact⟨ah,(h4 _ _ _ _ _ _).trans (((h1 _ _ x y a _).trans (h2 _ _ rfl x y a _)).trans h3)⟩
def xf(t u v w:Ty){β:Type}(f:El t->El u->El v->El w->Option β)(o:mS β):Pure:=fun R l b K=>fI b (kC t u v w l (fun x y a b=>(f x y a b).bind fun r=>o R r K))
theorem AD(E:Env){T:ai}{n:FuncId}(fn:Func){t u v w:Ty}{β:Type}{f:El t->El u->El v->El w->Option β}{o:mS β}(m:(R:Type)->Nat->El t->El u->El v->El w->KF R->Option R)(h0:aJ P T)(hE:ar P E)(j4:P.funcs[n]? =some fn)(hc:zN fn=true)(hp:E.ps=[t,u,v,w])(ho:o.Nat)
 (h1:∀(R:Type) k x y a b (K:KF R),BH E T R k fn [.aj t x [],.aj u y [],.aj v a [],.aj w b []] .none K=m R k x y a b K) (h2:∀(R:Type) kk (e:kk=ah) x y a b (K:KF R),m R kk x y a b K=(f x y a b).bind fun r=>o R r K):aJ P (T.add n [t,u,v,w] (xf t u v w f o)):=
 h0.add hE j4 hc (fun R S l b F G K h=>Gq (agT fun _ _ _ _=>uT fun _=>ho _ _ _ _ _ _ h)) fun l b r b' h=>by
  obtain⟨rfl,h5⟩:=Gn h
  obtain⟨x,y,a,b,h3,h4⟩:=acf hp h5
  exact⟨ah,(h4 _ _ _ _ _ _).trans (((h1 _ _ x y a b _).trans (h2 _ _ rfl x y a b _)).trans h3)⟩
def pz(t pt bt:Ty)(wn:List (List Nat)){β:Type}(f:El t->El bt->Option β)(o:mS β):Pure:=fun R l b K=>kA t pt bt wn l b fun x y=>(f x y).bind fun r=>o R r K
theorem sz(E:Env){T:ai}{n:FuncId}(fn:Func){t pt bt:Ty}{wn:List (List Nat)}{β:Type}{f:El t->El bt->Option β}{o:mS β}(m:(R:Type)->Nat->El t->El bt->KF R->Option R)(h0:aJ P T)(hE:ar P E)(j4:P.funcs[n]? =some fn)(hc:zN fn=true)(hp:E.ps=[t,.unit])(ho:o.Nat)
 (h1:∀(R:Type) k x y (K:KF R),BH E T R k fn [.aj t x [],.ptr 0 pt []] (some ⟨bt,y,wn⟩) K=m R k x y K) (h2:∀(R:Type) kk (e:kk=ah) x y (K:KF R),m R kk x y K=(f x y).bind fun r=>o R r K):aJ P (T.add n [t,.unit] (pz t pt bt wn f o)):=
 h0.add hE j4 hc (fun R S l b F G K h=>agR fun _ _=>uT fun _=>ho _ _ _ _ _ _ h) fun l b r b' h=>by
  obtain⟨x,y,rfl,h3,h4⟩:=L1 hp h
  exact⟨ah,(h4 _ _ _ _ _ _).trans (((h1 _ _ x y _).trans (h2 _ _ rfl x y _)).trans h3)⟩
def pv(t u v w:Ty){β:Type}(f:El t->El u->El v->El w->Option β)(o:mS β):Pure:=fun R l b K=>fI b (I2 t u v w l (fun x y a b=>(f x y a b).bind fun r=>o R r K))
theorem sv(E:Env){T:ai}{n:FuncId}(fn:Func){t u v w:Ty}{β:Type}{f:El t->El u->El v->El w->Option β}{o:mS β}(m:(R:Type)->Nat->El t->El u->El v->El w->KF R->Option R)(h0:aJ P T)(hE:ar P E)(j4:P.funcs[n]? =some fn)(hc:zN fn=true)(hp:E.ps=[t,u,.unit,.unit])(ho:o.Nat)
 (h1:∀(R:Type) k x y a b (K:KF R),BH E T R k fn [.aj t x [],.aj u y [],.view v a,.view w b] .none K=m R k x y a b K) (h2:∀(R:Type) kk (e:kk=ah) x y a b (K:KF R),m R kk x y a b K=(f x y a b).bind fun r=>o R r K):aJ P (T.add n [t,u,.unit,.unit] (pv t u v w f o)):=
 h0.add hE j4 hc (fun R S l b F G K h=>Gq (ad7 fun _ _ _ _=>uT fun _=>ho _ _ _ _ _ _ h)) fun l b r b' h=>by
  unfold pv at h
  obtain⟨rfl,h5⟩:=Gn h
  obtain⟨x,y,a,b,h3,h4⟩:=L0 hp h5
  exact⟨ah,(h4 _ _ _ _ _ _).trans (((h1 _ _ x y a b _).trans (h2 _ _ rfl x y a b _)).trans h3)⟩
end Go.Ref

namespace bF
open Go.IntKind renaming wrap->zW,i64->zI,u8->zU
open Go Go.Ref
abbrev l6:Type:=(ByteArray×Nat)
abbrev iw:Type:=(Int×Int×Int)
abbrev HB:Type:=(ByteArray×Int)
abbrev wE:Type:=(List (List Int))
abbrev KZ:Type:=(Int×ByteArray)
abbrev gF:Type:=(ByteArray×Bool)
abbrev ax:Type:=(Int×Int×Unit)
abbrev Bv:Type:=(List (Int×Bool))
abbrev iT:Type:=(ByteArray×Int×Int)
abbrev cn:Type:=(Int×ByteArray×Unit)
abbrev gE:Type:=(List gF)
abbrev ea:Type:=(ByteArray×ByteArray×Unit)
abbrev s6:Type:=(ByteArray×ByteArray×Bool)
abbrev ak:Type:=(List cn)
abbrev ap:Type:=(Int×Int×Int×Int×Int×Unit)
abbrev aK:Type:=(List ea)
abbrev ga:Type:=(List ap)
abbrev iR:Type:=(ak×Int×Int)
abbrev af:Type:=(ByteArray×ak×Unit)
abbrev ag:Type:=(Int×Int×ga×Unit)
abbrev ns:Type:=(List ag)
abbrev aB:Type:=(Int×Int×Int×ByteArray×aK×Unit)
abbrev qB:Type:=(ak×Int×Int×ak)
abbrev cz:Type:=(List aB)
abbrev nu:Type:=(af×ax×af)
abbrev al:Type:=(aK×cz×Unit)
abbrev iS:Type:=(ByteArray×Int×af×ax×af)
abbrev au:Type:=(ag×al×(List Int)×ak×Unit)
abbrev qC:Type:=(ByteArray×ak×al×af×ax)
abbrev l7:Type:=(List au)
abbrev lf:Type:=(al×ag×ag)
abbrev bC:Type:=(l7×Int×Unit)
abbrev lg:Type:=(Int×Int×Int×al×ag×ag)
def XB{R:Type}(a:ByteArray)(b:Int)(c:ByteArray->Int->Option R):Option R:=
 c a b
def XC{R:Type}(a:ByteArray)(b:Int)(c:ByteArray->Int->Option R)(d:ByteArray->Option R):Option R:=
 bif 0<(a.size:Int) then zd (zW zI ((a.size:Int)-1)) a.size (bif ze a (zW zI ((a.size:Int)-(1:Int))).toNat=b then bif 0<=zW zI ((a.size:Int)-1) then bif zW zI ((a.size:Int)-1)<=(a.size:Int) then c (a.extract 0 (zW zI ((a.size:Int)-(1:Int))).toNat) b else none else none else d a) else d a
def XD{R:Type}(a:ByteArray)(b:ByteArray->Option R):Option R:=
 b a
def Ip:Nat->ByteArray->Int->Option ByteArray
 |0,_,_=>none
 |k+1,v0,v1=>XC v0 v1 (fun a0 a1=>Ip k a0 a1) (fun a0=>some a0)
def vA(a:ByteArray)(b:Int):Option ByteArray:=
 XB a b (fun a0 a1=>(Ip ah a0 a1).bind fun e=>XD e (fun a0=>some a0))
def Xx{R:Type}(a:ByteArray)(b:Int)(c:ByteArray->Int->Option R):Option R:=
 c a b
def Xy{R:Type}(a:ByteArray)(b:Int)(c:ByteArray->Int->Option R)(d:ByteArray->Option R):Option R:=
 bif 0<(a.size:Int) then zd 0 a.size (bif ze a ((0:Int)).toNat=b then bif 1<=(a.size:Int) then c (a.extract ((1:Int)).toNat a.size) b else none else d a) else d a
def Xz{R:Type}(a:ByteArray)(b:ByteArray->Option R):Option R:=
 b a
def Io:Nat->ByteArray->Int->Option ByteArray
 |0,_,_=>none
 |k+1,v0,v1=>Xy v0 v1 (fun a0 a1=>Io k a0 a1) (fun a0=>some a0)
def vz(a:ByteArray)(b:Int):Option ByteArray:=
 Xx a b (fun a0 a1=>(Io ah a0 a1).bind fun e=>Xz e (fun a0=>some a0))
def Xv{R:Type}(a b:ByteArray)(c:ByteArray->Option R):Option R:=
 bif a=bs [] then c a else bif b=bs [] then c a else bif(b.size:Int)=1 then zd 0 b.size (bif ze b ((0:Int)).toNat<128 then zd 0 b.size ((vA a (ze b ((0:Int)).toNat)).bind fun r1=>zd 0 b.size ((vz r1 (ze b ((0:Int)).toNat)).bind fun r2=>c r2)) else none) else none
def sS(a b:ByteArray):Option ByteArray:=
 Xv a b (fun a0=>some a0)
def Zl{R:Type}(a:ByteArray)(b:l6->Option R):Option R:=
 b (a,0)
def Zm{R:Type}(a:l6)(b:Bool->Option R)(c:l6->Option R)(d:Option R):Option R:=
 bif a.2<a.1.size then bif(((Utf8.decode a.1 a.2).1:Nat):Int)<48 then b false else bif 57<(((Utf8.decode a.1 a.2).1:Nat):Int) then b false else c (a.1,a.2+(Utf8.decode a.1 a.2).2) else d
def Ft{R:Type}(a:Bool)(b:Bool->Option R):Option R:=
 b a
def Fu{R:Type}(a:Bool->Option R):Option R:=
 a true
def IE:Nat->l6->Option (Sum Bool Unit)
 |0,_=>none
 |k+1,v0=>Zm v0 (fun a0=>some (.inl a0)) (fun a0=>IE k a0) (some (.inr ()))
def x7(a:ByteArray):Option Bool:=
 Zl a (fun a0=>(IE ah a0).bind fun e=>Sum.elim (fun(we:Bool)=>Ft we (fun a0=>some a0)) (fun(we:Unit)=>Fu (fun a0=>some a0)) e)
def Zo{R:Type}(a:ByteArray)(b:Int->Bool->Option R)(c:Int->l6->Option R):Option R:=
 bif a=bs [] then b 0 false else bif 18<(a.size:Int) then b 0 false else(x7 a).bind fun r1=>bif !r1 then b 0 false else c 0 (a,0)
def Zp{R:Type}(a:Int)(b:l6)(c:Int->l6->Option R)(d:Int->Option R):Option R:=
 bif b.2<b.1.size then c (zW zI (zW zI (10*a)+zW zI (IntKind.i32.wrap ((((Utf8.decode b.1 b.2).1:Nat):Int)-48)))) (b.1,b.2+(Utf8.decode b.1 b.2).2) else d a
def Fv{R:Type}(a:Int)(b:Int->Bool->Option R):Option R:=
 b a true
def IF:Nat->Int->l6->Option Int
 |0,_,_=>none
 |k+1,v0,v1=>Zp v0 v1 (fun a0 a1=>IF k a0 a1) (fun a0=>some a0)
def x8(a:ByteArray):Option (Int×Bool):=
 Zo a (fun a0 a1=>some (a0,a1)) (fun a0 a1=>(IF ah a0 a1).bind fun e=>Fv e (fun a0 a1=>some (a0,a1)))
def Zs{R:Type}(a b:Int)(c:ByteArray->Bool->Option R)(d:Int->Nat->Int->Nat->(List Int)->Option R):Option R:=
 bif a<0 then c (bs []) false else bif b<1 then c (bs []) false else bif 18<b then c (bs []) false else bif b=b then bif 0<=b then bif b*1<=140737488355328 then d a b.toNat (zW zI (b-1)) b.toNat (List.replicate b.toNat 0) else none else none else none
def SR{R:Type}(a:Int)(b:Nat)(c:Int)(d:Nat)(e:(List Int))(f:Int->Nat->Int->Nat->(List Int)->Option R)(g:Int->Nat->Nat->(List Int)->Option R):Option R:=
 bif 0<=c then zd c b (bif Nat.ble (c.toNat+1) (List.length e) then f (zW zI (Int.tdiv a 10)) b (zW zI (c-1)) d (List.set e c.toNat (zW zU (zW zI (48+Int.tmod a 10)))) else none) else g a b d e
def Zt{R:Type}(a:Int)(b c:Nat)(d:(List Int))(e:ByteArray->Bool->Option R):Option R:=
 bif 0<a then e (bs []) false else bif Nat.beq b (List.length d) then e (strOf d) true else none
def Hg:Nat->Int->Nat->Int->Nat->(List Int)->Option (Int×Nat×Nat×(List Int))
 |0,_,_,_,_,_=>none
 |k+1,v0,v1,v2,v3,v4=>SR v0 v1 v2 v3 v4 (fun a0 a1 a2 a3 a4=>Hg k a0 a1 a2 a3 a4) (fun a0 a1 a2 a3=>some (a0,a1,a2,a3))
def Jt(a b:Int):Option gF:=
 Zs a b (fun a0 a1=>some (a0,a1)) (fun a0 a1 a2 a3 a4=>(Hg ah a0 a1 a2 a3 a4).bind fun e=>Zt e.1 e.2.1 e.2.2.1 e.2.2.2 (fun a0 a1=>some (a0,a1)))
def Zq{R:Type}(a:ByteArray)(b:Int)(c:ByteArray->Bool->Option R):Option R:=
 bif a=bs [] then c (bs []) false else bif 999<(a.size:Int) then c (bs []) false else(x7 a).bind fun r1=>bif !r1 then c (bs []) false else bif b<1 then c (bs []) false else bif 999<b then c (bs []) false else bif(a.size:Int)<=b then(strings_Repeat (bs [48]) (zW zI (b-(a.size:Int)))).bind fun r2=>bif r2.size+a.size<=9223372036854775807 then c (r2++a) true else none else bif 0<=zW zI ((a.size:Int)-b) then bif zW zI ((a.size:Int)-b)<=(a.size:Int) then(sS (a.extract 0 (zW zI ((a.size:Int)-b)).toNat) (bs [48])).bind fun r3=>bif !decide (r3=bs []) then c (bs []) false else bif 0<=zW zI ((a.size:Int)-b) then bif zW zI ((a.size:Int)-b)<=(a.size:Int) then c (a.extract (zW zI ((a.size:Int)-b)).toNat a.size) true else none else none else none else none
def Jr(a:ByteArray)(b:Int):Option gF:=
 Zq a b (fun a0 a1=>some (a0,a1))
def oe{R:Type}(a:Int)(b:Int->Option R):Option R:=
 bif a<1 then b 0 else b (zW zI (zW zI (Int.tdiv a 2)+Int.tmod a 2))
def Q2(a:Int):Option Int:=
 oe a (fun a0=>some a0)
def n4{R:Type}(a:ByteArray)(b:Int)(c:ByteArray->Int->Int->Option R)(d:ByteArray->Int->(List Int)->Int->Int->Option R):Option R:=
 bif b<0 then c (bs []) 1 0 else bif 999<b then c (bs []) 1 0 else(Q2 b).bind fun r1=>bif(a.size:Int)<r1 then c (bs []) 2 (a.size:Int) else bif 0<=zW zI (b+1) then bif zW zI (b+1)*1<=140737488355328 then(Q2 b).bind fun r2=>d a b [] r2 0 else none else none
def lP{R:Type}(a:ByteArray)(b:Int)(c:(List Int))(d e:Int)(f:Int->ByteArray->Int->Int->(List Int)->Option R)(g:ByteArray->Int->(List Int)->Int->Int->Option R)(h:Int->(List Int)->Option R):Option R:=
 bif e<d then zd e a.size (zd e a.size (bif e=0 then bif !decide (Int.tmod b 2=0) then bif !decide (Int.fdiv (ze a e.toNat) (2^min ((4:Int)).toNat 8)=0) then f b (bs []) 4 0 c else bif 9<Int.fdiv (ze a e.toNat) (2^min ((4:Int)).toNat 8) then f b (bs []) 3 e c else bif 9<aM .and .u8 (ze a e.toNat) 15 then f b (bs []) 3 e c else bif(List.length c+List.length ([(zW zU ((48:Int)+Int.fdiv (ze a e.toNat) (2^min ((4:Int)).toNat 8))),(zW zU ((48:Int)+aM .and .u8 (ze a e.toNat) (15:Int)))]:List Int))*1<=140737488355328 then g a b (c++([(zW zU (48+Int.fdiv (ze a e.toNat) (2^min ((4:Int)).toNat 8))),(zW zU (48+aM .and .u8 (ze a e.toNat) 15))]:List Int)) d (zW zI (e+1)) else none else bif 9<Int.fdiv (ze a e.toNat) (2^min ((4:Int)).toNat 8) then f b (bs []) 3 e c else bif 9<aM .and .u8 (ze a e.toNat) 15 then f b (bs []) 3 e c else bif(List.length c+List.length ([(zW zU ((48:Int)+Int.fdiv (ze a e.toNat) (2^min ((4:Int)).toNat 8))),(zW zU ((48:Int)+aM .and .u8 (ze a e.toNat) (15:Int)))]:List Int))*1<=140737488355328 then g a b (c++([(zW zU (48+Int.fdiv (ze a e.toNat) (2^min ((4:Int)).toNat 8))),(zW zU (48+aM .and .u8 (ze a e.toNat) 15))]:List Int)) d (zW zI (e+1)) else none else bif 9<Int.fdiv (ze a e.toNat) (2^min ((4:Int)).toNat 8) then f b (bs []) 3 e c else bif 9<aM .and .u8 (ze a e.toNat) 15 then f b (bs []) 3 e c else bif(List.length c+List.length ([(zW zU ((48:Int)+Int.fdiv (ze a e.toNat) (2^min ((4:Int)).toNat 8))),(zW zU ((48:Int)+aM .and .u8 (ze a e.toNat) (15:Int)))]:List Int))*1<=140737488355328 then g a b (c++([(zW zU (48+Int.fdiv (ze a e.toNat) (2^min ((4:Int)).toNat 8))),(zW zU (48+aM .and .u8 (ze a e.toNat) 15))]:List Int)) d (zW zI (e+1)) else none)) else h b c
def rQ{R:Type}(a:Int)(b:ByteArray)(c d:Int)(e:(List Int))(f:ByteArray->Int->Int->Option R):Option R:=
 f b c d
def n5{R:Type}(a:Int)(b:(List Int))(c:ByteArray->Int->Int->Option R):Option R:=
 bif 0<=Int.tmod a 2 then bif Int.tmod a 2<=(((List.length b):Nat):Int) then c (strOf (List.drop (Int.tmod a (2:Int)).toNat (List.take (List.length b) b))) 0 0 else none else none
def iq:Nat->ByteArray->Int->(List Int)->Int->Int->Option (Sum (Int×ByteArray×Int×Int×(List Int)) (Int×(List Int)))
 |0,_,_,_,_,_=>none
 |k+1,v0,v1,v2,v3,v4=>lP v0 v1 v2 v3 v4 (fun a0 a1 a2 a3 a4=>some (.inl (a0,a1,a2,a3,a4))) (fun a0 a1 a2 a3 a4=>iq k a0 a1 a2 a3 a4) (fun a0 a1=>some (.inr (a0,a1)))
def Q0(a:ByteArray)(b:Int):Option iT:=
 n4 a b (fun a0 a1 a2=>some (a0,a1,a2)) (fun a0 a1 a2 a3 a4=>(iq ah a0 a1 a2 a3 a4).bind fun e=>Sum.elim (fun(we:(Int×ByteArray×Int×Int×(List Int)))=>rQ we.1 we.2.1 we.2.2.1 we.2.2.2.1 we.2.2.2.2 (fun a0 a1 a2=>some (a0,a1,a2))) (fun(we:(Int×(List Int)))=>n5 we.1 we.2 (fun a0 a1 a2=>some (a0,a1,a2))) e)
def kn{R:Type}(a:ByteArray)(b:ByteArray->Bool->Option R)(c:ByteArray->(List Int)->Int->Option R):Option R:=
 bif 999<(a.size:Int) then b (bs []) false else(x7 a).bind fun r1=>bif !r1 then b (bs []) false else bif !decide (Int.tmod (a.size:Int) 2=0) then bif(bs [48]).size+a.size<=9223372036854775807 then bif 0<=zW zI (Int.tdiv ((bs [48]++a).size:Int) 2) then bif zW zI (Int.tdiv ((bs [48]++a).size:Int) 2)*1<=140737488355328 then c (bs [48]++a) [] 0 else none else none else none else bif 0<=zW zI (Int.tdiv (a.size:Int) 2) then bif zW zI (Int.tdiv (a.size:Int) 2)*1<=140737488355328 then c a [] 0 else none else none
theorem ad1{R S:Type}(F:R->Option S)(a)(b)(c):(kn a b c).bind F=kn a (fun a0 a1=>(b a0 a1).bind F) (fun a0 a1 a2=>(c a0 a1 a2).bind F):=by
 simp only[kn,ay]
def lV{R:Type}(a:ByteArray)(b:(List Int))(c:Int)(d:ByteArray->(List Int)->Int->Option R)(e:(List Int)->Option R):Option R:=
 bif c<(a.size:Int) then zd c a.size (zd (zW zI (c+1)) a.size (bif(List.length b+List.length ([(aM .or .u8 (zW zU (zW zU (ze a c.toNat-(48:Int))*2^min ((4:Int)).toNat 8)) (zW zU (ze a (zW zI (c+(1:Int))).toNat-(48:Int))))]:List Int))*1<=140737488355328 then d a (b++([(aM .or .u8 (zW zU (zW zU (ze a c.toNat-48)*2^min ((4:Int)).toNat 8)) (zW zU (ze a (zW zI (c+(1:Int))).toNat-48)))]:List Int)) (zW zI (c+2)) else none)) else e b
def sM{R:Type}(a:(List Int))(b:ByteArray->Bool->Option R):Option R:=
 b (strOf a) true
def jm:Nat->ByteArray->(List Int)->Int->Option (List Int)
 |0,_,_,_=>none
 |k+1,v0,v1,v2=>lV v0 v1 v2 (fun a0 a1 a2=>jm k a0 a1 a2) (fun a0=>some a0)
def Q1(a:ByteArray):Option gF:=
 kn a (fun a0 a1=>some (a0,a1)) (fun a0 a1 a2=>(jm ah a0 a1 a2).bind fun e=>sM e (fun a0 a1=>some (a0,a1)))
def oj{R:Type}(a:Int)(b:Int->Option R):Option R:=
 bif a<0 then b 0 else bif 65535<a then b 0 else bif 255<a then b (zW zI (zW zI (zW zI (0+1)+1)+1)) else bif 127<a then b (zW zI (zW zI (0+1)+1)) else b (zW zI (0+1))
def Q4(a:Int):Option Int:=
 oj a (fun a0=>some a0)
def ko{R:Type}(a:ByteArray)(b:Int)(c:Int->Int->Int->Option R)(d:ByteArray->Int->Int->Int->Int->Int->Option R):Option R:=
 bif b<0 then c 0 0 1 else bif(a.size:Int)<b then c 0 0 1 else bif b=(a.size:Int) then c 0 0 2 else zd b a.size (bif 127<zW zI (ze a b.toNat) then bif zW zI (ze a b.toNat)=128 then c 0 0 14 else bif 130<zW zI (ze a b.toNat) then c 0 0 14 else bif zW zI ((a.size:Int)-zW zI (b+1))<zW zI (zW zI (ze a b.toNat)-128) then c 0 0 2 else d a (zW zI (b+1)) 0 (zW zI (zW zI (ze a b.toNat)-128)) (zW zI (zW zI (ze a b.toNat)-128)) 0 else bif zW zI ((a.size:Int)-zW zI (b+1))<0 then c 0 0 2 else d a (zW zI (b+1)) (zW zI (ze a b.toNat)) 0 0 0)
theorem ad2{R S:Type}(F:R->Option S)(a)(b)(c)(d):(ko a b c d).bind F=ko a b (fun a0 a1 a2=>(c a0 a1 a2).bind F) (fun a0 a1 a2 a3 a4 a5=>(d a0 a1 a2 a3 a4 a5).bind F):=by
 simp only[ko,ay]
def kp{R:Type}(a:ByteArray)(b c d e f:Int)(g:ByteArray->Int->Int->Int->Int->Int->Option R)(h:Int->Int->Int->Option R):Option R:=
 bif f<e then zd (zW zI (b+f)) a.size (g a b (aM .or .i64 (zW zI (c*2^min ((8:Int)).toNat 64)) (zW zI (ze a (zW zI (b+f)).toNat))) d e (zW zI (f+1))) else h b c d
def kq{R:Type}(a b c:Int)(d:Int->Int->Int->Option R):Option R:=
 (Q4 b).bind fun r1=>bif !decide (r1=zW zI (c+1)) then d 0 0 14 else d b (zW zI (a+c)) 0
def eh:Nat->ByteArray->Int->Int->Int->Int->Int->Option iw
 |0,_,_,_,_,_,_=>none
 |k+1,v0,v1,v2,v3,v4,v5=>kp v0 v1 v2 v3 v4 v5 (fun a0 a1 a2 a3 a4 a5=>eh k a0 a1 a2 a3 a4 a5) (fun a0 a1 a2=>some (a0,a1,a2))
def Q3(a:ByteArray)(b:Int):Option iw:=
 ko a b (fun a0 a1 a2=>some (a0,a1,a2)) (fun a0 a1 a2 a3 a4 a5=>(eh ah a0 a1 a2 a3 a4 a5).bind fun e=>kq e.1 e.2.1 e.2.2 (fun a0 a1 a2=>some (a0,a1,a2)))
def DC{R:Type}(a:Int)(b:Int->Option R):Option R:=
 bif 4294967296<=a then bif 65536<=Int.fdiv a (2^min ((32:Int)).toNat 64) then bif 256<=Int.fdiv (Int.fdiv a (2^min ((32:Int)).toNat 64)) (2^min ((16:Int)).toNat 64) then zd (zW zU (Int.fdiv (Int.fdiv (Int.fdiv a (2^min ((32:Int)).toNat 64)) (2^min ((16:Int)).toNat 64)) (2^min ((8:Int)).toNat 64))) (bs [0,1,2,2,3,3,3,3,4,4,4,4,4,4,4,4,5,5,5,5,5,5,5,5,5,5,5,5,5,5,5,5,6,6,6,6,6,6,6,6,6,6,6,6,6,6,6,6,6,6,6,6,6,6,6,6,6,6,6,6,6,6,6,6,7,7,7,7,7,7,7,7,7,7,7,7,7,7,7,7,7,7,7,7,7,7,7,7,7,7,7,7,7,7,7,7,7,7,7,7,7,7,7,7,7,7,7,7,7,7,7,7,7,7,7,7,7,7,7,7,7,7,7,7,7,7,7,7,8,8,8,8,8,8,8,8,8,8,8,8,8,8,8,8,8,8,8,8,8,8,8,8,8,8,8,8,8,8,8,8,8,8,8,8,8,8,8,8,8,8,8,8,8,8,8,8,8,8,8,8,8,8,8,8,8,8,8,8,8,8,8,8,8,8,8,8,8,8,8,8,8,8,8,8,8,8,8,8,8,8,8,8,8,8,8,8,8,8,8,8,8,8,8,8,8,8,8,8,8,8,8,8,8,8,8,8,8,8,8,8,8,8,8,8,8,8,8,8,8,8,8,8,8,8,8,8]).size (b (zW zI (zW zI (zW zI (32+16)+8)+zW zI (ze (bs [0,1,2,2,3,3,3,3,4,4,4,4,4,4,4,4,5,5,5,5,5,5,5,5,5,5,5,5,5,5,5,5,6,6,6,6,6,6,6,6,6,6,6,6,6,6,6,6,6,6,6,6,6,6,6,6,6,6,6,6,6,6,6,6,7,7,7,7,7,7,7,7,7,7,7,7,7,7,7,7,7,7,7,7,7,7,7,7,7,7,7,7,7,7,7,7,7,7,7,7,7,7,7,7,7,7,7,7,7,7,7,7,7,7,7,7,7,7,7,7,7,7,7,7,7,7,7,7,8,8,8,8,8,8,8,8,8,8,8,8,8,8,8,8,8,8,8,8,8,8,8,8,8,8,8,8,8,8,8,8,8,8,8,8,8,8,8,8,8,8,8,8,8,8,8,8,8,8,8,8,8,8,8,8,8,8,8,8,8,8,8,8,8,8,8,8,8,8,8,8,8,8,8,8,8,8,8,8,8,8,8,8,8,8,8,8,8,8,8,8,8,8,8,8,8,8,8,8,8,8,8,8,8,8,8,8,8,8,8,8,8,8,8,8,8,8,8,8,8,8,8,8,8,8,8,8]) (zW zU (Int.fdiv (Int.fdiv (Int.fdiv a (2^min ((32:Int)).toNat 64)) (2^min ((16:Int)).toNat 64)) (2^min ((8:Int)).toNat 64))).toNat)))) else zd (zW zU (Int.fdiv (Int.fdiv a (2^min ((32:Int)).toNat 64)) (2^min ((16:Int)).toNat 64))) (bs [0,1,2,2,3,3,3,3,4,4,4,4,4,4,4,4,5,5,5,5,5,5,5,5,5,5,5,5,5,5,5,5,6,6,6,6,6,6,6,6,6,6,6,6,6,6,6,6,6,6,6,6,6,6,6,6,6,6,6,6,6,6,6,6,7,7,7,7,7,7,7,7,7,7,7,7,7,7,7,7,7,7,7,7,7,7,7,7,7,7,7,7,7,7,7,7,7,7,7,7,7,7,7,7,7,7,7,7,7,7,7,7,7,7,7,7,7,7,7,7,7,7,7,7,7,7,7,7,8,8,8,8,8,8,8,8,8,8,8,8,8,8,8,8,8,8,8,8,8,8,8,8,8,8,8,8,8,8,8,8,8,8,8,8,8,8,8,8,8,8,8,8,8,8,8,8,8,8,8,8,8,8,8,8,8,8,8,8,8,8,8,8,8,8,8,8,8,8,8,8,8,8,8,8,8,8,8,8,8,8,8,8,8,8,8,8,8,8,8,8,8,8,8,8,8,8,8,8,8,8,8,8,8,8,8,8,8,8,8,8,8,8,8,8,8,8,8,8,8,8,8,8,8,8,8,8]).size (b (zW zI (zW zI (32+16)+zW zI (ze (bs [0,1,2,2,3,3,3,3,4,4,4,4,4,4,4,4,5,5,5,5,5,5,5,5,5,5,5,5,5,5,5,5,6,6,6,6,6,6,6,6,6,6,6,6,6,6,6,6,6,6,6,6,6,6,6,6,6,6,6,6,6,6,6,6,7,7,7,7,7,7,7,7,7,7,7,7,7,7,7,7,7,7,7,7,7,7,7,7,7,7,7,7,7,7,7,7,7,7,7,7,7,7,7,7,7,7,7,7,7,7,7,7,7,7,7,7,7,7,7,7,7,7,7,7,7,7,7,7,8,8,8,8,8,8,8,8,8,8,8,8,8,8,8,8,8,8,8,8,8,8,8,8,8,8,8,8,8,8,8,8,8,8,8,8,8,8,8,8,8,8,8,8,8,8,8,8,8,8,8,8,8,8,8,8,8,8,8,8,8,8,8,8,8,8,8,8,8,8,8,8,8,8,8,8,8,8,8,8,8,8,8,8,8,8,8,8,8,8,8,8,8,8,8,8,8,8,8,8,8,8,8,8,8,8,8,8,8,8,8,8,8,8,8,8,8,8,8,8,8,8,8,8,8,8,8,8]) (zW zU (Int.fdiv (Int.fdiv a (2^min ((32:Int)).toNat 64)) (2^min ((16:Int)).toNat 64))).toNat)))) else bif 256<=Int.fdiv a (2^min ((32:Int)).toNat 64) then zd (zW zU (Int.fdiv (Int.fdiv a (2^min ((32:Int)).toNat 64)) (2^min ((8:Int)).toNat 64))) (bs [0,1,2,2,3,3,3,3,4,4,4,4,4,4,4,4,5,5,5,5,5,5,5,5,5,5,5,5,5,5,5,5,6,6,6,6,6,6,6,6,6,6,6,6,6,6,6,6,6,6,6,6,6,6,6,6,6,6,6,6,6,6,6,6,7,7,7,7,7,7,7,7,7,7,7,7,7,7,7,7,7,7,7,7,7,7,7,7,7,7,7,7,7,7,7,7,7,7,7,7,7,7,7,7,7,7,7,7,7,7,7,7,7,7,7,7,7,7,7,7,7,7,7,7,7,7,7,7,8,8,8,8,8,8,8,8,8,8,8,8,8,8,8,8,8,8,8,8,8,8,8,8,8,8,8,8,8,8,8,8,8,8,8,8,8,8,8,8,8,8,8,8,8,8,8,8,8,8,8,8,8,8,8,8,8,8,8,8,8,8,8,8,8,8,8,8,8,8,8,8,8,8,8,8,8,8,8,8,8,8,8,8,8,8,8,8,8,8,8,8,8,8,8,8,8,8,8,8,8,8,8,8,8,8,8,8,8,8,8,8,8,8,8,8,8,8,8,8,8,8,8,8,8,8,8,8]).size (b (zW zI (zW zI (32+8)+zW zI (ze (bs [0,1,2,2,3,3,3,3,4,4,4,4,4,4,4,4,5,5,5,5,5,5,5,5,5,5,5,5,5,5,5,5,6,6,6,6,6,6,6,6,6,6,6,6,6,6,6,6,6,6,6,6,6,6,6,6,6,6,6,6,6,6,6,6,7,7,7,7,7,7,7,7,7,7,7,7,7,7,7,7,7,7,7,7,7,7,7,7,7,7,7,7,7,7,7,7,7,7,7,7,7,7,7,7,7,7,7,7,7,7,7,7,7,7,7,7,7,7,7,7,7,7,7,7,7,7,7,7,8,8,8,8,8,8,8,8,8,8,8,8,8,8,8,8,8,8,8,8,8,8,8,8,8,8,8,8,8,8,8,8,8,8,8,8,8,8,8,8,8,8,8,8,8,8,8,8,8,8,8,8,8,8,8,8,8,8,8,8,8,8,8,8,8,8,8,8,8,8,8,8,8,8,8,8,8,8,8,8,8,8,8,8,8,8,8,8,8,8,8,8,8,8,8,8,8,8,8,8,8,8,8,8,8,8,8,8,8,8,8,8,8,8,8,8,8,8,8,8,8,8,8,8,8,8,8,8]) (zW zU (Int.fdiv (Int.fdiv a (2^min ((32:Int)).toNat 64)) (2^min ((8:Int)).toNat 64))).toNat)))) else zd (zW zU (Int.fdiv a (2^min ((32:Int)).toNat 64))) (bs [0,1,2,2,3,3,3,3,4,4,4,4,4,4,4,4,5,5,5,5,5,5,5,5,5,5,5,5,5,5,5,5,6,6,6,6,6,6,6,6,6,6,6,6,6,6,6,6,6,6,6,6,6,6,6,6,6,6,6,6,6,6,6,6,7,7,7,7,7,7,7,7,7,7,7,7,7,7,7,7,7,7,7,7,7,7,7,7,7,7,7,7,7,7,7,7,7,7,7,7,7,7,7,7,7,7,7,7,7,7,7,7,7,7,7,7,7,7,7,7,7,7,7,7,7,7,7,7,8,8,8,8,8,8,8,8,8,8,8,8,8,8,8,8,8,8,8,8,8,8,8,8,8,8,8,8,8,8,8,8,8,8,8,8,8,8,8,8,8,8,8,8,8,8,8,8,8,8,8,8,8,8,8,8,8,8,8,8,8,8,8,8,8,8,8,8,8,8,8,8,8,8,8,8,8,8,8,8,8,8,8,8,8,8,8,8,8,8,8,8,8,8,8,8,8,8,8,8,8,8,8,8,8,8,8,8,8,8,8,8,8,8,8,8,8,8,8,8,8,8,8,8,8,8,8,8]).size (b (zW zI (32+zW zI (ze (bs [0,1,2,2,3,3,3,3,4,4,4,4,4,4,4,4,5,5,5,5,5,5,5,5,5,5,5,5,5,5,5,5,6,6,6,6,6,6,6,6,6,6,6,6,6,6,6,6,6,6,6,6,6,6,6,6,6,6,6,6,6,6,6,6,7,7,7,7,7,7,7,7,7,7,7,7,7,7,7,7,7,7,7,7,7,7,7,7,7,7,7,7,7,7,7,7,7,7,7,7,7,7,7,7,7,7,7,7,7,7,7,7,7,7,7,7,7,7,7,7,7,7,7,7,7,7,7,7,8,8,8,8,8,8,8,8,8,8,8,8,8,8,8,8,8,8,8,8,8,8,8,8,8,8,8,8,8,8,8,8,8,8,8,8,8,8,8,8,8,8,8,8,8,8,8,8,8,8,8,8,8,8,8,8,8,8,8,8,8,8,8,8,8,8,8,8,8,8,8,8,8,8,8,8,8,8,8,8,8,8,8,8,8,8,8,8,8,8,8,8,8,8,8,8,8,8,8,8,8,8,8,8,8,8,8,8,8,8,8,8,8,8,8,8,8,8,8,8,8,8,8,8,8,8,8,8]) (zW zU (Int.fdiv a (2^min ((32:Int)).toNat 64))).toNat)))) else bif 65536<=a then bif 256<=Int.fdiv a (2^min ((16:Int)).toNat 64) then zd (zW zU (Int.fdiv (Int.fdiv a (2^min ((16:Int)).toNat 64)) (2^min ((8:Int)).toNat 64))) (bs [0,1,2,2,3,3,3,3,4,4,4,4,4,4,4,4,5,5,5,5,5,5,5,5,5,5,5,5,5,5,5,5,6,6,6,6,6,6,6,6,6,6,6,6,6,6,6,6,6,6,6,6,6,6,6,6,6,6,6,6,6,6,6,6,7,7,7,7,7,7,7,7,7,7,7,7,7,7,7,7,7,7,7,7,7,7,7,7,7,7,7,7,7,7,7,7,7,7,7,7,7,7,7,7,7,7,7,7,7,7,7,7,7,7,7,7,7,7,7,7,7,7,7,7,7,7,7,7,8,8,8,8,8,8,8,8,8,8,8,8,8,8,8,8,8,8,8,8,8,8,8,8,8,8,8,8,8,8,8,8,8,8,8,8,8,8,8,8,8,8,8,8,8,8,8,8,8,8,8,8,8,8,8,8,8,8,8,8,8,8,8,8,8,8,8,8,8,8,8,8,8,8,8,8,8,8,8,8,8,8,8,8,8,8,8,8,8,8,8,8,8,8,8,8,8,8,8,8,8,8,8,8,8,8,8,8,8,8,8,8,8,8,8,8,8,8,8,8,8,8,8,8,8,8,8,8]).size (b (zW zI (zW zI (zW zI (0+16)+8)+zW zI (ze (bs [0,1,2,2,3,3,3,3,4,4,4,4,4,4,4,4,5,5,5,5,5,5,5,5,5,5,5,5,5,5,5,5,6,6,6,6,6,6,6,6,6,6,6,6,6,6,6,6,6,6,6,6,6,6,6,6,6,6,6,6,6,6,6,6,7,7,7,7,7,7,7,7,7,7,7,7,7,7,7,7,7,7,7,7,7,7,7,7,7,7,7,7,7,7,7,7,7,7,7,7,7,7,7,7,7,7,7,7,7,7,7,7,7,7,7,7,7,7,7,7,7,7,7,7,7,7,7,7,8,8,8,8,8,8,8,8,8,8,8,8,8,8,8,8,8,8,8,8,8,8,8,8,8,8,8,8,8,8,8,8,8,8,8,8,8,8,8,8,8,8,8,8,8,8,8,8,8,8,8,8,8,8,8,8,8,8,8,8,8,8,8,8,8,8,8,8,8,8,8,8,8,8,8,8,8,8,8,8,8,8,8,8,8,8,8,8,8,8,8,8,8,8,8,8,8,8,8,8,8,8,8,8,8,8,8,8,8,8,8,8,8,8,8,8,8,8,8,8,8,8,8,8,8,8,8,8]) (zW zU (Int.fdiv (Int.fdiv a (2^min ((16:Int)).toNat 64)) (2^min ((8:Int)).toNat 64))).toNat)))) else zd (zW zU (Int.fdiv a (2^min ((16:Int)).toNat 64))) (bs [0,1,2,2,3,3,3,3,4,4,4,4,4,4,4,4,5,5,5,5,5,5,5,5,5,5,5,5,5,5,5,5,6,6,6,6,6,6,6,6,6,6,6,6,6,6,6,6,6,6,6,6,6,6,6,6,6,6,6,6,6,6,6,6,7,7,7,7,7,7,7,7,7,7,7,7,7,7,7,7,7,7,7,7,7,7,7,7,7,7,7,7,7,7,7,7,7,7,7,7,7,7,7,7,7,7,7,7,7,7,7,7,7,7,7,7,7,7,7,7,7,7,7,7,7,7,7,7,8,8,8,8,8,8,8,8,8,8,8,8,8,8,8,8,8,8,8,8,8,8,8,8,8,8,8,8,8,8,8,8,8,8,8,8,8,8,8,8,8,8,8,8,8,8,8,8,8,8,8,8,8,8,8,8,8,8,8,8,8,8,8,8,8,8,8,8,8,8,8,8,8,8,8,8,8,8,8,8,8,8,8,8,8,8,8,8,8,8,8,8,8,8,8,8,8,8,8,8,8,8,8,8,8,8,8,8,8,8,8,8,8,8,8,8,8,8,8,8,8,8,8,8,8,8,8,8]).size (b (zW zI (zW zI (0+16)+zW zI (ze (bs [0,1,2,2,3,3,3,3,4,4,4,4,4,4,4,4,5,5,5,5,5,5,5,5,5,5,5,5,5,5,5,5,6,6,6,6,6,6,6,6,6,6,6,6,6,6,6,6,6,6,6,6,6,6,6,6,6,6,6,6,6,6,6,6,7,7,7,7,7,7,7,7,7,7,7,7,7,7,7,7,7,7,7,7,7,7,7,7,7,7,7,7,7,7,7,7,7,7,7,7,7,7,7,7,7,7,7,7,7,7,7,7,7,7,7,7,7,7,7,7,7,7,7,7,7,7,7,7,8,8,8,8,8,8,8,8,8,8,8,8,8,8,8,8,8,8,8,8,8,8,8,8,8,8,8,8,8,8,8,8,8,8,8,8,8,8,8,8,8,8,8,8,8,8,8,8,8,8,8,8,8,8,8,8,8,8,8,8,8,8,8,8,8,8,8,8,8,8,8,8,8,8,8,8,8,8,8,8,8,8,8,8,8,8,8,8,8,8,8,8,8,8,8,8,8,8,8,8,8,8,8,8,8,8,8,8,8,8,8,8,8,8,8,8,8,8,8,8,8,8,8,8,8,8,8,8]) (zW zU (Int.fdiv a (2^min ((16:Int)).toNat 64))).toNat)))) else bif 256<=a then zd (zW zU (Int.fdiv a (2^min ((8:Int)).toNat 64))) (bs [0,1,2,2,3,3,3,3,4,4,4,4,4,4,4,4,5,5,5,5,5,5,5,5,5,5,5,5,5,5,5,5,6,6,6,6,6,6,6,6,6,6,6,6,6,6,6,6,6,6,6,6,6,6,6,6,6,6,6,6,6,6,6,6,7,7,7,7,7,7,7,7,7,7,7,7,7,7,7,7,7,7,7,7,7,7,7,7,7,7,7,7,7,7,7,7,7,7,7,7,7,7,7,7,7,7,7,7,7,7,7,7,7,7,7,7,7,7,7,7,7,7,7,7,7,7,7,7,8,8,8,8,8,8,8,8,8,8,8,8,8,8,8,8,8,8,8,8,8,8,8,8,8,8,8,8,8,8,8,8,8,8,8,8,8,8,8,8,8,8,8,8,8,8,8,8,8,8,8,8,8,8,8,8,8,8,8,8,8,8,8,8,8,8,8,8,8,8,8,8,8,8,8,8,8,8,8,8,8,8,8,8,8,8,8,8,8,8,8,8,8,8,8,8,8,8,8,8,8,8,8,8,8,8,8,8,8,8,8,8,8,8,8,8,8,8,8,8,8,8,8,8,8,8,8,8]).size (b (zW zI (zW zI (0+8)+zW zI (ze (bs [0,1,2,2,3,3,3,3,4,4,4,4,4,4,4,4,5,5,5,5,5,5,5,5,5,5,5,5,5,5,5,5,6,6,6,6,6,6,6,6,6,6,6,6,6,6,6,6,6,6,6,6,6,6,6,6,6,6,6,6,6,6,6,6,7,7,7,7,7,7,7,7,7,7,7,7,7,7,7,7,7,7,7,7,7,7,7,7,7,7,7,7,7,7,7,7,7,7,7,7,7,7,7,7,7,7,7,7,7,7,7,7,7,7,7,7,7,7,7,7,7,7,7,7,7,7,7,7,8,8,8,8,8,8,8,8,8,8,8,8,8,8,8,8,8,8,8,8,8,8,8,8,8,8,8,8,8,8,8,8,8,8,8,8,8,8,8,8,8,8,8,8,8,8,8,8,8,8,8,8,8,8,8,8,8,8,8,8,8,8,8,8,8,8,8,8,8,8,8,8,8,8,8,8,8,8,8,8,8,8,8,8,8,8,8,8,8,8,8,8,8,8,8,8,8,8,8,8,8,8,8,8,8,8,8,8,8,8,8,8,8,8,8,8,8,8,8,8,8,8,8,8,8,8,8,8]) (zW zU (Int.fdiv a (2^min ((8:Int)).toNat 64))).toNat)))) else zd (zW zU a) (bs [0,1,2,2,3,3,3,3,4,4,4,4,4,4,4,4,5,5,5,5,5,5,5,5,5,5,5,5,5,5,5,5,6,6,6,6,6,6,6,6,6,6,6,6,6,6,6,6,6,6,6,6,6,6,6,6,6,6,6,6,6,6,6,6,7,7,7,7,7,7,7,7,7,7,7,7,7,7,7,7,7,7,7,7,7,7,7,7,7,7,7,7,7,7,7,7,7,7,7,7,7,7,7,7,7,7,7,7,7,7,7,7,7,7,7,7,7,7,7,7,7,7,7,7,7,7,7,7,8,8,8,8,8,8,8,8,8,8,8,8,8,8,8,8,8,8,8,8,8,8,8,8,8,8,8,8,8,8,8,8,8,8,8,8,8,8,8,8,8,8,8,8,8,8,8,8,8,8,8,8,8,8,8,8,8,8,8,8,8,8,8,8,8,8,8,8,8,8,8,8,8,8,8,8,8,8,8,8,8,8,8,8,8,8,8,8,8,8,8,8,8,8,8,8,8,8,8,8,8,8,8,8,8,8,8,8,8,8,8,8,8,8,8,8,8,8,8,8,8,8,8,8,8,8,8,8]).size (b (zW zI (0+zW zI (ze (bs [0,1,2,2,3,3,3,3,4,4,4,4,4,4,4,4,5,5,5,5,5,5,5,5,5,5,5,5,5,5,5,5,6,6,6,6,6,6,6,6,6,6,6,6,6,6,6,6,6,6,6,6,6,6,6,6,6,6,6,6,6,6,6,6,7,7,7,7,7,7,7,7,7,7,7,7,7,7,7,7,7,7,7,7,7,7,7,7,7,7,7,7,7,7,7,7,7,7,7,7,7,7,7,7,7,7,7,7,7,7,7,7,7,7,7,7,7,7,7,7,7,7,7,7,7,7,7,7,8,8,8,8,8,8,8,8,8,8,8,8,8,8,8,8,8,8,8,8,8,8,8,8,8,8,8,8,8,8,8,8,8,8,8,8,8,8,8,8,8,8,8,8,8,8,8,8,8,8,8,8,8,8,8,8,8,8,8,8,8,8,8,8,8,8,8,8,8,8,8,8,8,8,8,8,8,8,8,8,8,8,8,8,8,8,8,8,8,8,8,8,8,8,8,8,8,8,8,8,8,8,8,8,8,8,8,8,8,8,8,8,8,8,8,8,8,8,8,8,8,8,8,8,8,8,8,8]) (zW zU a).toNat))))
def sB(a:Int):Option Int:=
 DC a (fun a0=>some a0)
def Wp{R:Type}(a:Int)(b:Int->Option R):Option R:=
 (sB a).bind fun r1=>b (zW zI (64-r1))
def lT(a:Int):Option Int:=
 Wp a (fun a0=>some a0)
def ZB{R:Type}(a:Int)(b:ax->Option R):Option R:=
 bif a<1 then b (0,0,()) else bif 128<a then b (0,0,()) else bif a<=64 then bif zW zI (64-a)<0 then none else b (IntKind.u64.wrap (1*2^min (zW zI (64-a)).toNat 64),0,()) else bif zW zI (128-a)<0 then none else b (0,IntKind.u64.wrap (1*2^min (zW zI (128-a)).toNat 64),())
def Hx(a:Int):Option ax:=
 ZB a (fun a0=>some a0)
def Zx{R:Type}(a b:ax)(c:ax->Option R):Option R:=
 c (aM .or .u64 a.1 b.1,aM .or .u64 a.2.1 b.2.1,())
def sY(a b:ax):Option ax:=
 Zx a b (fun a0=>some a0)
def ZA{R:Type}(a:ax)(b:Int)(c:ax->Option R):Option R:=
 (Hx b).bind fun r1=>(sY a r1).bind fun r2=>c r2
def ya(a:ax)(b:Int):Option ax:=
 ZA a b (fun a0=>some a0)
def Zv{R:Type}(a:(List Int))(b:(List Int)->Int->Int->ax->ax->Option R):Option R:=
 b a ((List.length a):Int) 0 (0,0,()) (0,0,())
def SS{R:Type}(a:(List Int))(b c:Int)(d e:ax)(f:(List Int)->Int->Int->ax->ax->Option R)(g:ax->ax->Option R):Option R:=
 bif c<b then zd c (List.length a) ((ya e (List.getD a c.toNat (0:Int))).bind fun r1=>f a b (zW zI (c+1)) d r1) else g d e
def Zw{R:Type}(a b:ax)(c:ax->Option R):Option R:=
 c b
def A6:Nat->(List Int)->Int->Int->ax->ax->Option (ax×ax)
 |0,_,_,_,_,_=>none
 |k+1,v0,v1,v2,v3,v4=>SS v0 v1 v2 v3 v4 (fun a0 a1 a2 a3 a4=>A6 k a0 a1 a2 a3 a4) (fun a0 a1=>some (a0,a1))
def uB(a:(List Int)):Option ax:=
 Zv a (fun a0 a1 a2 a3 a4=>(A6 ah a0 a1 a2 a3 a4).bind fun e=>Zw e.1 e.2 (fun a0=>some a0))
def z194{R:Type}(a:ax)(b:Int->Int->Option R):Option R:=
 b a.1 a.2.1
def Tw(a:ax):Option (Int×Int):=
 z194 a (fun a0 a1=>some (a0,a1))
def Zz{R:Type}(a:ax)(b:Int)(c:Int->Option R):Option R:=
 bif(if b<0 then 0 else b)<64 then bif(if b<0 then 0 else b)<0 then none else bif !decide (IntKind.u64.wrap (a.1*2^min (if b<0 then 0 else b).toNat 64)=0) then(lT (IntKind.u64.wrap (a.1*2^min (if b<0 then 0 else b).toNat 64))).bind fun r1=>c (zW zI (zW zI ((if b<0 then 0 else b)+r1)+1)) else bif(if 64<zW zI (64-64) then 64 else zW zI (64-64))<0 then none else bif !decide (IntKind.u64.wrap (a.2.1*2^min (if 64<zW zI (64-64) then 64 else zW zI (64-(64:Int))).toNat 64)=0) then(lT (IntKind.u64.wrap (a.2.1*2^min (if 64<zW zI (64-64) then 64 else zW zI (64-(64:Int))).toNat 64))).bind fun r2=>c (zW zI (zW zI (64+r2)+1)) else c 0 else bif(if 64<zW zI ((if b<0 then 0 else b)-64) then 64 else zW zI ((if b<0 then 0 else b)-64))<0 then none else bif !decide (IntKind.u64.wrap (a.2.1*2^min (if 64<zW zI ((if b<0 then 0 else b)-64) then 64 else zW zI ((if b<0 then 0 else b)-(64:Int))).toNat 64)=0) then(lT (IntKind.u64.wrap (a.2.1*2^min (if 64<zW zI ((if b<0 then 0 else b)-64) then 64 else zW zI ((if b<0 then 0 else b)-(64:Int))).toNat 64))).bind fun r3=>c (zW zI (zW zI ((if b<0 then 0 else b)+r3)+1)) else c 0
def Hw(a:ax)(b:Int):Option Int:=
 Zz a b (fun a0=>some a0)
def SU{R:Type}(a b:ax)(c:ax->Option R):Option R:=
 c (aM .and .u64 a.1 b.1,aM .and .u64 a.2.1 b.2.1,())
def rj(a b:ax):Option ax:=
 SU a b (fun a0=>some a0)
def Zy{R:Type}(a:ax)(b:Int)(c:Bool->Option R):Option R:=
 (Hx b).bind fun r1=>(rj a r1).bind fun r2=>c (!(decide (r2.1=0)&&(decide (r2.2.1=0)&&true)))
def Jy(a:ax)(b:Int):Option Bool:=
 Zy a b (fun a0=>some a0)
def z193{R:Type}(a b:Int)(c:ax->Option R):Option R:=
 c (a,b,())
def Tv(a b:Int):Option ax:=
 z193 a b (fun a0=>some a0)
def Dy{R:Type}(a:Int)(b:Int->Bool->Option R):Option R:=
 bif 48<=a then bif a<=57 then b (zW zI (zW zU (a-48))) true else bif 65<=a then bif a<=70 then b (zW zI (zW zI (zW zU (a-65))+10)) true else b 0 false else b 0 false else bif 65<=a then bif a<=70 then b (zW zI (zW zI (zW zU (a-65))+10)) true else b 0 false else b 0 false
def sA(a:Int):Option (Int×Bool):=
 Dy a (fun a0 a1=>some (a0,a1))
def Wl{R:Type}(a:ByteArray)(b:ByteArray->(List Int)->Int->Int->Option R):Option R:=
 bif 0<=zW zI (Int.tdiv (a.size:Int) 2) then bif zW zI (Int.tdiv (a.size:Int) 2)*1<=140737488355328 then b a [] 0 0 else none else none
def Sf{R:Type}(a:ByteArray)(b:(List Int))(c d:Int)(e:ByteArray->ByteArray->Int->Bool->(List Int)->Option R)(f:ByteArray->(List Int)->Int->Int->Option R)(g:ByteArray->(List Int)->Option R):Option R:=
 bif d<(a.size:Int) then zd d a.size ((sA (ze a d.toNat)).bind fun r1=>bif !r1.2 then e a (bs []) d false b else bif Int.tmod d 2=0 then f a b r1.1 (zW zI (d+1)) else bif(List.length b+List.length ([(zW zU (aM .or .i64 (zW zI (c*2^min ((4:Int)).toNat 64)) r1.1))]:List Int))*1<=140737488355328 then f a (b++([(zW zU (aM .or .i64 (zW zI (c*2^min ((4:Int)).toNat 64)) r1.1))]:List Int)) c (zW zI (d+1)) else none) else g a b
def DA{R:Type}(a b:ByteArray)(c:Int)(d:Bool)(e:(List Int))(f:ByteArray->Int->Bool->Option R):Option R:=
 f b c d
def Wm{R:Type}(a:ByteArray)(b:(List Int))(c:ByteArray->Int->Bool->Option R):Option R:=
 bif !decide (Int.tmod (a.size:Int) 2=0) then c (bs []) (a.size:Int) false else c (strOf b) 0 true
def GN:Nat->ByteArray->(List Int)->Int->Int->Option (Sum (ByteArray×ByteArray×Int×Bool×(List Int)) (ByteArray×(List Int)))
 |0,_,_,_,_=>none
 |k+1,v0,v1,v2,v3=>Sf v0 v1 v2 v3 (fun a0 a1 a2 a3 a4=>some (.inl (a0,a1,a2,a3,a4))) (fun a0 a1 a2 a3=>GN k a0 a1 a2 a3) (fun a0 a1=>some (.inr (a0,a1)))
def fZ(a:ByteArray):Option (ByteArray×Int×Bool):=
 Wl a (fun a0 a1 a2 a3=>(GN ah a0 a1 a2 a3).bind fun e=>Sum.elim (fun(we:(ByteArray×ByteArray×Int×Bool×(List Int)))=>DA we.1 we.2.1 we.2.2.1 we.2.2.2.1 we.2.2.2.2 (fun a0 a1 a2=>some (a0,a1,a2))) (fun(we:(ByteArray×(List Int)))=>Wm we.1 we.2 (fun a0 a1 a2=>some (a0,a1,a2))) e)
def Wo{R:Type}(a:ByteArray)(b:ByteArray->(List Int)->Int->Option R):Option R:=
 bif 0<=zW zI (2*(a.size:Int)) then bif zW zI (2*(a.size:Int))*1<=140737488355328 then b a [] 0 else none else none
def Sg{R:Type}(a:ByteArray)(b:(List Int))(c:Int)(d:ByteArray->(List Int)->Int->Option R)(e:(List Int)->Option R):Option R:=
 bif c<(a.size:Int) then zd c a.size (zd (Int.fdiv (ze a c.toNat) (2^min ((4:Int)).toNat 8)) (bs [48,49,50,51,52,53,54,55,56,57,65,66,67,68,69,70]).size (zd c a.size (zd (aM .and .u8 (ze a c.toNat) 15) (bs [48,49,50,51,52,53,54,55,56,57,65,66,67,68,69,70]).size (bif(List.length b+List.length ([(ze (bs [48,49,50,51,52,53,54,55,56,57,65,66,67,68,69,70]) (Int.fdiv (ze a c.toNat) (2^min ((4:Int)).toNat 8)).toNat),(ze (bs [48,49,50,51,52,53,54,55,56,57,65,66,67,68,69,70]) (aM .and .u8 (ze a c.toNat) (15:Int)).toNat)]:List Int))*1<=140737488355328 then d a (b++([(ze (bs [48,49,50,51,52,53,54,55,56,57,65,66,67,68,69,70]) (Int.fdiv (ze a c.toNat) (2^min ((4:Int)).toNat 8)).toNat),(ze (bs [48,49,50,51,52,53,54,55,56,57,65,66,67,68,69,70]) (aM .and .u8 (ze a c.toNat) (15:Int)).toNat)]:List Int)) (zW zI (c+1)) else none)))) else e b
def DB{R:Type}(a:(List Int))(b:ByteArray->Option R):Option R:=
 b (strOf a)
def GO:Nat->ByteArray->(List Int)->Int->Option (List Int)
 |0,_,_,_=>none
 |k+1,v0,v1,v2=>Sg v0 v1 v2 (fun a0 a1 a2=>GO k a0 a1 a2) (fun a0=>some a0)
def jk(a:ByteArray):Option ByteArray:=
 Wo a (fun a0 a1 a2=>(GO ah a0 a1 a2).bind fun e=>DB e (fun a0=>some a0))
def l4{R:Type}(a:Int)(b:Bool->Option R):Option R:=
 bif a=1 then b true else b (decide (a=2))
def Q9(a:Int):Option Bool:=
 l4 a (fun a0=>some a0)
def Yr{R:Type}(a:Int)(b:ByteArray)(c:Int)(d:(List Int)->Int->Int->Option R):Option R:=
 bif a=1 then bif zW zI ((b.size:Int)-c)<zW zI (8*2) then d (List.replicate 8 0) 0 2 else bif 0<=zW zI (c+zW zI (8*2)) then bif zW zI (c+zW zI (8*2))<=(b.size:Int) then bif 0<=c then bif c<=(((zW zI (c+zW zI (8*(2:Int)))).toNat:Nat):Int) then bif a=1 then(fZ (b.extract c.toNat (zW zI (c+zW zI (8*(2:Int)))).toNat)).bind fun r1=>bif !r1.2.2 then d (List.replicate 8 0) 0 3 else bif Nat.beq 8 (List.length (List.replicate 8 (0:Int))) then bif Nat.beq 8 (List.length (bJ (List.replicate 8 (0:Int)) (List.take 8 (mY r1.1)) 0)) then d (bJ (List.replicate 8 0) (List.take 8 (mY r1.1)) 0) (zW zI (c+zW zI (8*2))) 0 else none else none else bif Nat.beq 8 (List.length (List.replicate 8 (0:Int))) then bif Nat.beq 8 (List.length (bJ (List.replicate 8 (0:Int)) (List.take 8 (mY (b.extract c.toNat (zW zI (c+zW zI ((8:Int)*(2:Int)))).toNat))) 0)) then d (bJ (List.replicate 8 0) (List.take 8 (mY (b.extract c.toNat (zW zI (c+zW zI (8*(2:Int)))).toNat))) 0) (zW zI (c+zW zI (8*2))) 0 else none else none else none else none else none else none else bif zW zI ((b.size:Int)-c)<8 then d (List.replicate 8 0) 0 2 else bif 0<=zW zI (c+8) then bif zW zI (c+8)<=(b.size:Int) then bif 0<=c then bif c<=(((zW zI (c+(8:Int))).toNat:Nat):Int) then bif a=1 then(fZ (b.extract c.toNat (zW zI (c+(8:Int))).toNat)).bind fun r2=>bif !r2.2.2 then d (List.replicate 8 0) 0 3 else bif Nat.beq 8 (List.length (List.replicate 8 (0:Int))) then bif Nat.beq 8 (List.length (bJ (List.replicate 8 (0:Int)) (List.take 8 (mY r2.1)) 0)) then d (bJ (List.replicate 8 0) (List.take 8 (mY r2.1)) 0) (zW zI (c+8)) 0 else none else none else bif Nat.beq 8 (List.length (List.replicate 8 (0:Int))) then bif Nat.beq 8 (List.length (bJ (List.replicate 8 (0:Int)) (List.take 8 (mY (b.extract c.toNat (zW zI (c+(8:Int))).toNat))) 0)) then d (bJ (List.replicate 8 0) (List.take 8 (mY (b.extract c.toNat (zW zI (c+(8:Int))).toNat))) 0) (zW zI (c+8)) 0 else none else none else none else none else none else none
def Hv(a:Int)(b:ByteArray)(c:Int):Option ((List Int)×Int×Int):=
 Yr a b c (fun a0 a1 a2=>some (a0,a1,a2))
def oJ{R:Type}(a:(List Int))(b:Int->(List Int)->Int->Option R):Option R:=
 b 0 a 0
def lY{R:Type}(a:Int)(b:(List Int))(c:Int)(d:Int->(List Int)->Int->Option R)(e:Int->Option R):Option R:=
 bif c<8 then zd c 8 (d (aM .or .u64 (IntKind.u64.wrap (a*2^min ((8:Int)).toNat 64)) (IntKind.u64.wrap (List.getD b c.toNat 0))) b (zW zI (c+1))) else e a
def sZ{R:Type}(a:Int)(b:Int->Option R):Option R:=
 b a
def jr:Nat->Int->(List Int)->Int->Option Int
 |0,_,_,_=>none
 |k+1,v0,v1,v2=>lY v0 v1 v2 (fun a0 a1 a2=>jr k a0 a1 a2) (fun a0=>some a0)
def Q7(a:(List Int)):Option Int:=
 oJ a (fun a0 a1 a2=>(jr ah a0 a1 a2).bind fun e=>sZ e (fun a0=>some a0))
def om{R:Type}(a:Int)(b:ByteArray)(c:Int)(d:ax->Int->Int->Option R):Option R:=
 (Q9 a).bind fun r1=>bif !r1 then d (0,0,()) 0 1 else bif c<0 then d (0,0,()) 0 1 else bif(b.size:Int)<c then d (0,0,()) 0 1 else(Hv a b c).bind fun r2=>bif !decide (r2.2.2=0) then d (0,0,()) 0 r2.2.2 else(Q7 r2.1).bind fun r3=>bif aM .and .u64 r3 9223372036854775808=0 then(Tv r3 (0:Int)).bind fun r4=>d r4 r2.2.1 0 else(Hv a b r2.2.1).bind fun r5=>bif !decide (r5.2.2=0) then d (0,0,()) 0 r5.2.2 else bif r5.1=([0,0,0,0,0,0,0,0]:List Int) then d (0,0,()) 0 8 else(Q7 r5.1).bind fun r6=>(Tv (aM .andNot .u64 r3 9223372036854775808) r6).bind fun r7=>d r7 r5.2.1 0
def Q5(a:Int)(b:ByteArray)(c:Int):Option (ax×Int×Int):=
 om a b c (fun a0 a1 a2=>some (a0,a1,a2))
def oN{R:Type}(a:Int)(b:Int->Int->(List Int)->(List Int)->Option R):Option R:=
 b a 0 (List.replicate 8 0) (List.replicate 8 0)
def lZ{R:Type}(a b:Int)(c d:(List Int))(e:Int->Int->(List Int)->(List Int)->Option R)(f:(List Int)->(List Int)->Option R):Option R:=
 bif b<8 then bif zW zI (8*zW zI (7-b))<0 then none else zd b 8 (e a (zW zI (b+1)) c (List.set d b.toNat (zW zU (Int.fdiv a (2^min (zW zI (8*zW zI (7-b))).toNat 64))))) else f c d
def oO{R:Type}(a b:(List Int))(c:(List Int)->Option R):Option R:=
 c b
def gC:Nat->Int->Int->(List Int)->(List Int)->Option ((List Int)×(List Int))
 |0,_,_,_,_=>none
 |k+1,v0,v1,v2,v3=>lZ v0 v1 v2 v3 (fun a0 a1 a2 a3=>gC k a0 a1 a2 a3) (fun a0 a1=>some (a0,a1))
def Q8(a:Int):Option (List Int):=
 oN a (fun a0 a1 a2 a3=>(gC ah a0 a1 a2 a3).bind fun e=>oO e.1 e.2 (fun a0=>some a0))
def ox{R:Type}(a:Int)(b:ax)(c:ByteArray->Int->Option R):Option R:=
 (Q9 a).bind fun r1=>bif !r1 then c (bs []) 1 else(Jy b (1:Int)).bind fun r2=>bif r2 then c (bs []) 1 else(Tw b).bind fun r3=>(Q8 r3.2).bind fun r4=>bif !decide (r4=([0,0,0,0,0,0,0,0]:List Int)) then bif Nat.beq 8 (List.length r4) then(Q8 (aM .or .u64 r3.1 (9223372036854775808:Int))).bind fun r5=>bif Nat.beq 8 (List.length r5) then bif(strOf r5).size+(strOf r4).size<=9223372036854775807 then bif a=1 then(jk (strOf r5++strOf r4)).bind fun r6=>c r6 0 else c (strOf r5++strOf r4) 0 else none else none else none else(Q8 r3.1).bind fun r7=>bif Nat.beq 8 (List.length r7) then bif(strOf r7).size+(bs []).size<=9223372036854775807 then bif a=1 then(jk (strOf r7++bs [])).bind fun r8=>c r8 0 else c (strOf r7++bs []) 0 else none else none
def Q6(a:Int)(b:ax):Option HB:=
 ox a b (fun a0 a1=>some (a0,a1))
def Sm{R:Type}(a:Int)(b:Int->Option R):Option R:=
 bif a=2 then b 2 else bif a=3 then b 3 else b 0
def jl(a:Int):Option Int:=
 Sm a (fun a0=>some a0)
def DQ{R:Type}(a:Int)(b:Int->Int->Int->Option R):Option R:=
 (jl a).bind fun r1=>b 0 r1 0
def DR{R:Type}(a b c:Int)(d:Int->Int->Int->Option R)(e:Int->Option R):Option R:=
 bif c<b then d (zW zI (zW zI (10*a)+9)) b (zW zI (c+1)) else e a
def DS{R:Type}(a:Int)(b:Int->Option R):Option R:=
 b a
def WG:Nat->Int->Int->Int->Option Int
 |0,_,_,_=>none
 |k+1,v0,v1,v2=>DR v0 v1 v2 (fun a0 a1 a2=>WG k a0 a1 a2) (fun a0=>some a0)
def qq(a:Int):Option Int:=
 DQ a (fun a0 a1 a2=>(WG ah a0 a1 a2).bind fun e=>DS e (fun a0=>some a0))
def Sl{R:Type}(a b:Int)(c:Bool->Option R):Option R:=
 bif a=1 then(jl b).bind fun r1=>c (decide (0<r1)) else bif a=2 then(jl b).bind fun r2=>c (decide (0<r2)) else c false
def qt(a b:Int):Option Bool:=
 Sl a b (fun a0=>some a0)
def WD{R:Type}(a b:Int)(c:ByteArray)(d:Int)(e:Int->Int->Int->Option R):Option R:=
 (qt a b).bind fun r1=>bif !r1 then e 0 0 1 else bif d<0 then e 0 0 1 else bif(c.size:Int)<d then e 0 0 1 else(jl b).bind fun r2=>bif a=2 then(Q2 r2).bind fun r3=>bif zW zI ((c.size:Int)-d)<r3 then e 0 0 2 else bif 0<=zW zI (d+r3) then bif zW zI (d+r3)<=(c.size:Int) then bif 0<=d then bif d<=(((zW zI (d+r3)).toNat:Nat):Int) then bif a=2 then(jl b).bind fun r4=>(Q0 (c.extract d.toNat (zW zI (d+r3)).toNat) r4).bind fun r5=>bif !decide (r5.2.1=0) then e 0 0 3 else(x8 r5.1).bind fun r6=>bif !r6.2 then e 0 0 3 else e r6.1 (zW zI (d+r3)) 0 else(x8 (c.extract d.toNat (zW zI (d+r3)).toNat)).bind fun r7=>bif !r7.2 then e 0 0 3 else e r7.1 (zW zI (d+r3)) 0 else none else none else none else none else bif zW zI ((c.size:Int)-d)<r2 then e 0 0 2 else bif 0<=zW zI (d+r2) then bif zW zI (d+r2)<=(c.size:Int) then bif 0<=d then bif d<=(((zW zI (d+r2)).toNat:Nat):Int) then bif a=2 then(jl b).bind fun r8=>(Q0 (c.extract d.toNat (zW zI (d+r2)).toNat) r8).bind fun r9=>bif !decide (r9.2.1=0) then e 0 0 3 else(x8 r9.1).bind fun j6=>bif !j6.2 then e 0 0 3 else e j6.1 (zW zI (d+r2)) 0 else(x8 (c.extract d.toNat (zW zI (d+r2)).toNat)).bind fun jV=>bif !jV.2 then e 0 0 3 else e jV.1 (zW zI (d+r2)) 0 else none else none else none else none
def sG(a b:Int)(c:ByteArray)(d:Int):Option iw:=
 WD a b c d (fun a0 a1 a2=>some (a0,a1,a2))
def WH{R:Type}(a b c:Int)(d:ByteArray->Int->Option R):Option R:=
 (qt a b).bind fun r1=>bif !r1 then d (bs []) 1 else(jl b).bind fun r2=>(Jt c r2).bind fun r3=>bif !r3.2 then d (bs []) 5 else bif a=2 then(Q1 r3.1).bind fun r4=>d r4.1 0 else d r3.1 0
def qs(a b c:Int):Option HB:=
 WH a b c (fun a0 a1=>some (a0,a1))
def Y2{R:Type}(a:Int)(b:Int->Option R):Option R:=
 bif a=1 then b 1 else bif a=2 then b 2 else bif a=3 then b 3 else bif a=4 then b 7 else bif a=5 then b 15 else bif a=6 then b 15 else b 0
def x5(a:Int):Option Int:=
 Y2 a (fun a0=>some a0)
def YT{R:Type}(a:Int)(b:Bool->Option R):Option R:=
 (x5 a).bind fun r1=>b (!decide (r1=0))
def Bm(a:Int):Option Bool:=
 YT a (fun a0=>some a0)
def Fh{R:Type}(a:Int)(b:Int->Option R):Option R:=
 bif 48<=a then bif a<=57 then b 1 else bif 65<=a then bif a<=90 then b 2 else bif 97<=a then bif a<=122 then b 2 else bif 32<=a then bif a<=126 then b 4 else b 8 else b 8 else bif 32<=a then bif a<=126 then b 4 else b 8 else b 8 else bif 97<=a then bif a<=122 then b 2 else bif 32<=a then bif a<=126 then b 4 else b 8 else b 8 else bif 32<=a then bif a<=126 then b 4 else b 8 else b 8 else bif 65<=a then bif a<=90 then b 2 else bif 97<=a then bif a<=122 then b 2 else bif 32<=a then bif a<=126 then b 4 else b 8 else b 8 else bif 32<=a then bif a<=126 then b 4 else b 8 else b 8 else bif 97<=a then bif a<=122 then b 2 else bif 32<=a then bif a<=126 then b 4 else b 8 else b 8 else bif 32<=a then bif a<=126 then b 4 else b 8 else b 8
def Bn(a:Int):Option Int:=
 Fh a (fun a0=>some a0)
def YQ{R:Type}(a:Int)(b:ByteArray)(c:ByteArray->Int->Int->Option R):Option R:=
 (x5 a).bind fun r1=>c b r1 0
def SO{R:Type}(a:ByteArray)(b c:Int)(d:Int->Option R)(e:ByteArray->Int->Int->Option R)(f:Option R):Option R:=
 bif c<(a.size:Int) then zd c a.size ((Bn (ze a c.toNat)).bind fun r2=>bif aM .and .i64 b r2=0 then d c else e a b (zW zI (c+1))) else f
def Ff{R:Type}(a:Int)(b:Int->Option R):Option R:=
 b a
def Fg{R:Type}(a:Int->Option R):Option R:=
 a (-1:Int)
def Hc:Nat->ByteArray->Int->Int->Option (Sum Int Unit)
 |0,_,_,_=>none
 |k+1,v0,v1,v2=>SO v0 v1 v2 (fun a0=>some (.inl a0)) (fun a0 a1 a2=>Hc k a0 a1 a2) (some (.inr ()))
def Ji(a:Int)(b:ByteArray):Option Int:=
 YQ a b (fun a0 a1 a2=>(Hc ah a0 a1 a2).bind fun e=>Sum.elim (fun(we:Int)=>Ff we (fun a0=>some a0)) (fun(we:Unit)=>Fg (fun a0=>some a0)) e)
def YY{R:Type}(a b:Int)(c:Bool->Option R):Option R:=
 (Bm a).bind fun r1=>bif r1 then(Bm b).bind fun r2=>bif r2 then(x5 b).bind fun r3=>(x5 a).bind fun r4=>c (decide (aM .andNot .i64 r3 r4=0)) else c false else c false
def Jk(a b:Int):Option Bool:=
 YY a b (fun a0=>some a0)
def Eu{R:Type}(a:Int)(b:Bool->Option R):Option R:=
 bif 0<a then bif a<=255 then b (decide (aM .and .i64 a 32=0)) else b false else b false
def nj(a:Int):Option Bool:=
 Eu a (fun a0=>some a0)
def XF{R:Type}(a:Int)(b:Bool->Option R):Option R:=
 bif a<=255 then(nj a).bind fun r1=>bif r1 then b (!decide (aM .and .i64 a 31=31)) else b false else bif a<=65535 then(nj (Int.fdiv a (2^min ((8:Int)).toNat 64))).bind fun r2=>bif r2 then bif aM .and .i64 (Int.fdiv a (2^min ((8:Int)).toNat 64)) 31=31 then bif 1<=aM .and .i64 a 255 then b (decide (aM .and .i64 a 255<=127)) else b false else b false else b false else b false
def sU(a:Int):Option Bool:=
 XF a (fun a0=>some a0)
def XE{R:Type}(a:ByteArray)(b:Int)(c:Int->Int->Int->Option R):Option R:=
 bif b<0 then c 0 0 1 else bif(a.size:Int)<b then c 0 0 1 else bif b=(a.size:Int) then c 0 0 2 else zd b a.size ((nj (zW zI (ze a b.toNat))).bind fun r1=>bif !r1 then c 0 0 13 else bif !decide (aM .and .i64 (zW zI (ze a b.toNat)) 31=31) then c (zW zI (ze a b.toNat)) (zW zI (b+1)) 0 else bif zW zI (b+1)=(a.size:Int) then c 0 0 2 else zd (zW zI (b+1)) a.size ((sU (aM .or .i64 (zW zI (zW zI (ze a b.toNat)*2^min ((8:Int)).toNat 64)) (zW zI (ze a (zW zI (b+(1:Int))).toNat)))).bind fun r2=>bif !r2 then c 0 0 13 else c (aM .or .i64 (zW zI (zW zI (ze a b.toNat)*2^min ((8:Int)).toNat 64)) (zW zI (ze a (zW zI (b+(1:Int))).toNat))) (zW zI (b+2)) 0))
def sT(a:ByteArray)(b:Int):Option iw:=
 XE a b (fun a0 a1 a2=>some (a0,a1,a2))
def XH{R:Type}(a:ByteArray)(b:ByteArray->ak->Int->Bv->Option R):Option R:=
 b a [] 0 []
def XI{R:Type}(a:ByteArray)(b:ak)(c:Int)(d:Bv)(e:ak->Int->Int->ak->Option R)(f:ByteArray->ak->Int->Bv->Option R)(g:ak->Option R):Option R:=
 bif c<(a.size:Int) then(sT a c).bind fun r1=>bif !decide (r1.2.2=(0:Int)) then e ([]:List cn) r1.2.2 c b else(Q3 a r1.2.1).bind fun r2=>bif !decide (r2.2.2=(0:Int)) then e ([]:List cn) r2.2.2 r1.2.1 b else bif zW zI ((a.size:Int)-r2.2.1)<r2.1 then e ([]:List cn) (2:Int) (a.size:Int) b else bif eF (fy (.int .i64)) false d r1.1 then e ([]:List cn) (10:Int) c b else bif eG (fy (.int .i64)) d r1.1 then none else bif(0:Int)<=zW zI (r2.2.1+r2.1) then bif zW zI (r2.2.1+r2.1)<=((a.size:Nat):Int) then bif(0:Int)<=r2.2.1 then bif r2.2.1<=(((zW zI (r2.2.1+r2.1)).toNat:Nat):Int) then bif(List.length b+List.length ([(r1.1,a.extract r2.2.1.toNat (zW zI (r2.2.1+r2.1)).toNat,())]:List cn))*24<=140737488355328 then f a (b++([(r1.1,a.extract r2.2.1.toNat (zW zI (r2.2.1+r2.1)).toNat,())]:List cn)) (zW zI (r2.2.1+r2.1)) (d++ [(r1.1,true)]) else none else none else none else none else none else g b
def Ew{R:Type}(a:ak)(b c:Int)(d:ak)(e:ak->Int->Int->Option R):Option R:=
 e a b c
def Ey{R:Type}(a:ak)(b:ak->Int->Int->Option R):Option R:=
 b a 0 0
def Iq:Nat->ByteArray->ak->Int->Bv->Option (Sum qB ak)
 |0,_,_,_,_=>none
 |k+1,v0,v1,v2,v3=>XI v0 v1 v2 v3 (fun a0 a1 a2 a3=>some (.inl (a0,a1,a2,a3))) (fun a0 a1 a2 a3=>Iq k a0 a1 a2 a3) (fun a0=>some (.inr a0))
def sV(a:ByteArray):Option (Sum iR iR):=
 XH a (fun a0 a1 a2 a3=>(Iq ah a0 a1 a2 a3).bind fun e=>Sum.elim (fun(we:qB)=>Ew we.1 we.2.1 we.2.2.1 we.2.2.2 (fun a0 a1 a2=>some (.inl (a0,a1,a2)))) (fun(we:ak)=>Ey we (fun a0 a1 a2=>some (.inr (a0,a1,a2)))) e)
def Xn{R:Type}(a:ap)(b:Int->Option R):Option R:=
 bif a.1<2 then b 1 else bif 128<a.1 then b 1 else(Bm a.2.1).bind fun r1=>bif !r1 then b 6 else bif a.2.2.1<1 then b 3 else bif 3<a.2.2.1 then b 3 else bif a.2.2.2.1<1 then b 5 else bif a.2.2.2.2.1<a.2.2.2.1 then b 5 else bif 999<a.2.2.2.2.1 then b 5 else bif a.2.2.1=1 then bif !decide (a.2.2.2.1=a.2.2.2.2.1) then b 5 else bif !decide (a.2.2.1=1) then(qq a.2.2.1).bind fun r2=>bif r2<a.2.2.2.2.1 then b 5 else bif a.2.2.1=1 then bif a.2.1=6 then b 13 else b 0 else b 0 else bif a.2.2.1=1 then bif a.2.1=6 then b 13 else b 0 else b 0 else bif !decide (a.2.2.1=1) then(qq a.2.2.1).bind fun r3=>bif r3<a.2.2.2.2.1 then b 5 else bif a.2.2.1=1 then bif a.2.1=6 then b 13 else b 0 else b 0 else bif a.2.2.1=1 then bif a.2.1=6 then b 13 else b 0 else b 0
def kW(a:ap):Option Int:=
 Xn a (fun a0=>some a0)
def Xo{R:Type}(a:ap)(b:ByteArray)(c:Int->Option R):Option R:=
 (kW a).bind fun r1=>bif !decide (r1=0) then c 1 else bif(b.size:Int)<a.2.2.2.1 then c 5 else bif a.2.2.2.2.1<(b.size:Int) then c 5 else(Ji a.2.1 b).bind fun r2=>bif 0<=r2 then c 6 else bif a.2.1=6 then(sV b).bind fun r3=>Sum.elim (fun(Ct:iR)=>bif !decide (Ct.2.1=0) then c 13 else c 0) (fun(Ct:iR)=>bif !decide (Ct.2.1=0) then c 13 else c 0) r3 else c 0
def bH(a:ap)(b:ByteArray):Option Int:=
 Xo a b (fun a0=>some a0)
def Xq{R:Type}(a b:Int)(c:Bool->Option R):Option R:=
 bif a=5 then c true else bif a=6 then c (decide (a=b)) else bif b=6 then c (decide (a=b)) else(Jk a b).bind fun r1=>c r1
def vw(a b:Int):Option Bool:=
 Xq a b (fun a0=>some a0)
def Xp{R:Type}(a b:ap)(c:Bool->Option R):Option R:=
 (kW a).bind fun r1=>bif r1=0 then(kW b).bind fun r2=>bif r2=0 then bif a.2.2.2.1<=b.2.2.2.1 then bif b.2.2.2.2.1<=a.2.2.2.2.1 then(vw a.2.1 b.2.1).bind fun r3=>c r3 else c false else c false else c false else c false
def kX(a b:ap):Option Bool:=
 Xp a b (fun a0=>some a0)
end bF

