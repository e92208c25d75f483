/- No condition. -/
import Derived.Test.YtkgpjibbdpikcaaGreatDoorK0
import Derived.Laws.CopyRow
import Derived.OpenShut
import Derived.Deep.Slices
import Derived.Shelf.Strings.Repeat
set_option linter.unusedVariables false
set_option linter.unusedSimpArgs false
set_option maxRecDepth 100000
namespace Go.Ref
open Go
variable {P:Program} {E:Env} {X:ap} {s:State} {a:Act} {o:Oper} {u:Out}
theorem Yy(hE:ak P E)(hr:Rel X s a){ops:List Oper}{T:TypeId}{x:Operand}{lo hi:Option Operand}(ho:o.op= .slice T x lo hi none){C:FuncId->bF Out}(h:act E C ops o s some=some u):aA P X s a o u:=by
 unfold act at h
 simp only[ho] at h
 split at h
 ·rename_i id n ta tb dy
  split at h
  case h_2=>cases h
  rename_i e t hT
  split at h
  case isFalse=>cases h
  rename_i heq
  have:=Ty.aH heq
  subst this
  unfold qD at h
  split at h
  ·cases h
  rename_i Ev
  have P7:hi=none:=by
   cases hi with
   |none=>rfl
   |some _=>cases Ev
  subst P7
  obtain⟨l,h,h1,hl⟩:=z9h h
  cases h
  have hx:=hr.ay x
  rw[dy] at hx
  obtain⟨r0,hβ,cap,hv,lD⟩:=hx
  have hu:=(hE.ty T _ hT).cO
  have hbd:=zbp (P:=P) (isS:=true) hr hl (hi:=none) (m:=n) (n:=n) (c:=cap) rfl h1 (Nat.le_refl _) lD X.w
  rw[Option.map_none] at hbd
  refine aA.plain hr (v:= .slice (if cap=l then some ⟨r0,0,none⟩ else(some (⟨r0,0,none⟩:Addr)).map (·.add (l*ta.cells))) (n-l) (cap-l)) ?_ ⟨r0,hβ,?_⟩ (fun _ _ _ e=>by cases e;exact xG hr dy)
  ·simp only[execOp,ho,Sem.run_bind,Instr.sliceAt,run_underlying hu.1,Result.andThen_ok,Instr.slice,hv,Option.map_none,hbd,Sem.run_pure,kL hE hu.2]
  ·show∃tT off,_=Value.slice (some ⟨r0,off,none⟩) (n-l) tT/\_
   by_cases e':cap=l
   ·rw[if_pos e']
    exact⟨_,_,rfl,by omega,h1,.inl ⟨by omega,rfl⟩⟩
   ·rw[if_neg e']
    refine⟨cap-l,l*ta.cells,?_,by omega,h1,.inr rfl⟩
    rw[Option.map_some,jw,Nat.zero_add]
 ·rename_i id n t dy
  have hx:=hr.ay x
  rw[dy] at hx
  obtain⟨r0,hβ,hv⟩:=hx
  unfold oT at h
  split at h
  case h_2=>cases h
  rename_i u' hT yI Ev
  have lo0:lo=none:=by
   cases lo with
   |none=>rfl
   |some _=>cases yI
  have P7:hi=none:=by
   cases hi with
   |none=>rfl
   |some _=>cases Ev
  subst lo0 P7
  split at h
  case isFalse=>cases h
  rename_i heq
  have:=Ty.aH heq
  subst this
  split at h
  case h_2=>cases h
  rename_i B hB
  split at h
  case isFalse=>cases h
  rename_i dx
  cases h
  have hb:=pI hB
  obtain⟨r,h1,tY⟩:=hr.boxes id B hb
  rw[hβ] at h1
  cases h1
  obtain⟨bt,bx,bo⟩:=B
  have e:=Ty.aH dx
  simp only at e
  subst e
  obtain⟨cs,T',aF,aJ,how,_⟩:=tY.cells rfl
  have hv:a.eval x= .pointer (some ⟨r0,0,none⟩):=by rw[((n9 rfl).1 hv).1];rfl
  obtain⟨e,iu,jc,_⟩:=(hE.ty T _ hT).cO
  have hlen:List.length (bx:List (El t))=n:=aJ.1
  have bV:bA X id r0 ⟨.aT .row t .unit,(bx:List (El t)),[]⟩:=⟨how,cs,T',aF,by have:=aJ.2.1;rw[hlen];simpa using this,aJ.2.2⟩
  have Eo:(Ty.cast dx bx:El (.arr n t))=bx:=rfl
  rw[Eo]
  refine⟨X,.slice (some ⟨r0,0,none⟩) n n,.inl ?_,Ext.refl X,(hr.mT hb hβ bV).fin ⟨r0,hβ,n,rfl,Nat.le_refl _⟩ (fun bT t' p' hm=> ?_)⟩
  ·simp only[execOp,ho,Sem.run_bind,Instr.sliceAt,run_underlying iu,Result.andThen_ok,Option.map_none,hv,Instr.sureAddr,Sem.run_pure,kL hE jc]
   simp [Instr.sliceBounds]
   intro _
   rw[jw]
  ·have Qa:SV.ptr bT t' p'= .ptr id (.aT (.fO n) t .unit) []:=by simpa using hm
   cases Qa
   exact⟨_,zc4 hb⟩
 ·exact Vt hE hr ho h
theorem zya(hr:Rel X s a){ops:List Oper}{fn:Fn}{fi ca:Array Operand}(ho:o.op= .makeFunc fn fi ca){C:FuncId->bF Out}(h:act E C ops o s some=some u):aA P X s a o u:=by
 unfold act at h
 cases fn with
 |func f=>
  simp only[ho] at h
  split at h
  case h_3=>cases h
  case h_2=>
   rename_i x y ue yA
   have ue:fi= #[]:=by rw[<-Array.toArray_toList (xs:=fi),ue]
   have yA:ca= #[x,y]:=by rw[<-Array.toArray_toList (xs:=ca),yA]
   subst ue yA
   unfold qB at h
   split at h
   case h_2=>cases h
   rename_i t x1 u' y1 dy E0
   cases h
   have hx:=hr.ay x
   have hy:=hr.ay y
   rw[dy] at hx
   rw[E0] at hy
   obtain⟨ad,cs,h1,h2,h3,h4⟩:=hx
   obtain⟨nV,dM,k1,k2,k3,k4⟩:=hy
   refine aA.plain hr (v:= .func (.func f) #[] #[.pointer (some ad),.pointer (some nV)]) ?_ ⟨ad,nV,cs,dM,rfl,⟨h2,h3,h4⟩,k2,k3,k4⟩ (fun _ _ _ e=>by cases e)
   simp [execOp,ho,Instr.makeFunc,h1,k1]
  rename_i x ue yA
  have ue:fi= #[]:=by rw[<-Array.toArray_toList (xs:=fi),ue]
  have yA:ca= #[x]:=by rw[<-Array.toArray_toList (xs:=ca),yA]
  subst ue yA
  unfold ly at h
  split at h
  case h_2=>cases h
  rename_i id u' dy
  split at h
  case isTrue=>cases h
  rename_i hs
  cases h
  have hx:=hr.ay x
  rw[dy] at hx
  obtain⟨r0,hβ,hv⟩:=hx
  have hv:=((Iv (by simpa using hs)).1 hv).1
  refine aA.plain hr (v:= .func (.func f) #[] #[.pointer (some ⟨r0,0,none⟩)]) ?_ ⟨r0,hβ,rfl⟩ (fun _ _ _ e=>by cases e;exact xG hr dy)
  have hv:a.eval x= .pointer (some ⟨r0,0,none⟩):=by rw[hv];simp [Ty.off]
  simp [execOp,ho,Instr.makeFunc,hv]
 |_=>simp only[ho] at h;cases h
theorem Fy{t:Ty}{xs:List (El t)}{n l:Nat}{cs:List Value}(h:aR X (.arr n t) xs cs)(hl:l<=n):aR X (.arr l t) (xs.take l:List (El t)) (cs.take (l*t.cells)):=by
 obtain⟨h1,h2,h3⟩:=h
 have hm:=Nat.mul_le_mul_right t.cells hl
 refine⟨by rw[List.length_take];omega,by rw[List.length_take];omega,fun j y hj=> ?_⟩
 have hj:(xs.take l)[j]? =some y:=hj
 rw[List.getElem?_take] at hj
 split at hj
 case isFalse=>cases hj
 rename_i uf
 have hk:(j+1)*t.cells<=l*t.cells:=Nat.mul_le_mul_right _ uf
 rw[Nat.add_mul,Nat.one_mul] at hk
 have e:((cs.take (l*t.cells)).drop (j*t.cells)).take t.cells=(cs.drop (j*t.cells)).take t.cells:=by
  rw[List.drop_take,List.take_take,Nat.min_eq_left (by omega)]
 rw[e]
 exact h3 j y hj
theorem Fx{t:Ty}{xs:List (El t)}{n l:Nat}{cs:List Value}(h:aR X (.arr n t) xs cs)(hl:l<=n):aR X (.arr (n-l) t) (xs.drop l:List (El t)) (cs.drop (l*t.cells)):=by
 obtain⟨h1,h2,h3⟩:=h
 refine⟨by rw[List.length_drop];omega,by rw[List.length_drop,Nat.sub_mul];omega,fun j y hj=> ?_⟩
 have hj:(xs.drop l)[j]? =some y:=hj
 rw[List.getElem?_drop] at hj
 rw[List.drop_drop,<-Nat.add_mul]
 exact h3 (l+j) y hj
theorem Gd{α:Type}(xs ys:List α)(lo:Nat)(h:lo+ys.length<=xs.length):(bC xs ys lo).length=xs.length:=by
 unfold bC;simp;omega
theorem zqf(hE:ak P E)(hr:Rel X s a){d x:Operand}{T e:TypeId}{t:Ty}{ts:Array TypeId}(ho:o.op= .call ⟨.builtin .copy,#[d,x],ts⟩)(gj:ts[0]? =some T)(hT:E.ty T=some (.sl e t)){id n lo:Nat}{ta tb:Ty}{p:List Nat}
 (dy:s.ay d= .ptr id (.aT (.fO n) ta tb) p) (lL:∀r,mS (.aT (.fO n) ta tb) p r (a.eval d)->∃cap off,a.eval d= .slice (some ⟨r,off,none⟩) (n-lo) cap/\lo<=n/\((n=lo/\off=0)\/off=lo*ta.cells))
 (h:gf t s id n lo ta tb (s.ay x) e some=some u):aA P X s a o u:=by
 have hx:=hr.ay d
 rw[dy] at hx
 obtain⟨r0,hβ,hv⟩:=hx
 unfold gf at h
 split at h
 case isFalse=>cases h
 rename_i heq
 have:=Ty.aH heq
 subst this
 obtain⟨ys,h,pG⟩:=zz h
 split at h
 case h_2=>cases h
 rename_i B hB
 split at h
 case isFalse=>cases h
 rename_i dx
 obtain⟨hb,r,h1,how,cs,T',aF,di,dF⟩:=AB hr hB dx
 rw[hβ] at h1
 cases h1
 generalize(Ty.cast dx B.x:List (El ta))=xs at*
 cases hn:Nat.beq n (List.length xs)<;>rw[hn] at h
 ·cases h
 cases yI:Nat.ble lo n<;>rw[yI] at h
 ·cases h
 cases h
 have hn:=Nat.eq_of_beq_eq_true hn
 have yI:=Nat.le_of_ble_eq_true yI
 obtain⟨cap,off,hd,_,EM⟩:=lL r0 hv
 obtain⟨cx,lR,ev⟩:=pG X _ _ (hr.ay x)
 have R4:=lR
 obtain⟨A,c,uc,_⟩:=R4
 have ev:a.eval x= .slice A ys.length c:=by rw[ev,uc];rfl
 rw[uc] at lR
 obtain⟨_,hc,cy,ry,ny,sy⟩:=z9n (X:=X) lR
 have hu:=(hE.ty T _ hT).cO
 have hm:(ys.take (n-lo)).length=min ys.length (n-lo):=by rw[List.length_take,Nat.min_comm]
 generalize yL:min ys.length (n-lo)=m at hm
 have hmy:m<=ys.length:=by omega
 have hmn:m<=n-lo:=by omega
 have htk:ys.take (n-lo)=ys.take m:=by
  rw[<-yL]
  rcases Nat.le_total ys.length (n-lo) with g|g
  ·rw[Nat.min_eq_left g,List.take_of_length_le g,List.take_of_length_le (Nat.le_refl _)]
  ·rw[Nat.min_eq_right g]
 have rz:=Fy ry hmy
 have QC:(cy.take (m*ta.cells)).length=m*ta.cells:=rz.2.1
 have du:aR X (.arr xs.length ta) xs cs.toList:=⟨rfl,by simpa using di,dF⟩
 have iZ:(Builtin.firstCells ta.cells m (a.eval x)).run P X.w= .ok (cy.take (m*ta.cells)).toArray X.w:=by
  rw[ev]
  cases A with
  |none=>
   have:=ny rfl
   subst this
   have:m=0:=by simpa using hmy
   subst this
   simp [Builtin.firstCells]
  |some ad=>
   have:=run_loadCells_list (P:=P) X.w ad (cy.take (m*ta.cells)) (fun j v hj=>by
    rw[List.getElem?_take] at hj
    split at hj
    ·exact(sy ad rfl j v hj).2.1
    ·cases hj)
   rw[QC] at this
   simpa [Builtin.firstCells] using this
 have cM:off+0+(cy.take (m*ta.cells)).length<=cs.size:=by
  rw[QC,di,<-hn]
  rcases EM with⟨g1,g2⟩|g
  ·have:m=0:=by omega
   subst this
   omega
  ·rw[g,Nat.add_zero,<-Nat.add_mul]
   exact Nat.mul_le_mul_right _ (by omega)
 let new:=(cs.toList.take off++cy.take (m*ta.cells)++cs.toList.drop (off+(cy.take (m*ta.cells)).length)).toArray
 have cp:=run_storeCells_at P r0 off T' (cy.take (m*ta.cells)) 0 cs X.w aF cM rz.one
 simp only[Nat.add_zero] at cp cM
 have aV:(execOp a.eval o).run P X.w= .ok (.value (.int .i64 m)) (X.row r0 new).w:=by
  have Qb:Nat.min ys.length (n-lo)=m:=yL
  simp only[execOp,ho,resolve,invoke,builtin,Sem.run_bind,Sem.run_pure,Result.andThen_ok,List.map_toArray,List.map_cons,List.map_nil,Builtin.copy_,gj,hd]
  have e1:(Builtin.lenOf (a.eval x)).run P X.w= .ok ys.length X.w:=by rw[ev];simp [Builtin.lenOf]
  simp [run_underlying hu.1,e1,Qb,iZ,cp,goInt,kL hE hu.2]
  show _=X.w.setRow r0 new
  congr 1
  simp [new]
 have mM:new.toList=cs.toList.take off++cy.take (m*ta.cells)++cs.toList.drop (off+(cy.take (m*ta.cells)).length):=rfl
 have aJ:aR X (.arr xs.length ta) (bC xs (ys.take m) lo:List (El ta)) new.toList:=by
  rw[mM,QC]
  by_cases m0:m=0
  ·subst m0
   have e1:bC xs (ys.take 0) lo=xs:=by unfold bC;simp
   rw[e1]
   simpa using du
  ·have g:off=lo*ta.cells:=by rcases EM with⟨g1,_⟩|g<;>omega
   have h1:=Fy du (show lo<=xs.length by omega)
   have h3:=Fx du (show lo+m<=xs.length by omega)
   have:=Bj h1 (Bj rz h3)
   rw[show lo+(m+(xs.length-(lo+m)))=xs.length by omega] at this
   unfold bC
   rw[show(ys.take m).length=m by rw[List.length_take];omega,g,<-Nat.add_mul,List.append_assoc]
   exact this
 have b8:new.size=cs.size:=by
  have h1:new.toList.length=xs.length*ta.cells:=aJ.2.1
  rw[di,<-h1];simp
 have bV:bA (X.row r0 new) id r0 ⟨.aT .row ta tb,(bC xs (ys.take (n-lo)) lo:List (El ta)),[]⟩:=by
  rw[htk]
  refine⟨how,new,T',setRow_heap X.w r0 cs new T' (0,0) aF,?_,fun j z hj=> ?_⟩
  ·rw[b8,di]
   show _=List.length (bC xs (ys.take m) lo)*_
   rw[Gd _ _ _ (by rw[List.length_take];omega)]
  ·exact aR.al (fun _ _=>sF (cs:=new) how) (aJ.2.2 j z hj)
 refine⟨X.row r0 new,.int .i64 m,.inl aV,Nu how,?_⟩
 rw[hm]
 exact(hr.row hb hβ how bV).fin iy (fun id t p hm=>by simp [i64] at hm)
theorem Vh{X:ap}(l:List UInt8):aR X (.arr l.length (.int .u8)) (l.map fun c=>(c.toNat:Int):List Int) (l.map fun c=>Value.int .u8 c.toNat):=by
 refine⟨by show(l.map _).length=_;simp,by simp [Ty.cells],fun j y hj=> ?_⟩
 have hj:(l.map fun c=>(c.toNat:Int))[j]? =some y:=hj
 rw[List.getElem?_map] at hj
 obtain⟨c,hc,rfl⟩:=Option.map_eq_some_iff.1 hj
 have:((l.map fun c=>Value.int .u8 c.toNat).drop (j*(Ty.int IntKind.u8).cells)).take (Ty.int IntKind.u8).cells=[Value.int .u8 c.toNat]:=by
  rw[show(Ty.int IntKind.u8).cells=1 from rfl,Nat.mul_one]
  apply List.ext_getElem?
  intro i
  rw[List.getElem?_take]
  cases i with
  |zero=>simp [hc]
  |succ i=>simp
 rw[this]
 rfl
theorem z160(hE:ak P E)(hr:Rel X s a){d x:Operand}{T e:TypeId}{t:Ty}{ts:Array TypeId}(ho:o.op= .call ⟨.builtin .copy,#[d,x],ts⟩)(gj:ts[0]? =some T)(hT:E.ty T=some (.sl e t)){id n:Nat}{ta tb:Ty}
 (dy:s.ay d= .ptr id (.aT (.fO n) ta tb) []) {y:ByteArray} {w:List (List Nat)} (E0:s.ay x= .ah .str y w) (h:iW t s id n ta tb y some=some u):aA P X s a o u:=by
 have hx:=hr.ay d
 rw[dy] at hx
 obtain⟨r0,hβ,cap,hd,lD⟩:=hx
 unfold iW at h
 split at h
 case isFalse=>cases h
 rename_i P3
 have:=Ty.aH P3
 subst this
 split at h
 case isFalse=>cases h
 rename_i heq
 have:=Ty.aH heq
 subst this
 split at h
 case h_2=>cases h
 rename_i B hB
 split at h
 case isFalse=>cases h
 rename_i dx
 obtain⟨hb,r,h1,how,cs,T',aF,di,dF⟩:=AB hr hB dx
 rw[hβ] at h1
 cases h1
 generalize(Ty.cast dx B.x:List Int)=xs at*
 cases hn:Nat.beq n (List.length xs)<;>rw[hn] at h
 ·cases h
 cases h
 have hn:=Nat.eq_of_beq_eq_true hn
 have hy:=hr.ay x
 rw[E0] at hy
 obtain⟨cy,ry,ev,_⟩:=hy
 have ev:a.eval x= .string y:=by rw[ev,l4 ry]
 have hu:=(hE.ty T _ hT).cO
 have sg:(Ty.int IntKind.u8).cells=1:=rfl
 rw[sg,Nat.mul_one] at di
 let l:=y.data.toList.take n
 have Kb:l.length=min n y.size:=by simp [l]
 have J3:List.take n (mg y)=l.map fun c=>(c.toNat:Int):=by simp [mg,l]
 have iZ:(Builtin.firstCells 1 (Nat.min y.size n) (.string y)).run P X.w= .ok (l.map fun c=>Value.int .u8 c.toNat).toArray X.w:=by
  have e1:((y.extract 0 (Nat.min y.size n)).data.map fun b=>Value.int .u8 b.toNat)=(l.map fun c=>Value.int .u8 c.toNat).toArray:=by
   apply Array.ext'
   have e0:(y.extract 0 (Nat.min y.size n)).data.toList=l:=by
    rw[ByteArray.data_extract,Array.toList_extract,List.extract_eq_take_drop]
    show List.take (Nat.min y.size n-0) (y.data.toList.drop 0)=y.data.toList.take n
    rw[Nat.sub_zero,List.drop_zero]
    show List.take (min y.data.toList.length n) y.data.toList=y.data.toList.take n
    rw[Nat.min_comm,<-List.take_eq_take_min]
   rw[Array.toList_map,e0]
  simp only[Builtin.firstCells,Sem.run_pure,e1]
 have cM:0+(l.map fun c=>Value.int .u8 c.toNat).length<=cs.size:=by
  rw[List.length_map,di,<-hn,Kb];omega
 let new:=((l.map fun c=>Value.int .u8 c.toNat)++cs.toList.drop l.length).toArray
 have rz:=Vh (X:=X) l
 have cp:=run_storeCells_at P r0 0 T' (l.map fun c=>Value.int .u8 c.toNat) 0 cs X.w aF (by simpa using cM) rz.one
 have aV:(execOp a.eval o).run P X.w= .ok (.value (.int .i64 (l.length:Nat))) (X.row r0 new).w:=by
  have e1:(Builtin.lenOf (a.eval x)).run P X.w= .ok y.size X.w:=by rw[ev];simp [Builtin.lenOf]
  have e2:Nat.min y.size n=l.length:=by rw[Kb];exact Nat.min_comm _ _
  have e3:=iZ
  rw[e2] at e3
  simp only[execOp,ho,resolve,invoke,builtin,Sem.run_bind,Sem.run_pure,Result.andThen_ok,List.map_toArray,List.map_cons,List.map_nil,Builtin.copy_,gj,hd]
  rw[ev] at e1⊢
  simp [run_underlying hu.1,e1,e2,e3,cp,goInt,kL hE hu.2,sg]
  rfl
 have du:aR X (.arr xs.length (.int .u8)) xs cs.toList:=⟨rfl,by simpa [sg] using di,dF⟩
 have aJ:aR X (.arr xs.length (.int .u8)) (bC xs (l.map fun c=>(c.toNat:Int)) 0:List Int) new.toList:=by
  have hle:l.length<=xs.length:=by rw[Kb];omega
  have h3:=Fx du hle
  have:=Bj rz h3
  rw[show l.length+(xs.length-l.length)=xs.length by omega] at this
  unfold bC
  simp only[List.take_zero,List.nil_append,Nat.zero_add,List.length_map]
  rw[sg,Nat.mul_one] at this
  exact this
 have b8:new.size=cs.size:=by
  have h1:new.toList.length=xs.length*1:=aJ.2.1
  rw[di];simpa using h1
 have bV:bA (X.row r0 new) id r0 ⟨.aT .row (.int .u8) tb,(bC xs (List.take n (mg y)) 0:List Int),[]⟩:=by
  rw[J3]
  refine⟨how,new,T',setRow_heap X.w r0 cs new T' (0,0) aF,?_,fun j z hj=> ?_⟩
  ·rw[b8,di]
   show _=List.length (bC xs (l.map fun c=>(c.toNat:Int)) 0)*_
   rw[Gd _ _ _ (by rw[List.length_map,Kb];omega)]
   simp [sg]
  ·exact aR.al (fun _ _=>sF (cs:=new) how) (aJ.2.2 j z hj)
 refine⟨X.row r0 new,.int .i64 (l.length:Nat),.inl aV,Nu how,?_⟩
 have ED:(List.take n (mg y)).length=l.length:=by rw[J3,List.length_map]
 rw[ED]
 exact(hr.row hb hβ how bV).fin iy (fun id t p hm=>by simp [i64] at hm)
theorem Vs(hE:ak P E)(hr:Rel X s a){ops:List Oper}{dL:Array Operand}{ts:Array TypeId}(ho:o.op= .call ⟨.builtin .copy,dL,ts⟩){C:FuncId->bF Out}(h:act E C ops o s some=some u):aA P X s a o u:=by
 unfold act at h
 simp only[ho] at h
 split at h
 case h_2=>cases h
 rename_i d x T r oZ yu
 have has:dL= #[d,x]:=by rw[<-Array.toArray_toList (xs:=dL),oZ]
 have gj:ts[0]? =some T:=by rw[<-Array.getElem?_toList,yu];rfl
 subst has
 unfold copyV at h
 split at h
 ·rename_i e t id n ta tb hT dy
  split at h
  ·rename_i y w E0
   exact z160 hE hr ho gj hT dy E0 h
  ·exact zqf hE hr ho gj hT dy (fun r hv=>by
    obtain⟨cap,h1,h2⟩:=hv
    exact⟨cap,0,h1,Nat.zero_le _,.inr (by simp)⟩) h
 ·rename_i e t id n ta tb l hT dy
  exact zqf hE hr ho gj hT dy (fun r hv=>by
   obtain⟨cap,off,h1,h2,h3,h4⟩:=hv
   exact⟨cap,off,h1,h3,h4⟩) h
 ·cases h
end Go.Ref

namespace Go.Ref
open Go
variable {P:Program} {E:Env} {X:ap} {s:State} {a:Act} {o:Oper} {u:Out}
structure jL(X:ap)(l:List SV)(b:Option bk)(args:Array Value):Prop where
 size:args.size=l.length
 rep:∀(i:Nat) sv v,l[i]? =some sv->args[i]? =some v->au X (.c i 0) sv v
 ptr:∀id t p,SV.ptr id t p∈l->id=0/\b.isSome=true
 box:∀B,b=some B->∃r,X.β 0=some r/\bA X 0 r B
 rows:b=none->∀g pl n,X.ow g≠ .row pl n
def vq(X Y:ap)(b:Option bk)(r:List SV)(b':Option bk)(v:Value):Prop:=
 ∃r0,cu {Y with β:=fun _=>some r0} .r r v/\
  (∀B',b'=some B'->bA Y 0 r0 B'/\(b.isSome=true->X.β 0=some r0))/\
  ((b'=none\/b.isSome=true)->∀id t p,SV.ptr id t p∉r)
def pA(P:Program)(f:FuncId):Prop:=∃fn c,P.funcs[f]? =some fn/\(fn.name== "runtime.NumGoroutine")=false/\fn.body=some c
def cK(P:Program)(C:af)(f:FuncId):Prop:=
 ∀(l:List SV) (b:Option bk) (r:List SV) (b':Option bk),C (List SV×Option bk) f l b (fun r b=>some (r,b))=some (r,b')->pA P f/\
  ∀(X:ap) (args:Array Value),jL X l b args->Calls P f args X.w fun e w'=>match e with
   | .returned v=>∃Y,Y.w=w'/\Ext X Y/\vq X Y b r b' v
   |_=>False
def iv(k:Option Nat):Ow->Bool
 | .box id=>decide (k=some id)
 | .row (.b id _) _=>decide (k=some id)
 |_=>false
def gk(k:Option Nat):Ow->Ow
 | .all=> .all
 | .ro n=> .ro n
 | .box id=>if k=some id then .box 0 else .ro 0
 | .row (.b id p) n=>if k=some id then .row (.b 0 p) n else .ro n
 | .row _ n=> .ro n
def hG(k:Option Nat)(d:Nat):Ow->Ow
 | .all=> .all
 | .ro n=> .ro n
 | .box 0=>match k with
   |some id=> .box id
   |none=> .ro 0
 | .box _=> .ro 0
 | .row (.r j p) n=> .row (.c d j p) n
 | .row (.b 0 p) n=>match k with
   |some id=> .row (.b id p) n
   |none=> .ro n
 | .row _ n=> .ro n
theorem zx8{k:Option Nat}{w:Ow}{i:Nat}:(gk k w).used i↔w.used i:=by
 cases w with
 |all=>rfl
 |ro n=>rfl
 |box id=>simp only[gk];split<;>simp [Ow.used]
 |row pl n=>
  cases pl with
  |b id p=>simp only[gk];split<;>simp [Ow.used]
  |_=>rfl
theorem TB{k:Option Nat}{d:Nat}{w:Ow}{i:Nat}(h:w.used i):(hG k d w).used i:=by
 cases w with
 |all=>exact h
 |ro n=>exact h
 |box id=>exact h.elim
 |row pl n=>
  cases pl with
  |b id p=>
   cases id with
   |zero=>simp only[hG];split<;>exact h
   |succ id=>exact h
  |c i j p=>exact h
  |r j p=>exact h
theorem zqt{k:Option Nat}{w:Ow}(h:iv k w=false):(gk k w).still:=by
 cases w with
 |all=>trivial
 |ro n=>trivial
 |box id=>simp only[iv,decide_eq_false_iff_not] at h;simp only[gk];rw[if_neg h];trivial
 |row pl n=>
  cases pl with
  |b id p=>simp only[iv,decide_eq_false_iff_not] at h;simp only[gk];rw[if_neg h];trivial
  |_=>trivial
def ap.cr(X:ap)(k:Option Nat):ap:=⟨X.w,fun g=>gk k (X.ow g),match k with
 |some id=>fun _=>X.β id
 |none=>X.β⟩
theorem su{k:Option Nat}{ad:Addr}{v:Value}:(X.cr k).av ad v↔X.av ad v:=by
 simp only[ap.av,ap.cr,zx8]
def ap.back(X Y:ap)(k k':Option Nat)(d:Nat)(β:Nat->Option Nat):ap:=
 ⟨Y.w,fun g=>if g<X.w.heap.size/\iv k (X.ow g)=false then X.ow g else hG k' d (Y.ow g),β⟩
section
variable {k k':Option Nat} {d:Nat} {β:Nat->Option Nat} {Y:ap}
theorem Bv(h:Ext (X.cr k) Y){g:Nat}(hg:g<X.w.heap.size)(hm:iv k (X.ow g)=false):(X.back Y k k' d β).ow g=X.ow g/\(X.back Y k k' d β).w.heap[g]? =X.w.heap[g]? /\(Y.ow g).still/\Y.ow g=gk k (X.ow g):=by
 obtain⟨h1,h2⟩:=h.still g hg (zqt hm)
 refine⟨by simp only[ap.back];rw[if_pos ⟨hg,hm⟩],h2,?_,h1⟩
 rw[h1];exact zqt hm
theorem zbn(h:Ext (X.cr k) Y){g:Nat}(hs:¬(Y.ow g).still):(X.back Y k k' d β).ow g=hG k' d (Y.ow g):=by
 simp only[ap.back]
 rw[if_neg]
 rintro⟨hg,hm⟩
 exact hs (Bv (k':=k') (d:=d) (β:=β) h hg hm).2.2.1
theorem rU(h:Ext (X.cr k) Y){ad:Addr}{v:Value}(hs:Y.av ad v):(X.back Y k k' d β).av ad v:=by
 refine⟨hs.1,hs.2.1,?_⟩
 simp only[ap.back]
 split
 ·rename_i hc
  have:=(Bv (k':=k') (d:=d) (β:=β) h hc.1 hc.2).2.2.2
  have hu:=hs.2.2
  rw[this,zx8] at hu
  exact hu
 ·exact TB hs.2.2
theorem zm8(h:Ext (X.cr k) Y)(hβ:β 0=X.β 0):Ext X (X.back Y k k' d β) where
 av:=fun ad v hs=>rU h (h.av ad v (su.2 hs))
 size:=h.size
 os:=h.os
 tape:=h.tape
 output:=h.output
 β0:=hβ
 still:=fun g hg cp=>by
  have hm:iv k (X.ow g)=false:=by cases hx:X.ow g<;>rw[hx] at cp<;>first|rfl|exact cp.elim
  obtain⟨h1,h2,_⟩:=Bv (k':=k') (d:=d) (β:=β) h hg hm
  exact⟨h1,h2⟩
theorem bg.back(h:Ext (X.cr k) Y){pl:Place}(iA:∀n,iv k (.row pl n)=false){e:TypeId}{m n:Nat}{v:Value}(ho:bg X pl e m n v):bg (X.back Y k k' d β) pl e m n v:=by
 rcases ho with ho|⟨g,cap,cur,h1,h2,h3,h4,h5,h6⟩
 ·exact .inl ho
 ·obtain⟨k1,k2,_⟩:=Bv (k':=k') (d:=d) (β:=β) h (BS h2) (by rw[h6];exact iA _)
  exact .inr ⟨g,cap,cur,h1,k2.trans h2,h3,h4,h5,k1.trans h6⟩
theorem bf.back(h:Ext (X.cr k) Y){pl:List Nat->Place}(iA:∀p n,iv k (.row (pl p) n)=false){t:Ty}{x:El t}{cs:List Value}{own:List (List Nat)}(ho:bf X pl t x cs own):bf (X.back Y k k' d β) pl t x cs own:=fun p hp=>by
 obtain⟨e,t',xs,v,g0,g1,g2,g3⟩:=ho p hp
 exact⟨e,t',xs,v,g0,g1,g2,g3.back h (iA p)⟩
theorem bf.out(h:Ext (X.cr k) Y){pl ix:List Nat->Place}(iA:∀p n,hG k' d (.row (pl p) n)= .row (ix p) n){t:Ty}{x:El t}{cs:List Value}{own:List (List Nat)}(ho:bf Y pl t x cs own):bf (X.back Y k k' d β) ix t x cs own:=fun p hp=>by
 obtain⟨e,t',xs,v,g0,g1,g2,g3⟩:=ho p hp
 refine⟨e,t',xs,v,g0,g1,g2,?_⟩
 rcases g3 with ho|⟨g,cap,cur,h1,h2,h3,h4,h5,h6⟩
 ·exact .inl ho
 ·refine .inr ⟨g,cap,cur,h1,h2,h3,h4,h5,?_⟩
  rw[zbn h (by rw[h6];exact fun e=>e),h6,iA]
theorem au.back(h:Ext (X.cr k) Y){i j:Nat}{sv:SV}{v:Value}(hβ:∀id t p,sv= .ptr id t p->β id=X.β id)(hr:au X (.c i j) sv v):au (X.back Y k k' d β) (.c i j) sv v:=by
 cases sv with
 |undef=>trivial
 |skip=>exact hr
 |cm=>exact hr
 |gn=>exact hr
 |over=>exact hr
 |ah t x own=>
  obtain⟨cs,h1,h2,h3⟩:=hr
  exact⟨cs,h1.al (fun _ _ hs=>rU h (h.av _ _ (su.2 hs))),h2,h3.back h (fun _ _=>rfl)⟩
 |ptr id t p=>
  obtain⟨r,h1,h2⟩:=hr
  exact⟨r,(hβ id t p rfl).trans h1,h2⟩
 |view t x=>
  obtain⟨ad,cs,h1,h2,h3,h4⟩:=hr
  exact⟨ad,cs,h1,h2,h3.al (fun _ _ hs=>rU h (h.av _ _ (su.2 hs))),fun i u hi=>rU h (h.av _ _ (su.2 (h4 i u hi)))⟩
 |cap f t x u y=>exact sA (fun _ _ hs=>rU h (h.av _ _ (su.2 hs))) hr
theorem bA.back(h:Ext (X.cr k) Y){id r:Nat}{B:bk}(hk:k≠some id)(hb:bA X id r B):bA (X.back Y k k' d β) id r B:=by
 obtain⟨h3,h1⟩:=hb
 have hm:iv k (X.ow r)=false:=by rw[h3];simp [iv,hk]
 obtain⟨k1,k2,_⟩:=Bv (k':=k') (d:=d) (β:=β) h h1.lt hm
 exact⟨k1.trans h3,h1.move (fun _ _ hs=>rU h (h.av _ _ (su.2 hs))) k2 (fun cs h4=>h4.back h (fun _ _=>by simp [iv,hk])) fun _ g o ho hw=>by
  obtain⟨e1,e2,_⟩:=Bv (k':=k') (d:=d) (β:=β) h (BS ho) (by rw[hw];simp [iv,hk])
  exact⟨e2.trans ho,e1.trans hw⟩⟩
theorem bA.out(h:Ext (X.cr k) Y){id r:Nat}{B:bk}(hk:k'=some id)(hb:bA Y 0 r B):bA (X.back Y k k' d β) id r B:=by
 obtain⟨h3,h1⟩:=hb
 refine⟨?_,h1.move (fun _ _ hs=>rU h hs) rfl (fun cs h4=>h4.out h (fun p n=>by simp [hG,hk])) fun _ g o ho hw=>⟨ho,by rw[zbn h (by rw[hw];exact fun hh=>hh),hw];simp [hG,hk]⟩⟩
 rw[zbn h (by rw[h3];exact fun e=>e),h3]
 simp [hG,hk]
theorem au.out(h:Ext (X.cr k) Y){r0 id j:Nat}{sv:SV}{v:Value}(hβ:∀bT t p,sv= .ptr bT t p->β id=some r0)(hr:au {Y with β:=fun _=>some r0} (.r j) sv v):au (X.back Y k k' d β) (.c d j) (sv.gw id) v:=by
 cases sv with
 |undef=>trivial
 |skip=>exact hr
 |cm=>exact hr
 |gn=>exact hr
 |over=>exact hr
 |ah t x own=>
  obtain⟨cs,h1,h2,h3⟩:=hr
  have h3:bf Y (.r j) t x cs own:=h3
  exact⟨cs,aR.al (fun ad v (hs:({Y with β:=fun _=>some r0}:ap).av ad v)=>rU (Y:=Y) h hs) h1,h2,h3.out h (fun _ _=>rfl)⟩
 |ptr bT t p=>
  obtain⟨r,h1,h2⟩:=hr
  have h1:some r0=some r:=h1
  cases h1
  exact⟨r0,hβ bT t p rfl,h2⟩
 |view t x=>
  obtain⟨ad,cs,h1,h2,h3,h4⟩:=hr
  exact⟨ad,cs,h1,h2,aR.al (fun ad v (hs:({Y with β:=fun _=>some r0}:ap).av ad v)=>rU (Y:=Y) h hs) h3,fun i u hi=>rU h (show Y.av _ _ from h4 i u hi)⟩
 |cap f t x u y=>exact sA (X:={Y with β:=fun _=>some r0}) (fun ad v (hs:({Y with β:=fun _=>some r0}:ap).av ad v)=>rU (Y:=Y) h hs) hr
theorem Rel.back(h:Ext (X.cr k) Y)(hr:Rel X s a)(hβ:∀(id:Nat) B,s.bs[id]? =some (some B)->β id=X.β id)(hk:∀(id:Nat) B,s.bs[id]? =some (some B)->k≠some id):Rel (X.back Y k k' d β) s a where
 size:=hr.size
 gD:=hr.gD
 bH:=fun i l v hl hv=>(hr.bH i l v hl hv).jF fun j sv u hm jt=>jt.back h (fun id t p e=>by
  obtain⟨B,hB⟩:=hr.live i l id t p hl (e▸List.mem_of_getElem? hm)
  exact hβ id B hB)
 boxes:=fun id B hB=>by
  obtain⟨r,h1,h2⟩:=hr.boxes id B hB
  exact⟨r,(hβ id B hB).trans h1,h2.back h (hk id B hB)⟩
 live:=hr.live
 defers:=hr.defers
theorem Rel.tR(h:Ext (X.cr k) Y)(hr:Rel X s a){id r:Nat}{B B':bk}(hb:s.bs[id]? =some (some B))(hk:k=some id)(Ey:k'=some id)(hβ:X.β id=some r)(hB:bA Y 0 r B'):Rel (X.back Y k k' d X.β) (s.aC (some (id,B'))) a where
 size:=hr.size
 gD:=by simpa [State.aC] using hr.gD
 bH:=fun i l v hl hv=>(hr.bH i l v hl hv).jF fun j sv u hm jt=>jt.back h (fun _ _ _ _=>rfl)
 boxes:=fun bT B2 cP=>by
  have ar:id<s.bs.length:=(List.getElem?_eq_some_iff.1 hb).1
  simp only[State.aC,List.getElem?_set] at cP
  by_cases e:id=bT
  ·subst e
   rw[if_pos rfl,if_pos ar] at cP
   cases cP;exact⟨r,hβ,hB.out h Ey⟩
  ·rw[if_neg e] at cP
   obtain⟨r',h1,h2⟩:=hr.boxes bT B2 cP
   exact⟨r',h1,h2.back h (by rw[hk];intro e2;cases e2;exact e rfl)⟩
 live:=fun i l bT t p hi hm=>by
  have ar:id<s.bs.length:=(List.getElem?_eq_some_iff.1 hb).1
  obtain⟨B2,cP⟩:=hr.live i l bT t p hi hm
  simp only[State.aC,List.getElem?_set]
  by_cases e:id=bT
  ·subst e;exact⟨B',by rw[if_pos rfl,if_pos ar]⟩
  ·rw[if_neg e];exact⟨B2,cP⟩
 defers:=hr.defers
end
theorem au.cr{k:Option Nat}{pl ix:List Nat->Place}{t:Ty}{x:El t}{w:List (List Nat)}{v:Value}(hr:au X pl (.ah t x w) v):au (X.cr k) ix (.ah t x []) v:=by
 obtain⟨cs,h1,h2,_⟩:=hr
 exact⟨cs,h1.al (fun _ _=>su.2),h2,lZ⟩
theorem bA.cr{id r:Nat}{B:bk}(hb:bA X id r B):bA (X.cr (some id)) 0 r B:=by
 obtain⟨h3,h1⟩:=hb
 refine⟨by simp [ap.cr,h3,gk],h1.move (fun _ _=>su.2) rfl (fun cs h4 p hp=> ?_) fun _ g o ho hw=>⟨ho,by simp [ap.cr,hw,gk]⟩⟩
 obtain⟨e,t',xs,v,g0,g1,g2,g3⟩:=h4 p hp
 refine⟨e,t',xs,v,g0,g1,g2,?_⟩
 rcases g3 with ho|⟨g,cap,cur,k1,k2,k3,k4,k5,k6⟩
 ·exact .inl ho
 ·exact .inr ⟨g,cap,cur,k1,k2,k3,k4,k5,by simp [ap.cr,k6,gk]⟩
theorem Fv(hr:Rel X s a):∀(vs:List (SV×Value)) (l:List SV) (b:Option (Nat×bk)),(∀x∈vs,∃q,au X q x.1 x.2)->l5 s (vs.map (·.1))=some (l,b)->l.length=vs.length/\
 (∀id B,b=some (id,B)->s.bs[id]? =some (some B))/\
 (∀id t p,SV.ptr id t p∈l->id=0/\b.isSome=true)/\
 ∀k,(∀id B,b=some (id,B)->k=some id)->∀(i:Nat) sv x,l[i]? =some sv->vs[i]? =some x->∀q,au (X.cr k) q sv x.2:=by
 intro vs
 induction vs with
 |nil=>
  intro l b _ h
  simp only[List.map_nil,l5,Option.some.injEq,Prod.mk.injEq] at h
  obtain⟨rfl,rfl⟩:=h
  refine⟨rfl,(fun id B e=>by cases e),(fun id t p hm=>by cases hm),fun k _ i sv x hl=>by simp at hl⟩
 |cons x r ih=>
  intro l b j4 h
  simp only[List.map_cons,l5] at h
  split at h
  ·cases h
  rename_i l1 b1 h1
  obtain⟨i1,i2,i3,i4⟩:=ih l1 b1 (fun y hy=>j4 y (List.mem_cons_of_mem _ hy)) h1
  obtain⟨q0,hx⟩:=j4 x List.mem_cons_self
  have fin:∀(sv:SV),l=sv::l1->(∀id B,b1=some (id,B)->b=b1)->(∀id B,b=some (id,B)->s.bs[id]? =some (some B))->(∀id t p,sv= .ptr id t p->id=0/\b.isSome=true)->
   (∀k,(∀id B,b=some (id,B)->k=some id)->∀q,au (X.cr k) q sv x.2)->l.length=(x::r).length/\
   (∀id B,b=some (id,B)->s.bs[id]? =some (some B))/\
   (∀id t p,SV.ptr id t p∈l->id=0/\b.isSome=true)/\
   ∀k,(∀id B,b=some (id,B)->k=some id)->∀(i:Nat) sv y,l[i]? =some sv->(x::r)[i]? =some y->∀q,au (X.cr k) q sv y.2:=by
   intro sv hl hb bV bZ aJ
   subst hl
   refine⟨by simp [i1],bV,fun id t p hm=> ?_,fun k hk i sv' y hl hv=> ?_⟩
   ·rcases List.mem_cons.1 hm with e|hm
    ·exact bZ id t p e.symm
    ·obtain⟨j1,j2⟩:=i3 id t p hm
     cases sf:b1 with
     |none=>rw[sf] at j2;cases j2
     |some bb=>rw[hb bb.1 bb.2 sf];exact⟨j1,j2⟩
   ·cases i with
    |zero=>
     simp only[List.getElem?_cons_zero,Option.some.injEq] at hl hv
     subst hl hv
     exact aJ k hk
    |succ i=>
     simp only[List.getElem?_cons_succ] at hl hv
     exact i4 k (fun id B e=>hk id B (by rw[hb id B e];exact e)) i sv' y hl hv
  obtain⟨x1,x2⟩:=x
  simp only at h hx fin
  split at h
  ·cases h
   exact fin _ rfl (fun _ _ _=>rfl) i2 (fun _ _ _ e=>by cases e) (fun k _ q=>hx.cr)
  ·cases h
   exact fin _ rfl (fun _ _ _=>rfl) i2 (fun _ _ _ e=>by cases e) (fun k _ q=>hx)
  ·cases h
   refine fin _ rfl (fun _ _ _=>rfl) i2 (fun _ _ _ e=>by cases e) (fun k _ q=> ?_)
   obtain⟨ad,cs,g1,g2,g3,g4⟩:=hx
   exact⟨ad,cs,g1,g2,g3.al (fun _ _=>su.2),fun i w hi=>su.2 (g4 i w hi)⟩
  ·rename_i id t
   split at h
   case h_2=>cases h
   rename_i B hB
   split at h
   case isFalse=>cases h
   cases h
   obtain⟨rr,g1,g2⟩:=hx
   refine fin _ rfl (fun _ _ e=>by cases e) (fun id B e=>by cases e;exact pI hB) (fun _ _ _ e=>by cases e;exact⟨rfl,rfl⟩) (fun k hk q=> ?_)
   have:=hk id B rfl
   subst this
   exact⟨rr,g1,g2⟩
  ·cases h
def ki(P:Program)(X:ap)(s:State)(a:Act)(o:Oper)(u:Out):Prop:=
 ∀(next:Act->World->Prop) (Q:Exit->Act->World->Prop),(∀Y v,Ext X Y->Rel Y (s.apply o.dst u) (a.put o.dst v)->next (a.put o.dst v) Y.w)->o.wp P a X.w next Q
theorem aA.does(h:aA P X s a o u):ki P X s a o u:=fun next Q hn=>by
 obtain⟨Y,v,h1,h2,h3⟩:=h
 unfold Oper.wp
 rcases h1 with h1|⟨h1,rfl⟩
 ·rw[h1,Oper.upon_value];exact hn Y v h2 h3
 ·rw[h1,Oper.upon_skip];exact hn Y _ h2 h3
theorem VA{f:FuncId}(h:pA P f){dL:Array Operand}{ts:Array TypeId}(ho:o.op= .call ⟨.value (.func f),dL,ts⟩)(w:World):(execOp a.eval o).run P w= .ok (.enter f (dL.map a.eval)) w:=by
 obtain⟨fn,c,h1,h2,h3⟩:=h
 simp [execOp,ho,resolve,Deferred.ofValue,Act.eval,invoke,callFunc,h1,h3]
 simpa using h2
theorem zr8{l:List SV}{id:Nat}(h:∀id t p,SV.ptr id t p∉l):l.map (SV.gw id)=l:=by
 induction l with
 |nil=>rfl
 |cons v r ih=>
  rw[List.map_cons,ih (fun id t p hm=>h id t p (List.mem_cons_of_mem _ hm))]
  congr 1
  cases v<;>first|rfl|skip
  exact absurd (List.mem_cons_self) (h _ _ _)
theorem zmy{k k':Option Nat}{d:Nat}{β:Nat->Option Nat}{Y:ap}(h:Ext (X.cr k) Y){r0 id:Nat}{r:List SV}{v:Value}(hβ:∀bT t p,SV.ptr bT t p∈r->β id=some r0)(hr:cu {Y with β:=fun _=>some r0} .r r v):cu (X.back Y k k' d β) (.c d) (r.map (SV.gw id)) v:=by
 match r,hr with
 | [sv],hr=>exact au.out h (fun bT t p e=>hβ bT t p (by simp [e])) hr
 | [],⟨vs,h1,h2,h3⟩=>exact⟨vs,h1,h2,fun j s u hs=>by simp at hs⟩
 |x::y::r,⟨vs,h1,h2,h3⟩=>
  refine⟨vs,h1,by simpa using h2,fun j sv u hs hu=> ?_⟩
  have hs:((x::y::r).map (SV.gw id))[j]? =some sv:=hs
  rw[List.getElem?_map] at hs
  obtain⟨s0,fQ,rfl⟩:=Option.map_eq_some_iff.1 hs
  exact au.out h (fun bT t p e=>hβ bT t p (e▸List.mem_of_getElem? fQ)) (h3 j s0 u fQ hu)
theorem Tv:∀g pl n,(X.cr none).ow g≠ .row pl n:=fun g pl n=>by
 show gk none (X.ow g)≠_
 cases X.ow g with
 |row q m=>cases q<;>simp [gk]
 |_=>simp [gk]
theorem zbw(hr:Rel X s a){C:af}(hC:C.Nat){f:FuncId}(hf:cK P C f){vs:List (SV×Value)}(yR:∀x∈vs,∃q,au X q x.1 x.2)(dQ:pA P f->(execOp a.eval o).run P X.w= .ok (.enter f (vs.map (·.2)).toArray) X.w)(h:eQ (C Out) s o.dst f (vs.map (·.1)) some=some u):ki P X s a o u:=by
 have aV:=dQ
 clear dQ
 unfold eQ at h
 have enter:∀(l:List SV) (b:Option (Nat×bk)) (k:Option Nat),l5 s (vs.map (·.1))=some (l,b)->(∀id B,b=some (id,B)->k=some id)->(b=none->k=none)->jL (X.cr k) l (b.map (·.2)) (vs.map (·.2)).toArray:=by
  intro l b k bW hk Ez
  obtain⟨i1,i2,i3,i4⟩:=Fv hr vs l b yR bW
  refine⟨by simpa using i1.symm,fun i sv v hl hv=> ?_,fun id t p hm=> ?_,fun B hB=> ?_,fun hb=> ?_⟩
  ·rw[List.getElem?_toArray,List.getElem?_map] at hv
   obtain⟨x,hx,rfl⟩:=Option.map_eq_some_iff.1 hv
   exact i4 k hk i sv x hl hx _
  ·obtain⟨j1,j2⟩:=i3 id t p hm
   exact⟨j1,by simpa using j2⟩
  ·obtain⟨bb,yy,rfl⟩:=Option.map_eq_some_iff.1 hB
   obtain⟨id,B⟩:=bb
   obtain⟨r,h1,h2⟩:=hr.boxes id B (i2 id B yy)
   have:=hk id B yy
   subst this
   exact⟨r,h1,h2.cr⟩
  ·have hb:b=none:=by cases b<;>simp at hb⊢
   rw[Ez hb]
   exact Tv
 split at h
 ·rename_i l bW
  obtain⟨⟨r,b'⟩,qJ,h⟩:=kO (hC Out _ f l none _ (fun r b=>some (r,b)) (fun z=>match z.2 with
   |none=>some {v:=z.1}
   |some B=>match o.dst with
    |some d=>match s.bs[d+1]? with
     |some none=>some {v:=z.1.map (SV.gw (d+1)),bx:=some (d+1,B)}
     |_=>none
    |none=>none) (fun r b=>rfl)) h
  obtain⟨dQ,qW⟩:=hf l none r b' qJ
  have gK:=enter l none none bW (fun id B e=>by cases e) (fun _=>rfl)
  intro next Q hn
  unfold Oper.wp
  rw[aV dQ,Oper.upon_enter]
  refine(qW (X.cr none) _ gK).mono fun e w' he=> ?_
  cases e with
  |returned v=>
   obtain⟨Y,rfl,aZ,r0,aJ,bV,qY⟩:=he
   simp only at h
   cases b' with
   |none=>
    cases h
    have hp:=qY (.inl rfl)
    have bO:=zm8 (k':=none) (d:=o.dst.getD 0) (β:=X.β) aZ rfl
    refine hn (X.back Y none none (o.dst.getD 0) X.β) v bO ?_
    refine(Rel.back (k':=none) aZ hr (fun _ _ _=>rfl) (fun _ _ _=>by simp)).fin ?_ (fun id t p hm=>absurd hm (hp id t p))
    have:=zmy (k':=none) (d:=o.dst.getD 0) (β:=X.β) (id:=0) aZ (fun bT t p hm=>absurd hm (hp bT t p)) aJ
    rw[zr8 hp] at this
    exact this
   |some B=>
    simp only at h
    split at h
    case h_2=>cases h
    rename_i d hd
    split at h
    case h_2=>cases h
    rename_i jr
    cases h
    have ar:d+1<s.bs.length:=(List.getElem?_eq_some_iff.1 jr).1
    obtain⟨hB,_⟩:=bV B rfl
    let β:Nat->Option Nat:=fun id=>if id=d+1 then some r0 else X.β id
    have hβd:β (d+1)=some r0:=by simp [β]
    have bO:=zm8 (k':=some (d+1)) (d:=d) (β:=β) aZ (by simp [β])
    refine hn (X.back Y none (some (d+1)) d β) v bO ?_
    have bm:=(Rel.back (k':=some (d+1)) (d:=d) (β:=β) aZ hr (fun id B2 cP=>by
     show(if _ then _ else _)=_
     rw[if_neg (fun e=>by rw[e,jr] at cP;cases cP)]) (fun _ _ _=>by simp)).fT ar jr hβd (hB.out aZ rfl)
    rw[hd]
    refine bm.put (fun d' e=> ?_) (fun id t p hm=> ?_)
    ·cases e
     exact zmy aZ (fun _ _ _ _=>hβd) aJ
    ·obtain⟨s0,_,he0⟩:=List.mem_map.1 hm
     have:id=d+1:=by
      cases s0<;>simp [SV.gw] at he0
      exact he0.1.symm
     subst this
     exact⟨B,by simp [State.close,State.aC,List.getElem?_set,ar]⟩
  |panicked c=>exact he.elim
  |outgrown=>exact he.elim
 ·rename_i l id B bW
  obtain⟨⟨r,b'⟩,qJ,h⟩:=kO (hC Out _ f l (some B) _ (fun r b=>some (r,b)) (fun z=>match z.2 with
   |some B'=>if B'.t.b7 B.t=true then some {v:=z.1,bx:=some (id,B')} else none
   |none=>none) (fun r b=>rfl)) h
  obtain⟨dQ,qW⟩:=hf l (some B) r b' qJ
  have gK:=enter l (some (id,B)) (some id) bW (fun id B e=>by cases e;rfl) (fun e=>by cases e)
  obtain⟨_,i2,_,_⟩:=Fv hr vs l _ yR bW
  have hb:=i2 id B rfl
  intro next Q hn
  unfold Oper.wp
  rw[aV dQ,Oper.upon_enter]
  refine(qW (X.cr (some id)) _ gK).mono fun e w' he=> ?_
  cases e with
  |returned v=>
   obtain⟨Y,rfl,aZ,r0,aJ,bV,qY⟩:=he
   simp only at h
   cases b' with
   |none=>cases h
   |some B'=>
    simp only at h
    split at h
    case isFalse=>cases h
    cases h
    have hp:=qY (.inr rfl)
    obtain⟨hB,hβ⟩:=bV B' rfl
    have hβ:=hβ rfl
    have bO:=zm8 (k':=some id) (d:=o.dst.getD 0) (β:=X.β) aZ rfl
    refine hn (X.back Y (some id) (some id) (o.dst.getD 0) X.β) v bO ?_
    refine(Rel.tR (k:=some id) (k':=some id) aZ hr hb rfl rfl hβ hB).fin ?_ (fun id t p hm=>absurd hm (hp id t p))
    have:=zmy (k':=some id) (d:=o.dst.getD 0) (β:=X.β) (id:=0) aZ (fun bT t p hm=>absurd hm (hp bT t p)) aJ
    rw[zr8 hp] at this
    exact this
  |panicked c=>exact he.elim
  |outgrown=>exact he.elim
 ·cases h
theorem zbm(hr:Rel X s a)(dL:Array Operand):∀x∈dL.toList.map (fun x=>(s.ay x,a.eval x)),∃q,au X q x.1 x.2:=fun x hx=>by
 obtain⟨y,_,rfl⟩:=List.mem_map.1 hx
 exact⟨_,hr.ay y⟩
theorem zxt{X:ap}{pl:List Nat->Place}{sv:SV}{v:Value}(h:au X pl sv v):au X pl sv.shut v:=by
 cases sv with
 |ah t x own=>
  obtain⟨cs,h1,h2,_⟩:=h
  exact⟨cs,h1,h2,lZ⟩
 |_=>exact h
theorem V6{X:ap}{pl:Nat->List Nat->Place}{l:List SV}{v:Value}(h:cu X pl l v):cu X pl (l.map SV.shut) v:=by
 match l,h with
 | [sv],h=>exact zxt (sv:=sv) h
 | [],h=>exact h
 |x::y::r,⟨vs,g1,g2,g3⟩=>
  refine⟨vs,g1,by simpa using g2,fun j sv u ky hu=> ?_⟩
  have ky:((x::y::r).map SV.shut)[j]? =some sv:=ky
  rw[List.getElem?_map] at ky
  obtain⟨s0,fQ,rfl⟩:=Option.map_eq_some_iff.1 ky
  exact zxt (g3 j s0 u fQ hu)
theorem V5{l:List SV}{j:Nat}{t:Ty}{p:List Nat}(h:SV.ptr j t p∈l.map SV.shut):SV.ptr j t p∈l:=by
 obtain⟨s0,fQ,he⟩:=List.mem_map.1 h
 cases s0<;>first|(cases he;done)|(rw[<-he];exact fQ)|skip
theorem Rel.bN(hr:Rel X s a){d:Nat}{l:List SV}:Rel X {s with sl:=s.sl.set d l} a->Rel X {s with sl:=s.sl.set d (l.map SV.shut)} a:=fun h=>{
 size:=by simpa using hr.size
 gD:=by simpa using hr.gD
 bH:=fun i l' v hl hv=>by
  replace hl:(s.sl.set d (l.map SV.shut))[i]? =some l':=hl
  rw[List.getElem?_set] at hl
  split at hl
  ·rename_i ud
   split at hl
   ·cases hl
    rename_i ar
    exact V6 (h.bH i l v (by show(s.sl.set d l)[i]? =_;rw[List.getElem?_set,if_pos ud,if_pos ar]) hv)
   ·cases hl
  ·rename_i ud
   exact h.bH i l' v (by show(s.sl.set d l)[i]? =_;rw[List.getElem?_set,if_neg ud];exact hl) hv
 boxes:=h.boxes
 live:=fun i l' id t p hl hm=>by
  replace hl:(s.sl.set d (l.map SV.shut))[i]? =some l':=hl
  rw[List.getElem?_set] at hl
  split at hl
  ·rename_i ud
   split at hl
   ·cases hl
    rename_i ar
    exact h.live i l id t p (by show(s.sl.set d l)[i]? =_;rw[List.getElem?_set,if_pos ud,if_pos ar]) (V5 hm)
   ·cases hl
  ·rename_i ud
   exact h.live i l' id t p (by show(s.sl.set d l)[i]? =_;rw[List.getElem?_set,if_neg ud];exact hl) hm
 defers:=h.defers}
theorem ki.shut(h:ki P X s a o u):ki P X s a o u.shut:=fun next Q hn=>h next Q fun Y v aZ bm=>hn Y v aZ (by
 unfold State.apply at bm⊢
 show Rel Y (((s.close u.cl).aC u.bx).aG o.dst (u.v.map SV.shut)) _
 generalize(s.close u.cl).aC u.bx=s1 at*
 cases hd:o.dst with
 |none=>rw[hd] at bm;exact bm
 |some d=>
  rw[hd] at bm
  have e:=Rel.bN (X:=Y) (s:={s1 with sl:=s1.sl.set d u.v}) (a:=a.put (some d) v) (d:=d) (l:=u.v) bm (by
   show Rel Y {s1 with sl:=(s1.sl.set d u.v).set d u.v} _
   rw[List.set_set];exact bm)
  show Rel Y {s1 with sl:=s1.sl.set d (u.v.map SV.shut)} _
  have e2:Rel Y {s1 with sl:=(s1.sl.set d u.v).set d (u.v.map SV.shut)} (a.put (some d) v):=e
  rw[List.set_set] at e2
  exact e2)
theorem Vq(hr:Rel X s a){C:af}(hC:C.Nat){f:FuncId}(hf:cK P C f){ops:List Oper}{dL:Array Operand}{ts:Array TypeId}(ho:o.op= .call ⟨.value (.func f),dL,ts⟩)(h:act E (C Out) ops o s some=some u):ki P X s a o u:=by
 unfold act at h
 simp only[ho] at h
 obtain⟨u0,h0,h1⟩:=kO (KL hC (F:=fun u=>some (bif eB E o.dst then u.shut else u)) (G:=some) (K:=fun u=>some (bif eB E o.dst then u.shut else u)) (fun _=>rfl)) h
 have hd:ki P X s a o u0:=by
  refine zbw hr hC hf (zbm hr dL) (fun dQ=> ?_) (by rw[List.map_map];exact h0)
  rw[VA dQ ho]
  congr 2
  apply Array.toList_inj.1
  simp [Function.comp_def]
 cases hs:eB E o.dst with
 |false=>rw[hs] at h1;cases h1;exact hd
 |true=>rw[hs] at h1;cases h1;exact hd.shut
theorem aa3{f:FuncId}(h:pA P f){x:Operand}{v:Value}{dL:Array Operand}{ts:Array TypeId}(ho:o.op= .call ⟨.value x,dL,ts⟩)(hx:a.eval x= .func (.func f) #[] #[v])(w:World):(execOp a.eval o).run P w= .ok (.enter f (dL.map a.eval++ #[v])) w:=by
 obtain⟨fn,c,h1,h2,h3⟩:=h
 simp [execOp,ho,resolve,Deferred.ofValue,hx,invoke,callFunc,h1,h3]
 simpa using h2
theorem Yn{f:FuncId}(h:pA P f){x:Operand}{v v2:Value}{dL:Array Operand}{ts:Array TypeId}(ho:o.op= .call ⟨.value x,dL,ts⟩)(hx:a.eval x= .func (.func f) #[] #[v,v2])(w:World):(execOp a.eval o).run P w= .ok (.enter f (dL.map a.eval++ #[v,v2])) w:=by
 obtain⟨fn,c,h1,h2,h3⟩:=h
 simp [execOp,ho,resolve,Deferred.ofValue,hx,invoke,callFunc,h1,h3]
 simpa using h2
theorem Th(hr:Rel X s a){C:af}(hC:C.Nat)(hf:∀f,cK P C f){ops:List Oper}{y:Nat}{dL:Array Operand}{ts:Array TypeId}(ho:o.op= .call ⟨.value (.tmp y),dL,ts⟩)(h:act E (C Out) ops o s some=some u):ki P X s a o u:=by
 unfold act at h
 simp only[ho] at h
 split at h
 case h_3=>cases h
 case h_2=>
  rename_i f t x1 u' y1 dy
  have hx:=hr.ay (.tmp y)
  rw[dy] at hx
  obtain⟨ad,nV,cs,dM,hv,⟨g2,g3,g4⟩,k2,k3,k4⟩:=hx
  refine zbw hr hC (hf f) (vs:=dL.toList.map (fun x=>(s.ay x,a.eval x))++ [(.view t x1,.pointer (some ad)),(.view u' y1,.pointer (some nV))]) (fun x hx=> ?_) (fun dQ=> ?_) (by rw[List.map_append,List.map_map];exact h)
  ·rcases List.mem_append.1 hx with hx|hx
   ·exact zbm hr dL x hx
   ·rcases List.mem_cons.1 hx with rfl|hx
    ·exact⟨.r 0,ad,cs,rfl,g2,g3,g4⟩
    ·rw[List.mem_singleton.1 hx]
     exact⟨.r 0,nV,dM,rfl,k2,k3,k4⟩
  ·rw[Yn dQ ho hv]
   congr 2
   apply Array.toList_inj.1
   simp [Function.comp_def]
 rename_i id f t b dy
 have hx:=hr.ay (.tmp y)
 rw[dy] at hx
 obtain⟨r0,hβ,hv⟩:=hx
 have hv:a.eval (.tmp y)= .func (.func f) #[] #[.pointer (some ⟨r0,0,none⟩)]:=hv
 split at h
 case isTrue=>cases h
 rename_i hs
 refine zbw hr hC (hf f) (vs:=dL.toList.map (fun x=>(s.ay x,a.eval x))++ [(.ptr id t [],.pointer (some ⟨r0,0,none⟩))]) (fun x hx=> ?_) (fun dQ=> ?_) (by rw[List.map_append,List.map_map];exact h)
 ·rcases List.mem_append.1 hx with hx|hx
  ·exact zbm hr dL x hx
  ·rw[List.mem_singleton.1 hx]
   exact⟨.r 0,r0,hβ,(Iv (by simpa using hs)).2 ⟨by simp [Ty.off],by simp [Ty.eH]⟩⟩
 ·rw[aa3 dQ ho hv]
  congr 2
  apply Array.toList_inj.1
  simp [Function.comp_def]
end Go.Ref

namespace Go.Ref
open Go
variable {P:Program} {E:Env} {X:ap} {s:State} {a:Act} {o:Oper} {u:Out}
theorem Ya(hE:ak P E)(hr:Rel X s a){C:af}(hC:C.Nat)(hf:∀f,cK P C f){ops:List Oper}(h:act E (C Out) ops o s some=some u):ki P X s a o u:=by
 cases ho:o.op with
 |move x=>exact(Vv hr ho h).does
 |assign x=>exact(SK hr ho h).does
 |pick c x y=>exact(Vx hr ho h).does
 |binOp op T x y T'=>exact(Yw hE hr ho h).does
 |unOp op T x=>exact(aa7 hr ho h).does
 |convert S T x=>exact(Vr hE hr ho h).does
 |load T x=>exact(Vu hE hr ho h).does
 |store T x y=>exact(Tm hE hr ho h).does
 |nilCheck x=>exact(zyb hr ho h).does
 |fieldAddr T x j=>exact(zvd hE hr ho h).does
 |indexAddr T x i=>exact(zve hE hr ho h).does
 |index T x i=>exact(z162 hE hr ho h).does
 |field T x j=>exact(Tk hE hr ho h).does
 |slice T x lo hi mx=>
  cases mx with
  |none=>exact(Yy hE hr ho h).does
  |some m=>unfold act at h;simp only[ho] at h;cases h
 |alloc T=>exact(Tf hE hr ho h).does
 |box T x=>exact(Yx hE hr ho h).does
 |build T parts=>exact(Tg hE hr ho h).does
 |buildSlice T n parts=>exact(zqe hE hr ho h).does
 |extract x j=>exact(Si hr ho h).does
 |makeMap T r=>exact(Sl hE hr ho h).does
 |lookup T x i ok=>exact(SL hE hr ho h).does
 |mapUpdate T m k x=>exact(zb5 hE hr (.inl ho) h).does
 |insert T m k x=>exact(zb5 hE hr (.inr ho) h).does
 |range T x=>exact(Tl hE hr ho h).does
 |next x str=>exact(Vw hr ho h).does
 |makeSlice T l c=>exact(zvf hE hr ho h).does
 |makeFunc fn fi ca=>exact(zya hr ho h).does
 |call c=>
  obtain⟨callee,args,ts⟩:=c
  cases callee with
  |value x=>
   cases x with
   |func f=>exact Vq hr hC (hf f) ho h
   |tmp y=>exact Th hr hC hf ho h
   |_=>unfold act at h;simp only[ho] at h;cases h
  |builtin b=>
   cases b with
   |len=>exact(Yz (x:= .const Go.undef) (T:=0) hE hr ho h).does
   |append=>exact(SJ hE hr ho h).does
   |copy=>exact(Vs hE hr ho h).does
   |max=>exact(zwm (g:=true) hr ho h).does
   |min=>exact(zwm (g:=false) hr ho h).does
   |_=>unfold act at h;simp only[ho] at h;cases h
  |_=>unfold act at h;simp only[ho] at h;cases h
 |_=>unfold act at h;simp only[ho] at h;cases h
theorem Rel.know(hr:Rel X s a){d:Nat}{p:Bool}{o:List (List Nat)}(h:s.slot d=[.ah .bool p o]):Rel X (s.aG (some d) (bl p)) a/\a.tmps[d]? =some (.bool p):=by
 have hd:d<s.sl.length:=by
  rcases Nat.lt_or_ge d s.sl.length with h1|h1
  ·exact h1
  ·simp [State.slot,List.getElem?_eq_none h1] at h
 have qK:d<a.tmps.size:=by rw[<-hr.size];exact hd
 have hv:a.tmps[d]? =some (a.tmps.getD d Go.undef):=by simp [Array.getElem?_eq_getElem qK]
 have hs:=hr.slot d
 rw[h] at hs
 have hb:=H5 (X:=X) hs
 rw[hb] at hv
 refine⟨?_,hv⟩
 have Ql:a.put (some d) (.bool p)=a:=by
  cases a with
  |mk tmps defers=>
   simp only[Act.put,Act.mk.injEq,and_true]
   apply Array.ext_getElem?
   intro i
   rw[Array.getElem?_setIfInBounds]
   split
   ·rename_i e
    subst e
    first
     |exact hv.symm
     |(rw[if_pos qK];exact hv.symm)
   ·rfl
 have:=hr.put (d:=some d) (l:=bl p) (v:= .bool p) (fun _ _=>lY) (fun id t q hm=>by simp [bl] at hm)
 rw[Ql] at this
 exact this
theorem zvp(hE:ak P E)(hr:Rel X s a){C:af}(hC:C.Nat)(hf:∀f,cK P C f){ops:Array Oper}{i:Nat}(hi:ops[i]? =some o){s':State}(h:step E (C State) ops.toList o s some=some s'){Q:Exit->Act->World->Prop}{K:Act->World->Prop}
 (hK:∀Y a',Ext X Y->Rel Y s' a'->K a' Y.w):wpOp P ops Q i K a X.w:=by
 unfold wpOp
 simp only[hi]
 have sj:∀{s1:State},Rel X s1 a->(act E (C State) ops.toList o s1 fun u=>some (s1.apply o.dst u))=some s'->o.wp P a X.w K Q:=by
  intro s1 fU h1
  obtain⟨u,hu,h2⟩:=kO (va hC (F:=fun u=>some (s1.apply o.dst u)) (G:=some) (K:=fun u=>some (s1.apply o.dst u)) (fun _=>rfl)) h1
  cases h2
  exact Ya hE fU hC hf hu K Q (fun Y v aZ bm=>hK Y _ aZ bm)
 have ja:∀{s1:State},Rel X s1 a->some (s1.aG o.dst [.skip])=some s'->K (a.put o.dst Go.undef) X.w:=by
  intro s1 fU h1
  cases h1
  exact hK X _ (Ext.refl X) (fU.skip o.dst)
 unfold step at h
 simp only at h
 split at h
 ·rename_i hg
  have hw:Region.wanted o (yielded ops a.tmps)=true:=by simp [Region.wanted,hg]
  rw[if_pos hw]
  exact .inl (sj hr h)
 ·rename_i g want hg
  split at h
  ·cases h
  rename_i d hd
  have J5:(ops[g]?).bind (·.dst)=some d:=by simpa [Je] using hd
  split at h
  ·rename_i p hs
   obtain⟨fU,hv⟩:=hr.know hs
   have hy:yielded ops a.tmps g=some p:=by simp [yielded,J5,hv]
   have hw:Region.wanted o (yielded ops a.tmps)=(p==want):=by simp [Region.wanted,hg,hy]
   cases p<;>cases want<;>simp only[cond_true,cond_false] at h<;>rw[hw]
   ·exact .inl (sj fU h)
   ·exact ja fU h
   ·exact ja fU h
   ·exact .inl (sj fU h)
  ·rename_i hs
   have jb:=hr.slot d
   rw[hs] at jb
   have lL:a.tmps.getD d Go.undef=Go.undef:=jb
   have hy:yielded ops a.tmps g=none:=by
    simp only[yielded,J5,Option.bind_some]
    cases ht:a.tmps[d]? with
    |none=>rfl
    |some v=>
     have:v=Go.undef:=by
      rw[<-lL]
      simp [Array.getD_eq_getD_getElem?,ht]
     subst this
     rfl
   have hw:Region.wanted o (yielded ops a.tmps)=false:=by simp [Region.wanted,hg,hy]
   rw[hw]
   exact ja hr h
  ·cases h
theorem Gj(hE:ak P E){C:af}(hC:C.Nat)(hf:∀f,cK P C f){ops:Array Oper}{s':State}{Q:Exit->Act->World->Prop}:∀(l:List Nat) (X:ap) (s:State) (a:Act),Rel X s a->(∀i∈l,i<ops.size)->
 steps E (C State) ops.toList (l.map fun i=>ops.getD i default) s some=some s'->(∀Y a',Ext X Y->Rel Y s' a'->Q .normal a' Y.w)->wpOps P ops Q l a X.w
 | [],X,s,a,hr,_,h,hQ=>by
   cases h
   exact hQ X a (Ext.refl X) hr
 |i::r,X,s,a,hr,hl,h,hQ=>by
  simp only[List.map_cons,steps] at h
  obtain⟨s1,h1,h2⟩:=kO (zn0 hC (F:=fun s=>steps E (C State) ops.toList (r.map fun i=>ops.getD i default) s some) (G:=some) (K:=fun s=>steps E (C State) ops.toList (r.map fun i=>ops.getD i default) s some) (fun _=>rfl)) h
  have hi:ops[i]? =some (ops.getD i default):=by
   have:=hl i (by simp)
   simp [this]
  rw[wpOps_cons]
  refine zvp hE hr hC hf hi h1 fun Y a' aZ bm=> ?_
  exact Gj hE hC hf r Y s1 a' bm (fun j hj=>hl j (List.mem_cons_of_mem _ hj)) h2 fun Z a2 bO cV=>hQ Z a2 (aZ.trans bO) cV
end Go.Ref

namespace Go.Ref
open Go
variable {P:Program} {E:Env} {X:ap} {s:State} {a:Act} {o:Oper} {u:Out}
theorem zmi(i j:Nat):(bit i).testBit j=decide (i=j):=by
 simp [bit,Nat.shiftLeft_eq,Nat.testBit_two_pow]
theorem uP:∀(l:List Nat) (j:Nat),(hD l).testBit j=decide (j∈l)
 | [],j=>by simp [hD]
 |i::r,j=>by
  rw[hD,Nat.testBit_or,zmi,uP r j]
  by_cases h:i=j
  ·subst h;simp
  ·have h':¬j=i:=fun e=>h e.symm
   simp [h,h']
theorem KU{a b:Nat}(h:Nat.beq (a&&&b) 0=true)(j:Nat):a.testBit j=true->b.testBit j=false:=by
 intro ha
 have h0:=Nat.eq_of_beq_eq_true h
 have:=congrArg (fun n=>Nat.testBit n j) h0
 simp only[Nat.testBit_and,Nat.zero_testBit,ha,Bool.true_and] at this
 exact this
theorem zbj:∀(l:List Edge) (j:Nat),(kM l).testBit j=true->∃e∈l,Region.binds .any e=true/\e.on=j
 | [],j,h=>by simp [kM] at h
 |e::r,j,h=>by
  simp only[kM] at h
  cases hb:Region.binds .any e with
  |false=>
   rw[hb] at h
   obtain⟨e',h1,h2⟩:=zbj r j h
   exact⟨e',List.mem_cons_of_mem _ h1,h2⟩
  |true=>
   rw[hb] at h
   simp only[cond_true,Nat.testBit_or,zmi,Bool.or_eq_true,decide_eq_true_eq] at h
   rcases h with h|h
   ·exact⟨e,by simp,hb,h⟩
   ·obtain⟨e',h1,h2⟩:=zbj r j h
    exact⟨e',List.mem_cons_of_mem _ h1,h2⟩
theorem zvv:∀(l:List Edge) (e:Edge),e∈l->Region.binds .any e=true->(kM l).testBit e.on=true
 |e'::r,e,h,hb=>by
  simp only[kM]
  rcases List.mem_cons.1 h with rfl|h
  ·rw[hb];simp [Nat.testBit_or,zmi]
  ·have:=zvv r e h hb
   cases Region.binds .any e'<;>simp [Nat.testBit_or,this]
theorem U6{m i j:Nat}(h:Nat.ble (m+1) (bit i)=true)(hj:m.testBit j=true):j<i:=by
 have h1:m<2^i:=by
  have:=Nat.le_of_ble_eq_true h
  simp only[bit,Nat.shiftLeft_eq,Nat.one_mul] at this
  omega
 rcases Nat.lt_or_ge j i with h2|h2
 ·exact h2
 ·have h3:m<2^j:=Nat.lt_of_lt_of_le h1 (Nat.pow_le_pow_right (by omega) h2)
  rw[Nat.testBit_lt_two_pow h3] at hj
  cases hj
def dT(E:Env)(C:af)(ops:List Oper)(o:Oper)(s:State):Option Out:=
 match o.guard with
 |none=>act E (C Out) ops o s some
 |some (g,want)=>match Je ops g with
  |none=>none
  |some d=>match s.slot d with
   | [.ah .bool p []]=>if p=want then act E (C Out) ops o s some else some {v:=[.skip]}
   | [.skip]=>some {v:=[.skip]}
   |_=>none
theorem Bw{d:Nat}{l:List SV}(h:s.slot d=l):s.aG (some d) l=s:=by
 cases s with
 |mk sl bs=>
  simp only[State.aG,State.mk.injEq,and_true]
  simp only[State.slot] at h
  apply List.ext_getElem?
  intro i
  rw[List.getElem?_set]
  split
  ·rename_i e
   subst e
   split
   ·rename_i ar
    rw[List.getD_eq_getElem?_getD,List.getElem?_eq_getElem ar] at h
    rw[List.getElem?_eq_getElem ar]
    simpa using h.symm
   ·rename_i ar
    rw[List.getElem?_eq_none (by omega)]
  ·rfl
theorem Wb{C:af}(hC:C.Nat){R:Type}{ops:List Oper}{i:Nat}{tr:List dq}{K:State->List dq->Option R}{z:R}(h:kd E (C R) ops o i s tr K=some z):
 ∃u,dT E C ops o s=some u/\fits (kM o.after.toList) (fp ops o i s u) tr=true/\K (s.apply o.dst u) (fp ops o i s u::tr)=some z:=by
 have sj:(act E (C R) ops o s fun u=>bif fits (kM o.after.toList) (fp ops o i s u) tr then K (s.apply o.dst u) (fp ops o i s u::tr) else none)=some z->
  ∃u,act E (C Out) ops o s some=some u/\fits (kM o.after.toList) (fp ops o i s u) tr=true/\K (s.apply o.dst u) (fp ops o i s u::tr)=some z:=by
  intro h
  obtain⟨u,h1,h2⟩:=kO (va hC (F:=fun u=>bif fits (kM o.after.toList) (fp ops o i s u) tr then K (s.apply o.dst u) (fp ops o i s u::tr) else none) (G:=some) (K:=fun u=>bif fits (kM o.after.toList) (fp ops o i s u) tr then K (s.apply o.dst u) (fp ops o i s u::tr) else none) (fun _=>rfl)) h
  cases hf:fits (kM o.after.toList) (fp ops o i s u) tr with
  |false=>rw[hf] at h2;cases h2
  |true=>rw[hf] at h2;exact⟨u,h1,hf,h2⟩
 have ja:(bif fits (kM o.after.toList) (fp ops o i s {v:=[.skip]}) tr then K (s.apply o.dst {v:=[.skip]}) (fp ops o i s {v:=[.skip]}::tr) else none)=some z->
  fits (kM o.after.toList) (fp ops o i s {v:=[.skip]}) tr=true/\K (s.apply o.dst {v:=[.skip]}) (fp ops o i s {v:=[.skip]}::tr)=some z:=by
  intro h
  cases hf:fits (kM o.after.toList) (fp ops o i s {v:=[.skip]}) tr with
  |false=>rw[hf] at h;cases h
  |true=>rw[hf] at h;exact⟨rfl,h⟩
 unfold kd at h
 unfold dT
 simp only at h
 split at h
 ·rename_i hg
  try simp only[hg]
  exact sj h
 ·rename_i g want hg
  try simp only[hg]
  split at h
  ·cases h
  rename_i d hd
  try simp only[hd]
  split at h
  ·rename_i p hs
   have ky:s.slot d=bl p:=hs
   try simp only[hs]
   cases p<;>cases want<;>simp only[cond_true,cond_false] at h
   ·rw[Bw ky] at h;rw[if_pos rfl];exact sj h
   ·rw[Bw ky] at h;rw[if_neg (by simp)];exact⟨_,rfl,ja h⟩
   ·rw[Bw ky] at h;rw[if_neg (by simp)];exact⟨_,rfl,ja h⟩
   ·rw[Bw ky] at h;rw[if_pos rfl];exact sj h
  ·rename_i hs
   try simp only[hs]
   exact⟨_,rfl,ja h⟩
  ·cases h
theorem SW{C:af}(hC:C.Nat){ops:List Oper}(h:dT E C ops o s=some u):step E (C State) ops o s some=some (s.apply o.dst u):=by
 have sj:act E (C Out) ops o s some=some u->(act E (C State) ops o s fun u=>some (s.apply o.dst u))=some (s.apply o.dst u):=by
  intro h
  rw[va hC (F:=fun u=>some (s.apply o.dst u)) (G:=some) (K:=fun u=>some (s.apply o.dst u)) (fun _=>rfl),h]
  rfl
 unfold dT at h
 unfold step
 simp only
 split at h
 ·rename_i hg
  try simp only[hg]
  exact sj h
 ·rename_i g want hg
  try simp only[hg]
  split at h
  ·cases h
  rename_i d hd
  try simp only[hd]
  split at h
  ·rename_i p hs
   have ky:s.slot d=bl p:=hs
   try simp only[hs]
   split at h
   ·rename_i e
    subst e
    cases p<;>simp only[cond_true,cond_false]<;>rw[Bw ky]<;>exact sj h
   ·rename_i e
    cases h
    cases p<;>cases want<;>simp only[cond_true,cond_false]<;>first|exact absurd rfl e|(rw[Bw ky];rfl)
  ·rename_i hs
   try simp only[hs]
   cases h
   rfl
  ·cases h
structure kZ(ts bs:List Nat)(s s':State):Prop where
 sl:∀t∈ts,s.slot t=s'.slot t
 bs:∀id∈bs,s.bs[id]? =s'.bs[id]?
theorem Zl{l:List Operand}{t:Nat}:Operand.tmp t∈l->t∈pu l:=by
 induction l with
 |nil=>intro h;cases h
 |cons x r ih=>
  intro h
  rcases List.mem_cons.1 h with e|h
  ·subst e;simp [pu]
  ·have:=ih h
   cases x<;>simp [pu,this]
theorem zg1{s s':State}{ts:List Nat}(h:∀t∈ts,s.slot t=s'.slot t){l:List Operand}(hl:∀t∈pu l,t∈ts){x:Operand}(hx:x∈l):s.ay x=s'.ay x:=by
 cases x with
 |tmp t=>simp only[State.ay,State.uy,h t (hl t (Zl hx))]
 |_=>rfl
theorem TH(j:Nat):bN [SV.undef] j=[SV.undef]:=by
 cases j<;>rfl
theorem z9e{s:State}{i j t:Nat}:(s.cw i j).slot t=if t=i then bN (s.slot t) j else s.slot t:=by
 simp only[State.cw,State.slot,List.getD_eq_getElem?_getD,List.getElem?_set]
 by_cases e:t=i
 ·subst e
  rw[if_pos rfl,if_pos rfl]
  by_cases ar:t<s.sl.length
  ·rw[if_pos ar];rfl
  ·rw[if_neg ar,List.getElem?_eq_none (by omega)]
   simp [TH]
 ·rw[if_neg e,if_neg (fun h=>e h.symm)]
theorem zkn{t:Nat}:∀{c:List (Nat×Nat)} {s s':State},s.slot t=s'.slot t->(s.close c).slot t=(s'.close c).slot t
 | [],s,s',h=>h
 |(i,j)::r,s,s',h=>by
  rw[Bl,Bl]
  refine zkn (c:=r) ?_
  rw[z9e,z9e,h]
theorem zl1{ts:List Nat}:∀{l:List (Nat×Operand)} {s s':State},(∀t∈ts,s.slot t=s'.slot t)->(∀t∈pu (l.map (·.2)),t∈ts)->kX s l=kX s' l
 | [],s,s',h,hl=>rfl
 |(i,x)::r,s,s',h,hl=>by
  have hx:s.ay x=s'.ay x:=zg1 h hl (by simp)
  have hr:∀c:List (Nat×Nat),kX (s.close c) r=kX (s'.close c) r:=fun c=>zl1 (fun t ht=>zkn (h t ht)) (fun t ht=>hl t (by
   cases x<;>simp [pu,ht]))
  simp only[kX,hx,hr]
theorem KB{s s':State}:∀{l:List SV},(∀id∈l.flatMap bS,s.box id=s'.box id)->l5 s l=l5 s' l
 | [],h=>rfl
 |v::r,h=>by
  have hr:l5 s r=l5 s' r:=KB fun id fE=>h id (by simp only[List.flatMap_cons,List.mem_append];exact .inr fE)
  simp only[l5,hr]
  split
  ·rfl
  ·rename_i l b _
   cases v with
   |ptr id t p=>
    have hb:s.box id=s'.box id:=h id (by simp [bS])
    cases p with
    |nil=>cases b<;>simp only[hb]
    |cons _ _=>rfl
   |_=>rfl
theorem U0{C:FuncId->bF Out}{ops:List Oper}{s s':State}(h:kZ (looks ops o) (zv s o) s s'):act E C ops o s some=act E C ops o s' some:=by
 have jb:∀t∈pu o.op.operands.toList,s.slot t=s'.slot t:=fun t ht=>h.sl t (by simp only[looks,List.mem_append];exact .inl ht)
 have bY:∀x∈o.op.operands.toList,s.ay x=s'.ay x:=fun x hx=>zg1 jb (fun _ ht=>ht) hx
 have bV:∀id∈zv s o,s.box id=s'.box id:=fun id fE=>by
  simp only[State.box,List.getD_eq_getElem?_getD,h.bs id fE]
 unfold act
 cases ho:o.op with
 |move x=>
  have ht:lT s x=lT s' x:=by
   cases x with
   |tmp t=>
    have:s.slot t=s'.slot t:=jb t (by simp [ho,Op.operands,pu])
    simp only[lT,this]
   |_=>rfl
  simp only;rw[bY x (by simp [ho,Op.operands]),ht]
 |assign x=>simp only;rw[bY x (by simp [ho,Op.operands])]
 |pick c x y=>simp only;rw[bY c (by simp [ho,Op.operands]),bY x (by simp [ho,Op.operands]),bY y (by simp [ho,Op.operands])]
 |binOp op T x y T'=>simp only;rw[bY x (by simp [ho,Op.operands]),bY y (by simp [ho,Op.operands])]
 |unOp op T x=>simp only;rw[bY x (by simp [ho,Op.operands])]
 |convert S T x=>
  have hx:=bY x (by simp [ho,Op.operands])
  simp only
  rw[<-hx]
  split
  ·rename_i id n ta tb e
   simp only[iV,bV id (by simp [zv,ho,e,bS])]
  ·rfl
 |makeMap T r=>
  cases r with
  |some r=>rfl
  |none=>
   simp only
   cases hd:o.dst with
   |none=>rfl
   |some d=>
    have:=h.bs (d+1) (by simp [zv,ho,hd])
    simp only[jh,this]
 |lookup T x i ok=>
  cases ok with
  |true=>rfl
  |false=>
   simp only
   rw[<-bY x (by simp [ho,Op.operands]),<-bY i (by simp [ho,Op.operands])]
   unfold j8 sM
   split
   ·split
    ·rename_i e
     simp only[bV _ (by simp only[zv,ho,e,bS];exact List.mem_singleton.2 rfl)]
    ·rfl
   ·rfl
 |mapUpdate T m k x=>
  simp only
  rw[<-bY m (by simp [ho,Op.operands]),<-bY k (by simp [ho,Op.operands]),<-bY x (by simp [ho,Op.operands])]
  unfold kH sM
  split
  ·split
   ·rename_i e
    simp only[bV _ (by simp only[zv,ho,e,bS];exact List.mem_singleton.2 rfl)]
   ·rfl
  ·rfl
 |insert T m k x=>
  simp only
  rw[<-bY m (by simp [ho,Op.operands]),<-bY k (by simp [ho,Op.operands]),<-bY x (by simp [ho,Op.operands])]
  unfold kH sM
  split
  ·split
   ·rename_i e
    simp only[bV _ (by simp only[zv,ho,e,bS];exact List.mem_singleton.2 rfl)]
   ·rfl
  ·rfl
 |range T x=>
  simp only
  rw[<-bY x (by simp [ho,Op.operands])]
  cases hd:o.dst with
  |none=>rfl
  |some d=>
   have:=h.bs (d+1) (by simp [zv,ho,hd])
   simp only[jh,this]
 |next x str=>
  cases str with
  |false=>rfl
  |true=>
   simp only
   rw[<-bY x (by simp [ho,Op.operands])]
   unfold ka
   split
   ·rename_i e
    simp only[bV _ (by simp only[zv,ho,e,bS];exact List.mem_singleton.2 rfl)]
   ·rfl
 |makeSlice T l c=>
  simp only
  rw[<-bY l (by simp [ho,Op.operands]),<-bY c (by simp [ho,Op.operands])]
  cases hd:o.dst with
  |none=>rfl
  |some d=>
   have:=h.bs (d+1) (by simp [zv,ho,hd])
   simp only[j9,jh,this]
 |load T x=>
  have hx:=bY x (by simp [ho,Op.operands])
  simp only
  rw[<-hx]
  unfold load
  split
  ·split
   ·rfl
   ·rename_i id t p e
    simp only[Az,bV id (by simp [zv,ho,e,bS])]
   ·rfl
  ·rfl
 |store T x y=>
  have hx:=bY x (by simp [ho,Op.operands])
  have hy:=bY y (by simp [ho,Op.operands])
  simp only
  rw[<-hx]
  unfold store
  rw[<-hy]
  split
  ·split
   ·rename_i id t p e
    simp only[Ai,bV id (by simp [zv,ho,e,bS])]
   ·rfl
  ·rfl
 |nilCheck x=>simp only;rw[bY x (by simp [ho,Op.operands])]
 |fieldAddr T x j=>simp only;rw[bY x (by simp [ho,Op.operands])]
 |indexAddr T x i=>simp only;rw[bY x (by simp [ho,Op.operands]),bY i (by simp [ho,Op.operands])]
 |index T x i=>simp only;rw[bY x (by simp [ho,Op.operands]),bY i (by simp [ho,Op.operands])]
 |field T x j=>simp only;rw[bY x (by simp [ho,Op.operands])]
 |slice T x lo hi mx=>
  cases mx with
  |none=>
   simp only
   have yI:lo.map s.ay=lo.map s'.ay:=by
    cases lo with
    |none=>rfl
    |some l=>simp only[Option.map_some,bY l (by simp [ho,Op.operands])]
   have Ev:hi.map s.ay=hi.map s'.ay:=by
    cases hi with
    |none=>rfl
    |some l=>simp only[Option.map_some,bY l (by simp [ho,Op.operands])]
   rw[<-bY x (by simp [ho,Op.operands]),yI,Ev]
   split
   ·rfl
   ·rename_i id n t e
    simp only[oT,bV id (by simp [zv,ho,e,bS])]
   ·rfl
  |some m=>rfl
 |makeFunc fn fi ca=>
  cases fn with
  |func f=>
   simp only
   split
   ·rename_i x e1 e2
    have hm:x∈o.op.operands.toList:=by
     simp only[ho,Op.operands,Array.toList_append,List.mem_append,e2]
     exact .inr (by simp)
    rw[bY x hm]
   ·rename_i x y e1 e2
    have hm:∀z∈ [x,y],z∈o.op.operands.toList:=fun z hz=>by
     simp only[ho,Op.operands,Array.toList_append,List.mem_append,e2]
     exact .inr hz
    rw[bY x (hm x (by simp)),bY y (hm y (by simp))]
   ·rfl
  |_=>rfl
 |alloc T=>
  simp only
  cases hd:o.dst with
  |none=>split<;>simp_all
  |some d=>
   have:=h.bs (d+1) (by simp [zv,ho,hd])
   cases E.ty T<;>simp only[this]
 |box T x=>
  have hx:=bY x (by simp [ho,Op.operands])
  simp only
  cases hd:o.dst with
  |none=>split<;>simp_all
  |some d=>
   have:=h.bs (d+1) (by simp [zv,ho,hd])
   cases E.ty T<;>simp only[this,hx]
 |build T parts=>
  have hp:kX s parts.toList=kX s' parts.toList:=zl1 jb (fun t ht=>by simpa [ho,Op.operands] using ht)
  simp only[hp]
 |buildSlice T n parts=>
  have hp:(parts.toList.map fun p=>(p.1,s.ay p.2))=parts.toList.map fun p=>(p.1,s'.ay p.2):=List.map_congr_left fun p hp=>by
   rw[bY p.2 (by
    simp only[ho,Op.operands]
    exact List.mem_map.2 ⟨p,hp,rfl⟩)]
  simp only[hp]
 |extract x j=>
  cases x with
  |tmp t=>
   have:s.slot t=s'.slot t:=jb t (by simp [ho,Op.operands,pu])
   simp only[this]
  |_=>rfl
 |call c=>
  obtain⟨callee,args,ts⟩:=c
  cases callee with
  |value x=>
   cases x with
   |func f=>
    have bW:args.toList.map s.ay=args.toList.map s'.ay:=List.map_congr_left fun x hx=>bY x (by
     simp only[ho,Op.operands,Call.operands,Array.toList_append,List.mem_append]
     exact .inr hx)
    have jr:l5 s (args.toList.map s'.ay)=l5 s' (args.toList.map s'.ay):=KB fun id fE=>bV id (by
     simp only[zv,ho,List.mem_append]
     refine .inl ?_
     rw[<-bW,List.flatMap_map] at fE
     exact fE)
    simp only[eQ,bW,jr]
    cases hd:o.dst with
    |none=>rfl
    |some d=>
     have:=h.bs (d+1) (by simp [zv,ho,hd])
     simp only[this]
   |tmp y=>
    have hy:s.ay (.tmp y)=s'.ay (.tmp y):=bY (.tmp y) (by
     simp only[ho,Op.operands,Call.operands,Array.toList_append,List.mem_append]
     exact .inl (by simp))
    have bW:args.toList.map s.ay=args.toList.map s'.ay:=List.map_congr_left fun x hx=>bY x (by
     simp only[ho,Op.operands,Call.operands,Array.toList_append,List.mem_append]
     exact .inr hx)
    simp only
    rw[<-hy]
    split
    ·rename_i id f t b e
     have jr:l5 s (args.toList.map s'.ay++ [.ptr id t []])=l5 s' (args.toList.map s'.ay++ [.ptr id t []]):=KB fun bT fE=>bV bT (by
      simp only[zv,ho,List.mem_append,e]
      rw[List.flatMap_append,List.mem_append] at fE
      rcases fE with fE|fE
      ·refine .inl ?_
       rw[<-bW,List.flatMap_map] at fE
       exact fE
      ·exact .inr (.inl (by simpa [bS] using fE)))
     simp only[eQ,bW,jr]
     cases hd:o.dst with
     |none=>rfl
     |some d=>
      have:=h.bs (d+1) (by simp [zv,ho,hd])
      simp only[this]
    ·rename_i f t x u y e
     have jr:l5 s (args.toList.map s'.ay++ [.view t x,.view u y])=l5 s' (args.toList.map s'.ay++ [.view t x,.view u y]):=KB fun bT fE=>bV bT (by
      simp only[zv,ho,List.mem_append]
      rw[List.flatMap_append,List.mem_append] at fE
      rcases fE with fE|fE
      ·refine .inl ?_
       rw[<-bW,List.flatMap_map] at fE
       exact fE
      ·simp [bS] at fE)
     simp only[eQ,bW,jr]
     cases hd:o.dst with
     |none=>rfl
     |some d=>
      have:=h.bs (d+1) (by simp [zv,ho,hd])
      simp only[this]
    ·rfl
   |_=>rfl
  |builtin b=>
   have bW:∀x∈args.toList,s.ay x=s'.ay x:=fun x hx=>bY x (by
    simp only[ho,Op.operands,Call.operands,Array.toList_append,List.mem_append]
    exact .inr hx)
   cases b with
   |copy=>
    simp only
    split
    ·rename_i d x T r e1 e2
     rw[bW x (by rw[e1];simp),<-bW d (by rw[e1];simp)]
     unfold copyV
     split
     ·rename_i e0 t0 id n ta tb hT e
      have hb:s.box id=s'.box id:=bV id (by simp only[zv,ho,e1,List.flatMap_cons,e,bS];exact List.mem_append_left _ (List.mem_singleton.2 rfl))
      simp only[gf,iW,hb]
     ·rename_i e0 t0 id n ta tb l hT e
      have hb:s.box id=s'.box id:=bV id (by simp only[zv,ho,e1,List.flatMap_cons,e,bS];exact List.mem_append_left _ (List.mem_singleton.2 rfl))
      simp only[gf,hb]
     ·rfl
    ·rfl
   |len=>
    simp only
    split
    ·rename_i x T e1 e2
     rw[bW x (by rw[e1];simp)]
    ·rfl
   |append=>
    simp only
    split
    ·rename_i x y T U e1 e2
     rw[bW x (by rw[e1];simp),bW y (by rw[e1];simp)]
    ·rfl
   |max=>
    simp only
    split
    ·rename_i x y e1
     rw[bW x (by rw[e1];simp),bW y (by rw[e1];simp)]
    ·rfl
   |min=>
    simp only
    split
    ·rename_i x y e1
     rw[bW x (by rw[e1];simp),bW y (by rw[e1];simp)]
    ·rfl
   |_=>rfl
  |_=>rfl
 |_=>rfl
end Go.Ref

namespace Go.Ref
open Go
variable {P:Program} {E:Env} {X:ap} {s:State} {a:Act} {o:Oper} {u:Out}
def JM:List (Nat×Nat)->Nat->List SV->List SV
 | [],_,l=>l
 |(i,j)::r,t,l=>JM r t (if t=i then bN l j else l)
theorem KD{t:Nat}:∀{c:List (Nat×Nat)} {s:State},(s.close c).slot t=JM c t (s.slot t)
 | [],s=>rfl
 |(i,j)::r,s=>by rw[Bl,KD (c:=r),z9e];rfl
theorem pH{t:Nat}:∀{c:List (Nat×Nat)} {l:List SV},t∉c.map (·.1)->JM c t l=l
 | [],l,h=>rfl
 |(i,j)::r,l,h=>by
  simp only[List.map_cons,List.mem_cons,not_or] at h
  simp only[JM]
  rw[if_neg h.1]
  exact pH h.2
theorem Bn{d:Option Nat}:(s.apply d u).sl.length=s.sl.length:=by
 cases d with
 |none=>simp only[State.apply,State.aG];cases u.bx<;>simp [State.aC,Ik]
 |some d=>simp only[State.apply,State.aG,List.length_set];cases u.bx<;>simp [State.aC,Ik]
theorem Ic{d:Option Nat}{t:Nat}:(s.apply d u).slot t=if d=some t/\t<s.sl.length then u.v else JM u.cl t (s.slot t):=by
 have hb:∀(s:State) b,(s.aC b).slot t=s.slot t:=fun s b=>by cases b<;>rfl
 cases d with
 |none=>
  simp only[State.apply,State.aG,hb,KD]
  rw[if_neg (by simp)]
 |some d=>
  simp only[State.apply]
  by_cases e:d=t
  ·subst e
   by_cases ar:d<s.sl.length
   ·rw[if_pos ⟨rfl,ar⟩]
    have:d<((s.close u.cl).aC u.bx).sl.length:=by
     have:((s.close u.cl).aC u.bx).sl.length=s.sl.length:=by cases u.bx<;>simp [State.aC,Ik]
     omega
    simp only[State.aG,State.slot,List.getD_eq_getElem?_getD,List.getElem?_set_self this,Option.getD_some]
   ·rw[if_neg (fun h=>ar h.2)]
    have:((s.close u.cl).aC u.bx).sl.length<=d:=by
     have:((s.close u.cl).aC u.bx).sl.length=s.sl.length:=by cases u.bx<;>simp [State.aC,Ik]
     omega
    have h2:(((s.close u.cl).aC u.bx).aG (some d) u.v).slot d=((s.close u.cl).aC u.bx).slot d:=by
     simp only[State.aG,State.slot]
     rw[List.set_eq_of_length_le this]
    rw[h2,hb,KD]
  ·rw[if_neg (fun h=>e (by injection h.1))]
   have h2:(((s.close u.cl).aC u.bx).aG (some d) u.v).slot t=((s.close u.cl).aC u.bx).slot t:=by
    simp only[State.aG,State.slot,List.getD_eq_getElem?_getD,List.getElem?_set_ne e]
   rw[h2,hb,KD]
theorem Ip{d:Option Nat}{id:Nat}:(s.apply d u).bs[id]? =match u.bx with
 |some (bT,B)=>if bT=id then(s.bs[id]?).map (fun _=>some B) else s.bs[id]?
 |none=>s.bs[id]? :=by
 have hs:∀(s:State) d l,(s.aG d l).bs=s.bs:=fun s d l=>by cases d<;>rfl
 simp only[State.apply,hs]
 cases hb:u.bx with
 |none=>simp only[State.aC,uT]
 |some b=>
  obtain⟨bT,B⟩:=b
  simp only[State.aC,uT]
  rw[List.getElem?_set]
  by_cases e:bT=id
  ·subst e
   rw[if_pos rfl,if_pos rfl]
   by_cases ar:bT<s.bs.length
   ·rw[if_pos ar,List.getElem?_eq_getElem ar];rfl
   ·rw[if_neg ar,List.getElem?_eq_none (by omega)];rfl
  ·rw[if_neg e,if_neg e]
theorem V9{s s':State}(h1:s.sl.length=s'.sl.length)(h2:∀t,s.slot t=s'.slot t)(h3:∀id:Nat,s.bs[id]? =s'.bs[id]?):s=s':=by
 cases s with
 |mk sl bs=>
  cases s' with
  |mk sl' bs'=>
   simp only[State.mk.injEq]
   refine⟨List.ext_getElem? fun i=> ?_,List.ext_getElem? h3⟩
   have:=h2 i
   simp only[State.slot,List.getD_eq_getElem?_getD] at this h1
   by_cases ar:i<sl.length
   ·rw[List.getElem?_eq_getElem ar,List.getElem?_eq_getElem (by omega)] at this⊢
    simpa using this
   ·rw[List.getElem?_eq_none (by omega),List.getElem?_eq_none (by omega)]
structure xR(R1 W1 b1 c1 R2 W2 b2 c2:List Nat):Prop where
 h1:∀t∈W1,t∉R2/\t∉W2
 h2:∀t∈W2,t∉R1
 h3:∀id∈c1,id∉b2/\id∉c2
 h4:∀id∈c2,id∉b1
theorem Sf{o1 o2:Oper}{ops:List Oper}{i1 i2:Nat}{s1 s2:State}{u1 u2:Out}(h:(fp ops o1 i1 s1 u1).apart (fp ops o2 i2 s2 u2)=true):
 xR (looks ops o1) (o1.dst.toList++u1.cl.map (·.1)) (zv s1 o1) (u1.bx.toList.map (·.1)) (looks ops o2) (o2.dst.toList++u2.cl.map (·.1)) (zv s2 o2) (u2.bx.toList.map (·.1)):=by
 simp only[dq.apart,fp,Bool.and_eq_true] at h
 obtain⟨g1,g2,g3,g4⟩:=h
 refine⟨fun t ht=> ?_,fun t ht=> ?_,fun t ht=> ?_,fun t ht=> ?_⟩
 ·have:=KU g1 t (by rw[uP];exact decide_eq_true ht)
  simp only[Nat.testBit_or,uP,Bool.or_eq_false_iff,decide_eq_false_iff_not] at this
  exact this
 ·have:=KU g2 t (by rw[uP];exact decide_eq_true ht)
  simpa only[uP,decide_eq_false_iff_not] using this
 ·have:=KU g3 t (by rw[uP];exact decide_eq_true ht)
  simp only[Nat.testBit_or,uP,Bool.or_eq_false_iff,decide_eq_false_iff_not] at this
  exact this
 ·have:=KU g4 t (by rw[uP];exact decide_eq_true ht)
  simpa only[uP,decide_eq_false_iff_not] using this
theorem zkk{d:Option Nat}{ts bs:List Nat}(h1:∀t∈ts,t∉d.toList++u.cl.map (·.1))(h2:∀id∈bs,id∉u.bx.toList.map (·.1)):kZ ts bs (s.apply d u) s where
 sl:=fun t ht=>by
  have h:=h1 t ht
  simp only[List.mem_append,not_or] at h
  rw[Ic,if_neg (fun hc=>h.1 (by rw[hc.1];simp)),pH h.2]
 bs:=fun id fE=>by
  have h:=h2 id fE
  rw[Ip]
  cases hb:u.bx with
  |none=>rfl
  |some b=>
   obtain⟨bT,B⟩:=b
   rw[hb] at h
   simp only
   rw[if_neg (fun e=>h (by simp [e]))]
theorem Ta{d1 d2:Option Nat}{u1 u2:Out}(h1:∀t∈d1.toList++u1.cl.map (·.1),t∉d2.toList++u2.cl.map (·.1))(h2:∀id∈u1.bx.toList.map (·.1),id∉u2.bx.toList.map (·.1)):
 (s.apply d1 u1).apply d2 u2=(s.apply d2 u2).apply d1 u1:=by
 refine V9 (by rw[Bn,Bn,Bn,Bn]) (fun t=> ?_) (fun id=> ?_)
 ·rw[Ic,Ic,Ic,Ic,Bn,Bn]
  by_cases A5:d1=some t
  ·have hm:t∈d1.toList++u1.cl.map (·.1):=by rw[A5];simp
   have hn:=h1 t hm
   simp only[List.mem_append,not_or] at hn
   have qK:¬d2=some t:=fun e=>hn.1 (by rw[e];simp)
   by_cases ar:t<s.sl.length
   ·rw[if_neg (fun h=>qK h.1),if_pos ⟨A5,ar⟩,pH hn.2,if_pos ⟨A5,ar⟩]
   ·rw[if_neg (fun h=>qK h.1),if_neg (fun h=>ar h.2),if_neg (fun h=>ar h.2),if_neg (fun h=>ar h.2),pH hn.2,pH hn.2]
  ·by_cases qK:d2=some t
   ·have hn:t∉d1.toList++u1.cl.map (·.1):=fun hm=>h1 t hm (by rw[qK];simp)
    simp only[List.mem_append,not_or] at hn
    by_cases ar:t<s.sl.length
    ·rw[if_pos ⟨qK,ar⟩,if_neg (fun h=>A5 h.1),if_pos ⟨qK,ar⟩,pH hn.2]
    ·rw[if_neg (fun h=>ar h.2),if_neg (fun h=>ar h.2),if_neg (fun h=>ar h.2),if_neg (fun h=>ar h.2),pH hn.2,pH hn.2]
   ·rw[if_neg (fun h=>qK h.1),if_neg (fun h=>A5 h.1),if_neg (fun h=>A5 h.1),if_neg (fun h=>qK h.1)]
    by_cases hm:t∈u1.cl.map (·.1)
    ·have hn:=h1 t (by simp only[List.mem_append];exact .inr hm)
     simp only[List.mem_append,not_or] at hn
     rw[pH hn.2,pH hn.2]
    ·rw[pH hm,pH hm]
 ·rw[Ip,Ip,Ip,Ip]
  cases sf:u1.bx with
  |none=>rfl
  |some b1=>
   obtain⟨QD,B1⟩:=b1
   cases qI:u2.bx with
   |none=>rfl
   |some b2=>
    obtain⟨id2,B2⟩:=b2
    rw[sf,qI] at h2
    have bZ:QD≠id2:=fun e=>h2 QD (by simp) (by simp [e])
    simp only
    by_cases e1:QD=id
    ·subst e1
     rw[if_neg (fun e=>bZ e.symm),if_pos rfl,if_pos rfl,if_neg (fun e=>bZ e.symm)]
    ·by_cases e2:id2=id
     ·subst e2
      rw[if_pos rfl,if_neg e1,if_neg e1,if_pos rfl]
     ·rw[if_neg e2,if_neg e1,if_neg e1,if_neg e2]
theorem zl3{ops:List Oper}{s s':State}(h:∀t∈looks ops o,s.slot t=s'.slot t):zv s o=zv s' o:=by
 have bY:∀x∈o.op.operands.toList,s.ay x=s'.ay x:=fun x hx=>zg1 (ts:=pu o.op.operands.toList) (fun t ht=>h t (by simp only[looks,List.mem_append];exact .inl ht)) (fun _ ht=>ht) hx
 unfold zv
 cases ho:o.op with
 |load T x=>simp only;rw[bY x (by simp [ho,Op.operands])]
 |store T x y=>simp only;rw[bY x (by simp [ho,Op.operands])]
 |convert S T x=>simp only;rw[bY x (by simp [ho,Op.operands])]
 |slice T x lo hi mx=>simp only;rw[bY x (by simp [ho,Op.operands])]
 |lookup T x i ok=>simp only;rw[bY x (by simp [ho,Op.operands])]
 |mapUpdate T m k x=>simp only;rw[bY m (by simp [ho,Op.operands])]
 |insert T m k x=>simp only;rw[bY m (by simp [ho,Op.operands])]
 |next x str=>simp only;rw[bY x (by simp [ho,Op.operands])]
 |call c=>
  obtain⟨callee,args,ts⟩:=c
  have:(args.toList.map fun x=>bS (s.ay x))=args.toList.map fun x=>bS (s'.ay x):=List.map_congr_left fun x hx=>by
   rw[bY x (by
    simp only[ho,Op.operands,Call.operands,Array.toList_append,List.mem_append]
    exact .inr hx)]
  cases callee with
  |value f=>
   simp only
   have hf:s.ay f=s'.ay f:=bY f (by
    simp only[ho,Op.operands,Call.operands,Array.toList_append,List.mem_append]
    exact .inl (by simp))
   rw[hf,List.flatMap_def,List.flatMap_def,this]
  |builtin b=>
   cases b with
   |copy=>simp only;rw[List.flatMap_def,List.flatMap_def,this]
   |_=>rfl
  |_=>rfl
 |_=>rfl
theorem zxk{C:af}{ops:List Oper}{s s':State}(h:kZ (looks ops o) (zv s o) s s'):dT E C ops o s=dT E C ops o s':=by
 unfold dT
 rw[U0 h]
 split
 ·rfl
 ·rename_i g want hg
  split
  ·rfl
  ·rename_i d hd
   rw[h.sl d (by simp [looks,hg,hd])]
theorem swap{C:af}{ops:List Oper}{o1 o2:Oper}{i1 i2:Nat}{u1 u2:Out}(h1:dT E C ops o1 s=some u1)(h2:dT E C ops o2 (s.apply o1.dst u1)=some u2)(h:(fp ops o1 i1 s u1).apart (fp ops o2 i2 (s.apply o1.dst u1) u2)=true):
 dT E C ops o2 s=some u2/\fp ops o2 i2 s u2=fp ops o2 i2 (s.apply o1.dst u1) u2/\dT E C ops o1 (s.apply o2.dst u2)=some u1/\fp ops o1 i1 (s.apply o2.dst u2) u1=fp ops o1 i1 s u1/\
  (s.apply o2.dst u2).apply o1.dst u1=(s.apply o1.dst u1).apply o2.dst u2:=by
 have hp:=Sf h
 have ag1:kZ (looks ops o2) (zv (s.apply o1.dst u1) o2) (s.apply o1.dst u1) s:=zkk (fun t ht hm=>(hp.h1 t hm).1 ht) (fun id fE hm=>(hp.h3 id hm).1 fE)
 have fU:=zl3 (ops:=ops) (o:=o2) ag1.sl
 have PG:kZ (looks ops o1) (zv s o1) (s.apply o2.dst u2) s:=zkk (fun t ht hm=>hp.h2 t hm ht) (fun id fE hm=>hp.h4 id hm fE)
 have eL:=zl3 (ops:=ops) (o:=o1) PG.sl
 refine⟨by rw[<-zxk ag1];exact h2,by simp only[fp,fU],?_,by simp only[fp,eL],(Ta (fun t ht=>(hp.h1 t ht).2) (fun id fE=>(hp.h3 id fE).2)).symm⟩
 rw[zxk (s:=s.apply o2.dst u2) (s':=s) ⟨PG.sl,fun id fE=>PG.bs id (by rw[<-eL];exact fE)⟩]
 exact h1
end Go.Ref

namespace Go.Ref
open Go
variable {P:Program} {E:Env} {X:ap} {s:State} {a:Act} {o:Oper} {u:Out}
def oJ(E:Env)(C:af)(ops:Array Oper):List Nat->State->List dq->State->Prop
 | [],s,tr,z=>s=z/\tr=[]
 |i::r,s,f::tr,z=>∃u,dT E C ops.toList (ops.getD i default) s=some u/\f=fp ops.toList (ops.getD i default) i s u/\oJ E C ops r (s.apply (ops.getD i default).dst u) tr z
 |_::_,_,[],_=>False
def PF(ops:Array Oper)(i:Nat):Nat:=kM (ops.getD i default).after.toList
def xQ(ops:Array Oper)(a b:dq):Prop:=(PF ops b.i).testBit a.i=true\/a.apart b=true
theorem H3{C:af}{ops:Array Oper}:∀{l:List Nat} {s z:State} {tr:List dq},oJ E C ops l s tr z->tr.map (·.i)=l
 | [],s,z,tr,h=>by rw[h.2];rfl
 |i::r,s,z,f::tr,h=>by
  obtain⟨u,_,rfl,h3⟩:=h
  simp only[List.map_cons,H3 h3]
  rfl
 |_::_,s,z,[],h=>h.elim
theorem zl7{C:af}(hC:C.Nat){ops:Array Oper}{z:State}:∀(l:List Nat) (i:Nat) (s:State) (tr:List dq),(∀(j:Nat) k,l[j]? =some k->k=i+j)->
 xO E (C State) ops.toList (l.map fun k=>ops.getD k default) i s tr some=some z->∃zH,oJ E C ops l s zH z/\(∀a∈tr,∀b∈zH,xQ ops a b)/\zH.Pairwise (xQ ops)/\∀k∈l,Nat.ble (PF ops k+1) (bit k)=true
 | [],i,s,tr,hl,h=>by
   cases h
   exact⟨[],⟨rfl,rfl⟩,(fun a _ b hb=>by cases hb),List.Pairwise.nil,fun k hk=>by cases hk⟩
 |k::r,i,s,tr,hl,h=>by
  have hk:k=i:=by simpa using hl 0 k rfl
  subst hk
  simp only[List.map_cons,xO] at h
  obtain⟨u,h1,h2,h3⟩:=Wb hC h
  obtain⟨zH,r1,r2,r3,r4⟩:=zl7 hC r (k+1) _ _ (fun j k' hj=>by
   have:=hl (j+1) k' hj
   omega) h3
  simp only[fits,Bool.and_eq_true] at h2
  obtain⟨h2a,PT⟩:=h2
  have PT:=List.all_eq_true.1 PT
  refine⟨fp ops.toList (ops.getD k default) k s u::zH,⟨u,h1,rfl,r1⟩,fun a ha b hb=> ?_,?_,fun k' Ey=> ?_⟩
  ·rcases List.mem_cons.1 hb with rfl|hb
   ·have:=PT a ha
    simp only[Bool.or_eq_true] at this
    exact this
   ·exact r2 a (List.mem_cons_of_mem _ ha) b hb
  ·exact List.pairwise_cons.2 ⟨fun b hb=>r2 _ (by simp) b hb,r3⟩
  ·rcases List.mem_cons.1 Ey with rfl|Ey
   ·exact h2a
   ·exact r4 k' Ey
theorem Gn{C:af}{ops:Array Oper}{z:State}{i:Nat}{q:List Nat}:∀(p:List Nat) (s:State) (tr:List dq),oJ E C ops (p++i::q) s tr z->(∀(tp:List dq) f tq,tr=tp++f::tq->tp.length=p.length->∀a∈tp,a.apart f=true)->
 ∃tp f tq u,tr=tp++f::tq/\tp.length=p.length/\dT E C ops.toList (ops.getD i default) s=some u/\f=fp ops.toList (ops.getD i default) i s u/\oJ E C ops (p++q) (s.apply (ops.getD i default).dst u) (tp++tq) z
 | [],s,[],h,wH=>h.elim
 | [],s,f::tr,h,wH=>by
   obtain⟨u,h1,h2,h3⟩:=h
   exact⟨[],f,tr,u,rfl,rfl,h1,h2,h3⟩
 |j::p,s,[],h,wH=>h.elim
 |j::p,s,g::tr,h,wH=>by
  obtain⟨uj,h1,h2,h3⟩:=h
  obtain⟨tp,f,tq,u,e1,e2,k1,k2,k3⟩:=Gn p _ tr h3 (fun tp f tq e hl a ha=>wH (g::tp) f tq (by rw[e];rfl) (by simp [hl]) a (List.mem_cons_of_mem _ ha))
  have hg:=wH (g::tp) f tq (by rw[e1];rfl) (by simp [e2]) g (by simp)
  rw[h2,k2] at hg
  obtain⟨w1,w2,w3,w4,w5⟩:=swap h1 k1 hg
  refine⟨g::tp,f,tq,u,by rw[e1];rfl,by simp [e2],w1,by rw[k2,w2],uj,w3,by rw[h2,w4],?_⟩
  rw[w5]
  exact k3
theorem Zf{l:List Nat}{i:Nat}(h:i∈l):∃p q,l=p++i::q:=List.append_of_mem h
theorem z167{p q:List Nat}{i:Nat}(h:(p++i::q).Nodup):(p++i::q).filter (fun j=> !(Nat.beq j i))=p++q:=by
 have h':=List.nodup_append.1 h
 have hp:∀j∈p,j≠i:=fun j hj=>h'.2.2 j hj i (by simp)
 have hq:∀j∈q,j≠i:=fun j hj e=>by
  have:=(List.nodup_cons.1 h'.2.1).1
  rw[e] at hj;exact this hj
 rw[List.filter_append,List.filter_cons]
 have hb:∀j,j≠i->(!(Nat.beq j i))=true:=fun j hj=>by
  cases hh:Nat.beq j i with
  |false=>rfl
  |true=>exact absurd (Nat.eq_of_beq_eq_true hh) hj
 rw[List.filter_eq_self.2 (fun j hj=>hb j (hp j hj)),List.filter_eq_self.2 (fun j hj=>hb j (hq j hj))]
 have:(!(Nat.beq i i))=false:=by simp
 rw[this]
 simp
def rest(n:Nat)(listed:Array Bool):List Nat:=(List.range n).filter fun i=> !listed.getD i true
theorem Zc{n:Nat}{listed:Array Bool}(hs:listed.size=n){i:Nat}{p q:List Nat}(h:rest n listed=p++i::q):rest n (listed.setIfInBounds i true)=p++q:=by
 have Qd:(rest n listed).Nodup:=List.nodup_range.filter _
 rw[h] at Qd
 rw[<-z167 Qd,<-h]
 simp only[rest,List.filter_filter]
 refine List.filter_congr fun j hj=> ?_
 have hjn:=List.mem_range.1 hj
 by_cases e:j=i
 ·subst e
  have:(listed.setIfInBounds j true).getD j true=true:=by simp [Array.getD_eq_getD_getElem?,hs,hjn]
  rw[this];simp
 ·have h1:(listed.setIfInBounds i true).getD j true=listed.getD j true:=by
   simp only[Array.getD_eq_getD_getElem?]
   rw[Array.getElem?_setIfInBounds_ne (fun h=>e h.symm)]
  have h2:Nat.beq j i=false:=by
   cases hh:Nat.beq j i with
   |false=>rfl
   |true=>exact absurd (Nat.eq_of_beq_eq_true hh) e
  rw[h1,h2];simp
theorem zxp{ops:Array Oper}{listed:Array Bool}{i:Nat}(h:i∈Region.ready .any ops listed):i∈rest ops.size listed/\∀e∈(ops.getD i default).after.toList,Region.binds .any e=true->listed.getD e.on false=true:=by
 unfold Region.ready at h
 obtain⟨h1,h2⟩:=List.mem_filter.1 h
 have hi:=List.mem_range.1 h1
 rw[Bool.and_eq_true] at h2
 refine⟨List.mem_filter.2 ⟨h1,h2.1⟩,fun e he hb=> ?_⟩
 have h3:=h2.2
 rw[Array.getElem?_eq_getElem hi] at h3
 simp only[Option.map_some,Option.getD_some] at h3
 have cq:ops.getD i default=ops[i]:=by simp [hi]
 rw[cq] at he
 have h4:=Array.all_eq_true_iff_forall_mem.1 h3 e (by simpa using he)
 rw[hb] at h4
 simpa using h4
theorem Zb{ops:Array Oper}{listed:Array Bool}{i:Nat}(h:i∈rest ops.size listed)(ha:∀e∈(ops.getD i default).after.toList,Region.binds .any e=true->listed.getD e.on false=true):i∈Region.ready .any ops listed:=by
 obtain⟨h1,h2⟩:=List.mem_filter.1 h
 have hi:=List.mem_range.1 h1
 refine List.mem_filter.2 ⟨h1,?_⟩
 rw[Bool.and_eq_true]
 refine⟨h2,?_⟩
 have cq:ops.getD i default=ops[i]:=by simp [hi]
 rw[Array.getElem?_eq_getElem hi]
 simp only[Option.map_some,Option.getD_some]
 refine Array.all_eq_true_iff_forall_mem.2 fun e he=> ?_
 cases hb:Region.binds .any e with
 |false=>rfl
 |true=>
  rw[ha e (by rw[cq];simpa using he) hb]
  simp
theorem YA(hE:ak P E){C:af}(hC:C.Nat)(hf:∀f,cK P C f){ops:Array Oper}{z:State}{Q:Exit->Act->World->Prop}(ui:∀k,k<ops.size->Nat.ble (PF ops k+1) (bit k)=true):
 ∀(cj:Nat) (listed:Array Bool) (X:ap) (s:State) (a:Act) (tr:List dq),Rel X s a->listed.size=ops.size->cj=(rest ops.size listed).length->oJ E C ops (rest ops.size listed) s tr z->tr.Pairwise (xQ ops)->
  (∀Y a',Ext X Y->Rel Y z a'->Q .normal a' Y.w)->wpAny P .any ops Q cj listed a X.w:=by
 intro cj
 have done:∀(listed:Array Bool),listed.size=ops.size->Region.ready .any ops listed=[]->rest ops.size listed=[]:=by
  intro listed hs hr
  rcases hl:rest ops.size listed with _|⟨i,r⟩
  ·rfl
  have fx:i∈rest ops.size listed:=by rw[hl];simp
  have fP:=List.mem_range.1 (List.mem_filter.1 fx).1
  have qZ:i∈Region.ready .any ops listed:=by
   refine Zb fx fun e he hb=> ?_
   have ar:e.on<i:=U6 (ui i fP) (zvv _ e he hb)
   cases hx:listed.getD e.on false with
   |true=>rfl
   |false=>
    exfalso
    have qQ:e.on<listed.size:=by omega
    have rf:listed.getD e.on true=false:=by
     simp only[Array.getD_eq_getD_getElem?,Array.getElem?_eq_getElem qQ,Option.getD_some] at hx⊢
     exact hx
    have hm:e.on∈rest ops.size listed:=List.mem_filter.2 ⟨List.mem_range.2 (by omega),by rw[rf];rfl⟩
    have n0:(rest ops.size listed).Pairwise (· < ·):=List.pairwise_lt_range.filter _
    rw[hl] at n0 hm
    rcases List.mem_cons.1 hm with e1|hm
    ·omega
    ·have:=(List.pairwise_cons.1 n0).1 _ hm
     omega
  rw[hr] at qZ
  cases qZ
 induction cj with
 |zero=>
  intro listed X s a tr hr hs A6 j5 EQ hQ
  have qT:rest ops.size listed=[]:=List.eq_nil_of_length_eq_zero A6.symm
  rw[qT] at j5
  obtain⟨rfl,_⟩:=j5
  refine⟨?_,hQ X a (Ext.refl X) hr⟩
  rcases hrd:Region.ready .any ops listed with _|⟨i,r⟩
  ·rfl
  ·have:=(zxp (i:=i) (by rw[hrd];simp)).1
   rw[qT] at this
   cases this
 |succ cj ih=>
  intro listed X s a tr hr hs A6 j5 EQ hQ
  refine⟨fun EJ=> ?_,fun i hi=> ?_⟩
  ·rw[done listed hs EJ] at A6
   cases A6
  ·obtain⟨fx,PX⟩:=zxp hi
   obtain⟨p,q,Kd⟩:=Zf fx
   have fP:=List.mem_range.1 (List.mem_filter.1 fx).1
   rw[Kd] at j5
   have uo:=H3 j5
   obtain⟨tp,f,tq,u,e1,e2,k1,k2,k3⟩:=Gn p s tr j5 (fun tp f tq e hl a' Ek=>by
    have ue:f.i=i:=by
     rw[e,List.map_append,List.map_cons] at uo
     have:=List.append_inj uo (by simp [hl])
     injection this.2
    have haj:a'.i∈p:=by
     rw[e,List.map_append,List.map_cons] at uo
     have:=List.append_inj uo (by simp [hl])
     rw[<-this.1]
     exact List.mem_map.2 ⟨a',Ek,rfl⟩
    rw[e] at EQ
    have Es:=(List.pairwise_append.1 EQ).2.2 a' Ek f (by simp)
    rcases Es with hb|hb
    ·exfalso
     rw[ue] at hb
     obtain⟨ed,he1,he2,he3⟩:=zbj _ _ hb
     have qO:=PX ed he1 he2
     have ey:a'.i∈rest ops.size listed:=by rw[Kd];exact List.mem_append_left _ haj
     have mM:=(List.mem_filter.1 ey).2
     have ar:=List.mem_range.1 (List.mem_filter.1 ey).1
     have qQ:a'.i<listed.size:=by omega
     rw[he3] at qO
     simp only[Array.getD_eq_getD_getElem?,Array.getElem?_eq_getElem qQ,Option.getD_some] at qO mM
     rw[qO] at mM
     cases mM
    ·exact hb)
   have ey:=Zc hs Kd
   have hio:ops[i]? =some (ops.getD i default):=by simp [fP]
   refine zvp hE hr hC hf hio (SW hC k1) fun Y a' aZ bm=> ?_
   refine ih (listed.setIfInBounds i true) Y _ a' (tp++tq) bm (by simp [hs]) ?_ (by rw[ey];exact k3) ?_ (fun Z a2 bO cV=>hQ Z a2 (aZ.trans bO) cV)
   ·rw[ey]
    rw[Kd] at A6
    simp only[List.length_append,List.length_cons] at A6⊢
    omega
   ·rw[e1] at EQ
    obtain⟨a1,a2,a3⟩:=List.pairwise_append.1 EQ
    exact List.pairwise_append.2 ⟨a1,(List.pairwise_cons.1 a2).2,fun x hx y hy=>a3 x hx y (List.mem_cons_of_mem _ hy)⟩
theorem Vy(hE:ak P E)(hm:P.follows .mixedOrders=true){C:af}(hC:C.Nat)(hf:∀f,cK P C f){id:Nat}{ops:Array Oper}{z:State}{Q:Exit->Act->World->Prop}(hr:Rel X s a)(h:xO E (C State) ops.toList ops.toList 0 s [] some=some z)
 (hQ:∀Y a',Ext X Y->Rel Y z a'->Q .normal a' Y.w):(Code.region id ops true).wp P Q a X.w:=by
 have mQ:(List.range ops.size).map (fun i=>ops.getD i default)=ops.toList:=by
  apply List.ext_getElem?
  intro i
  rw[List.getElem?_map]
  by_cases hi:i<ops.size
  ·simp [hi]
  ·simp [hi]
 have ey:rest ops.size (Array.replicate ops.size false)=List.range ops.size:=by
  refine List.filter_eq_self.2 fun i hi=> ?_
  have:=List.mem_range.1 hi
  simp [this]
 obtain⟨zH,r1,_,r3,r4⟩:=zl7 hC (List.range ops.size) 0 s [] (fun j k hj=>by
  have:=(List.getElem?_eq_some_iff.1 hj)
  obtain⟨h1,h2⟩:=this
  simp at h2
  omega) (by rw[mQ];exact h)
 have hk:eC s X {X with w:={X.w with drawn:=X.w.drawn+1}}:=⟨Nat.le_refl _,rfl,rfl,rfl,fun g _=>⟨rfl,rfl⟩,rfl,fun _ _ _=>rfl⟩
 refine wp_region_any hm ?_
 exact YA hE hC hf (fun k hk=>r4 k (List.mem_range.2 hk)) ops.size (Array.replicate ops.size false) _ s a zH (hr.cZ hk) (by simp) (by rw[ey];simp) (by rw[ey];exact r1) r3 (fun Y a' aZ bm=>hQ Y a' (hk.ext.trans aZ) bm)
end Go.Ref

namespace Go.Ref
open Go
variable {P:Program} {E:Env} {X:ap} {s:State} {a:Act}
theorem aR.flat{X Y:ap}:∀{t:Ty} {x:El t} {cs:List Value},t.flat=true->aR X t x cs->aR Y t x cs
 | .bool,_,_,_,hr=>hr
 | .int _,_,_,_,hr=>hr
 | .str,_,_,_,hr=>hr
 | .unit,_,_,_,hr=>hr
 | .sl _ _,_,_,hf,_=>by cases hf
 | .aT _ _ _,_,_,hf,_=>by cases hf
 | .arr n t,xs,cs,hf,⟨h1,h2,h3⟩=>⟨h1,h2,fun j x hj=>aR.flat (t:=t) hf (h3 j x hj)⟩
 | .pair a b,x,cs,hf,⟨c1,c2,h1,h2,h3⟩=>by
   have hf:(a.flat&&b.flat)=true:=hf
   rw[Bool.and_eq_true] at hf
   exact⟨c1,c2,h1,aR.flat hf.1 h2,aR.flat hf.2 h3⟩
theorem au.flat{X Y:ap}{pl:List Nat->Place}{sv:SV}{v:Value}(hf:sv.flat=true)(hr:au X pl sv v):au Y pl sv v:=by
 cases sv with
 |ah t x own=>
  have hf:(t.flat&&own.isEmpty)=true:=hf
  rw[Bool.and_eq_true] at hf
  obtain⟨cs,h1,h2,_⟩:=hr
  have:own=[]:=List.isEmpty_iff.1 hf.2
  subst this
  exact⟨cs,h1.flat hf.1,h2,lZ⟩
 |undef=>trivial
 |skip=>exact hr
 |cm=>exact hr
 |gn=>exact hr
 |over=>exact hr
 |_=>cases hf
theorem zfq{o:Nat}:∀{sl:List (List SV)} {i:Nat},jZ o i sl=true->∀(j:Nat) l,sl[j]? =some l->i+j≠o->∀sv∈l,SV.flat sv=true
 | [],i,_,j,l,h,_=>by simp at h
 |l0::r,i,h,j,l,hl,bZ=>by
  rw[jZ,Bool.and_eq_true,Bool.or_eq_true] at h
  cases j with
  |zero=>
   cases hl
   rcases h.1 with h1|h1
   ·exact absurd (Nat.eq_of_beq_eq_true h1) bZ
   ·exact fun sv hm=>List.all_eq_true.1 h1 sv hm
  |succ j=>exact zfq h.2 j l hl (by omega)
structure ml(X:ap)(a:Act)(o:Nat)(e:TypeId)(xs:List Int)(own:List (List Nat))(g c:Nat)(cur:Array Value):Prop where
 val:a.tmps.getD o Go.undef= .slice (some ⟨g,0,none⟩) xs.length c
 heap:X.w.heap[g]? =some (.cells cur e (0,0))
 cell:∀(j:Nat) x,xs[j]? =some x->X.w.cell? ⟨g,j,none⟩=some (.int .u8 x)
 le:xs.length<=c
 most:c<=maxLen
 size:cur.size=c
 ow:X.ow g= .row (.c o 0 []) (xs.length*1)
 own:∀p∈own,p=[]
theorem abm{o:Nat}{e:TypeId}{xs:List Int}{own:List (List Nat)}(hr:Rel X s a)(hs:s.slot o=[.ah (.sl e (.int .u8)) xs own])(bM:mh own []=true){i:Nat}(hi:i<xs.length):∃g c cur,ml X a o e xs own g c cur:=by
 have jb:=hr.slot o
 rw[hs] at jb
 obtain⟨cs,aJ,hv,hO⟩:=(show au X (.c o 0) (.ah (.sl e (.int .u8)) xs own) (a.tmps.getD o Go.undef) from jb)
 have fx:([]:List Nat)∈own:=by
  unfold mh at bM
  obtain⟨q,h1,h2⟩:=List.any_eq_true.1 bM
  have:q=[]:=by simpa using h2
  rw[<-this];exact h1
 have dP:∀p∈own,p=[]:=fun p hp=>by
  obtain⟨e2,t2,xs2,v2,g1,g2,g3,g4⟩:=hO p hp
  cases p with
  |cons q r=>simp [El.get] at g2
  |nil=>rfl
 obtain⟨e1,t1,xs1,v1,_,hg,hc,bR⟩:=hO [] fx
 simp only[El.get,Option.some.injEq] at hg
 cases hg
 obtain⟨A,c,du,hle,dF⟩:=aJ
 subst du
 have hv:a.tmps.getD o Go.undef= .slice A xs.length c:=hv
 have wV:v1= .slice A xs.length c:=by
  have:([Value.slice A xs.length c]:List Value)[0]? =some v1:=hc
  simpa using this.symm
 subst wV
 rcases bR with⟨_,h0⟩|⟨g,cap,cur,h1,h2,h3,h4,h5,h6⟩
 ·have h0:List.length xs=0:=h0
  omega
 injection h1 with k1 k2 k3
 subst k1 k3
 have h5:cur.size=c*1:=h5
 have h6:X.ow g= .row (.c o 0 []) (List.length xs*1):=h6
 have gh:∀(j:Nat) x,xs[j]? =some x->X.w.cell? ⟨g,j,none⟩=some (.int .u8 x):=fun j x hj=>by
  obtain⟨ad,dM,e1,_,e2,e3⟩:=dF j x hj
  cases e1
  have e2:dM=[.int .u8 x]:=e2
  subst e2
  have:=(e3 0 (.int .u8 x) rfl).2.1
  rw[jw] at this
  simpa [Ty.cells] using this
 exact⟨g,c,cur,hv,h2,gh,hle,h4,by omega,h6,dP⟩
theorem Y7{o:Nat}{e:TypeId}{xs:List Int}{own:List (List Nat)}{X0:ap}(hF:∀g pl n,X0.ow g≠ .row pl n)(hx:Ext X0 X)(hr:Rel X s a)(ho:o<s.sl.length)(si:jZ o 0 s.sl=true)(jr:s.bs.all Option.isNone=true)
 {g c:Nat} {cur:Array Value} (hR:ml X a o e xs own g c cur) {i:Nat} (hi:i<xs.length) (z:Int):
   Ext X0 (X.row g (cur.toList.take i++ [Value.int .u8 z]++cur.toList.drop (i+1)).toArray)/\Rel (X.row g (cur.toList.take i++ [Value.int .u8 z]++cur.toList.drop (i+1)).toArray) ⟨s.sl.set o [.ah (.sl e (.int .u8)) (xs.set i z:List Int) own],s.bs⟩ a:=by
 obtain⟨hv,h2,gh,hle,h4,h5,h6,dP⟩:=hR
 refine⟨?_,?_⟩
 ·
  have kx:∀b,b≠g->(X.row g (cur.toList.take i++ [Value.int .u8 z]++cur.toList.drop (i+1)).toArray).w.heap[b]? =X.w.heap[b]? :=fun b hb=>setRow_other X.w g b _ hb
  have qU:∀ad v,X0.av ad v->ad.block≠g:=fun ad v dh e0=>by
   have ar:=ap.gy dh
   have hu:=dh.2.2
   cases hw:X0.ow ad.block with
   |all=>have:=(hx.still ad.block ar (by rw[hw];trivial)).1;rw[e0,h6] at this;rw[<-e0,hw] at this;cases this
   |ro n=>have:=(hx.still ad.block ar (by rw[hw];trivial)).1;rw[e0,h6] at this;rw[<-e0,hw] at this;cases this
   |box id=>rw[hw] at hu;exact hu
   |row pl n=>exact hF _ _ _ hw
  refine⟨fun ad v dh=> ?_,?_,hx.os,hx.tape,hx.output,hx.β0,fun b hb cp=> ?_⟩
  ·have h7:=hx.av ad v dh
   refine⟨h7.1,?_,h7.2.2⟩
   have:=h7.2.1
   simp only[World.cell?] at this⊢
   rw[kx _ (qU ad v dh)];exact this
  ·have:=hx.size
   simpa [ap.row] using this
  ·have h7:=hx.still b hb cp
   have bZ:b≠g:=fun e0=>by
    have h8:=h7.1
    rw[e0,h6] at h8
    rw[e0,<-h8] at cp
    exact cp
   exact⟨h7.1,(kx b bZ).trans h7.2⟩
 ·generalize jE:(cur.toList.take i++ [Value.int .u8 z]++cur.toList.drop (i+1)).toArray=new
  have mM:new.toList=cur.toList.take i++ [Value.int .u8 z]++cur.toList.drop (i+1):=by rw[<-jE]
  have eK:new.size=cur.size:=by
   have:new.toList.length=cur.toList.length:=by rw[mM];simp;omega
   simpa using this
  have aF:(X.row g new).w.heap[g]? =some (.cells new e (0,0)):=setRow_heap X.w g cur new e (0,0) h2
  refine⟨by simpa using hr.size,by simpa using hr.gD,fun j l v hl mc=> ?_,fun id B hB=> ?_,fun j l id t p hl hm=> ?_,hr.defers⟩
  ·rw[List.getElem?_set] at hl
   by_cases EN:o=j
   ·subst EN
    rw[if_pos rfl,if_pos ho] at hl
    cases hl
    have hvv:a.tmps.getD o Go.undef=v:=by rw[Array.getD_eq_getD_getElem?,mc];rfl
    rw[hvv] at hv
    subst hv
    refine⟨[.slice (some ⟨g,0,none⟩) xs.length c],?_,rfl,fun p hp=> ?_⟩
    ·refine aR.uF (t:= .int .u8) (List.length_set ..) hle fun j x hj=>⟨⟨g,0,none⟩,[.int .u8 x],rfl,rfl,rfl,fun k w hk=> ?_⟩
     have uf:j<xs.length:=by have:=(List.getElem?_eq_some_iff.1 hj).1;rw[List.length_set] at this;exact this
     cases k with
     |succ k=>simp at hk
     |zero=>
      have hk:Value.int .u8 x=w:=by simpa using hk
      subst hk
      refine⟨xA rfl _,?_,?_⟩
      ·rw[jw]
       show(X.row g new).w.cell? _=_
       simp only[World.cell?,aF,Ty.cells]
       rw[show 0+(j*1+0)=j by omega,<-Array.getElem?_toList,mM]
       have hj:(xs.set i z)[j]? =some x:=hj
       rw[List.getElem?_set] at hj
       have ac8:i<cur.toList.length:=by simp;omega
       by_cases hij:i=j
       ·subst hij
        rw[if_pos rfl,if_pos hi] at hj
        cases hj
        rw[List.append_assoc,List.getElem?_append_right (by simp;omega)]
        have:i-(cur.toList.take i).length=0:=by simp;omega
        rw[this];rfl
       ·rw[if_neg hij] at hj
        have sg:=gh j x hj
        simp only[World.cell?,h2] at sg
        rw[<-Array.getElem?_toList] at sg
        rcases Nat.lt_or_ge j i with ar|J7
        ·rw[List.append_assoc,List.getElem?_append_left (by simp;omega),List.getElem?_take,if_pos ar]
         exact sg
        ·have hgt:i<j:=by omega
         rw[List.getElem?_append_right (by simp;omega),List.getElem?_drop]
         have:i+1+(j-(cur.toList.take i++ [Value.int .u8 z]).length)=j:=by simp;omega
         rw[this]
         exact sg
      ·rw[jw]
       show Ow.used (X.ow g) _
       rw[h6]
       show _<_
       simp only[Ty.cells]
       omega
    ·have:=dP p hp
     subst this
     refine⟨e,.int .u8,(xs.set i z:List Int),_,by simp [Ty.eH],rfl,rfl,?_⟩
     have hls:List.length (xs.set i z)=xs.length:=List.length_set ..
     rw[hls]
     exact .inr ⟨g,c,new,rfl,aF,hle,h4,by rw[eK,h5];simp [Ty.cells],h6⟩
   ·rw[if_neg EN] at hl
    have:=zfq si j l hl (by omega)
    exact(hr.bH j l v hl mc).jF fun k sv u hk hu=>hu.flat (this sv (List.mem_of_getElem? hk))
  ·have:=List.all_eq_true.1 jr (some B) (List.mem_of_getElem? hB)
   cases this
  ·rw[List.getElem?_set] at hl
   by_cases EN:o=j
   ·subst EN
    rw[if_pos rfl,if_pos ho] at hl
    cases hl
    simp at hm
   ·rw[if_neg EN] at hl
    have:=zfq si j l hl (by omega) _ hm
    cases this
theorem oi{a:Act}{d i:Nat}{v:Value}(hd:d<a.tmps.size):(a.put (some d) v).tmps.getD i Go.undef=if d=i then v else a.tmps.getD i Go.undef:=by
 simp only[Act.put,Array.getD_eq_getD_getElem?,Array.getElem?_setIfInBounds]
 split
 ·first|rfl|(rw[if_pos hd];rfl)
 ·rfl
theorem pJ{a:Act}{d:Nat}{v:Value}:(a.put (some d) v).tmps.size=a.tmps.size:=by simp [Act.put]
theorem raw{ops:Array Oper}{Q:Exit->Act->World->Prop}{i d:Nat}{rest:List Nat}{a:Act}{w:World}{o:Oper}{v:Value}(hi:ops[i]? =some o)(hd:isDst o d=true)(aV:(execOp a.eval o).run P w= .ok (.value v) w)(K:wpOps P ops Q rest (a.put (some d) v) w):wpOps P ops Q (i::rest) a w:=by
 have pF:o.dst=some d/\o.guard=none:=by
  unfold isDst at hd
  split at hd
  ·rename_i d' h1 h2
   exact⟨by rw[h1,Nat.eq_of_beq_eq_true hd],h2⟩
  ·cases hd
 rw[wpOps_cons]
 unfold wpOp
 simp only[hi]
 have hw:Region.wanted o (yielded ops a.tmps)=true:=by simp [Region.wanted,pF.2]
 rw[if_pos hw]
 refine .inl ?_
 unfold Oper.wp
 rw[aV,Oper.upon_value,pF.1]
 exact K
theorem sC{x:Operand}{i:Nat}(h:eA x i=true):x= .tmp i:=by
 unfold eA at h
 split at h
 ·rw[Nat.eq_of_beq_eq_true h]
 ·cases h
theorem G9{T:TypeId}(h:ur E T=true):E.ty T=some (.int .u8):=by
 unfold ur at h
 split at h
 ·assumption
 ·cases h
theorem zqx{T:TypeId}(h:Nr E T=true):∃e,E.ty T=some (.sl e (.int .u8)):=by
 unfold Nr at h
 split at h
 ·exact⟨_,by assumption⟩
 ·cases h
theorem sD{o:Oper}{d x:Nat}(h:AV o d x=true):isDst o d=true/\∀(a:Act) (w:World),(execOp a.eval o).run P w= .ok (.value (a.tmps.getD x Go.undef)) w:=by
 unfold AV at h
 rw[Bool.and_eq_true] at h
 refine⟨h.1,fun a w=> ?_⟩
 have h:=h.2
 split at h
 ·rename_i y ho
  have:=sC h
  subst this
  simp only[execOp,ho]
  rfl
 ·cases h
theorem Nt(hE:ak P E){o:Oper}{d x:Nat}(h:isLen E o d x=true):isDst o d=true/\∀(a:Act) (w:World) A n c,a.tmps.getD x Go.undef= .slice A n c->(execOp a.eval o).run P w= .ok (.value (.int .i64 n)) w:=by
 unfold isLen at h
 rw[Bool.and_eq_true] at h
 refine⟨h.1,fun a w A n c hv=> ?_⟩
 have h:=h.2
 split at h
 ·rename_i dL ts ho
  split at h
  ·rename_i y T oZ yu
   have has:dL= #[y]:=by rw[<-Array.toArray_toList (xs:=dL),oZ]
   have gj:ts= #[T]:=by rw[<-Array.toArray_toList (xs:=ts),yu]
   subst has gj
   rw[Bool.and_eq_true] at h
   have:=sC h.1
   subst this
   obtain⟨e,hT⟩:=zqx h.2
   have hu:=(hE.ty T _ hT).cO
   have ev:a.eval (.tmp x)= .slice A n c:=hv
   simp [execOp,ho,resolve,invoke,builtin,Builtin.len_,ev,run_underlying hu.1,goInt]
  ·cases h
 ·cases h
theorem KZ{o:Oper}{d x:Nat}(h:Po o d x=true):isDst o d=true/\∀(a:Act) (w:World) (n:Int),a.tmps.getD x Go.undef= .int .i64 n->(execOp a.eval o).run P w= .ok (.value (.int .i64 (IntKind.i64.wrap (n-1)))) w:=by
 unfold Po at h
 rw[Bool.and_eq_true] at h
 refine⟨h.1,fun a w n hv=> ?_⟩
 have h:=h.2
 split at h
 ·rename_i T y c T' ho
  rw[Bool.and_eq_true] at h
  have:=sC h.1
  subst this
  have hc:=of_decide_eq_true h.2
  subst hc
  have ev:a.eval (.tmp x)= .int .i64 n:=hv
  have ec:a.eval (.const (.int .i64 1))= .int .i64 1:=rfl
  obtain⟨sv,v,hl,EX,_,hr,_⟩:=zmg (P:=P) (op:= .sub) (T:=T) (k:= .i64) (k':= .i64) (m:=n) (n:=1) w rfl
  cases hl
  have:=xu (hr ⟨w,fun _=> .all,fun _=>none⟩ (fun _=> .r 0 []))
  subst this
  simp only[execOp,ho,Sem.run_bind,ev,ec,Kv,Result.andThen_ok,EX,Sem.run_pure]
 ·cases h
theorem Hm{o:Oper}{d x y:Nat}(h:rj o d x y=true):isDst o d=true/\∀(a:Act) (w:World) (n m:Int),a.tmps.getD x Go.undef= .int .u8 n->a.tmps.getD y Go.undef= .int .u8 m->(execOp a.eval o).run P w= .ok (.value (.int .u8 (IntKind.u8.wrap (n+m)))) w:=by
 unfold rj at h
 rw[Bool.and_eq_true] at h
 refine⟨h.1,fun a w n m hv hu=> ?_⟩
 have h:=h.2
 split at h
 ·rename_i T u v T' ho
  rw[Bool.and_eq_true] at h
  have:=sC h.1
  subst this
  have:=sC h.2
  subst this
  have ev:a.eval (.tmp x)= .int .u8 n:=hv
  have eu:a.eval (.tmp y)= .int .u8 m:=hu
  obtain⟨sv,v,hl,EX,_,hr,_⟩:=zmg (P:=P) (op:= .add) (T:=T) (k:= .u8) (k':= .u8) (m:=n) (n:=m) w rfl
  cases hl
  have:=xu (hr ⟨w,fun _=> .all,fun _=>none⟩ (fun _=> .r 0 []))
  subst this
  simp only[execOp,ho,Sem.run_bind,ev,eu,Kv,Result.andThen_ok,EX,Sem.run_pure]
 ·cases h
theorem Ph(hE:ak P E){o:Oper}{d x i:Nat}(h:uq E o d x i=true):isDst o d=true/\∀(a:Act) (w:World) (g n c:Nat) (j:Int),a.tmps.getD x Go.undef= .slice (some ⟨g,0,none⟩) n c->a.tmps.getD i Go.undef= .int .i64 j->0<=j->j<n->(execOp a.eval o).run P w= .ok (.value (.pointer (some ⟨g,j.toNat,none⟩))) w:=by
 unfold uq at h
 rw[Bool.and_eq_true] at h
 refine⟨h.1,fun a w g n c j hv hj h0 h1=> ?_⟩
 have h:=h.2
 split at h
 ·rename_i T y z ho
  rw[Bool.and_eq_true,Bool.and_eq_true] at h
  have:=sC h.1
  subst this
  have:=sC h.2.1
  subst this
  obtain⟨e,hT⟩:=zqx h.2.2
  have hu:=(hE.ty T _ hT).cO
  have ev:a.eval (.tmp x)= .slice (some ⟨g,0,none⟩) n c:=hv
  have ei:a.eval (.tmp i)= .int .i64 j:=hj
  simp only[execOp,ho,Sem.run_bind,Instr.indexAt,ei,ev,asIntOf,Sem.run_pure,Result.andThen_ok,run_underlying hu.1,Sem.run_ite,h0,h1,and_self,if_true,kL hE hu.2]
  simp [Ty.cells,jw]
 ·cases h
theorem F2(hE:ak P E){o:Oper}{d x:Nat}(h:zV E o d x=true):isDst o d=true/\∀(a:Act) (w:World) (g j:Nat) (y:Int),a.tmps.getD x Go.undef= .pointer (some ⟨g,j,none⟩)->w.cell? ⟨g,j,none⟩=some (.int .u8 y)->(execOp a.eval o).run P w= .ok (.value (.int .u8 y)) w:=by
 unfold zV at h
 rw[Bool.and_eq_true] at h
 refine⟨h.1,fun a w g j y hv hc=> ?_⟩
 have h:=h.2
 split at h
 ·rename_i T z ho
  rw[Bool.and_eq_true] at h
  have:=sC h.1
  subst this
  have hT:=G9 h.2
  have ev:a.eval (.tmp x)= .pointer (some ⟨g,j,none⟩):=hv
  have hl:=Bh (P:=P) hE hT (X:=⟨w,fun _=> .all,fun _=>none⟩) (x:=y) (cs:=[.int .u8 y]) rfl (ad:=⟨g,j,none⟩) (w:=w) (fun k v hk=>by
   cases k with
   |zero=>rw[jw];have hk:Value.int .u8 y=v:=by simpa using hk
          rw[<-hk];exact hc
   |succ k=>simp at hk)
  simp only[execOp,ho,Sem.run_bind,Instr.loadAt,ev,Instr.sureAddr,Sem.run_pure,Result.andThen_ok,hl]
  rfl
 ·cases h
theorem abq(hE:ak P E){ops:Array Oper}{Q:Exit->Act->World->Prop}{o:Oper}{x y:Nat}(h:ri E o x y=true){k:Nat}{rest:List Nat}(hi:ops[k]? =some o){a:Act}{X:ap}{g j:Nat}{z:Int}{cur:Array Value}{T':TypeId}(hv:a.tmps.getD x Go.undef= .pointer (some ⟨g,j,none⟩))(hz:a.tmps.getD y Go.undef= .int .u8 z)(hg:X.w.heap[g]? =some (.cells cur T' (0,0)))(hj:j+1<=cur.size)
 (K:wpOps P ops Q rest (a.put none Go.undef) (X.row g (cur.toList.take j++ [Value.int .u8 z]++cur.toList.drop (j+1)).toArray).w):wpOps P ops Q (k::rest) a X.w:=by
 unfold ri at h
 rw[Bool.and_eq_true] at h
 have pF:o.dst=none/\o.guard=none:=by
  have h:=h.1
  split at h
  ·exact⟨by assumption,by assumption⟩
  ·cases h
 have h:=h.2
 rw[wpOps_cons]
 unfold wpOp
 simp only[hi]
 have hw:Region.wanted o (yielded ops a.tmps)=true:=by simp [Region.wanted,pF.2]
 rw[if_pos hw]
 refine .inl ?_
 unfold Oper.wp
 split at h
 ·rename_i T u v ho
  rw[Bool.and_eq_true,Bool.and_eq_true] at h
  have:=sC h.1
  subst this
  have:=sC h.2.1
  subst this
  have hT:=G9 h.2.2
  have ev:a.eval (.tmp x)= .pointer (some ⟨g,j,none⟩):=hv
  have ez:a.eval (.tmp y)= .int .u8 z:=hz
  have cp:=Kx (P:=P) hE hT (X:=X) (x:=z) (cs:=[.int .u8 z]) rfl (off:=j) (w:=X.w) (r:=g) (cur:=cur) (T':=T') hg hj
  have EF:dp (.int .u8) [.int .u8 z]= .int .u8 z:=rfl
  rw[EF] at cp
  have aV:(execOp a.eval o).run P X.w= .ok .skip (X.row g (cur.toList.take j++ [Value.int .u8 z]++cur.toList.drop (j+1)).toArray).w:=by
   simp only[execOp,ho,Sem.run_bind,Instr.storeAt,ev,Instr.sureAddr,Sem.run_pure,Result.andThen_ok,ez,cp]
   rfl
  rw[aV,Oper.upon_skip,pF.1]
  exact K
 ·cases h
theorem zxd:∀(n m:Nat) (sl:List (List SV)),(jf n m sl).length=sl.length
 |0,m,sl=>rfl
 |n+1,m,sl=>by rw[jf,zxd n (m+1),List.length_set]
def dead(s:State)(d:Nat):State:=s.aG (some d) [.undef]
theorem Rel.dead(hr:Rel X s a)(d:Nat)(v:Value):Rel X (Ref.dead s d) (a.put (some d) v):=hr.put (fun _ _=>trivial) (fun id t p hm=>by simp at hm)
theorem Wh(hE:ak P E){X0:ap}(hF:∀g pl n,X0.ow g≠ .row pl n)(hx:Ext X0 X)(hr:Rel X s a){q:Nat×Nat×Nat}{id:Nat}{ops:Array Oper}{s':State}(h:ke E q ops.toList s some=some s'){Q:Exit->Act->World->Prop}(hQ:∀Y a',Ext X0 Y->Rel Y s' a'->Q .normal a' Y.w):(Code.region id ops false).wp P Q a X.w:=by
 obtain⟨o,x,m⟩:=q
 unfold ke at h
 simp only at h
 cases io:zY E o x m ops.toList with
 |false=>rw[io] at h;cases h
 |true=>
 rw[io,cond_true] at h
 cases hb:(Nat.ble (o+1) m&&(Nat.ble (x+1) m&&(!(Nat.beq o x)&&Nat.ble (m+13) s.sl.length))) with
 |false=>rw[hb] at h;cases h
 |true=>
 rw[hb,cond_true] at h
 simp only[Bool.and_eq_true,Bool.not_eq_true',Nat.ble_eq] at hb
 obtain⟨hom,hxm,hox,yK⟩:=hb
 split at h
 case h_2=>cases h
 rename_i et xs own y ow2 iq Qr
 cases bM:mh own [] with
 |false=>rw[bM] at h;cases h
 |true=>
 rw[bM,cond_true] at h
 cases si:(jZ o 0 (jf 13 m s.sl)&&s.bs.all Option.isNone) with
 |false=>rw[si] at h;cases h
 |true=>
 rw[si,cond_true] at h
 rw[Bool.and_eq_true] at si
 obtain⟨h0,h1,h⟩:=xw h
 cases h
 generalize hj:IntKind.i64.wrap ((List.length xs:Int)-1)=j at h0 h1
 have hi:j.toNat<xs.length:=by omega
 obtain⟨g,c,cur,hR⟩:=abm hr iq bM hi
 have di:m+13<=a.tmps.size:=by rw[<-hr.size];exact yK
 have hy:a.tmps.getD x Go.undef= .int .u8 y:=by
  have jb:=hr.slot x
  rw[Qr] at jb
  exact xu (show au X (.c x 0) (.ah (.int .u8) y ow2) _ from jb)
 have hgx:xs[j.toNat]? =some (xs.getD j.toNat 0):=by rw[List.getD_eq_getElem?_getD,List.getElem?_eq_getElem hi];rfl
 have uc:=hR.cell _ _ hgx
 unfold zY at io
 split at io
 case h_2=>cases io
 rename_i o0 o1 o2 o3 o4 o5 o6 o7 o8 o9 QP Ra Rl Rw mN
 simp only[Bool.and_eq_true] at io
 obtain⟨k0,k1,k2,k3,k4,k5,k6,k7,k8,k9,k10,k11,k12,k13⟩:=io
 have cq:∀i,ops[i]? =([o0,o1,o2,o3,o4,o5,o6,o7,o8,o9,QP,Ra,Rl,Rw]:List Oper)[i]? :=fun i=>by rw[<-Array.getElem?_toList,mN]
 have b8:ops.size=14:=by rw[<-Array.length_toList,mN];rfl
 refine wp_region ?_
 rw[b8,show List.range 14=[0,1,2,3,4,5,6,7,8,9,10,11,12,13] from rfl]
 have vo:=hR.val
 generalize yR:(Value.slice (some ⟨g,0,none⟩) xs.length c)=vs at vo
 refine raw (cq 0) (sD (P:=P) k0).1 ((sD k0).2 a X.w) ?_
 rw[vo]
 have e1:=fun i=>oi (i:=i) (v:=vs) (show m<a.tmps.size by omega)
 have r1:=hr.dead m vs
 generalize Qh:a.put (some m) vs=a1 at e1 r1
 have z1:a1.tmps.size=a.tmps.size:=by rw[<-Qh,pJ]
 refine raw (cq 1) (sD (P:=P) k1).1 ((sD k1).2 a1 X.w) ?_
 rw[e1,if_neg (by omega),vo]
 have e2:=fun i=>oi (a:=a1) (i:=i) (v:=vs) (show m+1<a1.tmps.size by omega)
 have r2:=r1.dead (m+1) vs
 generalize hp2:a1.put (some (m+1)) vs=a2 at e2 r2
 have z2:a2.tmps.size=a.tmps.size:=by rw[<-hp2,pJ,z1]
 refine raw (cq 2) (Nt hE k2).1 ((Nt hE k2).2 a2 X.w _ _ _ (by rw[e2,if_pos rfl];exact yR.symm)) ?_
 have e3:=fun i=>oi (a:=a2) (i:=i) (v:= .int .i64 (xs.length:Nat)) (show m+2<a2.tmps.size by omega)
 have r3:=r2.dead (m+2) (.int .i64 (xs.length:Nat))
 generalize hp3:a2.put (some (m+2)) (.int .i64 (xs.length:Nat))=a3 at e3 r3⊢
 have z3:a3.tmps.size=a.tmps.size:=by rw[<-hp3,pJ,z2]
 refine raw (cq 3) (KZ (P:=P) k3).1 ((KZ k3).2 a3 X.w _ (by rw[e3,if_pos rfl])) ?_
 rw[hj]
 have e4:=fun i=>oi (a:=a3) (i:=i) (v:= .int .i64 j) (show m+3<a3.tmps.size by omega)
 have r4:=r3.dead (m+3) (.int .i64 j)
 generalize hp4:a3.put (some (m+3)) (.int .i64 j)=a4 at e4 r4⊢
 have z4:a4.tmps.size=a.tmps.size:=by rw[<-hp4,pJ,z3]
 have q4:∀i,i<m->a4.tmps.getD i Go.undef=a.tmps.getD i Go.undef:=fun i hi=>by rw[e4,if_neg (by omega),e3,if_neg (by omega),e2,if_neg (by omega),e1,if_neg (by omega)]
 have qm:a4.tmps.getD m Go.undef=vs:=by rw[e4,if_neg (by omega),e3,if_neg (by omega),e2,if_neg (by omega),e1,if_pos rfl]
 refine raw (cq 4) (sD (P:=P) k4).1 ((sD k4).2 a4 X.w) ?_
 rw[q4 o (by omega),vo]
 have e5:=fun i=>oi (a:=a4) (i:=i) (v:=vs) (show m+4<a4.tmps.size by omega)
 have r5:=r4.dead (m+4) vs
 generalize hp5:a4.put (some (m+4)) vs=a5 at e5 r5⊢
 have z5:a5.tmps.size=a.tmps.size:=by rw[<-hp5,pJ,z4]
 refine raw (cq 5) (sD (P:=P) k5).1 ((sD k5).2 a5 X.w) ?_
 rw[e5,if_neg (by omega),q4 o (by omega),vo]
 have e6:=fun i=>oi (a:=a5) (i:=i) (v:=vs) (show m+5<a5.tmps.size by omega)
 have r6:=r5.dead (m+5) vs
 generalize hp6:a5.put (some (m+5)) vs=a6 at e6 r6⊢
 have z6:a6.tmps.size=a.tmps.size:=by rw[<-hp6,pJ,z5]
 refine raw (cq 6) (Nt hE k6).1 ((Nt hE k6).2 a6 X.w _ _ _ (by rw[e6,if_pos rfl];exact yR.symm)) ?_
 have e7:=fun i=>oi (a:=a6) (i:=i) (v:= .int .i64 (xs.length:Nat)) (show m+6<a6.tmps.size by omega)
 have r7:=r6.dead (m+6) (.int .i64 (xs.length:Nat))
 generalize hp7:a6.put (some (m+6)) (.int .i64 (xs.length:Nat))=a7 at e7 r7⊢
 have z7:a7.tmps.size=a.tmps.size:=by rw[<-hp7,pJ,z6]
 refine raw (cq 7) (KZ (P:=P) k7).1 ((KZ k7).2 a7 X.w _ (by rw[e7,if_pos rfl])) ?_
 rw[hj]
 have e8:=fun i=>oi (a:=a7) (i:=i) (v:= .int .i64 j) (show m+7<a7.tmps.size by omega)
 have r8:=r7.dead (m+7) (.int .i64 j)
 generalize hp8:a7.put (some (m+7)) (.int .i64 j)=a8 at e8 r8⊢
 have z8:a8.tmps.size=a.tmps.size:=by rw[<-hp8,pJ,z7]
 have q8:∀i,i<=m+3->a8.tmps.getD i Go.undef=a4.tmps.getD i Go.undef:=fun i hi=>by rw[e8,if_neg (by omega),e7,if_neg (by omega),e6,if_neg (by omega),e5,if_neg (by omega)]
 refine raw (cq 8) (Ph hE k8).1 ((Ph hE k8).2 a8 X.w g xs.length c j (by rw[e8,if_neg (by omega),e7,if_neg (by omega),e6,if_neg (by omega),e5,if_pos rfl];exact yR.symm) (by rw[e8,if_pos rfl]) h0 h1) ?_
 have e9:=fun i=>oi (a:=a8) (i:=i) (v:= .pointer (some ⟨g,j.toNat,none⟩)) (show m+8<a8.tmps.size by omega)
 have r9:=r8.dead (m+8) (.pointer (some ⟨g,j.toNat,none⟩))
 generalize hp9:a8.put (some (m+8)) (.pointer (some ⟨g,j.toNat,none⟩))=a9 at e9 r9⊢
 have z9:a9.tmps.size=a.tmps.size:=by rw[<-hp9,pJ,z8]
 refine raw (cq 9) (F2 hE k9).1 ((F2 hE k9).2 a9 X.w g j.toNat _ (by rw[e9,if_pos rfl]) uc) ?_
 generalize hwx:xs.getD j.toNat 0=wx
 have JY:=fun i=>oi (a:=a9) (i:=i) (v:= .int .u8 wx) (show m+9<a9.tmps.size by omega)
 have ju:=r9.dead (m+9) (.int .u8 wx)
 generalize Qi:a9.put (some (m+9)) (.int .u8 wx)=x9 at JY ju⊢
 have z10:x9.tmps.size=a.tmps.size:=by rw[<-Qi,pJ,z9]
 refine raw (cq 10) (sD (P:=P) k10).1 ((sD k10).2 x9 X.w) ?_
 rw[JY,if_neg (by omega),e9,if_neg (by omega),q8 x (by omega),q4 x (by omega),hy]
 have JZ:=fun i=>oi (a:=x9) (i:=i) (v:= .int .u8 y) (show m+10<x9.tmps.size by omega)
 have jl:=ju.dead (m+10) (.int .u8 y)
 generalize Qj:x9.put (some (m+10)) (.int .u8 y)=ya at JZ jl⊢
 have z11:ya.tmps.size=a.tmps.size:=by rw[<-Qj,pJ,z10]
 refine raw (cq 11) (Hm (P:=P) k11).1 ((Hm k11).2 ya X.w wx y (by rw[JZ,if_neg (by omega),JY,if_pos rfl]) (by rw[JZ,if_pos rfl])) ?_
 generalize hwz:IntKind.u8.wrap (wx+y)=wz
 have PL:=fun i=>oi (a:=ya) (i:=i) (v:= .int .u8 wz) (show m+11<ya.tmps.size by omega)
 have kF:=jl.dead (m+11) (.int .u8 wz)
 generalize Qk:ya.put (some (m+11)) (.int .u8 wz)=a12 at PL kF⊢
 have z12:a12.tmps.size=a.tmps.size:=by rw[<-Qk,pJ,z11]
 have RT:∀i,i<=m+3->a12.tmps.getD i Go.undef=a4.tmps.getD i Go.undef:=fun i hi=>by rw[PL,if_neg (by omega),JZ,if_neg (by omega),JY,if_neg (by omega),e9,if_neg (by omega),q8 i hi]
 refine raw (cq 12) (Ph hE k12).1 ((Ph hE k12).2 a12 X.w g xs.length c j (by rw[RT m (by omega),qm];exact yR.symm) (by rw[RT (m+3) (by omega),e4,if_pos rfl]) h0 h1) ?_
 have J0:=fun i=>oi (a:=a12) (i:=i) (v:= .pointer (some ⟨g,j.toNat,none⟩)) (show m+12<a12.tmps.size by omega)
 have jm:=kF.dead (m+12) (.pointer (some ⟨g,j.toNat,none⟩))
 generalize adg:a12.put (some (m+12)) (.pointer (some ⟨g,j.toNat,none⟩))=D9 at J0 jm⊢
 have PU:ml X D9 o et xs own g c cur:=⟨by rw[J0,if_neg (by omega),RT o (by omega),q4 o (by omega),hR.val],hR.heap,hR.cell,hR.le,hR.most,hR.size,hR.ow,hR.own⟩
 refine abq hE k13 (cq 13) (by rw[J0,if_pos rfl]) (by rw[J0,if_neg (by omega),PL,if_pos rfl]) hR.heap (by rw[hR.size];have:=hR.le;omega) ?_
 have Qp:Rel X ⟨jf 13 m s.sl,s.bs⟩ D9:=jm
 obtain⟨hX,bm⟩:=Y7 hF hx Qp (by rw[zxd];omega) si.1 si.2 PU hi wz
 have P5:=hQ _ D9 hX (by
  unfold xp
  rw[hj,hwx,hwz]
  exact bm)
 exact P5
end Go.Ref

namespace Go.Ref
open Go
variable {P:Program} {E:Env} {X:ap} {s:State} {a:Act}
structure mD(X Y:ap)(g0:Nat):Prop where
 heap:∀b,b≠g0->Y.w.heap[b]? =X.w.heap[b]?
 ow:Y.ow=X.ow
 β:Y.β=X.β
theorem mD.av{Y:ap}{g0:Nat}(h:mD X Y g0){ad:Addr}{v:Value}(bZ:ad.block≠g0)(hs:X.av ad v):Y.av ad v:=by
 refine⟨hs.1,?_,?_⟩
 ·have:=hs.2.1
  simp only[World.cell?] at this⊢
  rw[h.heap _ bZ];exact this
 ·rw[h.ow];exact hs.2.2
theorem G4{own:List (List Nat)}{p:List Nat}(h:mh own p=true):p∈own:=by
 unfold mh at h
 obtain⟨q,h1,h2⟩:=List.any_eq_true.1 h
 have:q=p:=by simpa using h2
 rw[<-this];exact h1
def plS(pl:List Nat->Place):List Nat->Place
 |j::p=>pl ((j+1)::p)
 | []=>pl []
theorem Y4{pl:List Nat->Place}{a b:Ty}{x:El (.pair a b)}{c1 c2:List Value}{own:List (List Nat)}(hr:aR X a x.1 c1)(h:bf X pl (.pair a b) x (c1++c2) own):bf X (fun p=>pl (0::p)) a x.1 c1 (JN own [0]):=fun p hp=>by
 unfold JN at hp
 obtain⟨q,hq,rfl⟩:=List.mem_map.1 hp
 obtain⟨hq,eX⟩:=List.mem_filter.1 hq
 match q,eX with
 |0::q,_=>
  obtain⟨e,t',xs,v,g0,g1,g2,g3⟩:=h (0::q) hq
  have g2:(c1++c2)[a.off q]? =some v:=g2
  refine⟨e,t',xs,v,g0,g1,?_,g3⟩
  show c1[a.off q]? =some v
  rw[<-g2,List.getElem?_append_left]
  obtain⟨_,k2,_⟩:=Jd hr (show a.eH q from g0) (show El.get a q x.1=_ from g1)
  have k2:a.off q+1<=a.cells:=k2
  have:=hr.len
  omega
 | [],eX=>simp at eX
 |(j+1)::q,eX=>simp at eX
theorem Y5{pl:List Nat->Place}{a b:Ty}{x:El (.pair a b)}{c1 c2:List Value}{own:List (List Nat)}(hl:c1.length=a.cells)(h:bf X pl (.pair a b) x (c1++c2) own):bf X (plS pl) b x.2 c2 (tW own):=fun p hp=>by
 unfold tW at hp
 obtain⟨q,hq,he⟩:=List.mem_filterMap.1 hp
 match q,he with
 |(j+1)::q,he=>
  cases he
  obtain⟨e,t',xs,v,g0,g1,g2,g3⟩:=h ((j+1)::q) hq
  refine⟨e,t',xs,v,g0,g1,?_,g3⟩
  have g2:(c1++c2)[a.cells+b.off (j::q)]? =some v:=g2
  rw[List.getElem?_append_right (by omega)] at g2
  rw[<-g2]
  congr 1
  omega
 | [],he=>cases he
 |0::q,he=>cases he
theorem bf.Fg{Y:ap}{g0:Nat}(h:mD X Y g0){pl:List Nat->Place}(iA:∀p n,X.ow g0≠ .row (pl p) n){t:Ty}{x:El t}{cs:List Value}{own:List (List Nat)}(ho:bf X pl t x cs own):bf Y pl t x cs own:=fun p hp=>by
 obtain⟨e,t',xs,v,k0,k1,k2,k3⟩:=ho p hp
 refine⟨e,t',xs,v,k0,k1,k2,?_⟩
 rcases k3 with ho|⟨g,cap,cur,h1,h2,h3,h4,h5,h6⟩
 ·exact .inl ho
 ·have bZ:g≠g0:=fun e=>iA p _ (e▸h6)
  exact .inr ⟨g,cap,cur,h1,(h.heap g bZ).trans h2,h3,h4,h5,by rw[h.ow];exact h6⟩
theorem aR.ci{Y:ap}{g0:Nat}(h:mD X Y g0):∀{t:Ty} {x:El t} {cs:List Value} {own:List (List Nat)} {pl:List Nat->Place},(∀p n,X.ow g0≠ .row (pl p) n)->t.ci own=true->aR X t x cs->bf X pl t x cs own->aR Y t x cs
 | .bool,_,_,_,_,_,_,hr,_=>hr
 | .int _,_,_,_,_,_,_,hr,_=>hr
 | .str,_,_,_,_,_,_,hr,_=>hr
 | .unit,_,_,_,_,_,_,hr,_=>hr
 | .aT _ _ _,_,_,_,_,_,hs,_,_=>by cases hs
 | .arr n t,xs,cs,own,pl,_,hs,hr,_=>aR.flat (t:= .arr n t) (show t.flat=true from hs) hr
 | .pair a b,x,cs,own,pl,iA,hs,hr,ho=>by
   have hs:(a.ci (JN own [0])&&b.ci (tW own))=true:=hs
   rw[Bool.and_eq_true] at hs
   obtain⟨c1,c2,h1,h2,h3⟩:=hr
   subst h1
   exact⟨c1,c2,rfl,aR.ci h (pl:=fun p=>pl (0::p)) (fun p n=>iA _ n) hs.1 h2 (Y4 h2 ho),aR.ci h (pl:=plS pl) (fun p n=>by cases p<;>exact iA _ n) hs.2 h3 (Y5 h2.len ho)⟩
 | .sl e t,xs,cs,own,pl,iA,hs,hr,ho=>by
   have hs:(t.flat&&mh own [])=true:=hs
   rw[Bool.and_eq_true] at hs
   obtain⟨A,c,du,hle,dF⟩:=hr
   subst du
   refine⟨A,c,rfl,hle,fun j x hj=> ?_⟩
   obtain⟨ad,dM,e1,e2,e3,e4⟩:=dF j x hj
   subst e1
   refine⟨ad,dM,rfl,e2,e3.flat hs.1,fun i v hi=>h.av ?_ (e4 i v hi)⟩
   obtain⟨e1,t1,xs1,v1,_,hg,hc,bR⟩:=ho [] (G4 hs.2)
   simp only[El.get,Option.some.injEq] at hg
   cases hg
   have wV:v1= .slice (some ad) xs.length c:=by
    have:([Value.slice (some ad) xs.length c]:List Value)[0]? =some v1:=hc
    simpa using this.symm
   subst wV
   rcases bR with⟨h0,_⟩|⟨g,cap,cur,h1,h2,h3,h4,h5,h6⟩
   ·cases h0
   ·injection h1 with k1 k2 k3
    cases k1
    rw[jw]
    intro e
    have e:g=g0:=e
    exact iA [] _ (e▸h6)
theorem au.ci{Y:ap}{g0:Nat}(h:mD X Y g0){pl:List Nat->Place}(iA:∀p n,X.ow g0≠ .row (pl p) n){bs:List (Option bk)}{sv:SV}{v:Value}(hs:sv.ci bs=true)(hr:au X pl sv v):au Y pl sv v:=by
 cases sv with
 |ah t x own=>
  obtain⟨cs,h1,h2,h3⟩:=hr
  exact⟨cs,h1.ci h iA hs h3,h2,h3.Fg h iA⟩
 |undef=>trivial
 |skip=>exact hr
 |cm=>exact hr
 |gn=>exact hr
 |over=>exact hr
 |ptr id t p=>
  obtain⟨r,h1,h2⟩:=hr
  exact⟨r,by rw[h.β];exact h1,h2⟩
 |_=>cases hs
theorem TI{bs:List (Option bk)}{id:Nat}{B:bk}(h:(bs.map Pr)[id]? =some (some B)):bs[id]? =some (some B)/\B.ci=true:=by
 rw[List.getElem?_map] at h
 obtain⟨b0,h0,h1⟩:=Option.map_eq_some_iff.1 h
 cases b0 with
 |none=>cases h1
 |some B0=>
  unfold Pr at h1
  simp only at h1
  cases hb:B0.ci with
  |false=>rw[hb] at h1;cases h1
  |true=>rw[hb] at h1;cases h1;exact⟨h0,hb⟩
structure Pv(X:ap)(o:Nat)(e:TypeId)(k n:Nat)(v:Value)(g c:Nat)(cur:Array Value):Prop where
 val:v= .slice (some ⟨g,0,none⟩) n c
 heap:X.w.heap[g]? =some (.cells cur e (0,0))
 le:n<=c
 size:cur.size=c*k
 ow:X.ow g= .row (.c o 0 []) (n*k)
theorem E9{o:Nat}{e:TypeId}{t:Ty}{xs:List (El t)}{own:List (List Nat)}(hr:Rel X s a)(hs:s.slot o=[.ah (.sl e t) xs own])(bM:mh own []=true){i:Nat}(hi:i<xs.length):∃g c cur,Pv X o e t.cells xs.length (a.tmps.getD o Go.undef) g c cur:=by
 have jb:=hr.slot o
 rw[hs] at jb
 obtain⟨cs,aJ,hv,hO⟩:=(show au X (.c o 0) (.ah (.sl e t) xs own) (a.tmps.getD o Go.undef) from jb)
 obtain⟨e1,t1,xs1,v1,_,hg,hc,bR⟩:=hO [] (G4 bM)
 simp only[El.get,Option.some.injEq] at hg
 cases hg
 obtain⟨A,c,du,hle,dF⟩:=aJ
 subst du
 have hv:a.tmps.getD o Go.undef= .slice A xs.length c:=hv
 have wV:v1= .slice A xs.length c:=by
  have:([Value.slice A xs.length c]:List Value)[0]? =some v1:=hc
  simpa using this.symm
 subst wV
 rcases bR with⟨_,h0⟩|⟨g,cap,cur,h1,h2,h3,h4,h5,h6⟩
 ·have h0:List.length xs=0:=h0
  omega
 injection h1 with k1 k2 k3
 subst k1 k3
 exact⟨g,c,cur,hv,h2,hle,h5,h6⟩
theorem Gf{g:Nat}{new:Array Value}:mD X (X.row g new) g:=⟨fun b hb=>setRow_other X.w g b _ hb,rfl,rfl⟩
theorem Zd{X0:ap}(hF:∀g pl n,X0.ow g≠ .row pl n)(hx:Ext X0 X){g m:Nat}{pl:Place}{new:Array Value}(how:X.ow g= .row pl m):Ext X0 (X.row g new):=by
 have kx:∀b,b≠g->(X.row g new).w.heap[b]? =X.w.heap[b]? :=fun b hb=>setRow_other X.w g b _ hb
 have qU:∀ad v,X0.av ad v->ad.block≠g:=fun ad v dh e0=>by
  have ar:=ap.gy dh
  have hu:=dh.2.2
  cases hw:X0.ow ad.block with
  |all=>have:=(hx.still ad.block ar (by rw[hw];trivial)).1;rw[e0,how] at this;rw[<-e0,hw] at this;cases this
  |ro n=>have:=(hx.still ad.block ar (by rw[hw];trivial)).1;rw[e0,how] at this;rw[<-e0,hw] at this;cases this
  |box id=>rw[hw] at hu;exact hu
  |row pl n=>exact hF _ _ _ hw
 refine⟨fun ad v dh=>Gf.av (qU ad v dh) (hx.av ad v dh),?_,hx.os,hx.tape,hx.output,hx.β0,fun b hb cp=> ?_⟩
 ·have:=hx.size
  simpa [ap.row] using this
 ·have h7:=hx.still b hb cp
  have bZ:b≠g:=fun e0=>by
   have h8:=h7.1
   rw[e0,how] at h8
   rw[e0,<-h8] at cp
   exact cp
  exact⟨h7.1,(kx b bZ).trans h7.2⟩
theorem V7(hr:Rel X s a){x g m:Nat}{new:Array Value}(how:X.ow g= .row (.c x 0 []) m):Rel (X.row g new) (s.ci x) a:=by
 have hB:mD X (X.row g new) g:=Gf
 refine⟨by simpa [State.ci] using hr.size,by simpa [State.ci] using hr.gD,fun j l v hl hv=> ?_,fun id B hb=> ?_,fun j l id t p hl hm=> ?_,hr.defers⟩
 ·simp only[State.ci,List.getElem?_map] at hl
  obtain⟨l0,h0,rfl⟩:=Option.map_eq_some_iff.1 hl
  unfold hold
  cases dP:l0.all (SV.ci s.bs) with
  |false=>trivial
  |true=>
   rw[cond_true]
   rw[List.getElem?_set] at h0
   by_cases Qv:x=j
   ·subst Qv
    rw[if_pos rfl] at h0
    split at h0
    ·cases h0;trivial
    ·cases h0
   ·rw[if_neg Qv] at h0
    exact(hr.bH j l0 v h0 hv).jF fun k sv u hk hu=>hu.ci hB (fun p n e=>by rw[how] at e;injection e with e _;injection e with e _;exact Qv e) (List.all_eq_true.1 dP sv (List.mem_of_getElem? hk))
 ·obtain⟨h1,h2⟩:=TI hb
  obtain⟨r,k1,k2⟩:=hr.boxes id B h1
  unfold bk.ci at h2
  rw[Bool.and_eq_true] at h2
  have eK:B.t.bE=false:=by simpa using h2.1
  obtain⟨cs,T,aF,aJ,mO,bM⟩:=k2.cells eK
  have bZ:r≠g:=fun e=>by rw[e,how] at mO;cases mO
  have iA:∀p n,X.ow g≠ .row (.b id p) n:=fun p n e=>by rw[how] at e;injection e with e _;cases e
  exact⟨r,k1,by rw[hB.ow];exact mO,cY.of eK ((hB.heap r bZ).trans aF) (aJ.ci hB iA h2.2 bM) (bM.Fg hB iA)⟩
 ·simp only[State.ci,List.getElem?_map] at hl
  obtain⟨l0,h0,rfl⟩:=Option.map_eq_some_iff.1 hl
  unfold hold at hm
  cases dP:l0.all (SV.ci s.bs) with
  |false=>rw[dP] at hm;simp at hm
  |true=>
   rw[dP,cond_true] at hm
   have h1:=List.all_eq_true.1 dP _ hm
   unfold SV.ci at h1
   simp only at h1
   split at h1
   case h_2=>cases h1
   rename_i B hB
   have hb:=pI (s:=s) hB
   exact⟨B,by simp only[State.ci,List.getElem?_map,hb,Option.map_some,Pr,h1,cond_true]⟩
theorem zqz{α:Type}:∀{l r:List α} {x y:α},Ns l=some (r,x,y)->l=r++ [x,y]
 | [],_,_,_,h=>by cases h
 | [_],_,_,_,h=>by cases h
 | [a,b],_,_,_,h=>by cases h;rfl
 |a::b::c::r,_,_,_,h=>by
  simp only[Ns] at h
  split at h
  case h_2=>cases h
  rename_i l x y hl
  cases h
  have:=zqz (l:=b::c::r) hl
  rw[this];rfl
theorem Gi(hE:ak P E){C:af}(hC:C.Nat)(hf:∀f,cK P C f){ops:Array Oper}{s':State}{Q:Exit->Act->World->Prop}{rest:List Nat}:∀(l:List Nat) (X:ap) (s:State) (a:Act),Rel X s a->(∀i∈l,i<ops.size)->
 steps E (C State) ops.toList (l.map fun i=>ops.getD i default) s some=some s'->(∀Y a',Ext X Y->Rel Y s' a'->wpOps P ops Q rest a' Y.w)->wpOps P ops Q (l++rest) a X.w
 | [],X,s,a,hr,_,h,hQ=>by
   cases h
   exact hQ X a (Ext.refl X) hr
 |i::r,X,s,a,hr,hl,h,hQ=>by
  simp only[List.map_cons,steps] at h
  obtain⟨s1,h1,h2⟩:=kO (zn0 hC (F:=fun s=>steps E (C State) ops.toList (r.map fun i=>ops.getD i default) s some) (G:=some) (K:=fun s=>steps E (C State) ops.toList (r.map fun i=>ops.getD i default) s some) (fun _=>rfl)) h
  have hi:ops[i]? =some (ops.getD i default):=by
   have:=hl i (by simp)
   simp [this]
  rw[List.cons_append,wpOps_cons]
  refine zvp hE hr hC hf hi h1 fun Y a' aZ bm=> ?_
  exact Gi hE hC hf r Y s1 a' bm (fun j hj=>hl j (List.mem_cons_of_mem _ hj)) h2 fun Z a2 bO cV=>hQ Z a2 (aZ.trans bO) cV
theorem Y6(hE:ak P E){X0:ap}(hF:∀g pl n,X0.ow g≠ .row pl n)(hx:Ext X0 X)(hr:Rel X s a){ops:Array Oper}{k l:Nat}{oA oS:Oper}(hA:ops[k]? =some oA)(hS:ops[l]? =some oS){s':State}(h:hM E oA oS s some=some s'){Q:Exit->Act->World->Prop}(hQ:∀Y a',Ext X0 Y->Rel Y s' a'->Q .normal a' Y.w):wpOps P ops Q [k,l] a X.w:=by
 unfold hM at h
 split at h
 case h_2=>cases h
 rename_i T x i T' d vo hoA hoS
 cases io:(isDst oA d&&(!(Nat.beq x d)&&rB oS)) with
 |false=>rw[io] at h;cases h
 |true=>
 rw[io,cond_true] at h
 rw[Bool.and_eq_true,Bool.and_eq_true] at io
 obtain⟨hd,Qu,pF⟩:=io
 have pF:oS.dst=none/\oS.guard=none:=by
  unfold rB at pF
  split at pF
  ·exact⟨by assumption,by assumption⟩
  ·cases pF
 have Qu:x≠d:=fun e=>by rw[e] at Qu;simp at Qu
 unfold rF at h
 split at h
 case h_2=>cases h
 rename_i e t xs own Qr
 cases hb:mh own [] with
 |false=>rw[hb] at h;cases h
 |true=>
 rw[hb,cond_true] at h
 split at h
 case h_2=>cases h
 rename_i u w hT wG
 cases hu:(u.b7 (.sl e t)&&(w.b7 t&&Nat.ble (d+1) s.sl.length)) with
 |false=>rw[hu] at h;cases h
 |true=>
 rw[hu,cond_true] at h
 rw[Bool.and_eq_true,Bool.and_eq_true] at hu
 have:=Ty.aH hu.1
 subst this
 have:=Ty.aH hu.2.1
 subst this
 have hds:d<a.tmps.size:=by rw[<-hr.size];exact Nat.le_of_ble_eq_true hu.2.2
 obtain⟨n,kk,h,hn⟩:=zmu h
 obtain⟨y,h,hy⟩:=zz h
 obtain⟨h0,h1,h⟩:=xw h
 cases h
 have hi:n.toNat<xs.length:=by omega
 obtain⟨g,c,cur,hR⟩:=E9 hr Qr hb hi
 have fP:=hn X _ _ (hr.ay i)
 have hU:=hE.ty T _ hT
 have ev:a.eval (.tmp x)= .slice (some ⟨g,0,none⟩) xs.length c:=hR.val
 have EU:(execOp a.eval oA).run P X.w= .ok (.value (.pointer (some ⟨g,n.toNat*w.cells,none⟩))) X.w:=by
  have ar:n<(xs.length:Int):=h1
  simp only[execOp,hoA,Sem.run_bind,Instr.indexAt,fP,ev,asIntOf,Sem.run_pure,Result.andThen_ok,run_underlying hU.cO.1,Sem.run_ite,h0,ar,and_self,if_true,kL hE hU.cO.2]
  simp [jw]
 refine raw hA hd EU ?_
 have fU:Rel X (s.aG (some d) [.undef]) (a.put (some d) (.pointer (some ⟨g,n.toNat*w.cells,none⟩))):=hr.put (fun _ _=>trivial) (fun id t p hm=>by simp at hm)
 have evd:(a.put (some d) (.pointer (some ⟨g,n.toNat*w.cells,none⟩))).eval (.tmp d)= .pointer (some ⟨g,n.toNat*w.cells,none⟩):=by
  show(a.put (some d) _).tmps.getD d Go.undef=_
  rw[oi hds,if_pos rfl]
 generalize a.put (some d) (.pointer (some ⟨g,n.toNat*w.cells,none⟩))=a1 at fU evd⊢
 obtain⟨cs,lR,PN⟩:=hy X _ _ (fU.ay vo)
 have hle:(n.toNat+1)*w.cells<=c*w.cells:=Nat.mul_le_mul_right _ (by have:=hR.le;omega)
 rw[Nat.add_mul,Nat.one_mul] at hle
 have cp:=Kx (P:=P) hE wG lR (r:=g) (off:=n.toNat*w.cells) (w:=X.w) hR.heap (by rw[hR.size];exact hle)
 rw[wpOps_cons]
 unfold wpOp
 simp only[hS]
 have hw:Region.wanted oS (yielded ops a1.tmps)=true:=by simp [Region.wanted,pF.2]
 rw[if_pos hw]
 refine .inl ?_
 unfold Oper.wp
 generalize jE:(cur.toList.take (n.toNat*w.cells)++cs++cur.toList.drop (n.toNat*w.cells+cs.length)).toArray=new at cp
 have aV:(execOp a1.eval oS).run P X.w= .ok .skip (X.row g new).w:=by
  simp only[execOp,hoS,Sem.run_bind,Instr.storeAt,evd,Instr.sureAddr,Sem.run_pure,Result.andThen_ok,PN,cp]
  rfl
 rw[aV,Oper.upon_skip,pF.1]
 exact hQ _ a1 (Zd hF hx hR.ow) (V7 fU hR.ow)
theorem VX(hE:ak P E){C:af}(hC:C.Nat)(hf:∀f,cK P C f){X0:ap}(hF:∀g pl n,X0.ow g≠ .row pl n)(hx:Ext X0 X)(hr:Rel X s a){id:Nat}{ops:Array Oper}{s':State}(h:kc E (C State) ops.toList s some=some s'){Q:Exit->Act->World->Prop}(hQ:∀Y a',Ext X0 Y->Rel Y s' a'->Q .normal a' Y.w):(Code.region id ops false).wp P Q a X.w:=by
 unfold kc at h
 split at h
 case h_2=>cases h
 rename_i l oA oS hl
 obtain⟨s1,h1,h2⟩:=kO (Io hC (F:=fun s=>hM E oA oS s some) (G:=some) (K:=fun s=>hM E oA oS s some) (fun _=>rfl) l s) h
 have mN:=zqz hl
 have b8:ops.size=l.length+2:=by rw[<-Array.length_toList,mN];simp
 refine wp_region ?_
 have mQ:List.range ops.size=List.range l.length++ [l.length,l.length+1]:=by
  rw[b8,List.range_succ,List.range_succ,List.append_assoc];rfl
 rw[mQ]
 have hA:ops[l.length]? =some oA:=by rw[<-Array.getElem?_toList,mN,List.getElem?_append_right (Nat.le_refl _),Nat.sub_self];rfl
 have hS:ops[l.length+1]? =some oS:=by rw[<-Array.getElem?_toList,mN,List.getElem?_append_right (by omega),Nat.add_sub_cancel_left];rfl
 have oX:(List.range l.length).map (fun i=>ops.getD i default)=l:=by
  apply List.ext_getElem?
  intro i
  rw[List.getElem?_map]
  by_cases hi:i<l.length
  ·have h3:ops[i]? =l[i]? :=by rw[<-Array.getElem?_toList,mN,List.getElem?_append_left hi]
   have h4:i<ops.size:=by omega
   rw[List.getElem?_range hi,<-h3]
   simp [h4]
  ·rw[List.getElem?_eq_none (by simpa using hi),List.getElem?_eq_none (by omega)];rfl
 refine Gi hE hC hf (List.range l.length) X s a hr (fun i hi=>by have:=List.mem_range.1 hi;omega) (by rw[oX];exact h1) fun Y a' aZ bm=> ?_
 exact Y6 hE hF (hx.trans aZ) bm hA hS h2 hQ
end Go.Ref

namespace Go.Ref
open Go
variable {P:Program} {E:Env} {X:ap} {s:State} {a:Act}
def Ex.exit':Ex->Exit
 | .normal=> .normal
 | .exit id=> .exit id
 | .ret=> .ret
theorem Wv{Q:Exit->Act->World->Prop}{c:Code}(I:Nat->Act->World->Prop)(round:∀n a w,I n a w->∃m,n=m+1/\c.wp P (Exit.then (I m) Q) a w){n:Nat}{a:Act}{w:World}(h₀:I n a w):(Code.loop c).wp P Q a w:=by
 intro b k cs
 have key:∀n a w,I n a w->∃e a' w',Q e a' w'/\Arrives P (lone (b.at a (.code c:: .inLoop c::k)) cs w) b k cs e a' w':=by
  intro n
  induction n with
  |zero=>intro a w h;obtain⟨m,hm,_⟩:=round 0 a w h;cases hm
  |succ n ih=>
   intro a w h
   obtain⟨m,hm,hr⟩:=round (n+1) a w h
   cases hm
   obtain⟨e,a₁,w₁,hq,lB⟩:=hr b (.inLoop c::k) cs
   cases e with
   |normal=>
    obtain⟨e₂,a₂,w₂,hq₂,harr₂⟩:=ih a₁ w₁ hq
    exact⟨e₂,a₂,w₂,hq₂,.of_steps (Steps.trans lB (.one step_inLoop)) harr₂⟩
   |exit id=>exact⟨_,a₁,w₁,hq,.pass (x:= .inLoop c) rfl (fun _ _=> .inl (by simp)) lB⟩
   |goto l=>exact⟨_,a₁,w₁,hq,.pass (x:= .inLoop c) rfl (fun _ _=> .inl (by simp)) lB⟩
   |ret=>exact⟨_,a₁,w₁,hq,.pass (x:= .inLoop c) rfl (fun _ _=> .inl (by simp)) lB⟩
   |panic ch=>exact⟨_,a₁,w₁,hq,.pass (x:= .inLoop c) rfl (fun _ _=> .inl (by simp)) lB⟩
   |outgrown=>exact⟨_,a₁,w₁,hq,.pass (x:= .inLoop c) rfl (fun _ _=> .inl (by simp)) lB⟩
 obtain⟨e,a',w',hq,lB⟩:=key n a w h₀
 exact⟨e,a',w',hq,.of_steps (.one step_loop) lB⟩
theorem Il{α:Type}(z:α)(l:List Nat):∀(xs:List α) (i j:Nat),(eZ z l i xs)[j]? =(xs[j]?).map fun x=>bif l.any (Nat.beq (i+j)) then x else z
 | [],i,j=>by simp [eZ]
 |x::r,i,0=>by simp [eZ]
 |x::r,i,j+1=>by
  simp only[eZ,List.getElem?_cons_succ]
  rw[Il z l r (i+1) j,show i+1+j=i+(j+1) by omega]
theorem zfx{α:Type}(z:α)(l:List Nat):∀(xs:List α) (i:Nat),(eZ z l i xs).length=xs.length
 | [],i=>rfl
 |x::r,i=>by simp [eZ,zfx z l r]
theorem F4{p q:List Nat}:∀{l:List (List Nat)},q∈rh p l->q=p\/q∈l
 | [],h=>by simp [rh] at h;exact .inl h
 |r::l,h=>by
  simp only[rh] at h
  cases hl:QH r p with
  |false=>rw[hl] at h;simpa using h
  |true=>
   rw[hl] at h
   rcases List.mem_cons.1 h with h|h
   ·exact .inr (by simp [h])
   ·rcases F4 h with h|h
    ·exact .inl h
    ·exact .inr (List.mem_cons_of_mem _ h)
theorem zfy{q:List Nat}:∀{l:List (List Nat)},q∈n6 l->q∈l
 | [],h=>h
 |p::l,h=>by
  rcases F4 h with h|h
  ·simp [h]
  ·exact List.mem_cons_of_mem _ (zfy h)
theorem Y2{v:SV}{id:Nat}{t:Ty}{p:List Nat}(h:v.norm= .ptr id t p):v= .ptr id t p:=by
 cases v<;>simp [SV.norm] at h
 obtain⟨h1,h2,h3⟩:=h
 rw[h1,h2,h3]
theorem au.norm{pl:List Nat->Place}{sv:SV}{v:Value}(hr:au X pl sv v):au X pl sv.norm v:=by
 cases sv with
 |ah t x own=>
  obtain⟨cs,h1,h2,h3⟩:=hr
  exact⟨cs,h1,h2,fun p hp=>h3 p (zfy hp)⟩
 |_=>exact hr
theorem cu.norm{pl:Nat->List Nat->Place}{l:List SV}{v:Value}(hr:cu X pl l v):cu X pl (l.map SV.norm) v:=by
 match l,hr with
 | [s],hr=>exact au.norm hr
 | [],hr=>exact hr
 |x::y::r,⟨vs,h1,h2,h3⟩=>
  refine⟨vs,h1,by simpa using h2,fun j s u hs hu=> ?_⟩
  have hs:((x::y::r).map SV.norm)[j]? =some s:=hs
  rw[List.getElem?_map] at hs
  obtain⟨s0,fQ,rfl⟩:=Option.map_eq_some_iff.1 hs
  exact au.norm (h3 j s0 u fQ hu)
theorem cY.less{r:Nat}{pl:List Nat->Place}{t:Ty}{x:El t}{own lQ:List (List Nat)}(ho:∀p∈lQ,p∈own)(h:cY X r pl t x own):cY X r pl t x lQ:=by
 unfold cY at h⊢
 split at h
 ·exact h
 ·exact h
 ·exact h
 ·exact⟨h.1,fun hm=>h.2 (ho [] hm)⟩
 ·exact h.elim
 ·obtain⟨cs,T,h1,h2,h3⟩:=h
  exact⟨cs,T,h1,h2,fun p hp=>h3 p (ho p hp)⟩
theorem Rel.norm(hr:Rel X s a):Rel X s.norm a where
 size:=by simpa [State.norm] using hr.size
 gD:=by simpa [State.norm] using hr.gD
 bH:=fun i l v hl hv=>by
  simp only[State.norm,List.getElem?_map] at hl
  obtain⟨l0,h0,rfl⟩:=Option.map_eq_some_iff.1 hl
  exact cu.norm (hr.bH i l0 v h0 hv)
 boxes:=fun id B hB=>by
  simp only[State.norm,List.getElem?_map] at hB
  obtain⟨b0,h0,h1⟩:=Option.map_eq_some_iff.1 hB
  obtain⟨B0,rfl,rfl⟩:=Option.map_eq_some_iff.1 h1
  obtain⟨r,g1,g2,g3⟩:=hr.boxes id B0 h0
  exact⟨r,g1,g2,g3.less fun p hp=>zfy hp⟩
 live:=fun i l id t p hl hm=>by
  simp only[State.norm,List.getElem?_map] at hl
  obtain⟨l0,h0,rfl⟩:=Option.map_eq_some_iff.1 hl
  obtain⟨v0,hv0,he⟩:=List.mem_map.1 hm
  rw[Y2 he] at hv0
  obtain⟨B,hB⟩:=hr.live i l0 id t p h0 hv0
  exact⟨B.norm,by simp [State.norm,hB]⟩
 defers:=hr.defers
theorem Ii(hr:Rel X s a){l:List Nat}{R:Type}{K:State->Option R}{z:R}(h:pq l s K=some z):∃s',K s'=some z/\Rel X s' a:=by
 unfold pq at h
 simp only at h
 cases hb:(eZ [.undef] l 0 s.sl).all (fun v=>v.all (SV.roots l)) with
 |false=>rw[hb] at h;cases h
 |true=>
  rw[hb] at h
  refine⟨_,h,Rel.norm ?_⟩
  have jr:s.bs=s.bs.headD none::s.bs.tail:=by
   have:=hr.gD
   cases hs:s.bs with
   |nil=>rw[hs] at this;simp at this
   |cons b r=>rfl
  have cq:∀(id:Nat) B,(s.bs.headD none::eZ none l 0 s.bs.tail)[id]? =some (some B)->s.bs[id]? =some (some B):=by
   intro id B hB
   rw[jr]
   cases id with
   |zero=>exact hB
   |succ id=>
    simp only[List.getElem?_cons_succ] at hB⊢
    rw[Il] at hB
    obtain⟨x,hx,he⟩:=Option.map_eq_some_iff.1 hB
    rw[hx]
    cases hl:l.any (Nat.beq (0+id))<;>rw[hl] at he
    ·cases he
    ·rw[<-he];rfl
  refine⟨by rw[zfx];exact hr.size,?_,fun i v x hv hx=> ?_,fun id B hB=>hr.boxes id B (cq id B hB),fun i v id t p hv hm=> ?_,hr.defers⟩
  ·simp only[List.length_cons,zfx,List.length_tail]
   have:=hr.gD
   omega
  ·rw[Il] at hv
   obtain⟨y,hy,rfl⟩:=Option.map_eq_some_iff.1 hv
   cases hl:l.any (Nat.beq (0+i)) with
   |false=>trivial
   |true=>exact hr.bH i y x hy hx
  ·have ES:SV.roots l (.ptr id t p)=true:=by
    have:=List.all_eq_true.1 hb v (List.mem_of_getElem? hv)
    exact List.all_eq_true.1 this _ hm
   rw[Il] at hv
   obtain⟨y,hy,he⟩:=Option.map_eq_some_iff.1 hv
   have Qa:SV.ptr id t p∈y:=by
    cases hl:l.any (Nat.beq (0+i)) with
    |false=>rw[hl] at he;subst he;simp at hm
    |true=>rw[hl] at he;subst he;exact hm
   obtain⟨B,hB⟩:=hr.live i y id t p hy Qa
   refine⟨B,?_⟩
   rw[jr] at hB
   cases id with
   |zero=>exact hB
   |succ id=>
    simp only[List.getElem?_cons_succ] at hB⊢
    rw[Il,hB]
    have:l.any (Nat.beq id)=true:=ES
    have h2:l.any (Nat.beq (0+id))=true:=by rw[Nat.zero_add];exact this
    simp [this]
theorem Yo{Y:ap}{id:Nat}{pl:Nat->List Nat->Place}{l:List SV}{v:Value}(hr:cu Y pl l v):cu Y pl (tV id l) v:=by
 have key:∀(sv:SV) (q:List Nat->Place) (w:Value),au Y q sv w->au Y q (match sv with
  | .ptr j _ _=>bif Nat.beq j id then .undef else sv
  |v=>v) w:=by
  intro sv q w h
  cases sv with
  |ptr j t p=>
   simp only
   cases Nat.beq j id with
   |true=>trivial
   |false=>exact h
  |_=>exact h
 match l,hr with
 | [sv],hr=>exact key sv _ _ hr
 | [],hr=>exact hr
 |x::y::r,⟨vs,h1,h2,h3⟩=>
  refine⟨vs,h1,by simpa [tV] using h2,fun j s u hs hu=> ?_⟩
  have hs:(tV id (x::y::r))[j]? =some s:=hs
  unfold tV at hs
  rw[List.getElem?_map] at hs
  obtain⟨s0,fQ,rfl⟩:=Option.map_eq_some_iff.1 hs
  exact key s0 _ _ (h3 j s0 u fQ hu)
theorem aa4{id:Nat}{l:List SV}{j:Nat}{t:Ty}{p:List Nat}(h:SV.ptr j t p∈tV id l):SV.ptr j t p∈l/\j≠id:=by
 unfold tV at h
 obtain⟨s0,fQ,he⟩:=List.mem_map.1 h
 cases s0 with
 |ptr j' t' p'=>
  simp only at he
  cases hb:Nat.beq j' id with
  |true=>rw[hb] at he;cases he
  |false=>
   rw[hb] at he
   cases he
   exact⟨fQ,fun e=>Nat.ne_of_beq_eq_false hb e⟩
 |_=>simp only at he;cases he
def ap.still(X:ap)(r n:Nat):ap:={X with ow:=fun g=>if g=r then .ro n else X.ow g}
theorem uN{r n id:Nat}(h:X.ow r= .box id){ad:Addr}{v:Value}(hs:X.av ad v):(X.still r n).av ad v:=by
 have bZ:ad.block≠r:=fun e=>by
  have:=hs.2.2
  rw[e,h] at this
  exact this
 refine⟨hs.1,hs.2.1,?_⟩
 simp only[ap.still]
 rw[if_neg bZ]
 exact hs.2.2
theorem zxu{r n id:Nat}(h:X.ow r= .box id):Ext X (X.still r n) where
 av:=fun _ _=>uN h
 size:=Nat.le_refl _
 os:=rfl
 tape:=rfl
 output:=rfl
 β0:=rfl
 still:=fun g _ cp=>by
  have bZ:g≠r:=fun e=>by rw[e,h] at cp;exact cp
  exact⟨by simp only[ap.still];rw[if_neg bZ],rfl⟩
theorem bg.dA{r n id:Nat}(h:X.ow r= .box id){pl:Place}{e:TypeId}{k m:Nat}{v:Value}(ho:bg X pl e k m v):bg (X.still r n) pl e k m v:=by
 rcases ho with ho|⟨g,cap,cur,h1,h2,h3,h4,h5,h6⟩
 ·exact .inl ho
 ·have bZ:g≠r:=fun e=>by rw[e,h] at h6;cases h6
  exact .inr ⟨g,cap,cur,h1,h2,h3,h4,h5,by simp only[ap.still];rw[if_neg bZ];exact h6⟩
theorem bf.dA{r n id:Nat}(h:X.ow r= .box id){pl:List Nat->Place}{t:Ty}{x:El t}{c:List Value}{own:List (List Nat)}(ho:bf X pl t x c own):bf (X.still r n) pl t x c own:=fun p hp=>by
 obtain⟨e,t',xs,v,g0,g1,g2,g3⟩:=ho p hp
 exact⟨e,t',xs,v,g0,g1,g2,g3.dA h⟩
theorem au.dA{r n id:Nat}(h:X.ow r= .box id){pl:List Nat->Place}{sv:SV}{v:Value}(hr:au X pl sv v):au (X.still r n) pl sv v:=by
 cases sv with
 |ah t x own=>
  obtain⟨c,h1,h2,h3⟩:=hr
  exact⟨c,h1.al (fun _ _=>uN h),h2,h3.dA h⟩
 |view t x=>
  obtain⟨ad,c,h1,h2,h3,h4⟩:=hr
  exact⟨ad,c,h1,h2,h3.al (fun _ _=>uN h),fun i u hi=>uN h (h4 i u hi)⟩
 |cap f t x u y=>exact sA (fun _ _=>uN h) hr
 |_=>exact hr
theorem zfg(l:List Nat):∀(xs:List (Option bk)) (i j:Nat),(gV l i xs)[j]? =(xs[j]?).map fun b=>bif l.any (Nat.beq (i+j)) then b.map (fun B=>{B with own:=[]}) else b
 | [],i,j=>by simp [gV]
 |x::r,i,0=>by simp [gV]
 |x::r,i,j+1=>by
  simp only[gV,List.getElem?_cons_succ]
  rw[zfg l r (i+1) j,show i+1+j=i+(j+1) by omega]
theorem zwn(l:List Nat):∀(xs:List (Option bk)) (i:Nat),(gV l i xs).length=xs.length
 | [],i=>rfl
 |x::r,i=>by simp [gV,zwn l r]
theorem Rel.drop(hr:Rel X s a)(l:List Nat):Rel X (s.drop l) a where
 size:=hr.size
 gD:=by simp only[State.drop,zwn];exact hr.gD
 bH:=hr.bH
 boxes:=fun id B hB=>by
  simp only[State.drop,zfg] at hB
  obtain⟨b0,h0,h1⟩:=Option.map_eq_some_iff.1 hB
  cases hl:l.any (Nat.beq (0+id)) with
  |false=>rw[hl] at h1;simp only[cond_false] at h1;subst h1;exact hr.boxes id B h0
  |true=>
   rw[hl] at h1
   simp only[cond_true] at h1
   obtain⟨B0,rfl,rfl⟩:=Option.map_eq_some_iff.1 h1
   obtain⟨r,g1,g2,g3⟩:=hr.boxes id B0 h0
   exact⟨r,g1,g2,g3.less fun p hp=>by cases hp⟩
 live:=fun i v id t p hv hm=>by
  obtain⟨B,hB⟩:=hr.live i v id t p hv hm
  simp only[State.drop,zfg,hB,Option.map_some]
  cases l.any (Nat.beq (0+id))<;>exact⟨_,rfl⟩
 defers:=hr.defers
theorem Zk(hr:Rel X s a){r:Nat}{R:Type}{K:State->Option R}{z:R}(h:pd E r s K=some z):∃Y s',Y.w=X.w/\Ext X Y/\K s'=some z/\Rel Y s' a:=by
 unfold pd at h
 split at h
 ·exact⟨X,s,rfl,Ext.refl X,h,hr⟩
 rename_i d T hfz
 split at h
 case h_2=>cases h
 rename_i id n ta tb e t jb hT
 split at h
 case isFalse=>cases h
 rename_i heq
 have:=Ty.aH heq
 subst this
 split at h
 case h_2=>cases h
 rename_i B hB
 split at h
 case isFalse=>cases h
 rename_i dx
 obtain⟨hb,rr,h1,how,cs,T',aF,di,dF⟩:=AB hr hB dx
 generalize(Ty.cast dx B.x:List (El ta))=xs at*
 cases hn:Nat.beq n (List.length xs) with
 |false=>rw[hn] at h;cases h
 |true=>
  rw[hn] at h
  have hn:=Nat.eq_of_beq_eq_true hn
  have hd:d<s.sl.length:=by
   rcases Nat.lt_or_ge d s.sl.length with h1|h1
   ·exact h1
   ·simp [State.slot,List.getElem?_eq_none h1] at jb
  have lJ:=hr.slot d
  rw[jb] at lJ
  obtain⟨r0,hβ,cap,hv,lD⟩:=(show au X (.c d 0) (.ptr id (.aT (.fO n) ta tb) []) _ from lJ)
  rw[h1] at hβ
  cases hβ
  have ar:id<s.bs.length:=(List.getElem?_eq_some_iff.1 hb).1
  refine⟨X.still rr (xs.length*ta.cells),_,rfl,zxu how,h,?_,?_,fun i l v hl hx=> ?_,fun bT B' fk=> ?_,fun i l j t p hl hm=> ?_,hr.defers⟩
  ·simpa using hr.size
  ·simpa using hr.gD
  ·replace hl:((s.sl.map (tV id)).set d [.ah (.sl e ta) xs []])[i]? =some l:=hl
   rw[List.getElem?_set] at hl
   split at hl
   ·rename_i ud
    subst ud
    rw[if_pos (by simpa using hd)] at hl
    cases hl
    have EY:a.tmps.getD d Go.undef=v:=by
     rw[Array.getD_eq_getD_getElem?,hx];rfl
    rw[EY] at hv
    refine⟨[v],?_,rfl,lZ⟩
    rw[hv,hn]
    refine aR.uF rfl (by omega) (fun j y hj=>⟨⟨rr,0,none⟩,_,rfl,rfl,(dF j y hj).al (fun _ _=>uN how),fun i u hi=> ?_⟩)
    have uf:=(List.getElem?_eq_some_iff.1 hj).1
    have hle:(j+1)*ta.cells<=xs.length*ta.cells:=Nat.mul_le_mul_right _ uf
    rw[Nat.add_mul,Nat.one_mul] at hle
    rw[List.getElem?_take] at hi
    split at hi
    case isFalse=>cases hi
    rename_i J9
    rw[List.getElem?_drop] at hi
    refine⟨xA rfl _,?_,?_⟩
    ·rw[jw,Nat.zero_add]
     show X.w.cell? _=_
     simp only[World.cell?,aF]
     simpa using hi
    ·rw[jw,Nat.zero_add]
     show Ow.used (if rr=rr then .ro (xs.length*ta.cells) else X.ow rr) _
     rw[if_pos rfl]
     show j*ta.cells+i<_
     omega
   ·rw[List.getElem?_map] at hl
    obtain⟨l0,h0,rfl⟩:=Option.map_eq_some_iff.1 hl
    exact Yo ((hr.bH i l0 v h0 hx).jF fun j sv u hm jt=>jt.dA how)
  ·replace fk:(s.bs.set id none)[bT]? =some (some B'):=fk
   rw[List.getElem?_set] at fk
   split at fk
   ·rename_i J8
    cases fk
   ·rename_i J8
    obtain⟨r',g1,g2,g3⟩:=hr.boxes bT B' fk
    have bZ:r'≠rr:=fun e2=>by rw[e2,how] at g2;cases g2;exact J8 rfl
    exact⟨r',g1,by simp only[ap.still];rw[if_neg bZ];exact g2,g3.move (fun _ _=>uN how) rfl (fun cs h5=>h5.dA how) fun _ g o ho hw=>⟨ho,by simp only[ap.still];rw[if_neg (fun e3=>by rw[e3,how] at hw;cases hw)];exact hw⟩⟩
  ·replace hl:((s.sl.map (tV id)).set d [.ah (.sl e ta) xs []])[i]? =some l:=hl
   rw[List.getElem?_set] at hl
   split at hl
   ·rw[if_pos (by simpa using hd)] at hl
    cases hl
    simp at hm
   ·rw[List.getElem?_map] at hl
    obtain⟨l0,h0,rfl⟩:=Option.map_eq_some_iff.1 hl
    obtain⟨hm,bZ⟩:=aa4 hm
    obtain⟨B2,cP⟩:=hr.live i l0 j t p h0 hm
    exact⟨B2,by show(s.bs.set id none)[j]? =_;rw[List.getElem?_set,if_neg (fun e=>bZ e.symm)];exact cP⟩
theorem zy4(hr:Rel X s a){id rr:Nat}{B:bk}(hb:s.bs[id]? =some (some B))(hs:B.t.bE=false)(h1:X.β id=some rr)(how:X.ow rr= .box id){cs:Array Value}{T:TypeId}(aF:X.w.heap[rr]? =some (.cells cs T (0,0)))(aJ:aR X B.t B.x cs.toList){pl:List Nat->Place}{sv:SV}{v:Value}(h:au X pl sv v):au (X.still rr cs.size) pl (vn id B sv) v:=by
 have cZ:=h.dA (n:=cs.size) how
 cases sv with
 |ptr j t p=>
  unfold vn
  simp only
  cases hj:Nat.beq j id with
  |false=>exact cZ
  |true=>
   have:=Nat.eq_of_beq_eq_true hj
   subst this
   simp only[cond_true]
   split
   case isFalse=>trivial
   rename_i heq
   have:=Ty.aH heq
   subst this
   split
   case h_2=>trivial
   rename_i u y cq
   obtain⟨r0,hβ,hv⟩:=h
   rw[h1] at hβ
   cases hβ
   obtain⟨hv,fP⟩:=(n9 hs).1 hv
   obtain⟨k1,k2,k3⟩:=Jd aJ fP cq
   refine⟨_,_,hv,rfl,k3.al (fun _ _=>uN how),fun i w hi=>⟨xA rfl _,?_,?_⟩⟩
   ·exact KV aF hi
   ·rw[jw]
    show Ow.used (if rr=rr then .ro cs.size else X.ow rr) _
    rw[if_pos rfl]
    rw[List.getElem?_take] at hi
    split at hi
    case isFalse=>cases hi
    rw[List.getElem?_drop] at hi
    have:=(List.getElem?_eq_some_iff.1 hi).1
    show _<cs.size
    simpa using this
 |_=>exact cZ
theorem Wr(hr:Rel X s a){id rr:Nat}{B:bk}(hb:s.bs[id]? =some (some B))(hs:B.t.bE=false)(h1:X.β id=some rr)(how:X.ow rr= .box id){cs:Array Value}{T:TypeId}(aF:X.w.heap[rr]? =some (.cells cs T (0,0)))(aJ:aR X B.t B.x cs.toList){pl:Nat->List Nat->Place}{l:List SV}{v:Value}(h:cu X pl l v):cu (X.still rr cs.size) pl (l.map (vn id B)) v:=by
 match l,h with
 | [sv],h=>exact zy4 hr hb hs h1 how aF aJ h
 | [],⟨vs,g1,g2,g3⟩=>exact⟨vs,g1,g2,fun j sv u ky=>by simp at ky⟩
 |x::y::r,⟨vs,g1,g2,g3⟩=>
  refine⟨vs,g1,by simpa using g2,fun j sv u ky hu=> ?_⟩
  have ky:((x::y::r).map (vn id B))[j]? =some sv:=ky
  rw[List.getElem?_map] at ky
  obtain⟨s0,fQ,rfl⟩:=Option.map_eq_some_iff.1 ky
  exact zy4 hr hb hs h1 how aF aJ (g3 j s0 u fQ hu)
theorem Zp{id:Nat}{B:bk}{l:List SV}{j:Nat}{t:Ty}{p:List Nat}(h:SV.ptr j t p∈l.map (vn id B)):SV.ptr j t p∈l/\j≠id:=by
 obtain⟨s0,fQ,he⟩:=List.mem_map.1 h
 unfold vn at he
 cases s0 with
 |ptr j' t' p'=>
  simp only at he
  cases hb:Nat.beq j' id with
  |true=>
   rw[hb] at he
   simp only[cond_true] at he
   split at he
   ·split at he<;>cases he
   ·cases he
  |false=>
   rw[hb] at he
   cases he
   exact⟨fQ,fun e=>Nat.ne_of_beq_eq_false hb e⟩
 |_=>simp only at he;cases he
theorem SN(hr:Rel X s a){id:Nat}{R:Type}{K:State->Option R}{z:R}(h:Nq id s K=some z):∃Y s',Y.w=X.w/\Ext X Y/\K s'=some z/\Rel Y s' a:=by
 unfold Nq at h
 split at h
 case h_2=>cases h
 rename_i B hB
 split at h
 case isTrue=>cases h
 rename_i hs
 have hs:B.t.bE=false:=by simpa using hs
 have hb:=pI hB
 obtain⟨rr,h1,tY⟩:=hr.boxes id B hb
 obtain⟨cs,T,aF,aJ,how,_⟩:=tY.cells hs
 refine⟨X.still rr cs.size,_,rfl,zxu how,h,by simpa using hr.size,by simpa using hr.gD,fun i l v hl hx=> ?_,fun bT B' fk=> ?_,fun i l j t p hl hm=> ?_,hr.defers⟩
 ·replace hl:(s.sl.map fun l=>l.map (vn id B))[i]? =some l:=hl
  rw[List.getElem?_map] at hl
  obtain⟨l0,h0,rfl⟩:=Option.map_eq_some_iff.1 hl
  exact Wr hr hb hs h1 how aF aJ (hr.bH i l0 v h0 hx)
 ·replace fk:(s.bs.set id none)[bT]? =some (some B'):=fk
  rw[List.getElem?_set] at fk
  split at fk
  ·split at fk<;>cases fk
  ·rename_i J8
   obtain⟨r',g1,g2,g3⟩:=hr.boxes bT B' fk
   have bZ:r'≠rr:=fun e2=>by rw[e2,how] at g2;cases g2;exact J8 rfl
   exact⟨r',g1,by simp only[ap.still];rw[if_neg bZ];exact g2,g3.move (fun _ _=>uN how) rfl (fun cs h5=>h5.dA how) fun _ g o ho hw=>⟨ho,by simp only[ap.still];rw[if_neg (fun e3=>by rw[e3,how] at hw;cases hw)];exact hw⟩⟩
 ·replace hl:(s.sl.map fun l=>l.map (vn id B))[i]? =some l:=hl
  rw[List.getElem?_map] at hl
  obtain⟨l0,h0,rfl⟩:=Option.map_eq_some_iff.1 hl
  obtain⟨hm,bZ⟩:=Zp hm
  obtain⟨B2,cP⟩:=hr.live i l0 j t p h0 hm
  exact⟨B2,by show(s.bs.set id none)[j]? =_;rw[List.getElem?_set,if_neg (fun e=>bZ e.symm)];exact cP⟩
theorem zkt{R:Type}{K:State->Option R}{z:R}:∀(l:List Nat) (X:ap) (s:State),Rel X s a->BR l s K=some z->∃Y s',Y.w=X.w/\Ext X Y/\K s'=some z/\Rel Y s' a
 | [],X,s,hr,h=>⟨X,s,rfl,Ext.refl X,h,hr⟩
 |id::r,X,s,hr,h=>by
  obtain⟨Y,s1,h1,h2,h3,h4⟩:=SN hr h
  obtain⟨Z,s2,k1,k2,k3,k4⟩:=zkt r Y s1 h4 h3
  exact⟨Z,s2,k1.trans h1,h2.trans k2,k3,k4⟩
def Fr(E:Env)(X0:ap):Prop:=E.sp≠none->∀g pl n,X0.ow g≠ .row pl n
def zyk(P:Program)(E:Env)(C:af)(k:Nat)(c:Code):Prop:=
 ∀(X0 X:ap) (s:State) (a:Act) (e:Ex) (s':State),Fr E X0->Ext X0 X->Rel X s a->ev E (C (Ex×State)) k c s (fun e s=>some (e,s))=some (e,s')->
  ∀(Q:Exit->Act->World->Prop),(∀Y a',Ext X0 Y->Rel Y s' a'->Q e.exit' a' Y.w)->c.wp P Q a X.w
theorem YW(hr:Rel X s a){k r:Nat}{R:Type}{K:State->Option R}{z:R}(h:lO E k r s K=some z):∃s',K s'=some z/\Rel X s' a:=by
 unfold lO at h
 split at h
 ·exact⟨s,h,hr⟩
 ·obtain⟨s',h1,h2⟩:=Ii hr h
  refine⟨s',?_,h2⟩
  unfold bP at h1
  split at h1
  ·cases h1
  ·exact h1
theorem VK{C:af}(hC:C.Nat){k:Nat}{b:Code}(hb:zyk P E C k b){l lx:List Nat}{Q:Exit->Act->World->Prop}{e':Ex}{s':State}{X0:ap}(hF:Fr E X0)(hQ:∀Y a',Ext X0 Y->Rel Y s' a'->Q e'.exit' a' Y.w):
 ∀(n:Nat) (a:Act) (w:World),(∃X s,X.w=w/\Ext X0 X/\Rel X s a/\ax (ev E (C (Ex×State)) k b) l lx n s (fun e s=>some (e,s))=some (e',s'))->
  ∃m,n=m+1/\b.wp P (Exit.then (fun a w=>∃X s,X.w=w/\Ext X0 X/\Rel X s a/\ax (ev E (C (Ex×State)) k b) l lx m s (fun e s=>some (e,s))=some (e',s')) Q) a w:=by
 rintro n a w ⟨X,s,rfl,aZ,hr,h⟩
 cases n with
 |zero=>cases h
 |succ m=>
  refine⟨m,rfl,?_⟩
  simp only[ax] at h
  obtain⟨⟨e1,s2⟩,h1,h2⟩:=kO (sL hC b _ (fun e s=>some (e,s)) (K:=fun z=>match z.1 with
   | .normal=>pq l z.2 fun s=>ax (ev E (C (Ex×State)) k b) l lx m s (fun e s=>some (e,s))
   |e=>pq lx z.2 fun s=>some (e,s)) (fun e s=>by cases e<;>rfl) s) h
  refine hb X0 X s a e1 s2 hF aZ hr h1 _ fun Y a' bO bm=> ?_
  cases e1 with
  |normal=>
   obtain⟨s3,h3,yO⟩:=Ii bm h2
   exact⟨Y,s3,rfl,bO,yO,h3⟩
  |exit id=>
   obtain⟨s3,h3,yO⟩:=Ii bm h2
   cases h3
   exact hQ Y a' bO yO
  |ret=>
   obtain⟨s3,h3,yO⟩:=Ii bm h2
   cases h3
   exact hQ Y a' bO yO
theorem zg4(hE:ak P E)(hm:P.follows .mixedOrders=true){C:af}(hC:C.Nat)(hf:∀f,cK P C f){id:Nat}{ops:Array Oper}{d:Bool}{X00 X0:ap}{s0:State}{a:Act}{e:Ex}{s':State}(hx:Ext X00 X0)(hr0:Rel X0 s0 a)(h0:BV E (C (Ex×State)) id ops d s0 ((fun e s=>some (e,s)) Ex.normal)=some (e,s')){Q:Exit->Act->World->Prop}(hQ0:∀Y a',Ext X00 Y->Rel Y s' a'->Q e.exit' a' Y.w):(Code.region id ops d).wp P Q a X0.w:=by
 unfold BV at h0
 obtain⟨X1,s1,Ki,wM,h01,fU⟩:=Zk hr0 h0
 obtain⟨X,s,sk,bO,h,hr⟩:=zkt _ X1 s1 fU h01
 have hw:X.w=X0.w:=sk.trans Ki
 have wL:Ext X0 X:=wM.trans bO
 clear h01 fU Ki sk wM bO
 have hQ:∀Y a',Ext X Y->Rel Y s' a'->Q e.exit' a' Y.w:=fun Y a' aZ bm=>hQ0 Y a' (hx.trans (wL.trans aZ)) bm
 rw[<-hw]
 clear h0 hr0 hQ0 wL hw
 cases d with
 |true=>
  simp only[cond_true] at h
  obtain⟨s1,h1,h2⟩:=kO (zc8 hC (F:=fun s=>some (Ex.normal,s)) (G:=some) (K:=fun s=>some (Ex.normal,s)) (fun _=>rfl) ops.toList 0 s []) h
  cases h2
  exact Vy hE hm hC hf hr h1 hQ
 |false=>
  simp only[cond_false] at h
  obtain⟨s1,h1,h2⟩:=kO (Io hC (F:=fun s=>some (Ex.normal,s)) (G:=some) (K:=fun s=>some (Ex.normal,s)) (fun _=>rfl) ops.toList s) h
  cases h2
  refine wp_region (Gj hE hC hf (List.range ops.size) X s a hr (fun i hi=>List.mem_range.1 hi) ?_ hQ)
  have:(List.range ops.size).map (fun i=>ops.getD i default)=ops.toList:=by
   apply List.ext_getElem?
   intro i
   rw[List.getElem?_map]
   by_cases hi:i<ops.size
   ·simp [hi]
   ·simp [hi]
  rw[this];exact h1
theorem Ad(hE:ak P E)(hm:P.follows .mixedOrders=true){C:af}(hC:C.Nat)(hf:∀f,cK P C f)(k:Nat):∀c:Code,zyk P E C k c
 | .skip=>fun X0 X s a e s' hF hx hr h Q hQ=>by
   simp only[ev,Option.some.injEq,Prod.mk.injEq] at h
   obtain⟨rfl,rfl⟩:=h
   exact wp_skip (hQ X a hx hr)
 | .region id ops d=>fun X0 X s a e s' hF hx hr h Q hQ=>by
   simp only[ev] at h
   split at h
   ·rename_i j q kU
    cases hj:Nat.beq id j with
    |true=>
     rw[hj,cond_true] at h
     cases d with
     |true=>cases h
     |false=>
      cases hq:Nat.beq q.2.2 0 with
      |true=>
       simp only[hq,cond_true] at h
       obtain⟨s1,h1,h2⟩:=kO (Gc hC (F:=fun s=>some (Ex.normal,s)) (G:=some) (K:=fun s=>some (Ex.normal,s)) (fun _=>rfl)) h
       cases h2
       exact VX hE hC hf (hF (by rw[kU];exact fun e=>by cases e)) hx hr h1 hQ
      |false=>
      simp only[hq,cond_false] at h
      obtain⟨s1,h1,h2⟩:=kO (Gk (F:=fun s=>some (Ex.normal,s)) (G:=some) (K:=fun s=>some (Ex.normal,s)) (fun _=>rfl)) h
      cases h2
      exact Wh hE (hF (by rw[kU];exact fun e=>by cases e)) hx hr h1 hQ
    |false=>
     rw[hj,cond_false] at h
     exact zg4 hE hm hC hf hx hr h hQ
   ·exact zg4 hE hm hC hf hx hr h hQ
 | .seq x y=>fun X0 X s a e s' hF hx hr h Q hQ=>by
   simp only[ev] at h
   obtain⟨⟨e1,s1⟩,h1,h2⟩:=kO (sL hC x _ (fun e s=>some (e,s)) (K:=fun z=>match z.1 with
    | .normal=>lO E k (rT y) z.2 fun s=>ev E (C (Ex×State)) k y s (fun e s=>some (e,s))
    |e=>some (e,z.2)) (fun e s=>by cases e<;>rfl) s) h
   refine wp_seq (Ad hE hm hC hf k x X0 X s a e1 s1 hF hx hr h1 _ fun Y a' aZ bm=> ?_)
   cases e1 with
   |normal=>
    obtain⟨s2,h2,bm⟩:=YW bm h2
    exact Ad hE hm hC hf k y X0 Y s2 a' e s' hF aZ bm h2 Q hQ
   |exit id=>cases h2;exact hQ Y a' aZ bm
   |ret=>cases h2;exact hQ Y a' aZ bm
 | .cond c x y=>fun X0 X s a e s' hF hx hr h Q hQ=>by
   simp only[ev] at h
   have hc:=hr.ay c
   split at h
   case h_2=>cases h
   rename_i p w hs
   rw[hs] at hc
   have hv:=H5 hc
   have fU:Rel X (s.aG (rM c) (bl p)) a:=by
    cases c with
    |tmp i=>
     have jb:s.slot i=[.ah .bool p w]:=by
      have hh:one (s.slot i)= .ah .bool p w:=hs
      match hm:s.slot i,hh with
      | [sv],hh=>have yH:sv= .ah .bool p w:=hh;rw[yH]
      | [],hh=>cases hh
      |_::_::_,hh=>cases hh
     exact(hr.know jb).1
    |_=>exact hr
   refine wp_cond_split hv (fun hp=> ?_) (fun hp=> ?_)
   ·subst hp
    exact Ad hE hm hC hf k x X0 X _ a e s' hF hx fU h Q hQ
   ·subst hp
    exact Ad hE hm hC hf k y X0 X _ a e s' hF hx fU h Q hQ
 | .block id b=>fun X0 X s a e s' hF hx hr h Q hQ=>by
   simp only[ev] at h
   obtain⟨⟨e1,s1⟩,h1,h2⟩:=kO (sL hC b _ (fun e s=>some (e,s)) (K:=fun z=>match z.1 with
    | .exit j=>bif Nat.beq j id then some (.normal,z.2) else some (.exit j,z.2)
    |e=>some (e,z.2)) (fun e s=>by cases e<;>rfl) s) h
   refine wp_block (Ad hE hm hC hf k b X0 X s a e1 s1 hF hx hr h1 _ fun Y a' aZ bm=> ?_)
   cases e1 with
   |normal=>cases h2;exact hQ Y a' aZ bm
   |ret=>cases h2;exact hQ Y a' aZ bm
   |exit j=>
    simp only at h2
    show(if j=id then Q .normal a' Y.w else Q (.exit j) a' Y.w)
    cases hj:Nat.beq j id with
    |true=>
     rw[hj] at h2;cases h2
     rw[if_pos (Nat.eq_of_beq_eq_true hj)]
     exact hQ Y a' aZ bm
    |false=>
     rw[hj] at h2;cases h2
     rw[if_neg (Nat.ne_of_beq_eq_false hj)]
     exact hQ Y a' aZ bm
 | .loop b=>fun X0 X s a e s' hF hx hr h Q hQ=>by
   simp only[ev] at h
   obtain⟨s1,h,fU⟩:=Ii (hr.drop _) h
   exact Wv _ (VK hC (Ad hE hm hC hf k b) hF (Q:=Q) hQ) ⟨X,s1,rfl,hx,fU,h⟩
 | .exit id=>fun X0 X s a e s' hF hx hr h Q hQ=>by
   simp only[ev,Option.some.injEq,Prod.mk.injEq] at h
   obtain⟨rfl,rfl⟩:=h
   exact wp_exit (hQ X a hx hr)
 | .ret=>fun X0 X s a e s' hF hx hr h Q hQ=>by
   simp only[ev,Option.some.injEq,Prod.mk.injEq] at h
   obtain⟨rfl,rfl⟩:=h
   exact wp_ret (hQ X a hx hr)
 | .rangeFunc .. =>fun X0 X s a e s' hF hx hr h Q hQ=>by simp only[ev] at h;cases h
 | .scope _=>fun X0 X s a e s' hF hx hr h Q hQ=>by simp only[ev] at h;cases h
 | .label _=>fun X0 X s a e s' hF hx hr h Q hQ=>by simp only[ev] at h;cases h
 | .goto _=>fun X0 X s a e s' hF hx hr h Q hQ=>by simp only[ev] at h;cases h
 | .refuse _=>fun X0 X s a e s' hF hx hr h Q hQ=>by simp only[ev] at h;cases h
end Go.Ref

namespace Go.Ref
open Go
variable {P:Program} {E:Env} {X:ap} {s:State} {a:Act}
def dK(X Y:ap):Prop:=Y.w=X.w/\∀g j p n,X.ow g= .row (.r j p) n->Y.ow g= .row (.r j p) n
theorem dK.refl(X:ap):dK X X:=⟨rfl,fun _ _ _ _ h=>h⟩
theorem dK.trans{X Y Z:ap}(h:dK X Y)(k:dK Y Z):dK X Z:=⟨k.1.trans h.1,fun g j p n e=>k.2 g j p n (h.2 g j p n e)⟩
theorem au.xm{X Y:ap}(h:dK X Y)(hx:Ext X Y)(hβ:Y.β=X.β){j:Nat}{sv:SV}{v:Value}(hr:au X (.r j) sv v):au Y (.r j) sv v:=by
 cases sv with
 |undef=>trivial
 |skip=>exact hr
 |cm=>exact hr
 |gn=>exact hr
 |over=>exact hr
 |ah t x own=>
  obtain⟨cs,h1,h2,h3⟩:=hr
  refine⟨cs,h1.mono hx,h2,fun p hp=> ?_⟩
  obtain⟨e,t',xs,v,g0,g1,g2,g3⟩:=h3 p hp
  refine⟨e,t',xs,v,g0,g1,g2,?_⟩
  rcases g3 with ho|⟨g,cap,cur,k1,k2,k3,k4,k5,k6⟩
  ·exact .inl ho
  ·exact .inr ⟨g,cap,cur,k1,by rw[h.1];exact k2,k3,k4,k5,h.2 _ _ _ _ k6⟩
 |ptr id t p=>obtain⟨r,h1,h2⟩:=hr;exact⟨r,by rw[hβ];exact h1,h2⟩
 |view t x=>
  obtain⟨ad,cs,h1,h2,h3,h4⟩:=hr
  exact⟨ad,cs,h1,h2,h3.mono hx,fun i u hi=>hx.av _ _ (h4 i u hi)⟩
 |cap f t x u y=>exact sA hx.av hr
theorem TK{X:ap}{i j:Nat}{q:List Nat->Place}:dK X (X.turn i j q):=⟨rfl,fun g j p n h=>by simp only[ap.turn,h]⟩
theorem SY{X:ap}{id:Nat}{p:List Nat}{q:List Nat->Place}:dK X (X.fH id p q):=⟨rfl,fun g j p n h=>by simp only[ap.fH,h]⟩
theorem zvn(hE:ak P E):∀(rs:List ResultVar) (X:ap) (s s':State) (l:List SV) (j0:Nat),Rel X s a->fG E s rs=some (l,s')->
 ∃Y vs,Y.w=X.w/\Ext X Y/\dK X Y/\Y.β=X.β/\Rel Y s' a/\vs.length=l.length/\(∀(j:Nat) sv v,l[j]? =some sv->vs[j]? =some v->au Y (.r (j0+j)) sv v)/\
  (rs.mapM (m:=Sem) fun x=>match x with
    | .tmp t=>pure (a.tmps.getD t Go.undef)
    | .cell ad t=>do loadVar t (<-asAddr (a.tmps.getD ad Go.undef))).run P X.w= .ok vs X.w
 | [],X,s,s',l,j0,hr,h=>by
   simp only[fG,Option.some.injEq,Prod.mk.injEq] at h
   obtain⟨rfl,rfl⟩:=h
   exact⟨X,[],rfl,Ext.refl X,dK.refl X,rfl,hr,rfl,fun j sv v hl=>by simp at hl,by simp⟩
 | .tmp t::r,X,s,s',l,j0,hr,h=>by
   simp only[fG] at h
   split at h
   case h_2=>cases h
   rename_i l1 s1 h1
   cases h
   have key:∃Y,Y.w=X.w/\Ext X Y/\dK X Y/\Y.β=X.β/\Rel Y (s.close [(t,0)]) a/\au Y (.r j0) (one (s.slot t)) (a.tmps.getD t Go.undef):=by
    have bY:=hr.ay (.tmp t)
    cases hs:one (s.slot t) with
    |ah ty x w=>
     have bY:au X (.c t 0) (one (s.slot t)) (a.tmps.getD t Go.undef):=bY
     rw[hs] at bY
     obtain⟨cs,g1,g2,g3⟩:=bY
     have hT:dd (s.close [(t,0)]) X (X.turn t 0 (.r j0)):=zxy fun p=>ct.close
     exact⟨X.turn t 0 (.r j0),rfl,hT.ext,TK,rfl,(hr.close _).mod hT.mod,cs,g1.al (fun _ _=>hT.av.1),g2,g3.kG⟩
    |_=>
     refine⟨X,rfl,Ext.refl X,dK.refl X,rfl,hr.close _,?_⟩
     have bY:au X (.c t 0) (one (s.slot t)) (a.tmps.getD t Go.undef):=bY
     rw[hs] at bY
     exact bY
   obtain⟨Y,hw,aZ,cp,hβ,bm,aJ⟩:=key
   obtain⟨Z,vs,sk,bO,re,hβ2,cV,hlen,lH,aV⟩:=zvn hE r Y _ s' l1 (j0+1) bm h1
   refine⟨Z,a.tmps.getD t Go.undef::vs,sk.trans hw,aZ.trans bO,cp.trans re,hβ2.trans hβ,cV,by simp [hlen],fun j sv v hl hv=> ?_,?_⟩
   ·cases j with
    |zero=>
     simp only[List.getElem?_cons_zero,Option.some.injEq] at hl hv
     subst hl hv
     exact aJ.xm re bO hβ2
    |succ j=>
     simp only[List.getElem?_cons_succ] at hl hv
     rw[show j0+(j+1)=j0+1+j by omega]
     exact lH j sv v hl hv
   ·rw[hw] at aV
    simp only[List.mapM_cons,Sem.run_bind,Sem.run_pure,Result.andThen_ok,aV]
 | .cell p T::r,X,s,s',l,j0,hr,h=>by
   simp only[fG] at h
   split at h
   case h_2=>cases h
   rename_i id tt t jb hT
   split at h
   case h_2=>cases h
   rename_i B hB
   split at h
   case isFalse=>cases h
   rename_i heq
   rw[Bool.and_eq_true] at heq
   have eK:tt.bE=false:=by simpa using heq.2
   have hte:=Ty.aH heq.1
   have hnB:B.t.bE=false:=hte▸hE.gM hT
   split at h
   case h_2=>cases h
   rename_i l1 s1 h1
   cases h
   have hb:=pI hB
   obtain⟨r0,hβ,tY⟩:=hr.boxes id B hb
   obtain⟨cs,T',aF,aJ,how,bM⟩:=tY.cells hnB
   have lJ:=hr.slot p
   rw[jb] at lJ
   obtain⟨r1,hβ1,hvp⟩:au X (.c p 0) (.ptr id tt []) (a.tmps.getD p Go.undef):=lJ
   obtain⟨hv,_⟩:=(n9 eK).1 hvp
   rw[hβ] at hβ1
   cases hβ1
   have fU:Rel X (s.aC (some (id,{B with own:=[]}))) a:=hr.mT hb hβ ⟨how,cY.of hnB aF aJ lZ⟩
   have Ba:∀q,¬ct (s.aC (some (id,{B with own:=[]}))) (.b id ([]++q)):=by
    rintro q ⟨B2,cP,hp⟩
    rw[zc4 hb] at cP
    cases cP
    cases hp
   have kR:=zrg (X:=X) (q:= .r j0) Ba
   have ER:au (X.fH id [] (.r j0)) (.r j0) (.ah B.t B.x B.own) (dp B.t cs.toList):=by
    refine⟨cs.toList,aJ.al (fun _ _=>kR.av.1),rfl,fun q hq=> ?_⟩
    obtain⟨e,t',xs,v,g0,g1,g2,g3⟩:=bM q hq
    exact⟨e,t',xs,v,g0,g1,g2,bg.n7 (p:=[]) g3⟩
   obtain⟨Z,vs,sk,bO,re,hβ2,cV,hlen,lH,aV⟩:=zvn hE r (X.fH id [] (.r j0)) _ s' l1 (j0+1) (fU.mod kR.mod) h1
   refine⟨Z,dp B.t cs.toList::vs,sk,kR.ext.trans bO,SY.trans re,hβ2,cV,by simp [hlen],fun j sv v hl hv=> ?_,?_⟩
   ·cases j with
    |zero=>
     simp only[List.getElem?_cons_zero,Option.some.injEq] at hl hv
     subst hl hv
     exact ER.xm re bO hβ2
    |succ j=>
     simp only[List.getElem?_cons_succ] at hl hv
     rw[show j0+(j+1)=j0+1+j by omega]
     exact lH j sv v hl hv
   ·have hl:=Bh (P:=P) hE (hte▸hT:E.ty T=some B.t) aJ (ad:=⟨r0,0,none⟩) (w:=X.w) (fun i v hi=>by
     rw[jw,Nat.zero_add]
     simp only[World.cell?,aF]
     simpa using hi)
    have hw3:(X.fH id [] (.r j0)).w=X.w:=rfl
    rw[hw3] at aV
    have mc:a.tmps.getD p Go.undef= .pointer (some ⟨r0,0,none⟩):=by simpa [Ty.off] using hv
    have ha:(asAddr (.pointer (some ⟨r0,0,none⟩))).run P X.w= .ok ⟨r0,0,none⟩ X.w:=by simp [asAddr]
    simp only[List.mapM_cons,Sem.run_bind,Sem.run_pure,Result.andThen_ok,aV,mc,ha,hl]
def ap.zero(X:ap)(id:Nat):ap:=
 {X with ow:=fun g=>match X.ow g with
  | .box bT=>if bT=id then .box 0 else .box bT
  | .row (.b bT p) n=>if bT=id then .row (.b 0 p) n else .row (.b bT p) n
  |w=>w}
theorem Bu{id:Nat}{ad:Addr}{v:Value}(h:X.av ad v):(X.zero id).av ad v:=by
 refine⟨h.1,h.2.1,?_⟩
 have:=h.2.2
 simp only[ap.zero]
 cases hx:X.ow ad.block with
 |box i=>rw[hx] at this;exact this.elim
 |row pl n=>
  rw[hx] at this
  cases pl with
  |b i p=>simp only;split<;>exact this
  |_=>exact this
 |_=>rw[hx] at this;exact this
theorem Zs{id:Nat}:Ext X (X.zero id) where
 av:=fun _ _=>Bu
 size:=Nat.le_refl _
 os:=rfl
 tape:=rfl
 output:=rfl
 β0:=rfl
 still:=fun g _ cp=>by
  refine⟨?_,rfl⟩
  simp only[ap.zero]
  cases hx:X.ow g with
  |box i=>rw[hx] at cp;exact cp.elim
  |row pl n=>rw[hx] at cp;exact cp.elim
  |_=>rfl
theorem bA.zero{id r:Nat}{B:bk}(h:bA X id r B):bA (X.zero id) 0 r B:=by
 obtain⟨h3,h1⟩:=h
 refine⟨by simp [ap.zero,h3],h1.move (fun _ _=>Bu) rfl (fun cs h4 p hp=> ?_) fun _ g o ho hw=>⟨ho,by simp [ap.zero,hw]⟩⟩
 obtain⟨e,t',xs,v,g0,g1,g2,g3⟩:=h4 p hp
 refine⟨e,t',xs,v,g0,g1,g2,?_⟩
 rcases g3 with ho|⟨g,cap,cur,k1,k2,k3,k4,k5,k6⟩
 ·exact .inl ho
 ·exact .inr ⟨g,cap,cur,k1,k2,k3,k4,k5,by simp [ap.zero,k6]⟩
theorem au.zero{id j r0:Nat}{sv:SV}{v:Value}(hp:∀bT t p,sv= .ptr bT t p->X.β bT=some r0)(h:au X (.r j) sv v):au {X.zero id with β:=fun _=>some r0} (.r j) (sv.gw 0) v:=by
 cases sv with
 |undef=>trivial
 |skip=>exact h
 |cm=>exact h
 |gn=>exact h
 |over=>exact h
 |ah t x own=>
  obtain⟨cs,h1,h2,h3⟩:=h
  refine⟨cs,aR.al (Y:={X.zero id with β:=fun _=>some r0}) (fun ad v hs=>(Bu hs:(X.zero id).av ad v)) h1,h2,fun p hp=> ?_⟩
  obtain⟨e,t',xs,v,g0,g1,g2,g3⟩:=h3 p hp
  refine⟨e,t',xs,v,g0,g1,g2,?_⟩
  rcases g3 with ho|⟨g,cap,cur,k1,k2,k3,k4,k5,k6⟩
  ·exact .inl ho
  ·exact .inr ⟨g,cap,cur,k1,k2,k3,k4,k5,by simp [ap.zero,k6]⟩
 |ptr bT t p=>
  obtain⟨r,h1,h2⟩:=h
  have:=hp bT t p rfl
  rw[h1] at this
  cases this
  exact⟨r0,rfl,h2⟩
 |view t x=>
  obtain⟨ad,cs,h1,h2,h3,h4⟩:=h
  exact⟨ad,cs,h1,h2,aR.al (Y:={X.zero id with β:=fun _=>some r0}) (fun ad v hs=>(Bu hs:(X.zero id).av ad v)) h3,fun i u hi=>(Bu (h4 i u hi):(X.zero id).av _ _)⟩
 |cap f t x u y=>exact sA (Y:={X.zero id with β:=fun _=>some r0}) (fun ad v hs=>(Bu hs:(X.zero id).av ad v)) h
theorem au.anyβ{j r0:Nat}{sv:SV}{v:Value}(hp:∀bT t p,sv≠ .ptr bT t p)(h:au X (.r j) sv v):au {X with β:=fun _=>some r0} (.r j) sv v:=by
 cases sv with
 |undef=>trivial
 |skip=>exact h
 |cm=>exact h
 |gn=>exact h
 |over=>exact h
 |ah t x own=>
  obtain⟨cs,h1,h2,h3⟩:=h
  exact⟨cs,aR.al (X:=X) (Y:={X with β:=fun _=>some r0}) (fun ad v (hs:X.av ad v)=>(hs:({X with β:=fun _=>some r0}:ap).av ad v)) h1,h2,h3⟩
 |ptr bT t p=>exact absurd rfl (hp bT t p)
 |view t x=>
  obtain⟨ad,cs,h1,h2,h3,h4⟩:=h
  exact⟨ad,cs,h1,h2,aR.al (X:=X) (Y:={X with β:=fun _=>some r0}) (fun ad v (hs:X.av ad v)=>(hs:({X with β:=fun _=>some r0}:ap).av ad v)) h3,h4⟩
 |cap f t x u y=>exact sA (X:=X) (Y:={X with β:=fun _=>some r0}) (fun ad v (hs:X.av ad v)=>(hs:({X with β:=fun _=>some r0}:ap).av ad v)) h
theorem K0:∀{l:List SV} {id:Nat} {t:Ty} {p:List Nat},SV.ptr id t p∈l->id∈xN l
 |v::r,id,t,p,h=>by
  rcases List.mem_cons.1 h with e|h
  ·subst e;simp [xN]
  ·have:=K0 h
   cases v<;>simp [xN,this]
theorem zvm{l:List SV}{vs:List Value}(hlen:vs.length=l.length)(h:∀(j:Nat) sv v,l[j]? =some sv->vs[j]? =some v->au X (.r j) sv v):cu X .r l (if h:vs.toArray.size=1 then vs.toArray[0] else .tuple vs.toArray):=by
 match l,vs,hlen with
 | [sv],[v],_=>exact h 0 sv v rfl rfl
 | [],[],_=>exact⟨#[],rfl,rfl,fun j s u hs=>by simp at hs⟩
 |x::y::r,u::v::w,hlen=>
  refine⟨(u::v::w).toArray,by simp,by simpa using hlen,fun j s z hs hz=>h j s z hs (by simpa using hz)⟩
theorem Sm{Z:ap}{s':State}{b:Option bk}{l' r:List SV}{b':Option bk}{vs:List Value}(hX:Ext X Z)(cV:Rel Z s' a)(hlen:vs.length=l'.length)(gL:∀(j:Nat) sv v,l'[j]? =some sv->vs[j]? =some v->au Z (.r j) sv v)
 (eL:Ch s' b l' (fun r b=>some (r,b))=some (r,b')):∃Y',Y'.w=Z.w/\Ext X Y'/\vq X Y' b r b' (if h:vs.toArray.size=1 then vs.toArray[0] else .tuple vs.toArray):=by
 unfold Ch at eL
 cases b with
 |some B=>
  cases hp:xN l' with
  |cons _ _=>rw[hp] at eL;cases eL
  |nil=>
   rw[hp] at eL
   have qU:∀id t p,SV.ptr id t p∉l':=fun id t p hm=>by
    have:=K0 hm
    rw[hp] at this;cases this
   cases fk:s'.box 0 with
   |none=>simp only[fk] at eL;cases eL
   |some B'=>
    simp only[fk] at eL
    cases eL
    obtain⟨r0,h3,h4⟩:=cV.boxes 0 B' (pI fk)
    refine⟨Z,rfl,hX,r0,zvm hlen fun j sv v h1 h2=>(gL j sv v h1 h2).anyβ (fun id t p e=>qU id t p (e▸List.mem_of_getElem? h1)),fun B2 cP=> ?_,fun _=>qU⟩
    cases cP
    exact⟨h4,fun _=>by rw[<-hX.β0];exact h3⟩
 |none=>
  cases hp:xN l' with
  |nil=>
   rw[hp] at eL
   have qU:∀id t p,SV.ptr id t p∉l':=fun id t p hm=>by
    have:=K0 hm
    rw[hp] at this;cases this
   cases eL
   exact⟨Z,rfl,hX,0,zvm hlen fun j sv v h1 h2=>(gL j sv v h1 h2).anyβ (fun id t p e=>qU id t p (e▸List.mem_of_getElem? h1)),(fun B2 cP=>by cases cP),fun _=>qU⟩
  |cons id rest=>
   rw[hp] at eL
   cases rest with
   |cons _ _=>cases eL
   |nil=>
    cases hB:s'.box id with
    |none=>simp only[hB] at eL;cases eL
    |some B=>
     simp only[hB] at eL
     cases eL
     obtain⟨r0,h3,h4⟩:=cV.boxes id B (pI hB)
     refine⟨Z.zero id,rfl,hX.trans Zs,r0,?_,fun B2 cP=> ?_,fun hh=> ?_⟩
     ·refine zvm (by simpa using hlen) fun j sv v h1 h2=> ?_
      rw[List.getElem?_map] at h1
      obtain⟨s0,fQ,rfl⟩:=Option.map_eq_some_iff.1 h1
      refine(gL j s0 v fQ h2).zero fun bT t p e=> ?_
      have:=K0 (e▸List.mem_of_getElem? fQ)
      rw[hp] at this
      simp only[List.mem_singleton] at this
      subst this
      exact h3
     ·cases cP
      exact⟨h4.zero,fun hh=>by cases hh⟩
     ·rcases hh with hh|hh<;>cases hh
theorem KO:∀(ts:List Ty) (l:List SV),(aI ts l).length=l.length
 | [],l=>by simp [aI]
 |t::r,[]=>by simp [aI]
 |t::r,v::q=>by
  cases t<;>cases v<;>simp [aI,KO r q]
theorem zxh{X:ap}:∀(ts:List Ty) (l:List SV) (i:Nat) (sv:SV) (v:Value),(aI ts l)[i]? =some sv->(∀sv,l[i]? =some sv->∃pl,au X pl sv v)->∀q,(∃uG,l[i]? =some uG/\(sv=uG\/sv=uG.shut\/uG= .cm))/\((∀uG,l[i]? =some uG->au X q uG v)->au X q sv v)
 | [],l,i,sv,v,h,_,q=>by
   have h:l[i]? =some sv:=by simpa [aI] using h
   exact⟨⟨sv,h,.inl rfl⟩,fun hh=>hh sv h⟩
 |t::r,[],i,sv,v,h,_,q=>by simp [aI] at h
 |t::r,x::y,i,sv,v,h,hx,q=>by
  cases i with
  |zero=>
   have key:(aI (t::r) (x::y))[0]? =some sv->(sv=x.shut)\/(x= .cm/\∃e u,sv= .ah (.sl e u) ([]:List (El u)) []):=by
    intro h
    cases t<;>cases x<;>simp only[aI,List.getElem?_cons_zero,Option.some.injEq] at h<;>first|exact .inl h.symm|exact .inr ⟨rfl,_,_,h.symm⟩
   rcases key h with rfl|⟨rfl,e,u,rfl⟩
   ·exact⟨⟨x,rfl,.inr (.inl rfl)⟩,fun hh=>(hh x rfl).shut⟩
   ·refine⟨⟨_,rfl,.inr (.inr rfl)⟩,fun hh=> ?_⟩
    have:=hh _ rfl
    exact⟨[.slice none 0 0],⟨none,0,rfl,Nat.le_refl _,fun j x hj=>by simp at hj⟩,this,lZ⟩
  |succ i=>
   have h':(aI r y)[i]? =some sv:=by
    cases t<;>cases x<;>simpa [aI] using h
   have:=zxh r y i sv v h' (fun sv hs=>hx sv (by simpa using hs)) q
   simpa using this
theorem VR{ts:List Ty}{l:List SV}{id:Nat}{t:Ty}{p:List Nat}(h:SV.ptr id t p∈aI ts l):SV.ptr id t p∈l:=by
 induction ts generalizing l with
 |nil=>simpa [aI] using h
 |cons u r ih=>
  cases l with
  |nil=>simp [aI] at h
  |cons v q=>
   have key:SV.ptr id t p=v.shut\/SV.ptr id t p∈aI r q:=by
    cases u<;>cases v<;>simp [aI,SV.shut] at h⊢ <;>first|exact h|exact .inr h|skip
   rcases key with e|hm
   ·rw[K1 e.symm];simp
   ·exact List.mem_cons_of_mem _ (ih hm)
theorem abe(hE:ak P E)(hm:P.follows .mixedOrders=true){C C0:af}(hC0:C0.Nat)(hf0:∀f,cK P C0 f){f:FuncId}{fn:Func}{code:Code}(js:P.funcs[f]? =some fn)(qS:(fn.name== "runtime.NumGoroutine")=false)(nW:fn.body=some code)
 (hC:∀(l:List SV) (b:Option bk) (r:List SV) (b':Option bk),C (List SV×Option bk) f l b (fun r b=>some (r,b))=some (r,b')->∃k,im E (C0 (List SV×Option bk)) k fn code l b (fun r b=>some (r,b))=some (r,b')):cK P C f:=by
 intro l b r b' h
 refine⟨⟨fn,code,js,qS,nW⟩,fun X args gK=> ?_⟩
 obtain⟨k,h⟩:=hC l b r b' h
 unfold im at h
 cases hg:(E.sp.isSome&&b.isSome) with
 |true=>rw[hg] at h;cases h
 |false=>
 rw[hg,cond_false] at h
 have hF:Fr E X:=fun bZ=>gK.rows (by
  cases hE2:E.sp with
  |none=>exact absurd hE2 bZ
  |some z=>
   cases b with
   |none=>rfl
   |some B=>rw[hE2] at hg;cases hg)
 simp only at h
 obtain⟨⟨e,s⟩,h1,h2⟩:=kO (sL hC0 code _ (fun e s=>some (e,s)) (K:=fun z=>match z.1 with
  | .exit _=>none
  |_=>match fG E z.2 fn.results.toList with
   |some (l,s')=>Ch s' b (hI E l) (fun r b=>some (r,b))
   |none=>none) (fun e s=>by cases e<;>rfl) _) h
 refine calls_of_wp js nW ?_
 have di:=gK.size
 refine Ad hE hm hC0 hf0 k code X X _ _ e s hF (Ext.refl X) (?_:Rel X _ _) h1 _ fun Y a' aZ bm=> ?_
 ·have mM:=KO E.ps l
  refine⟨by simp [di,mM],by simp [mM],fun i sl v hs hv=> ?_,fun id B hB=> ?_,fun i sl id t p hs hm=> ?_,rfl⟩
  ·by_cases hi:i<l.length
   ·rw[List.getElem?_append_left (by simpa [mM] using hi),List.getElem?_map] at hs
    obtain⟨sv,jt,rfl⟩:=Option.map_eq_some_iff.1 hs
    rw[Array.getElem?_append_left (by omega)] at hv
    exact(zxh E.ps l i sv v jt (fun sv h0=>⟨_,gK.rep i sv v h0 hv⟩) (.c i 0)).2 fun uG h0=>gK.rep i uG v h0 hv
   ·rw[List.getElem?_append_right (by simp [mM];omega),List.getElem?_replicate] at hs
    split at hs
    ·cases hs;trivial
    ·cases hs
  ·cases id with
   |zero=>
    simp only[List.getElem?_cons_zero,Option.some.injEq] at hB
    exact gK.box B hB
   |succ id=>
    simp only[List.getElem?_cons_succ,List.getElem?_replicate] at hB
    split at hB<;>cases hB
  ·by_cases hi:i<l.length
   ·rw[List.getElem?_append_left (by simpa [mM] using hi),List.getElem?_map] at hs
    obtain⟨sv,jt,rfl⟩:=Option.map_eq_some_iff.1 hs
    simp only[List.mem_singleton] at hm
    subst hm
    obtain⟨rfl,hb⟩:=gK.ptr id t p (VR (List.mem_of_getElem? jt))
    cases b with
    |none=>cases hb
    |some B=>exact⟨B,rfl⟩
   ·rw[List.getElem?_append_right (by simp [mM];omega),List.getElem?_replicate] at hs
    split at hs
    ·cases hs;simp at hm
    ·cases hs
 ·
  have Qo:∃l s',fG E s fn.results.toList=some (l,s')/\Ch s' b (hI E l) (fun r b=>some (r,b))=some (r,b')/\(e= .normal\/e= .ret):=by
   cases e with
   |exit id=>cases h2
   |normal=>
    simp only at h2
    split at h2
    ·exact⟨_,_,by assumption,h2,.inl rfl⟩
    ·cases h2
   |ret=>
    simp only at h2
    split at h2
    ·exact⟨_,_,by assumption,h2,.inr rfl⟩
    ·cases h2
  obtain⟨l',s',fU,eL,he⟩:=Qo
  obtain⟨Z,vs,hw,bO,cp,hβ,cV,hlen,lH,aV⟩:=zvn hE fn.results.toList Y s s' l' 0 bm fU
  have wR:(results fn a'.tmps).run P Y.w= .ok (if h:vs.toArray.size=1 then vs.toArray[0] else .tuple vs.toArray) Y.w:=by
   unfold results
   simp only[Array.mapM_eq_mapM_toList,Sem.run_bind,Sem.run_map,Sem.run_pure,Result.andThen_ok]
   exact congrArg (fun r:Result (List Value)=>(r.andThen fun a w'=>Result.ok a.toArray w').andThen fun a w'=>Result.ok (if h:a.size=1 then a[0] else Value.tuple a) w') aV
  have hX:Ext X Z:=aZ.trans bO
  have gL:∀(j:Nat) sv v,l'[j]? =some sv->vs[j]? =some v->au Z (.r j) sv v:=fun j sv v h1 h2=>by
   have:=lH j sv v h1 h2
   rwa [Nat.zero_add] at this
  have EC:vs.length=(hI E l').length:=by
   unfold hI
   cases E.ro<;>simpa using hlen
  have yP:∀(j:Nat) sv v,(hI E l')[j]? =some sv->vs[j]? =some v->au Z (.r j) sv v:=fun j sv v h1 h2=>by
   unfold hI at h1
   cases hro:E.ro with
   |false=>rw[hro] at h1;exact gL j sv v h1 h2
   |true=>
    rw[hro,cond_true,List.getElem?_map] at h1
    obtain⟨s0,fQ,rfl⟩:=Option.map_eq_some_iff.1 h1
    exact au.eB (gL j s0 v fQ h2)
  have fin:=Sm (b:=b) hX cV EC yP eL
  obtain⟨Y',Kh,hX',hL⟩:=fin
  have Kh:=Kh.trans hw
  rcases he with rfl|rfl
  ·exact⟨bm.defers,_,wR,Y',Kh,hX',hL⟩
  ·exact⟨bm.defers,_,wR,Y',Kh,hX',hL⟩
end Go.Ref

namespace Go.Ref
open Go
variable {P:Program} {E:Env}
def Wf:(t:Ty)->El t->Prop
 | .bool,_=>True
 | .int k,n=>(Lit.int k n).wf=true
 | .str,s=>s.size<=maxLen
 | .sl _ t,xs=>List.length xs<=maxLen/\∀x∈(xs:List (El t)),Wf t x
 | .arr n t,xs=>List.length xs=n/\∀x∈(xs:List (El t)),Wf t x
 | .unit,_=>True
 | .pair a b,x=>Wf a x.1/\Wf b x.2
 | .aT _ _ _,_=>False
theorem Bk(hE:ak P E){T:TypeId}{t:Ty}(ht:E.ty T=some t):P.cellsOf T=t.cells:=by
 obtain⟨i,h1,h2,_⟩:=(hE.ty T t ht).info
 simp [Program.cellsOf,h1,h2]
def Ty.fg:Ty->Bool
 | .sl _ t=> !(Nat.beq t.cells 0)&&t.fg
 | .arr _ t=>t.fg
 | .pair a b=>a.fg&&b.fg
 |_=>true
def rW(w:World)(β:Nat->Option Nat):ap:=⟨w,fun _=> .all,β⟩
theorem VU{w:World}{β:Nat->Option Nat}{a:Addr}{v:Value}(h:w.cell? a=some v):(rW w β).av a v:=⟨World.cell?_spot h,h,trivial⟩
theorem zkm{α:Type}{n:Nat}{p:Nat->α->Prop}(h:∀i,i<n->∃x,p i x):∃xs:List α,xs.length=n/\∀(i:Nat) x,xs[i]? =some x->p i x:=by
 induction n with
 |zero=>exact⟨[],rfl,fun i x hi=>by simp at hi⟩
 |succ n ih=>
  obtain⟨xs,h1,h2⟩:=ih fun i hi=>h i (by omega)
  obtain⟨y,hy⟩:=h n (by omega)
  refine⟨xs++ [y],by simp [h1],fun i x hi=> ?_⟩
  rw[List.getElem?_append] at hi
  split at hi
  ·exact h2 i x hi
  ·rename_i ar
   have hi2:i-xs.length=0:=by
    have:=(List.getElem?_eq_some_iff.1 hi).1
    simp at this
    omega
   rw[hi2] at hi
   simp only[List.getElem?_cons_zero,Option.some.injEq] at hi
   subst hi
   have:i=n:=by omega
   subst this
   exact hy
section
variable {H:Type} {enc:TypeId×Value->H} {w:World} {base:Nat} {spare:Nat->Bool} {held:Bool} {β:Nat->Option Nat}
theorem abl(hE:ak P E):∀t:Ty,
 (∀(T:TypeId) (cj:Nat) (cs:List Value) (x:DataW H×List MemPlace),E.ty T=some t->t.fg=true->DataW.trod enc P w base spare held cj T cs=some x->∃y:El t,aR (rW w β) t y cs/\Wf t y)/\
 (∀(fl:List Field) (off cj:Nat) (cs:List Value),ia E fl t off->t.fg=true->off+t.cells<=cs.length->(∀f∈fl,∃x,DataW.trod enc P w base spare held cj f.type ((cs.drop f.offset).take (P.cellsOf f.type))=some x)->
   ∃y:El t,aR (rW w β) t y ((cs.drop off).take t.cells)/\Wf t y):=by
 intro t
 have kb:∀{t:Ty},t.cN=false->t≠ .unit->∀(fl:List Field) (off:Nat),¬ia E fl t off:=by
  intro t h1 h2 fl off h
  cases t<;>cases fl<;>simp_all [ia,Ty.cN]
 induction t with
 |aT k a b _ _=>exact⟨fun T cj cs x hT iq h=>absurd (hE.gM hT) (by simp [Ty.bE]),fun fl off cj cs hf=>absurd hf (kb rfl (by simp) fl off)⟩
 |bool=>
  refine⟨fun T cj cs x hT iq h=> ?_,fun fl off cj cs hf=>absurd hf (kb rfl (by simp) fl off)⟩
  have hu:=(hE.ty T _ hT).cO
  cases cj with
  |zero=>simp [DataW.trod] at h
  |succ m=>
   unfold DataW.trod at h
   rw[hu] at h
   split at h<;>try(first|cases h;done|(simp_all;done))
   rename_i b _
   exact⟨b,rfl,trivial⟩
 |int k=>
  refine⟨fun T cj cs x hT iq h=> ?_,fun fl off cj cs hf=>absurd hf (kb rfl (by simp) fl off)⟩
  have hu:=(hE.ty T _ hT).cO
  cases cj with
  |zero=>simp [DataW.trod] at h
  |succ m=>
   unfold DataW.trod at h
   rw[hu] at h
   split at h<;>simp_all
   rename_i k1 k2 n hk
   subst hk
   exact⟨n,rfl,h.1.2⟩
 |str=>
  refine⟨fun T cj cs x hT iq h=> ?_,fun fl off cj cs hf=>absurd hf (kb rfl (by simp) fl off)⟩
  have hu:=(hE.ty T _ hT).cO
  cases cj with
  |zero=>simp [DataW.trod] at h
  |succ m=>
   unfold DataW.trod at h
   rw[hu] at h
   split at h<;>simp_all
   rename_i s
   exact⟨s,rfl,h.1⟩
 |sl e t ih=>
  refine⟨fun T cj cs x hT iq h=> ?_,fun fl off cj cs hf=>absurd hf (kb rfl (by simp) fl off)⟩
  obtain⟨hu,he⟩:=(hE.ty T _ hT).cO
  have hc:=Bk hE he
  rcases Go.Deep.open_slice hu h with⟨rfl,_⟩|⟨a,len,cap,m,n,D,Pl,rfl,hb,hl,hm,yL,_,dF⟩
  ·exact⟨[],⟨none,0,rfl,Nat.le_refl _,fun j x hj=>by simp at hj⟩,by simp [maxLen],fun x hx=>by cases hx⟩
  ·have hlm:len<=m:=by rw[yL];split<;>omega
   have hk:0<t.cells/\t.fg=true:=by
    simp only[Ty.fg,Bool.and_eq_true,Bool.not_eq_true'] at iq
    refine⟨?_,iq.2⟩
    rcases Nat.eq_zero_or_pos t.cells with h0|h0
    ·rw[h0] at iq;simp at iq
    ·exact h0
   obtain⟨ys,h1,h2⟩:=zkm (n:=len) (p:=fun i (y:El t)=>∃dM,w.cells? base (a.add (i*t.cells)) t.cells=some dM/\aR (rW w β) t y dM/\Wf t y) (fun i hi=>by
    obtain⟨dM,g1,g2⟩:=dF i (by omega)
    rw[hc] at g1
    obtain⟨y,k1,k2⟩:=ih.1 e n dM _ he hk.2 g2
    exact⟨y,dM,g1,k1,k2⟩)
   refine⟨ys,aR.uF h1 hl (fun j y hj=> ?_),by show ys.length<=_;omega,fun y hy=> ?_⟩
   ·obtain⟨dM,g1,g2,g3⟩:=h2 j y hj
    obtain⟨_,hlen,gh⟩:=World.cells?_some g1
    have hj0:=(List.getElem?_eq_some_iff.1 hj).1
    obtain⟨c0,e1,_⟩:=h2 0 _ (List.getElem?_eq_getElem (by omega))
    obtain⟨_,ac9,yC⟩:=World.cells?_some e1
    have wU:a.spot=none:=by
     have:=yC 0 (by omega)
     rw[List.getElem?_eq_getElem (by omega)] at this
     have h3:=World.cell?_spot this
     simpa [Addr.add] using h3
    refine⟨a,dM,rfl,wU,g2,fun i v hi=>VU ?_⟩
    have hil:=(List.getElem?_eq_some_iff.1 hi).1
    have:=gh i (by omega)
    rw[I9 a wU,hi] at this
    exact this
   ·obtain⟨i,hi⟩:=List.mem_iff_getElem?.1 hy
    obtain⟨dM,_,_,g3⟩:=h2 i y hi
    exact g3
 |arr n t ih=>
  refine⟨fun T cj cs x hT iq h=> ?_,fun fl off cj cs hf=>absurd hf (kb rfl (by simp) fl off)⟩
  obtain⟨e,hu,he,_⟩:=(hE.ty T _ hT).cO
  have hc:=Bk hE he
  have En:=Bk hE hT
  obtain⟨xs,m,rfl,_,hl,wX,dF⟩:=DataW.trod_array hu h
  obtain⟨ys,h1,h2⟩:=zkm (n:=n) (p:=fun i (y:El t)=>aR (rW w β) t y ((cs.drop (i*t.cells)).take t.cells)/\Wf t y) (fun i hi=>by
   have g:=dF i hi
   rw[hc,List.getElem?_eq_getElem (by omega)] at g
   exact ih.1 e m _ _ he iq g)
  refine⟨ys,⟨h1,by rw[hl,En];rfl,fun j y hj=>(h2 j y hj).1⟩,h1,fun y hy=> ?_⟩
  obtain⟨i,hi⟩:=List.mem_iff_getElem?.1 hy
  exact(h2 i y hi).2
 |unit=>
  refine⟨fun T cj cs x hT iq h=> ?_,fun fl off cj cs hf iq hle dP=>⟨(),by simp [Ty.cells,aR],trivial⟩⟩
  obtain⟨fs,hu,cM,_⟩:=(hE.ty T _ hT).cO
  have En:=Bk hE hT
  obtain⟨xs,m,rfl,_,hl,_⟩:=DataW.trod_struct hu h
  rw[En] at hl
  refine⟨(),?_,trivial⟩
  exact List.eq_nil_of_length_eq_zero hl
 |pair ta tb kz kA=>
  have step:∀(fl:List Field) (off cj:Nat) (cs:List Value),ia E fl (.pair ta tb) off->(Ty.pair ta tb).fg=true->off+(Ty.pair ta tb).cells<=cs.length->(∀f∈fl,∃x,DataW.trod enc P w base spare held cj f.type ((cs.drop f.offset).take (P.cellsOf f.type))=some x)->
   ∃y:El (.pair ta tb),aR (rW w β) (.pair ta tb) y ((cs.drop off).take (Ty.pair ta tb).cells)/\Wf (.pair ta tb) y:=by
   intro fl off cj cs hf iq hle dP
   cases fl with
   |nil=>simp [ia] at hf
   |cons f fl=>
    obtain⟨f1,f2,f3,f4⟩:=hf
    simp only[Ty.fg,Bool.and_eq_true] at iq
    simp only[Ty.cells] at hle
    obtain⟨x,hx⟩:=dP f (by simp)
    rw[Bk hE f2,f1] at hx
    obtain⟨y1,r1,w1⟩:=kz.1 f.type cj _ x f2 iq.1 hx
    obtain⟨y2,r2,w2⟩:=kA.2 fl (off+ta.cells) cj cs f4 iq.2 (by omega) (fun g hg=>dP g (List.mem_cons_of_mem _ hg))
    refine⟨(y1,y2),⟨_,_,?_,r1,r2⟩,w1,w2⟩
    simp only[Ty.cells]
    rw[<-List.drop_drop]
    exact List.take_add
  refine⟨fun T cj cs x hT iq h=> ?_,step⟩
  obtain⟨fs,hu,cM,_⟩:=(hE.ty T _ hT).cO
  have En:=Bk hE hT
  obtain⟨xs,m,rfl,_,hl,wX,dF⟩:=DataW.trod_struct hu h
  rw[En] at hl
  obtain⟨y,r,wf⟩:=step fs.toList 0 m cs cM iq (by omega) (fun f hf=>by
   obtain⟨i,hi⟩:=List.mem_iff_getElem?.1 hf
   have P6:fs[i]? =some f:=by simpa using hi
   have:=dF i f P6
   have ar:=(List.getElem?_eq_some_iff.1 hi).1
   rw[List.getElem?_eq_getElem (by simp at ar;omega)] at this
   exact⟨_,this⟩)
  refine⟨y,?_,wf⟩
  rw[List.drop_zero,<-hl,List.take_length] at r
  exact r
end
end Go.Ref

namespace Go.Ref
open Go
variable {P:Program} {E:Env}
def zS:Value->Value->Bool
 | .bool a,.bool b=>a==b
 | .int k a,.int j b=>decide (k=j)&&decide (a=b)
 | .string a,.string b=>Nat.beq a.size 0&&Nat.beq b.size 0
 | .slice none 0 0,.slice none 0 0=>true
 |_,_=>false
theorem zkp{a:ByteArray}(h:a.size=0):a=⟨#[]⟩:=by
 cases a with
 |mk d=>
  have:d.size=0:=h
  have:=Array.eq_empty_of_size_eq_zero this
  rw[this]
theorem Vi{a b:Value}(h:zS a b=true):a=b:=by
 unfold zS at h
 split at h
 ·simp at h;rw[h]
 ·simp at h;rw[h.1,h.2]
 ·simp only[Bool.and_eq_true] at h
  rw[zkp (Nat.eq_of_beq_eq_true h.1),zkp (Nat.eq_of_beq_eq_true h.2)]
 ·rfl
 ·cases h
def Jc:List Value->List Value->Bool
 | [],[]=>true
 |a::r,b::q=>zS a b&&Jc r q
 |_,_=>false
theorem zbt:∀{a b:List Value},Jc a b=true->a=b
 | [],[],_=>rfl
 |a::r,b::q,h=>by
  simp only[Jc,Bool.and_eq_true] at h
  rw[Vi h.1,zbt h.2]
def Aa(t:Ty)(v:Value):Bool:=
 match v with
 | .agg cs=>t.agg&&Jc cs.toList (zp t)
 |v=> !t.agg&&Jc [v] (zp t)
theorem Ww{t:Ty}{v:Value}(h:Aa t v=true):v=dp t (zp t):=by
 unfold Aa at h
 split at h
 ·simp only[Bool.and_eq_true] at h
  rw[iz h.1,<-zbt h.2]
 ·simp only[Bool.and_eq_true,Bool.not_eq_true'] at h
  rw[<-zbt h.2,Jg h.1]
def oV(E:Env):List Field->Ty->Nat->Bool
 | [],.unit,_=>true
 |f::r,.pair a b,off=>Nat.beq f.offset off&&((match E.ty f.type with
  |some t=>t.b7 a
  |none=>false)&&(!(f.name== "_")&&oV E r b (off+a.cells)))
 |_,_,_=>false
theorem zmp:∀{fl:List Field} {t:Ty} {off:Nat},oV E fl t off=true->ia E fl t off
 | [],t,off,h=>by cases t<;>simp_all [oV,ia]
 |f::r,t,off,h=>by
  cases t<;>simp only[oV,Bool.and_eq_true] at h<;>try(cases h;done)
  obtain⟨h1,h2,h3,h4⟩:=h
  refine⟨Nat.eq_of_beq_eq_true h1,?_,?_,zmp h4⟩
  ·cases hf:E.ty f.type with
   |none=>rw[hf] at h2;cases h2
   |some u=>rw[hf] at h2;rw[Ty.aH h2]
  ·simpa using h3
def uK(E:Env)(T:TypeId)(t:Ty):Bool:=
 match E.ty T with
 |some u=>u.b7 t
 |none=>false
theorem Ho{T:TypeId}{t:Ty}(h:uK E T t=true):E.ty T=some t:=by
 unfold uK at h
 split at h
 ·rename_i u hu;rw[hu,Ty.aH h]
 ·cases h
def zK(P:Program)(E:Env)(T:TypeId)(t:Ty):Bool:=
 match P.underlying T,t with
 |some .bool,.bool=>true
 |some (.int k),.int j=>decide (k=j)
 |some .string,.str=>true
 |some (.slice e),.sl e' u=>Nat.beq e e'&&uK E e u
 |some (.array n e),.arr m u=>Nat.beq n m&&(uK E e u&& !P.eqGuardType P.depth T)
 |some (.struct fs),.unit=>oV E fs.toList .unit 0&&(!P.stoodInHeld T&& !P.eqGuardType P.depth T)
 |some (.struct fs),.pair a b=>oV E fs.toList (.pair a b) 0&&(!P.stoodInHeld T&& !P.eqGuardType P.depth T)
 |_,_=>false
theorem Zn{T:TypeId}{t:Ty}(h:zK P E T t=true):HH P E T t:=by
 unfold zK at h
 split at h
 ·assumption
 ·rename_i k j hu;rw[<-of_decide_eq_true h];exact hu
 ·assumption
 ·rename_i e e' u hu
  simp only[Bool.and_eq_true] at h
  have:=Nat.eq_of_beq_eq_true h.1
  subst this
  exact⟨hu,Ho h.2⟩
 ·rename_i n e m u hu
  simp only[Bool.and_eq_true] at h
  have:=Nat.eq_of_beq_eq_true h.1
  subst this
  exact⟨e,hu,Ho h.2.1,by simpa using h.2.2⟩
 ·rename_i fs hu
  simp only[Bool.and_eq_true,Bool.not_eq_true'] at h
  exact⟨fs,hu,zmp h.1,h.2.1,h.2.2⟩
 ·rename_i fs a b hu
  simp only[Bool.and_eq_true,Bool.not_eq_true'] at h
  exact⟨fs,hu,zmp h.1,h.2.1,h.2.2⟩
 ·cases h
def wZ(P:Program)(E:Env)(T:TypeId)(t:Ty):Bool:=
 match P.info? T with
 |some i=>Nat.beq i.size t.cells&&(Nat.beq i.bytes (E.bytes T)&&match i.zero with
  |some v=>Aa t v
  |none=>false)
 |none=>false
def yr(P:Program)(E:Env)(T:TypeId):Bool:=
 match E.ty T with
 |some t=>wZ P E T t&&zK P E T t
 |none=>true
theorem YG{T:TypeId}{t:Ty}(h:yr P E T=true)(ht:E.ty T=some t):kp P E T t:=by
 unfold yr at h
 rw[ht] at h
 simp only[Bool.and_eq_true] at h
 refine⟨?_,Zn h.2⟩
 have h1:=h.1
 unfold wZ at h1
 split at h1
 ·rename_i i hi
  simp only[Bool.and_eq_true] at h1
  obtain⟨g1,g2,g3⟩:=h1
  split at g3
  ·rename_i v hv
   exact⟨i,hi,Nat.eq_of_beq_eq_true g1,Nat.eq_of_beq_eq_true g2,by rw[hv,Ww g3]⟩
  ·cases g3
 ·cases h1
def ptB(P:Program)(T:TypeId):Bool:=
 match P.underlying T with
 |some (.pointer _)=>true
 |_=>false
structure nD where
 Be:List (Option Ty)
 PK:List Nat
 xj:List Bool
 Kk:List (TypeId×TypeId×TypeId):=[]
def uw:List (TypeId×TypeId×TypeId)->TypeId->Option (TypeId×TypeId)
 | [],_=>none
 |q::r,T=>bif Nat.beq q.1 T then some q.2 else uw r T
def QL(P:Program)(q:TypeId×TypeId×TypeId):Bool:=
 match P.underlying q.1 with
 |some (.map k e)=>Nat.beq k q.2.1&&Nat.beq e q.2.2
 |_=>false
theorem Hb{P:Program}:∀{l:List (TypeId×TypeId×TypeId)},l.all (QL P)=true->∀{T k e:TypeId},uw l T=some (k,e)->P.underlying T=some (.map k e)
 |q::r,hl,T,k,e,h=>by
  simp only[List.all_cons,Bool.and_eq_true] at hl
  unfold uw at h
  cases hq:Nat.beq q.1 T with
  |false=>rw[hq] at h;exact Hb hl.2 h
  |true=>
   rw[hq] at h
   have:=Nat.eq_of_beq_eq_true hq
   subst this
   have h1:=hl.1
   unfold QL at h1
   split at h1
   ·rename_i k' e' hu
    simp only[Bool.and_eq_true] at h1
    have a1:=Nat.eq_of_beq_eq_true h1.1
    have a2:=Nat.eq_of_beq_eq_true h1.2
    rw[hu,a1,a2]
    have h:some q.2=some (k,e):=h
    injection h with h
    rw[h]
   ·cases h1
def nD.env(t:nD)(cZ j6:Nat->List Nat)(outs:List Nat)(ps:List Ty):Env:=⟨fun T=>t.Be.getD T none,fun T=>t.PK.getD T 0,fun T=>t.xj.getD T false,cZ,j6,outs,ps,uw t.Kk,fun _=>none,fun _=>none,fun _=>[],[],false,[],fun _=>[],fun _=>none,none⟩
def nD.qE(t:nD):Env:=t.env (fun _=>[]) (fun _=>[]) [] []
def nD.ok(P:Program)(t:nD):Bool:=(List.range t.Be.length).all (yr P t.qE)&&((List.range t.xj.length).all (fun T=> !t.xj.getD T false||ptB P T)&&t.Kk.all (QL P))
theorem sB{E':Env}(h1:E.ty=E'.ty)(h2:E.bytes=E'.bytes){T:TypeId}{t:Ty}(h:kp P E T t):kp P E' T t:=by
 have cM:∀(fl:List Field) (t:Ty) (off:Nat),ia E fl t off->ia E' fl t off:=by
  intro fl
  induction fl with
  |nil=>intro t off h;cases t<;>simp_all [ia]
  |cons f r ih=>
   intro t off h
   cases t<;>simp only[ia] at h⊢ <;>try exact h
   exact⟨h.1,by rw[<-h1];exact h.2.1,h.2.2.1,ih _ _ h.2.2.2⟩
 refine⟨by rw[<-h2];exact h.info,?_⟩
 have hu:=h.cO
 cases t with
 |bool=>exact hu
 |int k=>exact hu
 |str=>exact hu
 |sl e u=>exact⟨hu.1,by rw[<-h1];exact hu.2⟩
 |arr n u=>obtain⟨e,g1,g2⟩:=hu;exact⟨e,g1,by rw[<-h1];exact g2⟩
 |unit=>obtain⟨fs,g1,g2,g3⟩:=hu;exact⟨fs,g1,cM _ _ _ g2,g3⟩
 |pair a b=>obtain⟨fs,g1,g2,g3⟩:=hu;exact⟨fs,g1,cM _ _ _ g2,g3⟩
 |aT k a b=>exact hu.elim
theorem ak.join(h:ak P E)(j:Nat->Option (List Nat)):ak P {E with join:=j}:=
 ⟨fun T u hT=>sB (E:=E) (E':={E with join:=j}) rfl rfl (h.ty T u hT),h.pt,h.mp,h.bl⟩
theorem ak.fz(h:ak P E)(j:Nat->Option (Nat×TypeId)):ak P {E with fz:=j}:=
 ⟨fun T u hT=>sB (E:=E) (E':={E with fz:=j}) rfl rfl (h.ty T u hT),h.pt,h.mp,h.bl⟩
theorem ak.dr(h:ak P E)(j:Nat->List Nat):ak P {E with dr:=j}:=
 ⟨fun T u hT=>sB (E:=E) (E':={E with dr:=j}) rfl rfl (h.ty T u hT),h.pt,h.mp,h.bl⟩
theorem ak.sh(h:ak P E)(j:List Nat):ak P {E with sh:=j}:=
 ⟨fun T u hT=>sB (E:=E) (E':={E with sh:=j}) rfl rfl (h.ty T u hT),h.pt,h.mp,h.bl⟩
theorem ak.mv(h:ak P E)(j:List Nat):ak P {E with mv:=j}:=
 ⟨fun T u hT=>sB (E:=E) (E':={E with mv:=j}) rfl rfl (h.ty T u hT),h.pt,h.mp,h.bl⟩
theorem ak.fr(h:ak P E)(j:Nat->List Nat):ak P {E with fr:=j}:=
 ⟨fun T u hT=>sB (E:=E) (E':={E with fr:=j}) rfl rfl (h.ty T u hT),h.pt,h.mp,h.bl⟩
def blB(P:Program)(T:TypeId):Bool:=
 match P.info? T with
 |some i=>match i.zero with
  |some (.agg a)=>match a.toList with
   | [.pointer none,.slice none 0 0]=>true
   |_=>false
  |_=>false
 |none=>false
theorem ak.fw(h:ak P E)(T e:TypeId)(hT:blB P T=true):ak P {E with bl:=fun t=>bif Nat.beq t T then some e else none}:=
 ⟨fun T' u hT=>sB (E:=E) (E':={E with bl:=fun t=>bif Nat.beq t T then some e else none}) rfl rfl (h.ty T' u hT),h.pt,h.mp,fun T' e' he=>by
   have he:(bif Nat.beq T' T then some e else none)=some e':=he
   cases hb:Nat.beq T' T with
   |false=>rw[hb] at he;cases he
   |true=>
    have:=Nat.eq_of_beq_eq_true hb
    subst this
    unfold blB at hT
    split at hT
    case h_2=>cases hT
    rename_i i hi
    split at hT
    case h_2=>cases hT
    rename_i a ha
    split at hT
    case h_2=>cases hT
    rename_i hl
    exact⟨i,hi,by rw[ha];congr 1;congr 1;apply Array.ext';rw[hl]⟩⟩
theorem ak.sp(h:ak P E)(j:Option (Nat×Nat×Nat×Nat)):ak P {E with sp:=j}:=
 ⟨fun T u hT=>sB (E:=E) (E':={E with sp:=j}) rfl rfl (h.ty T u hT),h.pt,h.mp,h.bl⟩
theorem ak.ro(h:ak P E)(j:Bool):ak P {E with ro:=j}:=
 ⟨fun T u hT=>sB (E:=E) (E':={E with ro:=j}) rfl rfl (h.ty T u hT),h.pt,h.mp,h.bl⟩
theorem nD.ku{t:nD}(h:t.ok P=true)(cZ j6:Nat->List Nat)(outs:List Nat)(ps:List Ty):ak P (t.env cZ j6 outs ps):=by
 unfold nD.ok at h
 simp only[Bool.and_eq_true] at h
 refine⟨fun T u hT=> ?_,fun T hT=> ?_,fun T k e hT=>Hb h.2.2 hT,fun T e hT=>by cases hT⟩
 ·refine sB (E:=t.qE) (E':=t.env cZ j6 outs ps) rfl rfl (YG ?_ hT)
  refine List.all_eq_true.1 h.1 T (List.mem_range.2 ?_)
  have wG:t.Be.getD T none=some u:=hT
  rcases Nat.lt_or_ge T t.Be.length with h1|h1
  ·exact h1
  ·rw[List.getD_eq_getElem?_getD,List.getElem?_eq_none h1] at wG;cases wG
 ·have wG:t.xj.getD T false=true:=hT
  have ar:T<t.xj.length:=by
   rcases Nat.lt_or_ge T t.xj.length with h1|h1
   ·exact h1
   ·rw[List.getD_eq_getElem?_getD,List.getElem?_eq_none h1] at wG;cases wG
  have:=List.all_eq_true.1 h.2.1 T (List.mem_range.2 ar)
  rw[wG] at this
  simp only[Bool.not_true,Bool.false_or] at this
  unfold ptB at this
  split at this
  ·rename_i e he;exact⟨e,he⟩
  ·cases this
end Go.Ref

namespace Go.Ref
open Go
variable {P:Program} {E:Env}
abbrev Pure:=(R:Type)->List SV->Option bk->(List SV->Option bk->Option R)->Option R
def Pure.Nat(g:Pure):Prop:=∀(R S:Type) l b (F:List SV->Option bk->Option R) (G:List SV->Option bk->Option S) (K:S->Option R),(∀r b,F r b=(G r b).bind K)->g R l b F=(g S l b G).bind K
def af.none:af:=fun _ _ _ _ _=> .none
def af.add(C:af)(n:FuncId)(ps:List Ty)(g:Pure):af:=fun R f l b K=>bif Nat.beq f n then g R (aI ps l) b K else C R f l b K
theorem Y0:af.none.Nat:=fun _ _ _ _ _ _ _ _ _=>rfl
theorem VQ(f:FuncId):cK P af.none f:=fun _ _ _ _ h=>by cases h
theorem Nf{C:af}{n:FuncId}{ps:List Ty}{g:Pure}(hC:C.Nat)(hg:g.Nat):(C.add n ps g).Nat:=fun R S f l b F G K h=>by
 unfold af.add
 cases Nat.beq f n with
 |false=>exact hC R S f l b F G K h
 |true=>exact hg R S _ b F G K h
theorem Yb(hE:ak P E)(hm:P.follows .mixedOrders=true){C:af}(hC:C.Nat)(h0:∀f,cK P C f){n:FuncId}{ps:List Ty}{g:Pure}{fn:Func}{code:Code}(js:P.funcs[n]? =some fn)(qS:(fn.name== "runtime.NumGoroutine")=false)(nW:fn.body=some code)
 (h:∀(l:List SV) (b:Option bk) (r:List SV) (b':Option bk),g (List SV×Option bk) (aI ps l) b (fun r b=>some (r,b))=some (r,b')->∃k,im E (C (List SV×Option bk)) k fn code l b (fun r b=>some (r,b))=some (r,b')):∀f,cK P (C.add n ps g) f:=by
 intro f
 by_cases e:f=n
 ·subst e
  refine abe hE hm hC h0 js qS nW fun l b r b' hc=>h l b r b' ?_
  unfold af.add at hc
  have:Nat.beq f f=true:=by simp
  rw[this] at hc
  exact hc
 ·intro l b r b' hc
  unfold af.add at hc
  have:Nat.beq f n=false:=by
   cases hh:Nat.beq f n with
   |false=>rfl
   |true=>exact absurd (Nat.eq_of_beq_eq_true hh) e
  rw[this] at hc
  exact h0 f l b r b' hc
def sub:List Nat->Code->Code
 | [],c=>c
 |0::p,.seq a _=>sub p a
 |_::p,.seq _ b=>sub p b
 |0::p,.cond _ a _=>sub p a
 |_::p,.cond _ _ b=>sub p b
 |_::p,.block _ b=>sub p b
 |_::p,.loop b=>sub p b
 |_,c=>c
section
variable {R:Type}
def zl(id:Nat)(K:Ex->State->Option R):Ex->State->Option R:=fun e s=>match e with
 | .exit j=>bif Nat.beq j id then K .normal s else K (.exit j) s
 |e=>K e s
def aM(E:Env)(C:FuncId->bF R)(k:Nat)(b:Code)(K:Ex->State->Option R):Ex->State->Option R:=fun e s=>match e with
 | .normal=>lO E k (rT b) s fun s=>ev E C k b s K
 |e=>K e s
def aK(E:Env)(rs:List ResultVar)(bx:Option bk)(K:List SV->Option bk->Option R):Ex->State->Option R:=fun e s=>match e with
 | .exit _=>none
 |_=>match fG E s rs with
  |some (l,s')=>Ch s' bx (hI E l) K
  |none=>none
end
section
variable {R:Type}
def gR(l:List SV)(K:Option R):Option R:=
 match l with
 | []=>K
 |_=>none
def gS(t:Ty)(l:List SV)(K:El t->Option R):Option R:=
 match l with
 | [a]=>a.el t K
 |_=>none
def ga(t u:Ty)(l:List SV)(K:El t->El u->Option R):Option R:=
 match l with
 | [a,b]=>a.el t fun x=>b.el u fun y=>K x y
 |_=>none
def jV(t u v:Ty)(l:List SV)(K:El t->El u->El v->Option R):Option R:=
 match l with
 | [a,b,c]=>a.el t fun x=>b.el u fun y=>c.el v fun z=>K x y z
 |_=>none
def jW(t u v w:Ty)(l:List SV)(K:El t->El u->El v->El w->Option R):Option R:=
 match l with
 | [a,b,c,d]=>a.el t fun x=>b.el u fun y=>c.el v fun z=>d.el w fun z'=>K x y z z'
 |_=>none
end
theorem aa9{R:Type}{t:Ty}{v:SV}{r:List Ty}{q:List SV}{K:El t->Option R}{z:R}{v':SV}{q':List SV}(hn:aI (t::r) (v::q)=v'::q')(h:v'.el t K=some z):∃y,v'= .ah t y []/\q'=aI r q/\K y=some z:=by
 have key:v'=v.shut/\q'=aI r q\/(∃e u,t= .sl e u/\v'= .ah (.sl e u) ([]:List (El u)) []/\q'=aI r q):=by
  cases t<;>cases v<;>simp only[aI,List.cons.injEq] at hn<;>first|exact .inl ⟨hn.1.symm,hn.2.symm⟩|exact .inr ⟨_,_,rfl,hn.1.symm,hn.2.symm⟩
 rcases key with⟨rfl,rfl⟩|⟨e,u,rfl,rfl,rfl⟩
 ·cases v with
  |ah t' x own=>
   simp only[SV.shut,SV.el] at h
   split at h
   ·rename_i heq
    have:=Ty.aH heq
    subst this
    exact⟨x,rfl,rfl,h⟩
   ·cases h
  |cm=>cases t<;>first|(simp [SV.shut,SV.el] at h;done)|(simp [aI,SV.shut] at hn;done)
  |_=>simp [SV.shut,SV.el] at h
 ·simp only[SV.el,Ty.bJ,dite_true] at h
  exact⟨[],rfl,rfl,h⟩
theorem zmv(hE:ak P E){H:Type}{enc:TypeId×Value->H}{w:World}{spare:Nat->Bool}{held:Bool}{β:Nat->Option Nat}{base b:Nat}{T:TypeId}{t:Ty}{v:Value}{d:DataW H}{ps:List MemPlace}(hT:E.ty T=some t)(iq:t.fg=true)
 (hv:Value.okWide P w .any b T v) (hd:DataW.Trod enc P w base spare held T v d ps):∃y:El t,Wf t y/\∀q,au (rW w β) q (.ah t y []) v:=by
 obtain⟨cj,hd⟩:=hd
 obtain⟨y,r,wf⟩:=(abl (β:=β) hE t).1 T cj _ _ hT iq hd
 refine⟨y,wf,fun q=>⟨_,r,?_,lZ⟩⟩
 have hu:=(hE.ty T t hT).cO
 have hl:=r.len
 cases ht:t.agg with
 |true=>
  rw[iz ht]
  have:∃cs,v= .agg cs:=by
   unfold Value.okWide at hv
   cases t with
   |arr n t=>obtain⟨e,h1,_⟩:=hu;rw[h1] at hv;obtain⟨cs,h,_⟩:=hv;exact⟨cs,h⟩
   |unit=>obtain⟨fs,h1,_⟩:=hu;rw[h1] at hv;obtain⟨cs,h,_⟩:=hv;exact⟨cs,h⟩
   |pair a b=>obtain⟨fs,h1,_⟩:=hu;rw[h1] at hv;obtain⟨cs,h,_⟩:=hv;exact⟨cs,h⟩
   |aT k a b=>exact absurd (hE.gM hT) (by simp [Ty.bE])
   |_=>simp [Ty.agg] at ht
  obtain⟨cs,rfl⟩:=this
  rfl
 |false=>
  have Qe:∀cs,v≠ .agg cs:=by
   rintro cs rfl
   unfold Value.okWide at hv
   cases t with
   |bool=>have hu:P.underlying T=some .bool:=hu;rw[hu] at hv;unfold Cell.okWide at hv;rw[hu] at hv;unfold Cell.ok at hv;rw[hu] at hv;exact hv
   |int k=>have hu:P.underlying T=some (.int k):=hu;rw[hu] at hv;unfold Cell.okWide at hv;rw[hu] at hv;unfold Cell.ok at hv;rw[hu] at hv;exact hv
   |str=>have hu:P.underlying T=some .string:=hu;rw[hu] at hv;unfold Cell.okWide at hv;rw[hu] at hv;unfold Cell.ok at hv;rw[hu] at hv;exact hv
   |sl e t=>have hu:P.underlying T=some (.slice e):=hu.1;rw[hu] at hv;unfold Cell.okWide at hv;rw[hu] at hv;unfold Cell.ok at hv;rw[hu] at hv;exact hv
   |_=>simp [Ty.agg] at ht
  have hc:v.cells.toList=[v]:=by
   cases v<;>first|rfl|exact absurd rfl (Qe _)
  rw[hc,Jg ht]
theorem TJ{w:World}{β:Nat->Option Nat}{Y:ap}(h:Ext (rW w β) Y):∀g,g<w.heap.size->Y.w.heap[g]? =w.heap[g]? :=fun g hg=>(h.still g hg trivial).2
end Go.Ref

namespace Go.Ref
open Go
theorem zZ{x:Int}(h1: -9223372036854775808<=x)(h2:x<=9223372036854775807):IntKind.i64.wrap x=x:=by
 simp [IntKind.wrap,IntKind.signed,IntKind.bits]
 omega
theorem Wu{R:Type}{j n:Nat}{x:Option R}(h:j<n):zd (j:Int) n x=x:=by
 unfold zd
 rw[decide_eq_true (by omega:(0:Int)<=j),decide_eq_true (by omega:(j:Int)<n)]
 rfl
variable {P:Program} {E:Env}
def Jh(X:ap):List SV->List Value->Prop
 | [],[]=>True
 |s::l,v::vs=>(∀q,au X q s v)/\(∀id t p,s≠ .ptr id t p)/\Jh X l vs
 |_,_=>False
theorem zqg{X:ap}:∀{l:List SV} {vs:List Value},Jh X l vs->vs.length=l.length/\∀(i:Nat) s v,l[i]? =some s->vs[i]? =some v->(∀q,au X q s v)/\∀id t p,s≠ .ptr id t p
 | [],[],_=>⟨rfl,fun i s v h=>by simp at h⟩
 |s::l,v::vs,h=>by
  obtain⟨h1,h2,h3⟩:=h
  obtain⟨g1,g2⟩:=zqg h3
  refine⟨by simp [g1],fun i s' v' hs hv=> ?_⟩
  cases i with
  |zero=>
   simp only[List.getElem?_cons_zero,Option.some.injEq] at hs hv
   subst hs hv
   exact⟨h1,h2⟩
  |succ i=>
   simp only[List.getElem?_cons_succ] at hs hv
   exact g2 i s' v' hs hv
theorem YD{X:ap}{l:List SV}{args:Array Value}(h:Jh X l args.toList)(hX:∀g pl n,X.ow g≠ .row pl n):jL X l none args:=by
 obtain⟨h1,h2⟩:=zqg h
 refine⟨by simpa using h1,fun i sv v hs hv=>(h2 i sv v hs (by simpa using hv)).1 _,fun id t p hm=> ?_,fun B hB=>(by cases hB),fun _=>hX⟩
 obtain⟨i,hi⟩:=List.mem_iff_getElem?.1 hm
 have ar:=(List.getElem?_eq_some_iff.1 hi).1
 have qQ:i<args.toList.length:=by omega
 exact absurd rfl ((h2 i _ _ hi (List.getElem?_eq_getElem qQ)).2 id t p)
theorem V4{C:af}{f:FuncId}(ho:cK P C f){l:List SV}{args:Array Value}{W:World}{b:Bool}(hc:C (List SV×Option bk) f l none (fun r b=>some (r,b))=some ([.ah .bool b []],none))(gK:Jh (rW W fun _=>none) l args.toList):
 Calls P f args W fun e w'=>e= .returned (.bool b)/\RowKit.Below W.heap.size W w':=by
 refine((ho l none _ _ hc).2 (rW W fun _=>none) args (YD gK fun g pl n e=>by cases e)).mono fun e w' he=> ?_
 cases e with
 |returned v=>
  obtain⟨Y,rfl,aZ,r0,aJ,_,_⟩:=he
  have aJ:au {Y with β:=fun _=>some r0} (.r 0) (.ah .bool b []) v:=aJ
  refine⟨by rw[H5 aJ],aZ.os,aZ.tape,aZ.output,aZ.size,fun k hk=>TJ aZ k hk⟩
 |panicked c=>exact he.elim
 |outgrown=>exact he.elim
end Go.Ref

namespace Go.Ref
open Go
variable {P:Program} {E:Env}
def bs(l:List Nat):ByteArray:=⟨(l.map UInt8.ofNat).toArray⟩
@[irreducible] def ag:Nat:=18446744073709551616
theorem Tw{R:Type}(f:Unit->Option R):bP ag f=f ():=by
 have:ag=18446744073709551615+1:=by unfold ag;rfl
 rw[this];rfl
section
variable {R S:Type}
def xc(body:State->(Ex->State->Option R)->Option R)(l lx:List Nat)(k:Nat)(K:Ex->State->Option R):Ex->State->Option R:=fun e s=>match e with
 | .normal=>pq l s fun s=>ax body l lx k s K
 |e=>pq lx s fun s=>K e s
def mG(t:Ty)(own:List (List Nat))(l:List SV)(b:Option bk)(K:El t->List SV->Option R):Option R:=
 match l,b with
 | .ptr 0 u []::r,some B=>if h:B.t.b7 t=true then if(u.b7 t&&B.own==own)=true then K (Ty.cast h B.x) r else none else none
 |_,_=>none
def jU(t pt bt:Ty)(own:List (List Nat))(l:List SV)(b:Option bk)(K:El t->El bt->Option R):Option R:=
 match l,b with
 | [a,.ptr 0 u []],some B=>if h:B.t.b7 bt=true then if(u.b7 pt&&B.own==own)=true then a.el t fun y=>K y (Ty.cast h B.x) else none else none
 |_,_=>none
def Cf(t u v w:Ty)(l:List SV)(K:El t->El u->El v->El w->Option R):Option R:=
 match l with
 | [a,b,.view v' x,.view w' y]=>if h:v'.b7 v=true then if h2:w'.b7 w=true then a.el t fun p=>b.el u fun q=>K p q (Ty.cast h x) (Ty.cast h2 y) else none else none
 |_=>none
def fc(b:Option bk)(K:Option R):Option R:=
 match b with
 |none=>K
 |some _=>none
theorem Ae{b:Option bk}{F:Option R}{G:Option S}{K:S->Option R}(h:F=G.bind K):fc b F=(fc b G).bind K:=by
 cases b
 ·exact h
 ·rfl
theorem Ac{b:Option bk}{F:Option R}{z:R}(h:fc b F=some z):b=none/\F=some z:=by
 cases b
 ·exact⟨rfl,h⟩
 ·cases h
theorem zfd(c:Bool)(x y:Option S)(F:S->Option R):(bif c then x else y).bind F=bif c then x.bind F else y.bind F:=by cases c<;>rfl
theorem SZ(i:Int)(n:Nat)(x:Option S)(F:S->Option R):(zd i n x).bind F=zd i n (x.bind F):=by
 unfold zd;rw[zfd,zfd];rfl
theorem VP(F:S->Option R):(none:Option S).bind F=none:=Eq.trans rfl rfl
theorem zc(x:S)(F:S->Option R):(some x).bind F=F x:=Eq.trans rfl rfl
theorem Zg{α β:Type}(f:α->Option S)(g:β->Option S)(e:α⊕β)(F:S->Option R):(Sum.elim f g e).bind F=Sum.elim (fun x=>(f x).bind F) (fun x=>(g x).bind F) e:=by cases e<;>rfl
theorem U9{α:Type}(x:Option α)(f:α->Option S)(F:S->Option R):(x.bind f).bind F=x.bind fun y=>(f y).bind F:=by cases x<;>rfl
theorem zw0{l:List SV}{F:Option R}{G:Option S}{K:S->Option R}(h:F=G.bind K):gR l F=(gR l G).bind K:=by
 unfold gR;split
 ·exact h
 ·rfl
theorem zw1{t:Ty}{l:List SV}{F:El t->Option R}{G:El t->Option S}{K:S->Option R}(h:∀x,F x=(G x).bind K):gS t l F=(gS t l G).bind K:=by
 unfold gS;split
 ·exact zq h
 ·rfl
theorem zw2{t u:Ty}{l:List SV}{F:El t->El u->Option R}{G:El t->El u->Option S}{K:S->Option R}(h:∀x y,F x y=(G x y).bind K):ga t u l F=(ga t u l G).bind K:=by
 unfold ga;split
 ·exact zq fun x=>zq fun y=>h x y
 ·rfl
theorem U4{t u v:Ty}{l:List SV}{F:El t->El u->El v->Option R}{G:El t->El u->El v->Option S}{K:S->Option R}(h:∀x y z,F x y z=(G x y z).bind K):jV t u v l F=(jV t u v l G).bind K:=by
 unfold jV;split
 ·exact zq fun x=>zq fun y=>zq fun z=>h x y z
 ·rfl
theorem U5{t u v w:Ty}{l:List SV}{F:El t->El u->El v->El w->Option R}{G:El t->El u->El v->El w->Option S}{K:S->Option R}(h:∀x y z a,F x y z a=(G x y z a).bind K):jW t u v w l F=(jW t u v w l G).bind K:=by
 unfold jW;split
 ·exact zq fun x=>zq fun y=>zq fun z=>zq fun a=>h x y z a
 ·rfl
theorem Fu{t:Ty}{own:List (List Nat)}{l:List SV}{b:Option bk}{F:El t->List SV->Option R}{G:El t->List SV->Option S}{K:S->Option R}(h:∀x r,F x r=(G x r).bind K):mG t own l b F=(mG t own l b G).bind K:=by
 unfold mG;split
 ·split
  ·split
   ·exact h _ _
   ·rfl
  ·rfl
 ·rfl
theorem U3{t pt bt:Ty}{own:List (List Nat)}{l:List SV}{b:Option bk}{F:El t->El bt->Option R}{G:El t->El bt->Option S}{K:S->Option R}(h:∀x y,F x y=(G x y).bind K):jU t pt bt own l b F=(jU t pt bt own l b G).bind K:=by
 unfold jU;split
 ·split
  ·split
   ·exact zq fun y=>h _ _
   ·rfl
  ·rfl
 ·rfl
theorem Tb{t u v w:Ty}{l:List SV}{F:El t->El u->El v->El w->Option R}{G:El t->El u->El v->El w->Option S}{K:S->Option R}(h:∀x y z a,F x y z a=(G x y z a).bind K):Cf t u v w l F=(Cf t u v w l G).bind K:=by
 unfold Cf;split
 ·split
  ·split
   ·exact zq fun x=>zq fun y=>h x y _ _
   ·rfl
  ·rfl
 ·rfl
theorem ss{α:Type}{m:Option α}{F:α->Option R}{G:α->Option S}{K:S->Option R}(h:∀r,F r=(G r).bind K):m.bind F=(m.bind G).bind K:=by
 cases m with
 |none=>rfl
 |some x=>exact h x
theorem Hl{α β:Type}{f:α->Option R}{g:β->Option R}{f':α->Option S}{g':β->Option S}{K:S->Option R}{e:α⊕β}(h1:∀x,f x=(f' x).bind K)(h2:∀x,g x=(g' x).bind K):Sum.elim f g e=(Sum.elim f' g' e).bind K:=by
 cases e with
 |inl x=>exact h1 x
 |inr x=>exact h2 x
end
section
variable {R:Type}
theorem VC{C:FuncId->bF R}{k:Nat}{fn:Func}{code:Code}{l q:List SV}{b:Option bk}{K:List SV->Option bk->Option R}(h:aI E.ps l=q)(hq:aI E.ps q=q)(hl:q.length=l.length):im E C k fn code l b K=im E C k fn code q b K:=by
 unfold im
 simp only[h,hq,hl]
theorem zxi:∀{ts:List Ty} {q:List SV},(∀s∈q,s.shut=s/\s≠ .cm)->aI ts q=q
 |ts,[],_=>by cases ts<;>simp [aI]
 | [],q,_=>by simp [aI]
 |t::r,v::q,h=>by
  have h1:=h v (by simp)
  have h2:=zxi (ts:=r) (q:=q) (fun s hs=>h s (by simp [hs]))
  cases t<;>cases v<;>simp [aI,h2]<;>first|exact h1.1|exact absurd rfl h1.2
theorem Y1{ts:List Ty}{l:List SV}(h:aI ts l=[]):l=[]:=by
 have:=KO ts l
 rw[h] at this
 exact List.length_eq_zero_iff.1 this.symm
theorem VS{t:Ty}{r:List Ty}{l:List SV}{v':SV}{q':List SV}(h:aI (t::r) l=v'::q'):∃v q,l=v::q:=by
 cases l with
 |nil=>simp [aI] at h
 |cons v q=>exact⟨v,q,rfl⟩
theorem pn{t:Ty}{r:List Ty}{l:List SV}{a:SV}{q':List SV}{K:El t->Option R}{z:R}(hn:aI (t::r) l=a::q')(h:a.el t K=some z):∃y v q,a= .ah t y []/\l=v::q/\aI r q=q'/\K y=some z:=by
 obtain⟨v,q,rfl⟩:=VS hn
 obtain⟨y,h1,h2,h3⟩:=aa9 hn h
 exact⟨y,v,q,h1,rfl,h2.symm,h3⟩
theorem Af{l q:List SV}(hn:aI E.ps l=q)(hd:∀s∈q,s.shut=s/\s≠ .cm){C:FuncId->bF R}{k:Nat}{fn:Func}{code:Code}{b:Option bk}{K:List SV->Option bk->Option R}:im E C k fn code l b K=im E C k fn code q b K:=
 VC hn (zxi hd) (by rw[<-hn,KO])
theorem AU{t:Ty}{x:El t}:(SV.ah t x []).shut=SV.ah t x []/\SV.ah t x []≠ .cm:=⟨rfl,by simp⟩
def kn(E:Env)(l q:List SV):Prop:=∀{R:Type} (C:FuncId->bF R) (k:Nat) (fn:Func) (code:Code) (b:Option bk) (K:List SV->Option bk->Option R),im E C k fn code l b K=im E C k fn code q b K
theorem uC{l:List SV}{F:Option R}{z:R}(j4:E.ps=[])(h:gR (aI [] l) F=some z):F=some z/\kn E l []:=by
 unfold gR at h
 split at h
 ·rename_i hn
  have:=Y1 hn
  subst this
  exact⟨h,fun C k fn code b K=>rfl⟩
 ·cases h
theorem RO{t:Ty}{l:List SV}{F:El t->Option R}{z:R}(j4:E.ps=[t])(h:gS t (aI [t] l) F=some z):∃x,F x=some z/\kn E l [.ah t x []]:=by
 unfold gS at h
 split at h
 ·rename_i a hn
  obtain⟨x,v,q,rfl,rfl,h1,h⟩:=pn hn h
  refine⟨x,h,fun C k fn code b K=>Af (by rw[j4];exact hn) ?_⟩
  intro s hs
  simp only[List.mem_cons,List.not_mem_nil,or_false] at hs
  subst hs;exact AU
 ·cases h
theorem rE{t u:Ty}{l:List SV}{F:El t->El u->Option R}{z:R}(j4:E.ps=[t,u])(h:ga t u (aI [t,u] l) F=some z):∃x y,F x y=some z/\kn E l [.ah t x [],.ah u y []]:=by
 unfold ga at h
 split at h
 ·rename_i a b hn
  obtain⟨x,v,q,rfl,rfl,h1,h⟩:=pn hn h
  obtain⟨y,v',q',rfl,rfl,h2,h⟩:=pn h1 h
  refine⟨x,y,h,fun C k fn code b K=>Af (by rw[j4];exact hn) ?_⟩
  intro s hs
  simp only[List.mem_cons,List.not_mem_nil,or_false] at hs
  rcases hs with rfl|rfl<;>exact AU
 ·cases h
theorem RP{t u v:Ty}{l:List SV}{F:El t->El u->El v->Option R}{z:R}(j4:E.ps=[t,u,v])(h:jV t u v (aI [t,u,v] l) F=some z):∃x y a,F x y a=some z/\kn E l [.ah t x [],.ah u y [],.ah v a []]:=by
 unfold jV at h
 split at h
 ·rename_i a b c hn
  obtain⟨x,v,q,rfl,rfl,h1,h⟩:=pn hn h
  obtain⟨y,v',q',rfl,rfl,h2,h⟩:=pn h1 h
  obtain⟨w,v',q',rfl,rfl,h3,h⟩:=pn h2 h
  refine⟨x,y,w,h,fun C k fn code b K=>Af (by rw[j4];exact hn) ?_⟩
  intro s hs
  simp only[List.mem_cons,List.not_mem_nil,or_false] at hs
  rcases hs with rfl|rfl|rfl<;>exact AU
 ·cases h
theorem RQ{t u v w:Ty}{l:List SV}{F:El t->El u->El v->El w->Option R}{z:R}(j4:E.ps=[t,u,v,w])(h:jW t u v w (aI [t,u,v,w] l) F=some z):∃x y a b,F x y a b=some z/\kn E l [.ah t x [],.ah u y [],.ah v a [],.ah w b []]:=by
 unfold jW at h
 split at h
 ·rename_i a b c d hn
  obtain⟨x,v,q,rfl,rfl,h1,h⟩:=pn hn h
  obtain⟨y,v',q',rfl,rfl,h2,h⟩:=pn h1 h
  obtain⟨w,v',q',rfl,rfl,h3,h⟩:=pn h2 h
  obtain⟨w',v',q',rfl,rfl,h4,h⟩:=pn h3 h
  refine⟨x,y,w,w',h,fun C k fn code b K=>Af (by rw[j4];exact hn) ?_⟩
  intro s hs
  simp only[List.mem_cons,List.not_mem_nil,or_false] at hs
  rcases hs with rfl|rfl|rfl|rfl<;>exact AU
 ·cases h
theorem zvz{t:Ty}{own:List (List Nat)}{l:List SV}{b:Option bk}{F:El t->List SV->Option R}{z:R}(h:mG t own l b F=some z):∃x r,l= .ptr 0 t []::r/\b=some ⟨t,x,own⟩/\F x r=some z:=by
 unfold mG at h
 split at h
 ·rename_i u r B
  split at h
  ·rename_i hB
   split at h
   ·rename_i hu
    simp only[Bool.and_eq_true,beq_iff_eq] at hu
    obtain⟨h1,h2⟩:=hu
    obtain⟨Bt,Bx,Bo⟩:=B
    have:=Ty.aH hB
    have h3:=Ty.aH h1
    subst this
    subst h3
    subst h2
    exact⟨Bx,r,rfl,rfl,h⟩
   ·cases h
  ·cases h
 ·cases h
theorem HZ{t:Ty}:(SV.ptr 0 t []).shut=SV.ptr 0 t []/\SV.ptr 0 t []≠ .cm:=⟨rfl,by simp⟩
theorem kn.ptr{t:Ty}{ts:List Ty}{q q':List SV}(j4:E.ps= .unit::ts)(hn:aI ts q=q')(hd:∀s∈q',s.shut=s/\s≠ .cm):kn E (.ptr 0 t []::q) (.ptr 0 t []::q'):=fun C k fn code b K=>
 Af (by rw[j4];simp [aI,SV.shut,hn]) (fun s hs=>by
  rcases List.mem_cons.1 hs with rfl|hs
  ·exact HZ
  ·exact hd s hs)
theorem E8{t pt bt:Ty}{own:List (List Nat)}{l:List SV}{b:Option bk}{F:El t->El bt->Option R}{z:R}(j4:E.ps=[t,.unit])(h:jU t pt bt own (aI [t,.unit] l) b F=some z):
 ∃x y,b=some ⟨bt,y,own⟩/\F x y=some z/\kn E l [.ah t x [],.ptr 0 pt []]:=by
 unfold jU at h
 split at h
 ·rename_i a u B hn
  split at h
  ·rename_i hB
   split at h
   ·rename_i hu
    simp only[Bool.and_eq_true,beq_iff_eq] at hu
    obtain⟨h1,h2⟩:=hu
    obtain⟨Bt,Bx,Bo⟩:=B
    have:=Ty.aH hB
    have h3:=Ty.aH h1
    subst this
    subst h3
    subst h2
    obtain⟨y,v,q,rfl,rfl,h4,h⟩:=pn hn h
    refine⟨y,Bx,rfl,h,fun C k fn code b K=>Af (by rw[j4];exact hn) ?_⟩
    intro s hs
    simp only[List.mem_cons,List.not_mem_nil,or_false] at hs
    rcases hs with rfl|rfl
    ·exact AU
    ·exact HZ
   ·cases h
  ·cases h
 ·cases h
theorem Hq{t:Ty}{x:El t}:(SV.view t x).shut=SV.view t x/\SV.view t x≠ .cm:=⟨rfl,by simp⟩
theorem E7{t u v w:Ty}{l:List SV}{F:El t->El u->El v->El w->Option R}{z:R}(j4:E.ps=[t,u,.unit,.unit])(h:Cf t u v w (aI [t,u,.unit,.unit] l) F=some z):
 ∃p q x y,F p q x y=some z/\kn E l [.ah t p [],.ah u q [],.view v x,.view w y]:=by
 unfold Cf at h
 split at h
 ·rename_i a b v' x w' y hn
  split at h
  ·rename_i hv
   split at h
   ·rename_i hw
    have:=Ty.aH hv
    have h3:=Ty.aH hw
    subst this
    subst h3
    obtain⟨p,v1,q1,rfl,rfl,h4,h⟩:=pn hn h
    obtain⟨q,v2,q2,rfl,rfl,h5,h⟩:=pn h4 h
    refine⟨p,q,x,y,h,fun C k fn code b K=>Af (by rw[j4];exact hn) ?_⟩
    intro s hs
    simp only[List.mem_cons,List.not_mem_nil,or_false] at hs
    rcases hs with rfl|rfl|rfl|rfl
    ·exact AU
    ·exact AU
    ·exact Hq
    ·exact Hq
   ·cases h
  ·cases h
 ·cases h
end
end Go.Ref

namespace Go.Ref
open Go
variable {P:Program} {E:Env}
def ap.after(X:ap)(w:World):ap:=⟨w,fun g=>if g<X.w.heap.size then X.ow g else .ro 0,X.β⟩
theorem zq3{X:ap}{w:World}(h:RowKit.Below X.w.heap.size X.w w){a:Addr}{v:Value}(hs:X.av a v):(X.after w).av a v:=by
 have ar:=ap.gy hs
 refine⟨hs.1,?_,?_⟩
 ·have:=hs.2.1
  simp only[World.cell?] at this⊢
  rw[show(X.after w).w=w from rfl,h.block _ ar];exact this
 ·simp only[ap.after];rw[if_pos ar];exact hs.2.2
theorem U1{X:ap}{w:World}(h:RowKit.Below X.w.heap.size X.w w):Ext X (X.after w) where
 av:=fun _ _=>zq3 h
 size:=h.size
 os:=h.os
 tape:=h.tape
 output:=h.output
 β0:=rfl
 still:=fun g hg _=>⟨by simp only[ap.after];rw[if_pos hg],h.block g hg⟩
theorem YS{C:af}(h0:∀f,cK P C f){n:FuncId}{g:Pure}(dQ:pA P n)
 (h:∀(l:List SV) (b:Option bk) (r:List SV) (b':Option bk),g (List SV×Option bk) l b (fun r b=>some (r,b))=some (r,b')->b'=none/\(∀id t p,SV.ptr id t p∉r)/\
   ∀(X:ap) (args:Array Value),jL X l b args->Calls P n args X.w fun e w'=>∃v,e= .returned v/\RowKit.Below X.w.heap.size X.w w'/\∀Y:ap,Y.w=w'->(∀a v,X.av a v->Y.av a v)->cu Y .r r v):∀f,cK P (C.add n [] g) f:=by
 intro f
 by_cases e:f=n
 ·subst e
  intro l b r b' hc
  unfold af.add at hc
  have hb:Nat.beq f f=true:=by simp
  rw[hb] at hc
  have hc:g (List SV×Option bk) (aI [] l) b (fun r b=>some (r,b))=some (r,b'):=hc
  have hl:aI [] l=l:=by cases l<;>rfl
  rw[hl] at hc
  obtain⟨rfl,hp,yB⟩:=h l b r b' hc
  refine⟨dQ,fun X args gK=>(yB X args gK).mono fun e w' he=> ?_⟩
  obtain⟨v,rfl,hB,aJ⟩:=he
  refine⟨X.after w',rfl,U1 hB,0,aJ {X.after w' with β:=fun _=>some 0} rfl (fun a v hs=>(zq3 hB hs:(X.after w').av a v)),fun B' fk=>(by cases fk),fun _=>hp⟩
 ·intro l b r b' hc
  unfold af.add at hc
  have:Nat.beq f n=false:=by
   cases hh:Nat.beq f n with
   |false=>rfl
   |true=>exact absurd (Nat.eq_of_beq_eq_true hh) e
  rw[this] at hc
  exact h0 f l b r b' hc
theorem zwu{X:ap}{l:List SV}{b:Option bk}{args:Array Value}(h:jL X l b args){i:Nat}{sv:SV}(hs:l[i]? =some sv){x:ByteArray}(hx:∀(X:ap) (pl:List Nat->Place) (v:Value),au X pl sv v->∃cs,aR X .str x cs/\v=dp .str cs):args[i]? =some (.string x):=by
 have ar:i<args.size:=by rw[h.size];exact(List.getElem?_eq_some_iff.1 hs).1
 rw[Array.getElem?_eq_getElem ar]
 obtain⟨cs,h1,h2⟩:=hx X _ _ (h.rep i sv _ hs (Array.getElem?_eq_getElem ar))
 rw[h2,l4 h1]
theorem Vz{X:ap}{l:List SV}{b:Option bk}{args:Array Value}(h:jL X l b args){i:Nat}{sv:SV}(hs:l[i]? =some sv){k:IntKind}{n:Int}(hx:∀(X:ap) (pl:List Nat->Place) (v:Value),au X pl sv v->∃cs,aR X (.int k) n cs/\v=dp (.int k) cs):args[i]? =some (.int k n):=by
 have ar:i<args.size:=by rw[h.size];exact(List.getElem?_eq_some_iff.1 hs).1
 rw[Array.getElem?_eq_getElem ar]
 obtain⟨cs,h1,h2⟩:=hx X _ _ (h.rep i sv _ hs (Array.getElem?_eq_getElem ar))
 rw[h2,kg h1]
theorem Yd{args:Array Value}{v:Value}(hs:args.size=1)(h:args[0]? =some v):args= #[v]:=by
 apply Array.ext'
 match hl:args.toList,(show args.toList.length=1 by simpa using hs) with
 | [x],_=>
   have:args.toList[0]? =some v:=by simpa using h
   rw[hl] at this
   simpa using this
theorem Fw{args:Array Value}{u v:Value}(hs:args.size=2)(h:args[0]? =some u)(h1:args[1]? =some v):args= #[u,v]:=by
 apply Array.ext'
 match hl:args.toList,(show args.toList.length=2 by simpa using hs) with
 | [x,y],_=>
   have a:args.toList[0]? =some u:=by simpa using h
   have b:args.toList[1]? =some v:=by simpa using h1
   rw[hl] at a b
   simp at a b
   rw[a,b]
theorem YT{C:af}(h0:∀f,cK P C f){n:FuncId}(dQ:pA P n)(F:ByteArray->Int->Option ByteArray)
 (h:∀(s:ByteArray) (k:Int) (r:ByteArray),F s k=some r->∀w:World,Calls P n #[.string s,.int .i64 k] w fun e w'=>e= .returned (.string r)/\RowKit.Below w.heap.size w w'):
 ∀f,cK P (C.add n [] fun R l b K=>fc b (ga .str (.int .i64) l fun x0 x1=>(F x0 x1).bind fun r=>K [.ah .str r []] none)) f:=by
 refine YS h0 dQ fun l b r b' hc=> ?_
 obtain⟨hb,hc2⟩:=Ac hc
 clear hc
 subst hb
 have hc:=hc2
 clear hc2
 unfold ga at hc
 split at hc
 case h_2=>cases hc
 rename_i sa sb
 obtain⟨s,hc,hs⟩:=zz hc
 obtain⟨k,hc,hk⟩:=zz hc
 have hc:((F s k).bind fun r=>some (([SV.ah .str r []]:List SV),(none:Option bk)))=some (r,b'):=hc
 cases hF:F s k with
 |none=>rw[hF] at hc;cases hc
 |some x=>
  rw[hF] at hc
  cases hc
  refine⟨rfl,fun id t p hm=>by simp at hm,fun X args gK=> ?_⟩
  have e:=Fw gK.size (zwu gK rfl hs) (Vz gK rfl hk)
  rw[e]
  exact(h s k x hF X.w).mono fun e w' ⟨he,hB⟩=>⟨_,he,hB,fun Y _ _=>xB⟩
end Go.Ref
namespace bn
open Go Go.Ref
def strings_Repeat(s:ByteArray)(k:Int):Option ByteArray:=
 bif decide (0<=k) then bif decide (k<=9223372036854775807) then bif decide ((s.size:Int)*k<=140737488355328) then some ⟨(Go.Lib.repeatL s.data.toList k.toNat).toArray⟩ else none else none else none
theorem zc9{P:Program}{ρ:Go.Shelf.Ren}(L:Go.Proofs.Lays.n105 P ρ)(B:Go.Proofs.Builder.Extra P ρ){n:FuncId}(hn:ρ.f 105=n)(s:ByteArray)(k:Int)(r:ByteArray)(h:strings_Repeat s k=some r)(w:World):
 Calls P n #[.string s,.int .i64 k] w fun e w'=>e= .returned (.string r)/\RowKit.Below w.heap.size w w':=by
 subst hn
 unfold strings_Repeat at h
 by_cases h0:0<=k
 ·by_cases h1:k<=9223372036854775807
  ·by_cases h2:(s.size:Int)*k<=140737488355328
   ·rw[decide_eq_true h0,decide_eq_true h1,decide_eq_true h2] at h
    cases h
    obtain⟨c,rfl⟩:∃c:Nat,k=(c:Int):=⟨k.toNat,by omega⟩
    exact Go.Proofs.Any.strings_Repeat L B s c w (by omega) (by rw[<-Int.natCast_mul] at h2;omega)
   ·rw[decide_eq_true h0,decide_eq_true h1,decide_eq_false h2] at h;cases h
  ·rw[decide_eq_true h0,decide_eq_false h1] at h;cases h
 ·rw[decide_eq_false h0] at h;cases h
end bn

namespace Go.Ref
open Go Go.Shelf Go.RowKit Go.Proofs
variable {P:Program} {E:Env} {ρ:Ren}
abbrev uH(T e:TypeId):Ty:= .aT (.fw T e) .unit .unit
def Ku(x s:ByteArray):Option (Int×ByteArray):=bif decide (x.size+s.size<=140737488355328) then some ((s.size:Int),x++s) else none
def z4y(x:ByteArray):Option (ByteArray×ByteArray):=some (x,x)
def JC(T e:TypeId):Pure:=fun R l b K=>mG (uH T e) [[]] l b fun x0 l=>gS .str l fun x1=>(Ku x0 x1).bind fun r=>K [.ah (.int .i64) r.1 [],.undef] (some ⟨uH T e,r.2,[[]]⟩)
def JB(T e:TypeId):Pure:=fun R l b K=>mG (uH T e) [[]] l b fun x0 l=>gR l ((z4y x0).bind fun r=>K [.ah .str r.1 []] (some ⟨uH T e,r.2,[]⟩))
theorem acS(T e:TypeId):(JC T e).Nat:=fun R S l b F G K h=>Fu fun _ _=>zw1 fun _=>ss fun _=>h _ _
theorem acR(T e:TypeId):(JB T e).Nat:=fun R S l b F G K h=>Fu fun _ _=>zw0 (ss fun _=>h _ _)
theorem Sv(x s:ByteArray):Lib.strCells (x++s)=Lib.strCells x++Lib.strCells s:=by
 simp [Lib.strCells,ByteArray.data_append]
def ap.fw(X:ap)(w:World)(r:Nat)(g:Option Nat):ap:=⟨w,fun k=>if k=r then .box 0 else if g=some k then .row (.b 0 []) 0 else if k<X.w.heap.size then X.ow k else .ro 0,X.β⟩
theorem GX{X:ap}{w:World}{r:Nat}{g0 g:Option Nat}(how:X.ow r= .box 0)(h0:∀k,g0=some k->X.ow k= .row (.b 0 []) 0)(h:fq r g0 X.w w)(hg:∀k,g=some k->g0=some k\/X.w.heap.size<=k):Ext X (X.fw w r g):=by
 have cZ:∀k,k<X.w.heap.size->X.ow k≠ .box 0->X.ow k≠ .row (.b 0 []) 0->(X.fw w r g).ow k=X.ow k/\w.heap[k]? =X.w.heap[k]? :=fun k hk h1 h2=>by
  have hr:k≠r:=fun e=>h1 (by rw[e];exact how)
  have hg1:g≠some k:=fun e=>by
   rcases hg k e with e2|e2
   ·exact h2 (h0 k e2)
   ·omega
  have hg2:some k≠g0:=fun e=>h2 (h0 k e.symm)
  refine⟨?_,h.block k hk hr hg2⟩
  simp only[ap.fw]
  rw[if_neg hr,if_neg hg1,if_pos hk]
 refine⟨fun a v hs=> ?_,h.size,h.os,h.tape,h.output,rfl,fun k hk cp=> ?_⟩
 ·have ar:=ap.gy hs
  have hu:=hs.2.2
  obtain⟨k1,k2⟩:=cZ a.block ar (fun e=>by rw[e] at hu;exact hu) (fun e=>by rw[e] at hu;exact Nat.not_lt_zero _ hu)
  refine⟨hs.1,?_,by rw[k1];exact hu⟩
  have:=hs.2.1
  simp only[World.cell?] at this⊢
  rw[show(X.fw w r g).w.heap=w.heap from rfl,k2];exact this
 ·exact cZ k hk (fun e=>by rw[e] at cp;exact cp) (fun e=>by rw[e] at cp;exact cp)
theorem FB(n:Nat):Nat.beq n n=true:=by simp
theorem HJ{f n:Nat}(e:f≠n):Nat.beq f n=false:=by
 cases hh:Nat.beq f n with
 |false=>rfl
 |true=>exact absurd (Nat.eq_of_beq_eq_true hh) e
theorem Vb{C:af}(h0:∀f,cK P C f){n T e:TypeId}(dQ:pA P n)(L:Lays.n166 P ρ)(X0:Builder.Extra P ρ)(hn:ρ.f 166=n)(hT:ρ.t 72=T)(he:ρ.t 5=e):∀f,cK P (C.add n [] (JC T e)) f:=by
 subst hT he
 intro f
 by_cases ef:f=n
 ·subst ef
  intro l b r b' hc
  unfold af.add at hc
  rw[FB] at hc
  have hc:JC (ρ.t 72) (ρ.t 5) (List SV×Option bk) (aI [] l) b (fun r b=>some (r,b))=some (r,b'):=hc
  have hl:aI [] l=l:=by cases l<;>rfl
  rw[hl] at hc
  unfold JC at hc
  obtain⟨x,q,rfl,rfl,Em⟩:=zvz hc
  clear hc
  have hc:=Em
  clear Em
  unfold gS at hc
  split at hc
  case h_2=>cases hc
  rename_i a
  obtain⟨s,hc,hs⟩:=zz hc
  unfold Ku at hc
  cases hd:decide (ByteArray.size x+s.size<=140737488355328) with
  |false=>rw[hd] at hc;cases hc
  |true=>
   rw[hd] at hc
   cases hc
   have hlen:=of_decide_eq_true hd
   refine⟨dQ,fun X args gK=> ?_⟩
   obtain⟨r0,hβ,how,⟨o,ho⟩,hb⟩:=gK.box _ rfl
   obtain⟨v,hB,hv⟩:=hb (by simp)
   have di:args.size=2:=by rw[gK.size];rfl
   have a0:args[0]? =some (.pointer (some ⟨r0,0,none⟩)):=by
    rw[Array.getElem?_eq_getElem (by omega)]
    obtain⟨r1,g1,g2⟩:=gK.rep 0 _ _ rfl (Array.getElem?_eq_getElem (by omega))
    rw[hβ] at g1
    cases g1
    rw[((Iv rfl).1 g2).1];rfl
   have a1:args[1]? =some (.string s):=zwu gK (i:=1) rfl hs
   rw[Fw di a0 a1,<-hn]
   refine(Vd L X0 r0 v (Lib.strCells x) s X.w hB (by rw[Lib.strCells_length];exact hlen)).mono ?_
   rintro e w' ⟨rfl,v',fk,tZ,jE⟩
   have hY:(X.fw w' r0 v'.ownBlock).ow r0= .box 0:=by simp [ap.fw]
   refine⟨X.fw w' r0 v'.ownBlock,rfl,GX how hv tZ jE,r0,⟨_,rfl,rfl,fun j sv u hj hu=> ?_⟩,fun B' cP=> ?_,fun _ id t p hm=>by simp at hm⟩
   ·match j with
    |0=>cases hj;cases hu;exact iy
    |1=>cases hj;trivial
    |j+2=>simp at hj
   ·cases cP
    refine⟨⟨hY,?_,fun _=>⟨v',by rw[Sv];exact fk,fun g hg=> ?_⟩⟩,fun _=>hβ⟩
    ·rcases fk.l7 with h|h<;>exact⟨_,h⟩
    ·simp only[ap.fw]
     rw[if_neg (fun e=>fk.ne (by rw[hg,e])),if_pos hg]
 ·intro l b r b' hc
  unfold af.add at hc
  rw[HJ ef] at hc
  exact h0 f l b r b' hc
theorem Va{C:af}(h0:∀f,cK P C f){n T e:TypeId}(dQ:pA P n)(L:Lays.n169 P ρ)(X0:Builder.Extra P ρ)(hn:ρ.f 169=n)(hT:ρ.t 72=T)(he:ρ.t 5=e):∀f,cK P (C.add n [] (JB T e)) f:=by
 subst hT he
 intro f
 by_cases ef:f=n
 ·subst ef
  intro l b r b' hc
  unfold af.add at hc
  rw[FB] at hc
  have hc:JB (ρ.t 72) (ρ.t 5) (List SV×Option bk) (aI [] l) b (fun r b=>some (r,b))=some (r,b'):=hc
  have hl:aI [] l=l:=by cases l<;>rfl
  rw[hl] at hc
  unfold JB at hc
  obtain⟨x,q,rfl,rfl,Em⟩:=zvz hc
  clear hc
  have hc:=Em
  clear Em
  unfold gR at hc
  split at hc
  case h_2=>cases hc
  cases hc
  refine⟨dQ,fun X args gK=> ?_⟩
  obtain⟨r0,hβ,how,⟨o,ho⟩,hb⟩:=gK.box _ rfl
  obtain⟨v,hB,hv⟩:=hb (by simp)
  have di:args.size=1:=by rw[gK.size];rfl
  have a0:args[0]? =some (.pointer (some ⟨r0,0,none⟩)):=by
   rw[Array.getElem?_eq_getElem (by omega)]
   obtain⟨r1,g1,g2⟩:=gK.rep 0 _ _ rfl (Array.getElem?_eq_getElem (by omega))
   rw[hβ] at g1
   cases g1
   rw[((Iv rfl).1 g2).1];rfl
  rw[Yd di a0,<-hn]
  refine(Yi L X0 r0 v (x:ByteArray).data.toList X.w hB).mono ?_
  rintro e w' ⟨rfl,tZ⟩
  have hY:(X.fw w' r0 none).ow r0= .box 0:=by simp [ap.fw]
  refine⟨X.fw w' r0 none,rfl,GX how hv tZ (fun k hk=>by cases hk),r0,?_,fun B' cP=> ?_,fun _ id t p hm=>by simp at hm⟩
  ·exact xB
  ·cases cP
   refine⟨⟨hY,⟨_,Array.getElem?_eq_getElem (Nat.lt_of_lt_of_le hB.lt tZ.size)⟩,fun hm=>by cases hm⟩,fun _=>hβ⟩
 ·intro l b r b' hc
  unfold af.add at hc
  rw[HJ ef] at hc
  exact h0 f l b r b' hc
end Go.Ref

namespace Go.Ref
open Go
variable {P:Program} {R S:Type}
structure aL(P:Program)(T:af):Prop where
 mix:P.follows .mixedOrders=true
 nat:T.Nat
 rD:∀f,cK P T f
noncomputable abbrev cd (fn:Func):Code:=fn.body.getD .skip
noncomputable abbrev yp (E:Env) (T:af) (R:Type) (k:Nat) (fn:Func) (l:List SV) (b:Option bk) (K:List SV->Option bk->Option R):Option R:=im E (T R) k fn (cd fn) l b K
abbrev KF(R:Type):Type:=List SV->Option bk->Option R
abbrev KX(R:Type):Type:=Ex->State->Option R
abbrev l6(β:Type):Type 1:=(R:Type)->β->KF R->Option R
def l6.Nat{β:Type}(o:l6 β):Prop:=∀(R S:Type) r (F:KF R) (G:KF S) (K:S->Option R),(∀r b,F r b=(G r b).bind K)->o R r F=(o S r G).bind K
def wy(fn:Func):Bool:= !(fn.name== "runtime.NumGoroutine")&&fn.body.isSome
def tI(x:Int):SV:= .ah (.int .i64) x []
def tU(x:Int):SV:= .ah (.int .u8) x []
def tB(x:Bool):SV:= .ah .bool x []
def tS(x:ByteArray):SV:= .ah .str x []
theorem acX{kk:Nat}(hF:kk=ag){R:Type}(f:Unit->Option R):bP kk f=f ():=by rw[hF];exact Tw f
theorem az:(∀{R S:Type} (c:Bool) (x y:Option S) (F:S->Option R),(bif c then x else y).bind F=bif c then x.bind F else y.bind F)/\(∀{R S:Type} (i:Int) (n:Nat) (x:Option S) (F:S->Option R),(zd i n x).bind F=zd i n (x.bind F))/\
 (∀{R S:Type} (F:S->Option R),(.none:Option S).bind F= .none)/\(∀{R S:Type} (x:S) (F:S->Option R),(some x).bind F=F x)/\(∀{R S α β:Type} (f:α->Option S) (g:β->Option S) (e:α⊕β) (F:S->Option R),(Sum.elim f g e).bind F=Sum.elim (fun x=>(f x).bind F) (fun x=>(g x).bind F) e)/\
 (∀{R S α:Type} (x:Option α) (f:α->Option S) (F:S->Option R),(x.bind f).bind F=x.bind fun y=>(f y).bind F)/\(∀{α β γ:Type} (f:α->γ) (g:β->γ) (x:α),Sum.elim f g (.inl x)=f x)/\(∀{α β γ:Type} (f:α->γ) (g:β->γ) (x:β),Sum.elim f g (.inr x)=g x):=
 ⟨zfd,SZ,VP,zc,Zg,U9,fun _ _ _=>rfl,fun _ _ _=>rfl⟩
theorem aL.none(hm:P.follows .mixedOrders=true):aL P af.none:=⟨hm,Y0,VQ⟩
theorem aL.add{E:Env}{T:af}(h:aL P T)(hE:ak P E){n:FuncId}{ps:List Ty}{g:Pure}{fn:Func}(js:P.funcs[n]? =some fn)(hc:wy fn=true)(hg:g.Nat)
 (h1:∀(l:List SV) (b:Option bk) (r:List SV) (b':Option bk),g (List SV×Option bk) (aI ps l) b (fun r b=>some (r,b))=some (r,b')->∃k,im E (T (List SV×Option bk)) k fn (cd fn) l b (fun r b=>some (r,b))=some (r,b')):aL P (T.add n ps g):=by
 obtain⟨h2,h3⟩:=Bool.and_eq_true_iff.1 hc
 refine⟨h.mix,Nf h.nat hg,Yb hE h.mix h.nat h.rD js (by simpa using h2) ?_ h1⟩
 cases e:fn.body with
 |none=>rw[e] at h3;cases h3
 |some c=>simp [cd,e]
def yX{β:Type}(f:Option β)(o:l6 β):Pure:=fun R l b K=>fc b (gR l (f.bind fun r=>o R r K))
theorem Bc(E:Env){T:af}{n:FuncId}(fn:Func){β:Type}{f:Option β}{o:l6 β}(m:(R:Type)->Nat->KF R->Option R)(h0:aL P T)(hE:ak P E)(js:P.funcs[n]? =some fn)(hc:wy fn=true)(hp:E.ps=[])(ho:o.Nat)
 (h1:∀(R:Type) k (K:KF R),yp E T R k fn [] .none K=m R k K) (h2:∀(R:Type) kk (e:kk=ag) (K:KF R),m R kk K=f.bind fun r=>o R r K):aL P (T.add n [] (yX f o)):=
 h0.add hE js hc (fun R S l b F G K h=>Ae (zw0 (ss fun _=>ho _ _ _ _ _ _ h))) fun l b r b' h=>by
  obtain⟨rfl,h5⟩:=Ac h
  obtain⟨h3,h4⟩:=uC hp h5
  exact⟨ag,(h4 _ _ _ _ _ _).trans (((h1 _ _ _).trans (h2 _ _ rfl _)).trans h3)⟩
def cG(t:Ty){β:Type}(f:El t->Option β)(o:l6 β):Pure:=fun R l b K=>fc b (gS t l (fun x=>(f x).bind fun r=>o R r K))
theorem cJ(E:Env){T:af}{n:FuncId}(fn:Func){t:Ty}{β:Type}{f:El t->Option β}{o:l6 β}(m:(R:Type)->Nat->El t->KF R->Option R)(h0:aL P T)(hE:ak P E)(js:P.funcs[n]? =some fn)(hc:wy fn=true)(hp:E.ps=[t])(ho:o.Nat)
 (h1:∀(R:Type) k x (K:KF R),yp E T R k fn [.ah t x []] .none K=m R k x K) (h2:∀(R:Type) kk (e:kk=ag) x (K:KF R),m R kk x K=(f x).bind fun r=>o R r K):aL P (T.add n [t] (cG t f o)):=
 h0.add hE js hc (fun R S l b F G K h=>Ae (zw1 fun _=>ss fun _=>ho _ _ _ _ _ _ h)) fun l b r b' h=>by
  obtain⟨rfl,h5⟩:=Ac h
  obtain⟨x,h3,h4⟩:=RO hp h5
  exact⟨ag,(h4 _ _ _ _ _ _).trans (((h1 _ _ x _).trans (h2 _ _ rfl x _)).trans h3)⟩
def c9(t u:Ty){β:Type}(f:El t->El u->Option β)(o:l6 β):Pure:=fun R l b K=>fc b (ga t u l (fun x y=>(f x y).bind fun r=>o R r K))
theorem dm(E:Env){T:af}{n:FuncId}(fn:Func){t u:Ty}{β:Type}{f:El t->El u->Option β}{o:l6 β}(m:(R:Type)->Nat->El t->El u->KF R->Option R)(h0:aL P T)(hE:ak P E)(js:P.funcs[n]? =some fn)(hc:wy fn=true)(hp:E.ps=[t,u])(ho:o.Nat)
 (h1:∀(R:Type) k x y (K:KF R),yp E T R k fn [.ah t x [],.ah u y []] .none K=m R k x y K) (h2:∀(R:Type) kk (e:kk=ag) x y (K:KF R),m R kk x y K=(f x y).bind fun r=>o R r K):aL P (T.add n [t,u] (c9 t u f o)):=
 h0.add hE js hc (fun R S l b F G K h=>Ae (zw2 fun _ _=>ss fun _=>ho _ _ _ _ _ _ h)) fun l b r b' h=>by
  obtain⟨rfl,h5⟩:=Ac h
  obtain⟨x,y,h3,h4⟩:=rE hp h5
  exact⟨ag,(h4 _ _ _ _ _ _).trans (((h1 _ _ x y _).trans (h2 _ _ rfl x y _)).trans h3)⟩
def kE(t u v:Ty){β:Type}(f:El t->El u->El v->Option β)(o:l6 β):Pure:=fun R l b K=>fc b (jV t u v l (fun x y a=>(f x y a).bind fun r=>o R r K))
theorem kV(E:Env){T:af}{n:FuncId}(fn:Func){t u v:Ty}{β:Type}{f:El t->El u->El v->Option β}{o:l6 β}(m:(R:Type)->Nat->El t->El u->El v->KF R->Option R)(h0:aL P T)(hE:ak P E)(js:P.funcs[n]? =some fn)(hc:wy fn=true)(hp:E.ps=[t,u,v])(ho:o.Nat)
 (h1:∀(R:Type) k x y a (K:KF R),yp E T R k fn [.ah t x [],.ah u y [],.ah v a []] .none K=m R k x y a K) (h2:∀(R:Type) kk (e:kk=ag) x y a (K:KF R),m R kk x y a K=(f x y a).bind fun r=>o R r K):aL P (T.add n [t,u,v] (kE t u v f o)):=
 h0.add hE js hc (fun R S l b F G K h=>Ae (U4 fun _ _ _=>ss fun _=>ho _ _ _ _ _ _ h)) fun l b r b' h=>by
  obtain⟨rfl,h5⟩:=Ac h
  obtain⟨x,y,a,h3,h4⟩:=RP hp h5
  exact⟨ag,(h4 _ _ _ _ _ _).trans (((h1 _ _ x y a _).trans (h2 _ _ rfl x y a _)).trans h3)⟩
def yY(t u v w:Ty){β:Type}(f:El t->El u->El v->El w->Option β)(o:l6 β):Pure:=fun R l b K=>fc b (jW t u v w l (fun x y a b=>(f x y a b).bind fun r=>o R r K))
theorem Bd(E:Env){T:af}{n:FuncId}(fn:Func){t u v w:Ty}{β:Type}{f:El t->El u->El v->El w->Option β}{o:l6 β}(m:(R:Type)->Nat->El t->El u->El v->El w->KF R->Option R)(h0:aL P T)(hE:ak P E)(js:P.funcs[n]? =some fn)(hc:wy fn=true)(hp:E.ps=[t,u,v,w])(ho:o.Nat)
 (h1:∀(R:Type) k x y a b (K:KF R),yp E T R k fn [.ah t x [],.ah u y [],.ah v a [],.ah w b []] .none K=m R k x y a b K) (h2:∀(R:Type) kk (e:kk=ag) x y a b (K:KF R),m R kk x y a b K=(f x y a b).bind fun r=>o R r K):aL P (T.add n [t,u,v,w] (yY t u v w f o)):=
 h0.add hE js hc (fun R S l b F G K h=>Ae (U5 fun _ _ _ _=>ss fun _=>ho _ _ _ _ _ _ h)) fun l b r b' h=>by
  obtain⟨rfl,h5⟩:=Ac h
  obtain⟨x,y,a,b,h3,h4⟩:=RQ hp h5
  exact⟨ag,(h4 _ _ _ _ _ _).trans (((h1 _ _ x y a b _).trans (h2 _ _ rfl x y a b _)).trans h3)⟩
def pz(t pt bt:Ty)(wn:List (List Nat)){β:Type}(f:El t->El bt->Option β)(o:l6 β):Pure:=fun R l b K=>jU t pt bt wn l b fun x y=>(f x y).bind fun r=>o R r K
theorem sz(E:Env){T:af}{n:FuncId}(fn:Func){t pt bt:Ty}{wn:List (List Nat)}{β:Type}{f:El t->El bt->Option β}{o:l6 β}(m:(R:Type)->Nat->El t->El bt->KF R->Option R)(h0:aL P T)(hE:ak P E)(js:P.funcs[n]? =some fn)(hc:wy fn=true)(hp:E.ps=[t,.unit])(ho:o.Nat)
 (h1:∀(R:Type) k x y (K:KF R),yp E T R k fn [.ah t x [],.ptr 0 pt []] (some ⟨bt,y,wn⟩) K=m R k x y K) (h2:∀(R:Type) kk (e:kk=ag) x y (K:KF R),m R kk x y K=(f x y).bind fun r=>o R r K):aL P (T.add n [t,.unit] (pz t pt bt wn f o)):=
 h0.add hE js hc (fun R S l b F G K h=>U3 fun _ _=>ss fun _=>ho _ _ _ _ _ _ h) fun l b r b' h=>by
  obtain⟨x,y,rfl,h3,h4⟩:=E8 hp h
  exact⟨ag,(h4 _ _ _ _ _ _).trans (((h1 _ _ x y _).trans (h2 _ _ rfl x y _)).trans h3)⟩
def pv(t u v w:Ty){β:Type}(f:El t->El u->El v->El w->Option β)(o:l6 β):Pure:=fun R l b K=>fc b (Cf t u v w l (fun x y a b=>(f x y a b).bind fun r=>o R r K))
theorem sv(E:Env){T:af}{n:FuncId}(fn:Func){t u v w:Ty}{β:Type}{f:El t->El u->El v->El w->Option β}{o:l6 β}(m:(R:Type)->Nat->El t->El u->El v->El w->KF R->Option R)(h0:aL P T)(hE:ak P E)(js:P.funcs[n]? =some fn)(hc:wy fn=true)(hp:E.ps=[t,u,.unit,.unit])(ho:o.Nat)
 (h1:∀(R:Type) k x y a b (K:KF R),yp E T R k fn [.ah t x [],.ah u y [],.view v a,.view w b] .none K=m R k x y a b K) (h2:∀(R:Type) kk (e:kk=ag) x y a b (K:KF R),m R kk x y a b K=(f x y a b).bind fun r=>o R r K):aL P (T.add n [t,u,.unit,.unit] (pv t u v w f o)):=
 h0.add hE js hc (fun R S l b F G K h=>Ae (Tb fun _ _ _ _=>ss fun _=>ho _ _ _ _ _ _ h)) fun l b r b' h=>by
  unfold pv at h
  obtain⟨rfl,h5⟩:=Ac h
  obtain⟨x,y,a,b,h3,h4⟩:=E7 hp h5
  exact⟨ag,(h4 _ _ _ _ _ _).trans (((h1 _ _ x y a b _).trans (h2 _ _ rfl x y a b _)).trans h3)⟩
end Go.Ref

namespace bn
open Go.IntKind renaming wrap->zW,i64->zI,u8->zU
open Go Go.Ref
abbrev lq:Type:=(ByteArray×Nat)
abbrev lr:Type:=(Int×Int×Int)
abbrev PD:Type:=(ByteArray×Int)
abbrev tQ:Type:=(List (List Int))
abbrev Zt4:Type:=(Int×ByteArray)
abbrev iO:Type:=(ByteArray×Bool)
abbrev aw:Type:=(Int×Int×Unit)
abbrev x8:Type:=(List (Int×Bool))
abbrev il:Type:=(ByteArray×Int×Int)
abbrev cR:Type:=(Int×ByteArray×Unit)
abbrev fZ:Type:=(List iO)
abbrev eE:Type:=(ByteArray×ByteArray×Unit)
abbrev aq:Type:=(List cR)
abbrev aj:Type:=(Int×Int×Int×Int×Int×Unit)
abbrev aN:Type:=(List eE)
abbrev fJ:Type:=(List aj)
abbrev ii:Type:=(aq×Int×Int)
abbrev ae:Type:=(ByteArray×aq×Unit)
abbrev ai:Type:=(Int×Int×fJ×Unit)
abbrev mF:Type:=(List ai)
abbrev bB:Type:=(Int×Int×Int×ByteArray×aN×Unit)
abbrev oL:Type:=(aq×Int×Int×aq)
abbrev cc:Type:=(List bB)
abbrev oM:Type:=(ae×aw×ae)
abbrev aE:Type:=(aN×cc×Unit)
abbrev ij:Type:=(ByteArray×Int×ae×aw×ae)
abbrev aB:Type:=(ai×aE×(List Int)×aq×Unit)
abbrev lu:Type:=(List aB)
abbrev oN:Type:=(aE×ai×ai)
abbrev dW:Type:=(lu×Int×Unit)
abbrev oO:Type:=(Int×Int×Int×aE×ai×ai)
def MK{R:Type}(a:ByteArray)(b:Int)(c:ByteArray->Int->Option R):Option R:=
 c a b
def ML{R:Type}(a:ByteArray)(b:Int)(c:ByteArray->Int->Option R)(d:ByteArray->Option R):Option R:=
 bif 0<(a.size:Int) then zd (zW zI ((a.size:Int)-1)) a.size (bif ze a (zW zI ((a.size:Int)-(1:Int))).toNat=b then bif 0<=zW zI ((a.size:Int)-1) then bif zW zI ((a.size:Int)-1)<=(a.size:Int) then c (a.extract 0 (zW zI ((a.size:Int)-(1:Int))).toNat) b else none else none else d a) else d a
def MN{R:Type}(a:ByteArray)(b:ByteArray->Option R):Option R:=
 b a
def BH:Nat->ByteArray->Int->Option ByteArray
 |0,_,_=>none
 |k+1,v0,v1=>ML v0 v1 (fun a0 a1=>BH k a0 a1) (fun a0=>some a0)
def sX(a:ByteArray)(b:Int):Option ByteArray:=
 MK a b (fun a0 a1=>(BH ag a0 a1).bind fun e=>MN e (fun a0=>some a0))
def MG{R:Type}(a:ByteArray)(b:Int)(c:ByteArray->Int->Option R):Option R:=
 c a b
def MH{R:Type}(a:ByteArray)(b:Int)(c:ByteArray->Int->Option R)(d:ByteArray->Option R):Option R:=
 bif 0<(a.size:Int) then zd 0 a.size (bif ze a ((0:Int)).toNat=b then bif 1<=(a.size:Int) then c (a.extract ((1:Int)).toNat a.size) b else none else d a) else d a
def MI{R:Type}(a:ByteArray)(b:ByteArray->Option R):Option R:=
 b a
def BG:Nat->ByteArray->Int->Option ByteArray
 |0,_,_=>none
 |k+1,v0,v1=>MH v0 v1 (fun a0 a1=>BG k a0 a1) (fun a0=>some a0)
def sW(a:ByteArray)(b:Int):Option ByteArray:=
 MG a b (fun a0 a1=>(BG ag a0 a1).bind fun e=>MI e (fun a0=>some a0))
def ME{R:Type}(a b:ByteArray)(c:ByteArray->Option R):Option R:=
 bif a=bs [] then c a else bif b=bs [] then c a else bif(b.size:Int)=1 then zd 0 b.size (bif ze b ((0:Int)).toNat<128 then zd 0 b.size ((sX a (ze b ((0:Int)).toNat)).bind fun r1=>zd 0 b.size ((sW r1 (ze b ((0:Int)).toNat)).bind fun r2=>c r2)) else none) else none
def ql(a b:ByteArray):Option ByteArray:=
 ME a b (fun a0=>some a0)
def Ol{R:Type}(a:ByteArray)(b:lq->Option R):Option R:=
 b (a,0)
def Om{R:Type}(a:lq)(b:Bool->Option R)(c:lq->Option R)(d:Option R):Option R:=
 bif a.2<a.1.size then bif(((Utf8.decode a.1 a.2).1:Nat):Int)<48 then b false else bif 57<(((Utf8.decode a.1 a.2).1:Nat):Int) then b false else c (a.1,a.2+(Utf8.decode a.1 a.2).2) else d
def zz6{R:Type}(a:Bool)(b:Bool->Option R):Option R:=
 b a
def zz7{R:Type}(a:Bool->Option R):Option R:=
 a true
def B3:Nat->lq->Option (Sum Bool Unit)
 |0,_=>none
 |k+1,v0=>Om v0 (fun a0=>some (.inl a0)) (fun a0=>B3 k a0) (some (.inr ()))
def vw(a:ByteArray):Option Bool:=
 Ol a (fun a0=>(B3 ag a0).bind fun e=>Sum.elim (fun(we:Bool)=>zz6 we (fun a0=>some a0)) (fun(we:Unit)=>zz7 (fun a0=>some a0)) e)
def Oo{R:Type}(a:ByteArray)(b:Int->Bool->Option R)(c:Int->lq->Option R):Option R:=
 bif a=bs [] then b 0 false else bif 18<(a.size:Int) then b 0 false else(vw a).bind fun r1=>bif !r1 then b 0 false else c 0 (a,0)
def Oq{R:Type}(a:Int)(b:lq)(c:Int->lq->Option R)(d:Int->Option R):Option R:=
 bif b.2<b.1.size then c (zW zI (zW zI (10*a)+zW zI (IntKind.i32.wrap ((((Utf8.decode b.1 b.2).1:Nat):Int)-48)))) (b.1,b.2+(Utf8.decode b.1 b.2).2) else d a
def zz8{R:Type}(a:Int)(b:Int->Bool->Option R):Option R:=
 b a true
def B4:Nat->Int->lq->Option Int
 |0,_,_=>none
 |k+1,v0,v1=>Oq v0 v1 (fun a0 a1=>B4 k a0 a1) (fun a0=>some a0)
def vz(a:ByteArray):Option (Int×Bool):=
 Oo a (fun a0 a1=>some (a0,a1)) (fun a0 a1=>(B4 ag a0 a1).bind fun e=>zz8 e (fun a0 a1=>some (a0,a1)))
def Ov{R:Type}(a b:Int)(c:ByteArray->Bool->Option R)(d:Int->Nat->Int->Nat->(List Int)->Option R):Option R:=
 bif a<0 then c (bs []) false else bif b<1 then c (bs []) false else bif 18<b then c (bs []) false else bif b=b then bif 0<=b then bif b*1<=140737488355328 then d a b.toNat (zW zI (b-1)) b.toNat (List.replicate b.toNat 0) else none else none else none
def Jm{R:Type}(a:Int)(b:Nat)(c:Int)(d:Nat)(e:(List Int))(f:Int->Nat->Int->Nat->(List Int)->Option R)(g:Int->Nat->Nat->(List Int)->Option R):Option R:=
 bif 0<=c then zd c b (bif Nat.ble (c.toNat+1) (List.length e) then f (zW zI (Int.tdiv a 10)) b (zW zI (c-1)) d (List.set e c.toNat (zW zU (zW zI (48+Int.tmod a 10)))) else none) else g a b d e
def Ox{R:Type}(a:Int)(b c:Nat)(d:(List Int))(e:ByteArray->Bool->Option R):Option R:=
 bif 0<a then e (bs []) false else bif Nat.beq b (List.length d) then e (strOf d) true else none
def AK:Nat->Int->Nat->Int->Nat->(List Int)->Option (Int×Nat×Nat×(List Int))
 |0,_,_,_,_,_=>none
 |k+1,v0,v1,v2,v3,v4=>Jm v0 v1 v2 v3 v4 (fun a0 a1 a2 a3 a4=>AK k a0 a1 a2 a3 a4) (fun a0 a1 a2 a3=>some (a0,a1,a2,a3))
def CG(a b:Int):Option iO:=
 Ov a b (fun a0 a1=>some (a0,a1)) (fun a0 a1 a2 a3 a4=>(AK ag a0 a1 a2 a3 a4).bind fun e=>Ox e.1 e.2.1 e.2.2.1 e.2.2.2 (fun a0 a1=>some (a0,a1)))
def Ot{R:Type}(a:ByteArray)(b:Int)(c:ByteArray->Bool->Option R):Option R:=
 bif a=bs [] then c (bs []) false else bif 999<(a.size:Int) then c (bs []) false else(vw a).bind fun r1=>bif !r1 then c (bs []) false else bif b<1 then c (bs []) false else bif 999<b then c (bs []) false else bif(a.size:Int)<=b then(strings_Repeat (bs [48]) (zW zI (b-(a.size:Int)))).bind fun r2=>bif r2.size+a.size<=9223372036854775807 then c (r2++a) true else none else bif 0<=zW zI ((a.size:Int)-b) then bif zW zI ((a.size:Int)-b)<=(a.size:Int) then(ql (a.extract 0 (zW zI ((a.size:Int)-b)).toNat) (bs [48])).bind fun r3=>bif !decide (r3=bs []) then c (bs []) false else bif 0<=zW zI ((a.size:Int)-b) then bif zW zI ((a.size:Int)-b)<=(a.size:Int) then c (a.extract (zW zI ((a.size:Int)-b)).toNat a.size) true else none else none else none else none
def CE(a:ByteArray)(b:Int):Option iO:=
 Ot a b (fun a0 a1=>some (a0,a1))
def na{R:Type}(a:Int)(b:Int->Option R):Option R:=
 bif a<1 then b 0 else b (zW zI (zW zI (Int.tdiv a 2)+Int.tmod a 2))
def Q2(a:Int):Option Int:=
 na a (fun a0=>some a0)
def mZ{R:Type}(a:ByteArray)(b:Int)(c:ByteArray->Int->Int->Option R)(d:ByteArray->Int->(List Int)->Int->Int->Option R):Option R:=
 bif b<0 then c (bs []) 1 0 else bif 999<b then c (bs []) 1 0 else(Q2 b).bind fun r1=>bif(a.size:Int)<r1 then c (bs []) 2 (a.size:Int) else bif 0<=zW zI (b+1) then bif zW zI (b+1)*1<=140737488355328 then(Q2 b).bind fun r2=>d a b [] r2 0 else none else none
def ld{R:Type}(a:ByteArray)(b:Int)(c:(List Int))(d e:Int)(f:Int->ByteArray->Int->Int->(List Int)->Option R)(g:ByteArray->Int->(List Int)->Int->Int->Option R)(h:Int->(List Int)->Option R):Option R:=
 bif e<d then zd e a.size (zd e a.size (bif e=0 then bif !decide (Int.tmod b 2=0) then bif !decide (Int.fdiv (ze a e.toNat) (2^min ((4:Int)).toNat 8)=0) then f b (bs []) 4 0 c else bif 9<Int.fdiv (ze a e.toNat) (2^min ((4:Int)).toNat 8) then f b (bs []) 3 e c else bif 9<aD .and .u8 (ze a e.toNat) 15 then f b (bs []) 3 e c else bif(List.length c+List.length ([(zW zU ((48:Int)+Int.fdiv (ze a e.toNat) (2^min ((4:Int)).toNat 8))),(zW zU ((48:Int)+aD .and .u8 (ze a e.toNat) (15:Int)))]:List Int))*1<=140737488355328 then g a b (c++([(zW zU (48+Int.fdiv (ze a e.toNat) (2^min ((4:Int)).toNat 8))),(zW zU (48+aD .and .u8 (ze a e.toNat) 15))]:List Int)) d (zW zI (e+1)) else none else bif 9<Int.fdiv (ze a e.toNat) (2^min ((4:Int)).toNat 8) then f b (bs []) 3 e c else bif 9<aD .and .u8 (ze a e.toNat) 15 then f b (bs []) 3 e c else bif(List.length c+List.length ([(zW zU ((48:Int)+Int.fdiv (ze a e.toNat) (2^min ((4:Int)).toNat 8))),(zW zU ((48:Int)+aD .and .u8 (ze a e.toNat) (15:Int)))]:List Int))*1<=140737488355328 then g a b (c++([(zW zU (48+Int.fdiv (ze a e.toNat) (2^min ((4:Int)).toNat 8))),(zW zU (48+aD .and .u8 (ze a e.toNat) 15))]:List Int)) d (zW zI (e+1)) else none else bif 9<Int.fdiv (ze a e.toNat) (2^min ((4:Int)).toNat 8) then f b (bs []) 3 e c else bif 9<aD .and .u8 (ze a e.toNat) 15 then f b (bs []) 3 e c else bif(List.length c+List.length ([(zW zU ((48:Int)+Int.fdiv (ze a e.toNat) (2^min ((4:Int)).toNat 8))),(zW zU ((48:Int)+aD .and .u8 (ze a e.toNat) (15:Int)))]:List Int))*1<=140737488355328 then g a b (c++([(zW zU (48+Int.fdiv (ze a e.toNat) (2^min ((4:Int)).toNat 8))),(zW zU (48+aD .and .u8 (ze a e.toNat) 15))]:List Int)) d (zW zI (e+1)) else none)) else h b c
def pQ{R:Type}(a:Int)(b:ByteArray)(c d:Int)(e:(List Int))(f:ByteArray->Int->Int->Option R):Option R:=
 f b c d
def m3{R:Type}(a:Int)(b:(List Int))(c:ByteArray->Int->Int->Option R):Option R:=
 bif 0<=Int.tmod a 2 then bif Int.tmod a 2<=(((List.length b):Nat):Int) then c (strOf (List.drop (Int.tmod a (2:Int)).toNat (List.take (List.length b) b))) 0 0 else none else none
def gQ:Nat->ByteArray->Int->(List Int)->Int->Int->Option (Sum (Int×ByteArray×Int×Int×(List Int)) (Int×(List Int)))
 |0,_,_,_,_,_=>none
 |k+1,v0,v1,v2,v3,v4=>ld v0 v1 v2 v3 v4 (fun a0 a1 a2 a3 a4=>some (.inl (a0,a1,a2,a3,a4))) (fun a0 a1 a2 a3 a4=>gQ k a0 a1 a2 a3 a4) (fun a0 a1=>some (.inr (a0,a1)))
def Q0(a:ByteArray)(b:Int):Option il:=
 mZ a b (fun a0 a1 a2=>some (a0,a1,a2)) (fun a0 a1 a2 a3 a4=>(gQ ag a0 a1 a2 a3 a4).bind fun e=>Sum.elim (fun(we:(Int×ByteArray×Int×Int×(List Int)))=>pQ we.1 we.2.1 we.2.2.1 we.2.2.2.1 we.2.2.2.2 (fun a0 a1 a2=>some (a0,a1,a2))) (fun(we:(Int×(List Int)))=>m3 we.1 we.2 (fun a0 a1 a2=>some (a0,a1,a2))) e)
def jN{R:Type}(a:ByteArray)(b:ByteArray->Bool->Option R)(c:ByteArray->(List Int)->Int->Option R):Option R:=
 bif 999<(a.size:Int) then b (bs []) false else(vw a).bind fun r1=>bif !r1 then b (bs []) false else bif !decide (Int.tmod (a.size:Int) 2=0) then bif(bs [48]).size+a.size<=9223372036854775807 then bif 0<=zW zI (Int.tdiv ((bs [48]++a).size:Int) 2) then bif zW zI (Int.tdiv ((bs [48]++a).size:Int) 2)*1<=140737488355328 then c (bs [48]++a) [] 0 else none else none else none else bif 0<=zW zI (Int.tdiv (a.size:Int) 2) then bif zW zI (Int.tdiv (a.size:Int) 2)*1<=140737488355328 then c a [] 0 else none else none
theorem S7{R S:Type}(F:R->Option S)(a)(b)(c):(jN a b c).bind F=jN a (fun a0 a1=>(b a0 a1).bind F) (fun a0 a1 a2=>(c a0 a1 a2).bind F):=by
 simp only[jN,az]
def lh{R:Type}(a:ByteArray)(b:(List Int))(c:Int)(d:ByteArray->(List Int)->Int->Option R)(e:(List Int)->Option R):Option R:=
 bif c<(a.size:Int) then zd c a.size (zd (zW zI (c+1)) a.size (bif(List.length b+List.length ([(aD .or .u8 (zW zU (zW zU (ze a c.toNat-(48:Int))*2^min ((4:Int)).toNat 8)) (zW zU (ze a (zW zI (c+(1:Int))).toNat-(48:Int))))]:List Int))*1<=140737488355328 then d a (b++([(aD .or .u8 (zW zU (zW zU (ze a c.toNat-48)*2^min ((4:Int)).toNat 8)) (zW zU (ze a (zW zI (c+(1:Int))).toNat-48)))]:List Int)) (zW zI (c+2)) else none)) else e b
def qd{R:Type}(a:(List Int))(b:ByteArray->Bool->Option R):Option R:=
 b (strOf a) true
def iH:Nat->ByteArray->(List Int)->Int->Option (List Int)
 |0,_,_,_=>none
 |k+1,v0,v1,v2=>lh v0 v1 v2 (fun a0 a1 a2=>iH k a0 a1 a2) (fun a0=>some a0)
def Q1(a:ByteArray):Option iO:=
 jN a (fun a0 a1=>some (a0,a1)) (fun a0 a1 a2=>(iH ag a0 a1 a2).bind fun e=>qd e (fun a0 a1=>some (a0,a1)))
def nh{R:Type}(a:Int)(b:Int->Option R):Option R:=
 bif a<0 then b 0 else bif 65535<a then b 0 else bif 255<a then b (zW zI (zW zI (zW zI (0+1)+1)+1)) else bif 127<a then b (zW zI (zW zI (0+1)+1)) else b (zW zI (0+1))
def Q4(a:Int):Option Int:=
 nh a (fun a0=>some a0)
def jO{R:Type}(a:ByteArray)(b:Int)(c:Int->Int->Int->Option R)(d:ByteArray->Int->Int->Int->Int->Int->Option R):Option R:=
 bif b<0 then c 0 0 1 else bif(a.size:Int)<b then c 0 0 1 else bif b=(a.size:Int) then c 0 0 2 else zd b a.size (bif 127<zW zI (ze a b.toNat) then bif zW zI (ze a b.toNat)=128 then c 0 0 14 else bif 130<zW zI (ze a b.toNat) then c 0 0 14 else bif zW zI ((a.size:Int)-zW zI (b+1))<zW zI (zW zI (ze a b.toNat)-128) then c 0 0 2 else d a (zW zI (b+1)) 0 (zW zI (zW zI (ze a b.toNat)-128)) (zW zI (zW zI (ze a b.toNat)-128)) 0 else bif zW zI ((a.size:Int)-zW zI (b+1))<0 then c 0 0 2 else d a (zW zI (b+1)) (zW zI (ze a b.toNat)) 0 0 0)
theorem S8{R S:Type}(F:R->Option S)(a)(b)(c)(d):(jO a b c d).bind F=jO a b (fun a0 a1 a2=>(c a0 a1 a2).bind F) (fun a0 a1 a2 a3 a4 a5=>(d a0 a1 a2 a3 a4 a5).bind F):=by
 simp only[jO,az]
def jP{R:Type}(a:ByteArray)(b c d e f:Int)(g:ByteArray->Int->Int->Int->Int->Int->Option R)(h:Int->Int->Int->Option R):Option R:=
 bif f<e then zd (zW zI (b+f)) a.size (g a b (aD .or .i64 (zW zI (c*2^min ((8:Int)).toNat 64)) (zW zI (ze a (zW zI (b+f)).toNat))) d e (zW zI (f+1))) else h b c d
def jQ{R:Type}(a b c:Int)(d:Int->Int->Int->Option R):Option R:=
 (Q4 b).bind fun r1=>bif !decide (r1=zW zI (c+1)) then d 0 0 14 else d b (zW zI (a+c)) 0
def dJ:Nat->ByteArray->Int->Int->Int->Int->Int->Option lr
 |0,_,_,_,_,_,_=>none
 |k+1,v0,v1,v2,v3,v4,v5=>jP v0 v1 v2 v3 v4 v5 (fun a0 a1 a2 a3 a4 a5=>dJ k a0 a1 a2 a3 a4 a5) (fun a0 a1 a2=>some (a0,a1,a2))
def Q3(a:ByteArray)(b:Int):Option lr:=
 jO a b (fun a0 a1 a2=>some (a0,a1,a2)) (fun a0 a1 a2 a3 a4 a5=>(dJ ag a0 a1 a2 a3 a4 a5).bind fun e=>jQ e.1 e.2.1 e.2.2 (fun a0 a1 a2=>some (a0,a1,a2)))
def zss{R:Type}(a:Int)(b:Int->Option R):Option R:=
 bif 4294967296<=a then bif 65536<=Int.fdiv a (2^min ((32:Int)).toNat 64) then bif 256<=Int.fdiv (Int.fdiv a (2^min ((32:Int)).toNat 64)) (2^min ((16:Int)).toNat 64) then zd (zW zU (Int.fdiv (Int.fdiv (Int.fdiv a (2^min ((32:Int)).toNat 64)) (2^min ((16:Int)).toNat 64)) (2^min ((8:Int)).toNat 64))) (bs [0,1,2,2,3,3,3,3,4,4,4,4,4,4,4,4,5,5,5,5,5,5,5,5,5,5,5,5,5,5,5,5,6,6,6,6,6,6,6,6,6,6,6,6,6,6,6,6,6,6,6,6,6,6,6,6,6,6,6,6,6,6,6,6,7,7,7,7,7,7,7,7,7,7,7,7,7,7,7,7,7,7,7,7,7,7,7,7,7,7,7,7,7,7,7,7,7,7,7,7,7,7,7,7,7,7,7,7,7,7,7,7,7,7,7,7,7,7,7,7,7,7,7,7,7,7,7,7,8,8,8,8,8,8,8,8,8,8,8,8,8,8,8,8,8,8,8,8,8,8,8,8,8,8,8,8,8,8,8,8,8,8,8,8,8,8,8,8,8,8,8,8,8,8,8,8,8,8,8,8,8,8,8,8,8,8,8,8,8,8,8,8,8,8,8,8,8,8,8,8,8,8,8,8,8,8,8,8,8,8,8,8,8,8,8,8,8,8,8,8,8,8,8,8,8,8,8,8,8,8,8,8,8,8,8,8,8,8,8,8,8,8,8,8,8,8,8,8,8,8,8,8,8,8,8,8]).size (b (zW zI (zW zI (zW zI (32+16)+8)+zW zI (ze (bs [0,1,2,2,3,3,3,3,4,4,4,4,4,4,4,4,5,5,5,5,5,5,5,5,5,5,5,5,5,5,5,5,6,6,6,6,6,6,6,6,6,6,6,6,6,6,6,6,6,6,6,6,6,6,6,6,6,6,6,6,6,6,6,6,7,7,7,7,7,7,7,7,7,7,7,7,7,7,7,7,7,7,7,7,7,7,7,7,7,7,7,7,7,7,7,7,7,7,7,7,7,7,7,7,7,7,7,7,7,7,7,7,7,7,7,7,7,7,7,7,7,7,7,7,7,7,7,7,8,8,8,8,8,8,8,8,8,8,8,8,8,8,8,8,8,8,8,8,8,8,8,8,8,8,8,8,8,8,8,8,8,8,8,8,8,8,8,8,8,8,8,8,8,8,8,8,8,8,8,8,8,8,8,8,8,8,8,8,8,8,8,8,8,8,8,8,8,8,8,8,8,8,8,8,8,8,8,8,8,8,8,8,8,8,8,8,8,8,8,8,8,8,8,8,8,8,8,8,8,8,8,8,8,8,8,8,8,8,8,8,8,8,8,8,8,8,8,8,8,8,8,8,8,8,8,8]) (zW zU (Int.fdiv (Int.fdiv (Int.fdiv a (2^min ((32:Int)).toNat 64)) (2^min ((16:Int)).toNat 64)) (2^min ((8:Int)).toNat 64))).toNat)))) else zd (zW zU (Int.fdiv (Int.fdiv a (2^min ((32:Int)).toNat 64)) (2^min ((16:Int)).toNat 64))) (bs [0,1,2,2,3,3,3,3,4,4,4,4,4,4,4,4,5,5,5,5,5,5,5,5,5,5,5,5,5,5,5,5,6,6,6,6,6,6,6,6,6,6,6,6,6,6,6,6,6,6,6,6,6,6,6,6,6,6,6,6,6,6,6,6,7,7,7,7,7,7,7,7,7,7,7,7,7,7,7,7,7,7,7,7,7,7,7,7,7,7,7,7,7,7,7,7,7,7,7,7,7,7,7,7,7,7,7,7,7,7,7,7,7,7,7,7,7,7,7,7,7,7,7,7,7,7,7,7,8,8,8,8,8,8,8,8,8,8,8,8,8,8,8,8,8,8,8,8,8,8,8,8,8,8,8,8,8,8,8,8,8,8,8,8,8,8,8,8,8,8,8,8,8,8,8,8,8,8,8,8,8,8,8,8,8,8,8,8,8,8,8,8,8,8,8,8,8,8,8,8,8,8,8,8,8,8,8,8,8,8,8,8,8,8,8,8,8,8,8,8,8,8,8,8,8,8,8,8,8,8,8,8,8,8,8,8,8,8,8,8,8,8,8,8,8,8,8,8,8,8,8,8,8,8,8,8]).size (b (zW zI (zW zI (32+16)+zW zI (ze (bs [0,1,2,2,3,3,3,3,4,4,4,4,4,4,4,4,5,5,5,5,5,5,5,5,5,5,5,5,5,5,5,5,6,6,6,6,6,6,6,6,6,6,6,6,6,6,6,6,6,6,6,6,6,6,6,6,6,6,6,6,6,6,6,6,7,7,7,7,7,7,7,7,7,7,7,7,7,7,7,7,7,7,7,7,7,7,7,7,7,7,7,7,7,7,7,7,7,7,7,7,7,7,7,7,7,7,7,7,7,7,7,7,7,7,7,7,7,7,7,7,7,7,7,7,7,7,7,7,8,8,8,8,8,8,8,8,8,8,8,8,8,8,8,8,8,8,8,8,8,8,8,8,8,8,8,8,8,8,8,8,8,8,8,8,8,8,8,8,8,8,8,8,8,8,8,8,8,8,8,8,8,8,8,8,8,8,8,8,8,8,8,8,8,8,8,8,8,8,8,8,8,8,8,8,8,8,8,8,8,8,8,8,8,8,8,8,8,8,8,8,8,8,8,8,8,8,8,8,8,8,8,8,8,8,8,8,8,8,8,8,8,8,8,8,8,8,8,8,8,8,8,8,8,8,8,8]) (zW zU (Int.fdiv (Int.fdiv a (2^min ((32:Int)).toNat 64)) (2^min ((16:Int)).toNat 64))).toNat)))) else bif 256<=Int.fdiv a (2^min ((32:Int)).toNat 64) then zd (zW zU (Int.fdiv (Int.fdiv a (2^min ((32:Int)).toNat 64)) (2^min ((8:Int)).toNat 64))) (bs [0,1,2,2,3,3,3,3,4,4,4,4,4,4,4,4,5,5,5,5,5,5,5,5,5,5,5,5,5,5,5,5,6,6,6,6,6,6,6,6,6,6,6,6,6,6,6,6,6,6,6,6,6,6,6,6,6,6,6,6,6,6,6,6,7,7,7,7,7,7,7,7,7,7,7,7,7,7,7,7,7,7,7,7,7,7,7,7,7,7,7,7,7,7,7,7,7,7,7,7,7,7,7,7,7,7,7,7,7,7,7,7,7,7,7,7,7,7,7,7,7,7,7,7,7,7,7,7,8,8,8,8,8,8,8,8,8,8,8,8,8,8,8,8,8,8,8,8,8,8,8,8,8,8,8,8,8,8,8,8,8,8,8,8,8,8,8,8,8,8,8,8,8,8,8,8,8,8,8,8,8,8,8,8,8,8,8,8,8,8,8,8,8,8,8,8,8,8,8,8,8,8,8,8,8,8,8,8,8,8,8,8,8,8,8,8,8,8,8,8,8,8,8,8,8,8,8,8,8,8,8,8,8,8,8,8,8,8,8,8,8,8,8,8,8,8,8,8,8,8,8,8,8,8,8,8]).size (b (zW zI (zW zI (32+8)+zW zI (ze (bs [0,1,2,2,3,3,3,3,4,4,4,4,4,4,4,4,5,5,5,5,5,5,5,5,5,5,5,5,5,5,5,5,6,6,6,6,6,6,6,6,6,6,6,6,6,6,6,6,6,6,6,6,6,6,6,6,6,6,6,6,6,6,6,6,7,7,7,7,7,7,7,7,7,7,7,7,7,7,7,7,7,7,7,7,7,7,7,7,7,7,7,7,7,7,7,7,7,7,7,7,7,7,7,7,7,7,7,7,7,7,7,7,7,7,7,7,7,7,7,7,7,7,7,7,7,7,7,7,8,8,8,8,8,8,8,8,8,8,8,8,8,8,8,8,8,8,8,8,8,8,8,8,8,8,8,8,8,8,8,8,8,8,8,8,8,8,8,8,8,8,8,8,8,8,8,8,8,8,8,8,8,8,8,8,8,8,8,8,8,8,8,8,8,8,8,8,8,8,8,8,8,8,8,8,8,8,8,8,8,8,8,8,8,8,8,8,8,8,8,8,8,8,8,8,8,8,8,8,8,8,8,8,8,8,8,8,8,8,8,8,8,8,8,8,8,8,8,8,8,8,8,8,8,8,8,8]) (zW zU (Int.fdiv (Int.fdiv a (2^min ((32:Int)).toNat 64)) (2^min ((8:Int)).toNat 64))).toNat)))) else zd (zW zU (Int.fdiv a (2^min ((32:Int)).toNat 64))) (bs [0,1,2,2,3,3,3,3,4,4,4,4,4,4,4,4,5,5,5,5,5,5,5,5,5,5,5,5,5,5,5,5,6,6,6,6,6,6,6,6,6,6,6,6,6,6,6,6,6,6,6,6,6,6,6,6,6,6,6,6,6,6,6,6,7,7,7,7,7,7,7,7,7,7,7,7,7,7,7,7,7,7,7,7,7,7,7,7,7,7,7,7,7,7,7,7,7,7,7,7,7,7,7,7,7,7,7,7,7,7,7,7,7,7,7,7,7,7,7,7,7,7,7,7,7,7,7,7,8,8,8,8,8,8,8,8,8,8,8,8,8,8,8,8,8,8,8,8,8,8,8,8,8,8,8,8,8,8,8,8,8,8,8,8,8,8,8,8,8,8,8,8,8,8,8,8,8,8,8,8,8,8,8,8,8,8,8,8,8,8,8,8,8,8,8,8,8,8,8,8,8,8,8,8,8,8,8,8,8,8,8,8,8,8,8,8,8,8,8,8,8,8,8,8,8,8,8,8,8,8,8,8,8,8,8,8,8,8,8,8,8,8,8,8,8,8,8,8,8,8,8,8,8,8,8,8]).size (b (zW zI (32+zW zI (ze (bs [0,1,2,2,3,3,3,3,4,4,4,4,4,4,4,4,5,5,5,5,5,5,5,5,5,5,5,5,5,5,5,5,6,6,6,6,6,6,6,6,6,6,6,6,6,6,6,6,6,6,6,6,6,6,6,6,6,6,6,6,6,6,6,6,7,7,7,7,7,7,7,7,7,7,7,7,7,7,7,7,7,7,7,7,7,7,7,7,7,7,7,7,7,7,7,7,7,7,7,7,7,7,7,7,7,7,7,7,7,7,7,7,7,7,7,7,7,7,7,7,7,7,7,7,7,7,7,7,8,8,8,8,8,8,8,8,8,8,8,8,8,8,8,8,8,8,8,8,8,8,8,8,8,8,8,8,8,8,8,8,8,8,8,8,8,8,8,8,8,8,8,8,8,8,8,8,8,8,8,8,8,8,8,8,8,8,8,8,8,8,8,8,8,8,8,8,8,8,8,8,8,8,8,8,8,8,8,8,8,8,8,8,8,8,8,8,8,8,8,8,8,8,8,8,8,8,8,8,8,8,8,8,8,8,8,8,8,8,8,8,8,8,8,8,8,8,8,8,8,8,8,8,8,8,8,8]) (zW zU (Int.fdiv a (2^min ((32:Int)).toNat 64))).toNat)))) else bif 65536<=a then bif 256<=Int.fdiv a (2^min ((16:Int)).toNat 64) then zd (zW zU (Int.fdiv (Int.fdiv a (2^min ((16:Int)).toNat 64)) (2^min ((8:Int)).toNat 64))) (bs [0,1,2,2,3,3,3,3,4,4,4,4,4,4,4,4,5,5,5,5,5,5,5,5,5,5,5,5,5,5,5,5,6,6,6,6,6,6,6,6,6,6,6,6,6,6,6,6,6,6,6,6,6,6,6,6,6,6,6,6,6,6,6,6,7,7,7,7,7,7,7,7,7,7,7,7,7,7,7,7,7,7,7,7,7,7,7,7,7,7,7,7,7,7,7,7,7,7,7,7,7,7,7,7,7,7,7,7,7,7,7,7,7,7,7,7,7,7,7,7,7,7,7,7,7,7,7,7,8,8,8,8,8,8,8,8,8,8,8,8,8,8,8,8,8,8,8,8,8,8,8,8,8,8,8,8,8,8,8,8,8,8,8,8,8,8,8,8,8,8,8,8,8,8,8,8,8,8,8,8,8,8,8,8,8,8,8,8,8,8,8,8,8,8,8,8,8,8,8,8,8,8,8,8,8,8,8,8,8,8,8,8,8,8,8,8,8,8,8,8,8,8,8,8,8,8,8,8,8,8,8,8,8,8,8,8,8,8,8,8,8,8,8,8,8,8,8,8,8,8,8,8,8,8,8,8]).size (b (zW zI (zW zI (zW zI (0+16)+8)+zW zI (ze (bs [0,1,2,2,3,3,3,3,4,4,4,4,4,4,4,4,5,5,5,5,5,5,5,5,5,5,5,5,5,5,5,5,6,6,6,6,6,6,6,6,6,6,6,6,6,6,6,6,6,6,6,6,6,6,6,6,6,6,6,6,6,6,6,6,7,7,7,7,7,7,7,7,7,7,7,7,7,7,7,7,7,7,7,7,7,7,7,7,7,7,7,7,7,7,7,7,7,7,7,7,7,7,7,7,7,7,7,7,7,7,7,7,7,7,7,7,7,7,7,7,7,7,7,7,7,7,7,7,8,8,8,8,8,8,8,8,8,8,8,8,8,8,8,8,8,8,8,8,8,8,8,8,8,8,8,8,8,8,8,8,8,8,8,8,8,8,8,8,8,8,8,8,8,8,8,8,8,8,8,8,8,8,8,8,8,8,8,8,8,8,8,8,8,8,8,8,8,8,8,8,8,8,8,8,8,8,8,8,8,8,8,8,8,8,8,8,8,8,8,8,8,8,8,8,8,8,8,8,8,8,8,8,8,8,8,8,8,8,8,8,8,8,8,8,8,8,8,8,8,8,8,8,8,8,8,8]) (zW zU (Int.fdiv (Int.fdiv a (2^min ((16:Int)).toNat 64)) (2^min ((8:Int)).toNat 64))).toNat)))) else zd (zW zU (Int.fdiv a (2^min ((16:Int)).toNat 64))) (bs [0,1,2,2,3,3,3,3,4,4,4,4,4,4,4,4,5,5,5,5,5,5,5,5,5,5,5,5,5,5,5,5,6,6,6,6,6,6,6,6,6,6,6,6,6,6,6,6,6,6,6,6,6,6,6,6,6,6,6,6,6,6,6,6,7,7,7,7,7,7,7,7,7,7,7,7,7,7,7,7,7,7,7,7,7,7,7,7,7,7,7,7,7,7,7,7,7,7,7,7,7,7,7,7,7,7,7,7,7,7,7,7,7,7,7,7,7,7,7,7,7,7,7,7,7,7,7,7,8,8,8,8,8,8,8,8,8,8,8,8,8,8,8,8,8,8,8,8,8,8,8,8,8,8,8,8,8,8,8,8,8,8,8,8,8,8,8,8,8,8,8,8,8,8,8,8,8,8,8,8,8,8,8,8,8,8,8,8,8,8,8,8,8,8,8,8,8,8,8,8,8,8,8,8,8,8,8,8,8,8,8,8,8,8,8,8,8,8,8,8,8,8,8,8,8,8,8,8,8,8,8,8,8,8,8,8,8,8,8,8,8,8,8,8,8,8,8,8,8,8,8,8,8,8,8,8]).size (b (zW zI (zW zI (0+16)+zW zI (ze (bs [0,1,2,2,3,3,3,3,4,4,4,4,4,4,4,4,5,5,5,5,5,5,5,5,5,5,5,5,5,5,5,5,6,6,6,6,6,6,6,6,6,6,6,6,6,6,6,6,6,6,6,6,6,6,6,6,6,6,6,6,6,6,6,6,7,7,7,7,7,7,7,7,7,7,7,7,7,7,7,7,7,7,7,7,7,7,7,7,7,7,7,7,7,7,7,7,7,7,7,7,7,7,7,7,7,7,7,7,7,7,7,7,7,7,7,7,7,7,7,7,7,7,7,7,7,7,7,7,8,8,8,8,8,8,8,8,8,8,8,8,8,8,8,8,8,8,8,8,8,8,8,8,8,8,8,8,8,8,8,8,8,8,8,8,8,8,8,8,8,8,8,8,8,8,8,8,8,8,8,8,8,8,8,8,8,8,8,8,8,8,8,8,8,8,8,8,8,8,8,8,8,8,8,8,8,8,8,8,8,8,8,8,8,8,8,8,8,8,8,8,8,8,8,8,8,8,8,8,8,8,8,8,8,8,8,8,8,8,8,8,8,8,8,8,8,8,8,8,8,8,8,8,8,8,8,8]) (zW zU (Int.fdiv a (2^min ((16:Int)).toNat 64))).toNat)))) else bif 256<=a then zd (zW zU (Int.fdiv a (2^min ((8:Int)).toNat 64))) (bs [0,1,2,2,3,3,3,3,4,4,4,4,4,4,4,4,5,5,5,5,5,5,5,5,5,5,5,5,5,5,5,5,6,6,6,6,6,6,6,6,6,6,6,6,6,6,6,6,6,6,6,6,6,6,6,6,6,6,6,6,6,6,6,6,7,7,7,7,7,7,7,7,7,7,7,7,7,7,7,7,7,7,7,7,7,7,7,7,7,7,7,7,7,7,7,7,7,7,7,7,7,7,7,7,7,7,7,7,7,7,7,7,7,7,7,7,7,7,7,7,7,7,7,7,7,7,7,7,8,8,8,8,8,8,8,8,8,8,8,8,8,8,8,8,8,8,8,8,8,8,8,8,8,8,8,8,8,8,8,8,8,8,8,8,8,8,8,8,8,8,8,8,8,8,8,8,8,8,8,8,8,8,8,8,8,8,8,8,8,8,8,8,8,8,8,8,8,8,8,8,8,8,8,8,8,8,8,8,8,8,8,8,8,8,8,8,8,8,8,8,8,8,8,8,8,8,8,8,8,8,8,8,8,8,8,8,8,8,8,8,8,8,8,8,8,8,8,8,8,8,8,8,8,8,8,8]).size (b (zW zI (zW zI (0+8)+zW zI (ze (bs [0,1,2,2,3,3,3,3,4,4,4,4,4,4,4,4,5,5,5,5,5,5,5,5,5,5,5,5,5,5,5,5,6,6,6,6,6,6,6,6,6,6,6,6,6,6,6,6,6,6,6,6,6,6,6,6,6,6,6,6,6,6,6,6,7,7,7,7,7,7,7,7,7,7,7,7,7,7,7,7,7,7,7,7,7,7,7,7,7,7,7,7,7,7,7,7,7,7,7,7,7,7,7,7,7,7,7,7,7,7,7,7,7,7,7,7,7,7,7,7,7,7,7,7,7,7,7,7,8,8,8,8,8,8,8,8,8,8,8,8,8,8,8,8,8,8,8,8,8,8,8,8,8,8,8,8,8,8,8,8,8,8,8,8,8,8,8,8,8,8,8,8,8,8,8,8,8,8,8,8,8,8,8,8,8,8,8,8,8,8,8,8,8,8,8,8,8,8,8,8,8,8,8,8,8,8,8,8,8,8,8,8,8,8,8,8,8,8,8,8,8,8,8,8,8,8,8,8,8,8,8,8,8,8,8,8,8,8,8,8,8,8,8,8,8,8,8,8,8,8,8,8,8,8,8,8]) (zW zU (Int.fdiv a (2^min ((8:Int)).toNat 64))).toNat)))) else zd (zW zU a) (bs [0,1,2,2,3,3,3,3,4,4,4,4,4,4,4,4,5,5,5,5,5,5,5,5,5,5,5,5,5,5,5,5,6,6,6,6,6,6,6,6,6,6,6,6,6,6,6,6,6,6,6,6,6,6,6,6,6,6,6,6,6,6,6,6,7,7,7,7,7,7,7,7,7,7,7,7,7,7,7,7,7,7,7,7,7,7,7,7,7,7,7,7,7,7,7,7,7,7,7,7,7,7,7,7,7,7,7,7,7,7,7,7,7,7,7,7,7,7,7,7,7,7,7,7,7,7,7,7,8,8,8,8,8,8,8,8,8,8,8,8,8,8,8,8,8,8,8,8,8,8,8,8,8,8,8,8,8,8,8,8,8,8,8,8,8,8,8,8,8,8,8,8,8,8,8,8,8,8,8,8,8,8,8,8,8,8,8,8,8,8,8,8,8,8,8,8,8,8,8,8,8,8,8,8,8,8,8,8,8,8,8,8,8,8,8,8,8,8,8,8,8,8,8,8,8,8,8,8,8,8,8,8,8,8,8,8,8,8,8,8,8,8,8,8,8,8,8,8,8,8,8,8,8,8,8,8]).size (b (zW zI (0+zW zI (ze (bs [0,1,2,2,3,3,3,3,4,4,4,4,4,4,4,4,5,5,5,5,5,5,5,5,5,5,5,5,5,5,5,5,6,6,6,6,6,6,6,6,6,6,6,6,6,6,6,6,6,6,6,6,6,6,6,6,6,6,6,6,6,6,6,6,7,7,7,7,7,7,7,7,7,7,7,7,7,7,7,7,7,7,7,7,7,7,7,7,7,7,7,7,7,7,7,7,7,7,7,7,7,7,7,7,7,7,7,7,7,7,7,7,7,7,7,7,7,7,7,7,7,7,7,7,7,7,7,7,8,8,8,8,8,8,8,8,8,8,8,8,8,8,8,8,8,8,8,8,8,8,8,8,8,8,8,8,8,8,8,8,8,8,8,8,8,8,8,8,8,8,8,8,8,8,8,8,8,8,8,8,8,8,8,8,8,8,8,8,8,8,8,8,8,8,8,8,8,8,8,8,8,8,8,8,8,8,8,8,8,8,8,8,8,8,8,8,8,8,8,8,8,8,8,8,8,8,8,8,8,8,8,8,8,8,8,8,8,8,8,8,8,8,8,8,8,8,8,8,8,8,8,8,8,8,8,8]) (zW zU a).toNat))))
def pX(a:Int):Option Int:=
 zss a (fun a0=>some a0)
def LC{R:Type}(a:Int)(b:Int->Option R):Option R:=
 (pX a).bind fun r1=>b (zW zI (64-r1))
def lg(a:Int):Option Int:=
 LC a (fun a0=>some a0)
def OG{R:Type}(a:Int)(b:aw->Option R):Option R:=
 bif a<1 then b (0,0,()) else bif 128<a then b (0,0,()) else bif a<=64 then bif zW zI (64-a)<0 then none else b (IntKind.u64.wrap (1*2^min (zW zI (64-a)).toNat 64),0,()) else bif zW zI (128-a)<0 then none else b (0,IntKind.u64.wrap (1*2^min (zW zI (128-a)).toNat 64),())
def AY(a:Int):Option aw:=
 OG a (fun a0=>some a0)
def OB{R:Type}(a b:aw)(c:aw->Option R):Option R:=
 c (aD .or .u64 a.1 b.1,aD .or .u64 a.2.1 b.2.1,())
def qu(a b:aw):Option aw:=
 OB a b (fun a0=>some a0)
def OE{R:Type}(a:aw)(b:Int)(c:aw->Option R):Option R:=
 (AY b).bind fun r1=>(qu a r1).bind fun r2=>c r2
def vB(a:aw)(b:Int):Option aw:=
 OE a b (fun a0=>some a0)
def Oz{R:Type}(a:(List Int))(b:(List Int)->Int->Int->aw->aw->Option R):Option R:=
 b a ((List.length a):Int) 0 (0,0,()) (0,0,())
def Jn{R:Type}(a:(List Int))(b c:Int)(d e:aw)(f:(List Int)->Int->Int->aw->aw->Option R)(g:aw->aw->Option R):Option R:=
 bif c<b then zd c (List.length a) ((vB e (List.getD a c.toNat (0:Int))).bind fun r1=>f a b (zW zI (c+1)) d r1) else g d e
def OA{R:Type}(a b:aw)(c:aw->Option R):Option R:=
 c b
def xH:Nat->(List Int)->Int->Int->aw->aw->Option (aw×aw)
 |0,_,_,_,_,_=>none
 |k+1,v0,v1,v2,v3,v4=>Jn v0 v1 v2 v3 v4 (fun a0 a1 a2 a3 a4=>xH k a0 a1 a2 a3 a4) (fun a0 a1=>some (a0,a1))
def sc(a:(List Int)):Option aw:=
 Oz a (fun a0 a1 a2 a3 a4=>(xH ag a0 a1 a2 a3 a4).bind fun e=>OA e.1 e.2 (fun a0=>some a0))
def zza{R:Type}(a:aw)(b:Int->Int->Option R):Option R:=
 b a.1 a.2.1
def JR(a:aw):Option (Int×Int):=
 zza a (fun a0 a1=>some (a0,a1))
def OD{R:Type}(a:aw)(b:Int)(c:Int->Option R):Option R:=
 bif(if b<0 then 0 else b)<64 then bif(if b<0 then 0 else b)<0 then none else bif !decide (IntKind.u64.wrap (a.1*2^min (if b<0 then 0 else b).toNat 64)=0) then(lg (IntKind.u64.wrap (a.1*2^min (if b<0 then 0 else b).toNat 64))).bind fun r1=>c (zW zI (zW zI ((if b<0 then 0 else b)+r1)+1)) else bif(if 64<zW zI (64-64) then 64 else zW zI (64-64))<0 then none else bif !decide (IntKind.u64.wrap (a.2.1*2^min (if 64<zW zI (64-64) then 64 else zW zI (64-(64:Int))).toNat 64)=0) then(lg (IntKind.u64.wrap (a.2.1*2^min (if 64<zW zI (64-64) then 64 else zW zI (64-(64:Int))).toNat 64))).bind fun r2=>c (zW zI (zW zI (64+r2)+1)) else c 0 else bif(if 64<zW zI ((if b<0 then 0 else b)-64) then 64 else zW zI ((if b<0 then 0 else b)-64))<0 then none else bif !decide (IntKind.u64.wrap (a.2.1*2^min (if 64<zW zI ((if b<0 then 0 else b)-64) then 64 else zW zI ((if b<0 then 0 else b)-(64:Int))).toNat 64)=0) then(lg (IntKind.u64.wrap (a.2.1*2^min (if 64<zW zI ((if b<0 then 0 else b)-64) then 64 else zW zI ((if b<0 then 0 else b)-(64:Int))).toNat 64))).bind fun r3=>c (zW zI (zW zI ((if b<0 then 0 else b)+r3)+1)) else c 0
def AX(a:aw)(b:Int):Option Int:=
 OD a b (fun a0=>some a0)
def Jo{R:Type}(a b:aw)(c:aw->Option R):Option R:=
 c (aD .and .u64 a.1 b.1,aD .and .u64 a.2.1 b.2.1,())
def pB(a b:aw):Option aw:=
 Jo a b (fun a0=>some a0)
def OC{R:Type}(a:aw)(b:Int)(c:Bool->Option R):Option R:=
 (AY b).bind fun r1=>(pB a r1).bind fun r2=>c (!(decide (r2.1=0)&&(decide (r2.2.1=0)&&true)))
def CL(a:aw)(b:Int):Option Bool:=
 OC a b (fun a0=>some a0)
def zz9{R:Type}(a b:Int)(c:aw->Option R):Option R:=
 c (a,b,())
def JQ(a b:Int):Option aw:=
 zz9 a b (fun a0=>some a0)
def zso{R:Type}(a:Int)(b:Int->Bool->Option R):Option R:=
 bif 48<=a then bif a<=57 then b (zW zI (zW zU (a-48))) true else bif 65<=a then bif a<=70 then b (zW zI (zW zI (zW zU (a-65))+10)) true else b 0 false else b 0 false else bif 65<=a then bif a<=70 then b (zW zI (zW zI (zW zU (a-65))+10)) true else b 0 false else b 0 false
def pW(a:Int):Option (Int×Bool):=
 zso a (fun a0 a1=>some (a0,a1))
def Ly{R:Type}(a:ByteArray)(b:ByteArray->(List Int)->Int->Int->Option R):Option R:=
 bif 0<=zW zI (Int.tdiv (a.size:Int) 2) then bif zW zI (Int.tdiv (a.size:Int) 2)*1<=140737488355328 then b a [] 0 0 else none else none
def IE{R:Type}(a:ByteArray)(b:(List Int))(c d:Int)(e:ByteArray->ByteArray->Int->Bool->(List Int)->Option R)(f:ByteArray->(List Int)->Int->Int->Option R)(g:ByteArray->(List Int)->Option R):Option R:=
 bif d<(a.size:Int) then zd d a.size ((pW (ze a d.toNat)).bind fun r1=>bif !r1.2 then e a (bs []) d false b else bif Int.tmod d 2=0 then f a b r1.1 (zW zI (d+1)) else bif(List.length b+List.length ([(zW zU (aD .or .i64 (zW zI (c*2^min ((4:Int)).toNat 64)) r1.1))]:List Int))*1<=140737488355328 then f a (b++([(zW zU (aD .or .i64 (zW zI (c*2^min ((4:Int)).toNat 64)) r1.1))]:List Int)) c (zW zI (d+1)) else none) else g a b
def zsq{R:Type}(a b:ByteArray)(c:Int)(d:Bool)(e:(List Int))(f:ByteArray->Int->Bool->Option R):Option R:=
 f b c d
def Lz{R:Type}(a:ByteArray)(b:(List Int))(c:ByteArray->Int->Bool->Option R):Option R:=
 bif !decide (Int.tmod (a.size:Int) 2=0) then c (bs []) (a.size:Int) false else c (strOf b) 0 true
def Ak:Nat->ByteArray->(List Int)->Int->Int->Option (Sum (ByteArray×ByteArray×Int×Bool×(List Int)) (ByteArray×(List Int)))
 |0,_,_,_,_=>none
 |k+1,v0,v1,v2,v3=>IE v0 v1 v2 v3 (fun a0 a1 a2 a3 a4=>some (.inl (a0,a1,a2,a3,a4))) (fun a0 a1 a2 a3=>Ak k a0 a1 a2 a3) (fun a0 a1=>some (.inr (a0,a1)))
def fI(a:ByteArray):Option (ByteArray×Int×Bool):=
 Ly a (fun a0 a1 a2 a3=>(Ak ag a0 a1 a2 a3).bind fun e=>Sum.elim (fun(we:(ByteArray×ByteArray×Int×Bool×(List Int)))=>zsq we.1 we.2.1 we.2.2.1 we.2.2.2.1 we.2.2.2.2 (fun a0 a1 a2=>some (a0,a1,a2))) (fun(we:(ByteArray×(List Int)))=>Lz we.1 we.2 (fun a0 a1 a2=>some (a0,a1,a2))) e)
def LB{R:Type}(a:ByteArray)(b:ByteArray->(List Int)->Int->Option R):Option R:=
 bif 0<=zW zI (2*(a.size:Int)) then bif zW zI (2*(a.size:Int))*1<=140737488355328 then b a [] 0 else none else none
def IF{R:Type}(a:ByteArray)(b:(List Int))(c:Int)(d:ByteArray->(List Int)->Int->Option R)(e:(List Int)->Option R):Option R:=
 bif c<(a.size:Int) then zd c a.size (zd (Int.fdiv (ze a c.toNat) (2^min ((4:Int)).toNat 8)) (bs [48,49,50,51,52,53,54,55,56,57,65,66,67,68,69,70]).size (zd c a.size (zd (aD .and .u8 (ze a c.toNat) 15) (bs [48,49,50,51,52,53,54,55,56,57,65,66,67,68,69,70]).size (bif(List.length b+List.length ([(ze (bs [48,49,50,51,52,53,54,55,56,57,65,66,67,68,69,70]) (Int.fdiv (ze a c.toNat) (2^min ((4:Int)).toNat 8)).toNat),(ze (bs [48,49,50,51,52,53,54,55,56,57,65,66,67,68,69,70]) (aD .and .u8 (ze a c.toNat) (15:Int)).toNat)]:List Int))*1<=140737488355328 then d a (b++([(ze (bs [48,49,50,51,52,53,54,55,56,57,65,66,67,68,69,70]) (Int.fdiv (ze a c.toNat) (2^min ((4:Int)).toNat 8)).toNat),(ze (bs [48,49,50,51,52,53,54,55,56,57,65,66,67,68,69,70]) (aD .and .u8 (ze a c.toNat) (15:Int)).toNat)]:List Int)) (zW zI (c+1)) else none)))) else e b
def zsr{R:Type}(a:(List Int))(b:ByteArray->Option R):Option R:=
 b (strOf a)
def Al:Nat->ByteArray->(List Int)->Int->Option (List Int)
 |0,_,_,_=>none
 |k+1,v0,v1,v2=>IF v0 v1 v2 (fun a0 a1 a2=>Al k a0 a1 a2) (fun a0=>some a0)
def iF(a:ByteArray):Option ByteArray:=
 LB a (fun a0 a1 a2=>(Al ag a0 a1 a2).bind fun e=>zsr e (fun a0=>some a0))
def ln{R:Type}(a:Int)(b:Bool->Option R):Option R:=
 bif a=1 then b true else b (decide (a=2))
def Q9(a:Int):Option Bool:=
 ln a (fun a0=>some a0)
def NC{R:Type}(a:Int)(b:ByteArray)(c:Int)(d:(List Int)->Int->Int->Option R):Option R:=
 bif a=1 then bif zW zI ((b.size:Int)-c)<zW zI (8*2) then d (List.replicate 8 0) 0 2 else bif 0<=zW zI (c+zW zI (8*2)) then bif zW zI (c+zW zI (8*2))<=(b.size:Int) then bif 0<=c then bif c<=(((zW zI (c+zW zI (8*(2:Int)))).toNat:Nat):Int) then bif a=1 then(fI (b.extract c.toNat (zW zI (c+zW zI (8*(2:Int)))).toNat)).bind fun r1=>bif !r1.2.2 then d (List.replicate 8 0) 0 3 else bif Nat.beq 8 (List.length (List.replicate 8 (0:Int))) then bif Nat.beq 8 (List.length (bC (List.replicate 8 (0:Int)) (List.take 8 (mg r1.1)) 0)) then d (bC (List.replicate 8 0) (List.take 8 (mg r1.1)) 0) (zW zI (c+zW zI (8*2))) 0 else none else none else bif Nat.beq 8 (List.length (List.replicate 8 (0:Int))) then bif Nat.beq 8 (List.length (bC (List.replicate 8 (0:Int)) (List.take 8 (mg (b.extract c.toNat (zW zI (c+zW zI ((8:Int)*(2:Int)))).toNat))) 0)) then d (bC (List.replicate 8 0) (List.take 8 (mg (b.extract c.toNat (zW zI (c+zW zI (8*(2:Int)))).toNat))) 0) (zW zI (c+zW zI (8*2))) 0 else none else none else none else none else none else none else bif zW zI ((b.size:Int)-c)<8 then d (List.replicate 8 0) 0 2 else bif 0<=zW zI (c+8) then bif zW zI (c+8)<=(b.size:Int) then bif 0<=c then bif c<=(((zW zI (c+(8:Int))).toNat:Nat):Int) then bif a=1 then(fI (b.extract c.toNat (zW zI (c+(8:Int))).toNat)).bind fun r2=>bif !r2.2.2 then d (List.replicate 8 0) 0 3 else bif Nat.beq 8 (List.length (List.replicate 8 (0:Int))) then bif Nat.beq 8 (List.length (bC (List.replicate 8 (0:Int)) (List.take 8 (mg r2.1)) 0)) then d (bC (List.replicate 8 0) (List.take 8 (mg r2.1)) 0) (zW zI (c+8)) 0 else none else none else bif Nat.beq 8 (List.length (List.replicate 8 (0:Int))) then bif Nat.beq 8 (List.length (bC (List.replicate 8 (0:Int)) (List.take 8 (mg (b.extract c.toNat (zW zI (c+(8:Int))).toNat))) 0)) then d (bC (List.replicate 8 0) (List.take 8 (mg (b.extract c.toNat (zW zI (c+(8:Int))).toNat))) 0) (zW zI (c+8)) 0 else none else none else none else none else none else none
def AW(a:Int)(b:ByteArray)(c:Int):Option ((List Int)×Int×Int):=
 NC a b c (fun a0 a1 a2=>some (a0,a1,a2))
def nu{R:Type}(a:(List Int))(b:Int->(List Int)->Int->Option R):Option R:=
 b 0 a 0
def ll{R:Type}(a:Int)(b:(List Int))(c:Int)(d:Int->(List Int)->Int->Option R)(e:Int->Option R):Option R:=
 bif c<8 then zd c 8 (d (aD .or .u64 (IntKind.u64.wrap (a*2^min ((8:Int)).toNat 64)) (IntKind.u64.wrap (List.getD b c.toNat 0))) b (zW zI (c+1))) else e a
def qv{R:Type}(a:Int)(b:Int->Option R):Option R:=
 b a
def iK:Nat->Int->(List Int)->Int->Option Int
 |0,_,_,_=>none
 |k+1,v0,v1,v2=>ll v0 v1 v2 (fun a0 a1 a2=>iK k a0 a1 a2) (fun a0=>some a0)
def Q7(a:(List Int)):Option Int:=
 nu a (fun a0 a1 a2=>(iK ag a0 a1 a2).bind fun e=>qv e (fun a0=>some a0))
def ni{R:Type}(a:Int)(b:ByteArray)(c:Int)(d:aw->Int->Int->Option R):Option R:=
 (Q9 a).bind fun r1=>bif !r1 then d (0,0,()) 0 1 else bif c<0 then d (0,0,()) 0 1 else bif(b.size:Int)<c then d (0,0,()) 0 1 else(AW a b c).bind fun r2=>bif !decide (r2.2.2=0) then d (0,0,()) 0 r2.2.2 else(Q7 r2.1).bind fun r3=>bif aD .and .u64 r3 9223372036854775808=0 then(JQ r3 (0:Int)).bind fun r4=>d r4 r2.2.1 0 else(AW a b r2.2.1).bind fun r5=>bif !decide (r5.2.2=0) then d (0,0,()) 0 r5.2.2 else bif r5.1=([0,0,0,0,0,0,0,0]:List Int) then d (0,0,()) 0 8 else(Q7 r5.1).bind fun r6=>(JQ (aD .andNot .u64 r3 9223372036854775808) r6).bind fun r7=>d r7 r5.2.1 0
def Q5(a:Int)(b:ByteArray)(c:Int):Option (aw×Int×Int):=
 ni a b c (fun a0 a1 a2=>some (a0,a1,a2))
def nx{R:Type}(a:Int)(b:Int->Int->(List Int)->(List Int)->Option R):Option R:=
 b a 0 (List.replicate 8 0) (List.replicate 8 0)
def lm{R:Type}(a b:Int)(c d:(List Int))(e:Int->Int->(List Int)->(List Int)->Option R)(f:(List Int)->(List Int)->Option R):Option R:=
 bif b<8 then bif zW zI (8*zW zI (7-b))<0 then none else zd b 8 (e a (zW zI (b+1)) c (List.set d b.toNat (zW zU (Int.fdiv a (2^min (zW zI (8*zW zI (7-b))).toNat 64))))) else f c d
def nz{R:Type}(a b:(List Int))(c:(List Int)->Option R):Option R:=
 c b
def fY:Nat->Int->Int->(List Int)->(List Int)->Option ((List Int)×(List Int))
 |0,_,_,_,_=>none
 |k+1,v0,v1,v2,v3=>lm v0 v1 v2 v3 (fun a0 a1 a2 a3=>fY k a0 a1 a2 a3) (fun a0 a1=>some (a0,a1))
def Q8(a:Int):Option (List Int):=
 nx a (fun a0 a1 a2 a3=>(fY ag a0 a1 a2 a3).bind fun e=>nz e.1 e.2 (fun a0=>some a0))
def nm{R:Type}(a:Int)(b:aw)(c:ByteArray->Int->Option R):Option R:=
 (Q9 a).bind fun r1=>bif !r1 then c (bs []) 1 else(CL b (1:Int)).bind fun r2=>bif r2 then c (bs []) 1 else(JR b).bind fun r3=>(Q8 r3.2).bind fun r4=>bif !decide (r4=([0,0,0,0,0,0,0,0]:List Int)) then bif Nat.beq 8 (List.length r4) then(Q8 (aD .or .u64 r3.1 (9223372036854775808:Int))).bind fun r5=>bif Nat.beq 8 (List.length r5) then bif(strOf r5).size+(strOf r4).size<=9223372036854775807 then bif a=1 then(iF (strOf r5++strOf r4)).bind fun r6=>c r6 0 else c (strOf r5++strOf r4) 0 else none else none else none else(Q8 r3.1).bind fun r7=>bif Nat.beq 8 (List.length r7) then bif(strOf r7).size+(bs []).size<=9223372036854775807 then bif a=1 then(iF (strOf r7++bs [])).bind fun r8=>c r8 0 else c (strOf r7++bs []) 0 else none else none
def Q6(a:Int)(b:aw):Option PD:=
 nm a b (fun a0 a1=>some (a0,a1))
def IM{R:Type}(a:Int)(b:Int->Option R):Option R:=
 bif a=2 then b 2 else bif a=3 then b 3 else b 0
def iG(a:Int):Option Int:=
 IM a (fun a0=>some a0)
def zt6{R:Type}(a:Int)(b:Int->Int->Int->Option R):Option R:=
 (iG a).bind fun r1=>b 0 r1 0
def zt7{R:Type}(a b c:Int)(d:Int->Int->Int->Option R)(e:Int->Option R):Option R:=
 bif c<b then d (zW zI (zW zI (10*a)+9)) b (zW zI (c+1)) else e a
def zt8{R:Type}(a:Int)(b:Int->Option R):Option R:=
 b a
def LU:Nat->Int->Int->Int->Option Int
 |0,_,_,_=>none
 |k+1,v0,v1,v2=>zt7 v0 v1 v2 (fun a0 a1 a2=>LU k a0 a1 a2) (fun a0=>some a0)
def ox(a:Int):Option Int:=
 zt6 a (fun a0 a1 a2=>(LU ag a0 a1 a2).bind fun e=>zt8 e (fun a0=>some a0))
def IL{R:Type}(a b:Int)(c:Bool->Option R):Option R:=
 bif a=1 then(iG b).bind fun r1=>c (decide (0<r1)) else bif a=2 then(iG b).bind fun r2=>c (decide (0<r2)) else c false
def oC(a b:Int):Option Bool:=
 IL a b (fun a0=>some a0)
def LR{R:Type}(a b:Int)(c:ByteArray)(d:Int)(e:Int->Int->Int->Option R):Option R:=
 (oC a b).bind fun r1=>bif !r1 then e 0 0 1 else bif d<0 then e 0 0 1 else bif(c.size:Int)<d then e 0 0 1 else(iG b).bind fun r2=>bif a=2 then(Q2 r2).bind fun r3=>bif zW zI ((c.size:Int)-d)<r3 then e 0 0 2 else bif 0<=zW zI (d+r3) then bif zW zI (d+r3)<=(c.size:Int) then bif 0<=d then bif d<=(((zW zI (d+r3)).toNat:Nat):Int) then bif a=2 then(iG b).bind fun r4=>(Q0 (c.extract d.toNat (zW zI (d+r3)).toNat) r4).bind fun r5=>bif !decide (r5.2.1=0) then e 0 0 3 else(vz r5.1).bind fun r6=>bif !r6.2 then e 0 0 3 else e r6.1 (zW zI (d+r3)) 0 else(vz (c.extract d.toNat (zW zI (d+r3)).toNat)).bind fun r7=>bif !r7.2 then e 0 0 3 else e r7.1 (zW zI (d+r3)) 0 else none else none else none else none else bif zW zI ((c.size:Int)-d)<r2 then e 0 0 2 else bif 0<=zW zI (d+r2) then bif zW zI (d+r2)<=(c.size:Int) then bif 0<=d then bif d<=(((zW zI (d+r2)).toNat:Nat):Int) then bif a=2 then(iG b).bind fun r8=>(Q0 (c.extract d.toNat (zW zI (d+r2)).toNat) r8).bind fun r9=>bif !decide (r9.2.1=0) then e 0 0 3 else(vz r9.1).bind fun ju=>bif !ju.2 then e 0 0 3 else e ju.1 (zW zI (d+r2)) 0 else(vz (c.extract d.toNat (zW zI (d+r2)).toNat)).bind fun jl=>bif !jl.2 then e 0 0 3 else e jl.1 (zW zI (d+r2)) 0 else none else none else none else none
def p7(a b:Int)(c:ByteArray)(d:Int):Option lr:=
 LR a b c d (fun a0 a1 a2=>some (a0,a1,a2))
def LV{R:Type}(a b c:Int)(d:ByteArray->Int->Option R):Option R:=
 (oC a b).bind fun r1=>bif !r1 then d (bs []) 1 else(iG b).bind fun r2=>(CG c r2).bind fun r3=>bif !r3.2 then d (bs []) 5 else bif a=2 then(Q1 r3.1).bind fun r4=>d r4.1 0 else d r3.1 0
def oB(a b c:Int):Option PD:=
 LV a b c (fun a0 a1=>some (a0,a1))
def N1{R:Type}(a:Int)(b:Int->Option R):Option R:=
 bif a=1 then b 1 else bif a=2 then b 2 else bif a=3 then b 3 else bif a=4 then b 7 else bif a=5 then b 15 else bif a=6 then b 15 else b 0
def vu(a:Int):Option Int:=
 N1 a (fun a0=>some a0)
def NR{R:Type}(a:Int)(b:Bool->Option R):Option R:=
 (vu a).bind fun r1=>b (!decide (r1=0))
def xX(a:Int):Option Bool:=
 NR a (fun a0=>some a0)
def zyv{R:Type}(a:Int)(b:Int->Option R):Option R:=
 bif 48<=a then bif a<=57 then b 1 else bif 65<=a then bif a<=90 then b 2 else bif 97<=a then bif a<=122 then b 2 else bif 32<=a then bif a<=126 then b 4 else b 8 else b 8 else bif 32<=a then bif a<=126 then b 4 else b 8 else b 8 else bif 97<=a then bif a<=122 then b 2 else bif 32<=a then bif a<=126 then b 4 else b 8 else b 8 else bif 32<=a then bif a<=126 then b 4 else b 8 else b 8 else bif 65<=a then bif a<=90 then b 2 else bif 97<=a then bif a<=122 then b 2 else bif 32<=a then bif a<=126 then b 4 else b 8 else b 8 else bif 32<=a then bif a<=126 then b 4 else b 8 else b 8 else bif 97<=a then bif a<=122 then b 2 else bif 32<=a then bif a<=126 then b 4 else b 8 else b 8 else bif 32<=a then bif a<=126 then b 4 else b 8 else b 8
def xY(a:Int):Option Int:=
 zyv a (fun a0=>some a0)
def NO{R:Type}(a:Int)(b:ByteArray)(c:ByteArray->Int->Int->Option R):Option R:=
 (vu a).bind fun r1=>c b r1 0
def Jj{R:Type}(a:ByteArray)(b c:Int)(d:Int->Option R)(e:ByteArray->Int->Int->Option R)(f:Option R):Option R:=
 bif c<(a.size:Int) then zd c a.size ((xY (ze a c.toNat)).bind fun r2=>bif aD .and .i64 b r2=0 then d c else e a b (zW zI (c+1))) else f
def zyt{R:Type}(a:Int)(b:Int->Option R):Option R:=
 b a
def zyu{R:Type}(a:Int->Option R):Option R:=
 a (-1:Int)
def z87:Nat->ByteArray->Int->Int->Option (Sum Int Unit)
 |0,_,_,_=>none
 |k+1,v0,v1,v2=>Jj v0 v1 v2 (fun a0=>some (.inl a0)) (fun a0 a1 a2=>z87 k a0 a1 a2) (some (.inr ()))
def Cv(a:Int)(b:ByteArray):Option Int:=
 NO a b (fun a0 a1 a2=>(z87 ag a0 a1 a2).bind fun e=>Sum.elim (fun(we:Int)=>zyt we (fun a0=>some a0)) (fun(we:Unit)=>zyu (fun a0=>some a0)) e)
def NW{R:Type}(a b:Int)(c:Bool->Option R):Option R:=
 (xX a).bind fun r1=>bif r1 then(xX b).bind fun r2=>bif r2 then(vu b).bind fun r3=>(vu a).bind fun r4=>c (decide (aD .andNot .i64 r3 r4=0)) else c false else c false
def Cx(a b:Int):Option Bool:=
 NW a b (fun a0=>some a0)
def zuc{R:Type}(a:Int)(b:Bool->Option R):Option R:=
 bif 0<a then bif a<=255 then b (decide (aD .and .i64 a 32=0)) else b false else b false
def mz(a:Int):Option Bool:=
 zuc a (fun a0=>some a0)
def MP{R:Type}(a:Int)(b:Bool->Option R):Option R:=
 bif a<=255 then(mz a).bind fun r1=>bif r1 then b (!decide (aD .and .i64 a 31=31)) else b false else bif a<=65535 then(mz (Int.fdiv a (2^min ((8:Int)).toNat 64))).bind fun r2=>bif r2 then bif aD .and .i64 (Int.fdiv a (2^min ((8:Int)).toNat 64)) 31=31 then bif 1<=aD .and .i64 a 255 then b (decide (aD .and .i64 a 255<=127)) else b false else b false else b false else b false
def qo(a:Int):Option Bool:=
 MP a (fun a0=>some a0)
def MO{R:Type}(a:ByteArray)(b:Int)(c:Int->Int->Int->Option R):Option R:=
 bif b<0 then c 0 0 1 else bif(a.size:Int)<b then c 0 0 1 else bif b=(a.size:Int) then c 0 0 2 else zd b a.size ((mz (zW zI (ze a b.toNat))).bind fun r1=>bif !r1 then c 0 0 13 else bif !decide (aD .and .i64 (zW zI (ze a b.toNat)) 31=31) then c (zW zI (ze a b.toNat)) (zW zI (b+1)) 0 else bif zW zI (b+1)=(a.size:Int) then c 0 0 2 else zd (zW zI (b+1)) a.size ((qo (aD .or .i64 (zW zI (zW zI (ze a b.toNat)*2^min ((8:Int)).toNat 64)) (zW zI (ze a (zW zI (b+(1:Int))).toNat)))).bind fun r2=>bif !r2 then c 0 0 13 else c (aD .or .i64 (zW zI (zW zI (ze a b.toNat)*2^min ((8:Int)).toNat 64)) (zW zI (ze a (zW zI (b+(1:Int))).toNat))) (zW zI (b+2)) 0))
def qn(a:ByteArray)(b:Int):Option lr:=
 MO a b (fun a0 a1 a2=>some (a0,a1,a2))
def MR{R:Type}(a:ByteArray)(b:ByteArray->aq->Int->x8->Option R):Option R:=
 b a [] 0 []
def MS{R:Type}(a:ByteArray)(b:aq)(c:Int)(d:x8)(e:aq->Int->Int->aq->Option R)(f:ByteArray->aq->Int->x8->Option R)(g:aq->Option R):Option R:=
 bif c<(a.size:Int) then(qn a c).bind fun r1=>bif !decide (r1.2.2=0) then e [] r1.2.2 c b else(Q3 a r1.2.1).bind fun r2=>bif !decide (r2.2.2=0) then e [] r2.2.2 r1.2.1 b else bif zW zI ((a.size:Int)-r2.2.1)<r2.1 then e [] 2 (a.size:Int) b else bif dR (eU (.int .i64)) false d r1.1 then e [] 10 c b else bif dS (eU (.int .i64)) d r1.1 then none else bif 0<=zW zI (r2.2.1+r2.1) then bif zW zI (r2.2.1+r2.1)<=(a.size:Int) then bif 0<=r2.2.1 then bif r2.2.1<=(((zW zI (r2.2.1+r2.1)).toNat:Nat):Int) then bif(List.length b+List.length ([(r1.1,a.extract r2.2.1.toNat (zW zI (r2.2.1+r2.1)).toNat,())]:List cR))*24<=140737488355328 then f a (b++([(r1.1,a.extract r2.2.1.toNat (zW zI (r2.2.1+r2.1)).toNat,())]:List cR)) (zW zI (r2.2.1+r2.1)) (d++ [(r1.1,true)]) else none else none else none else none else none else g b
def zue{R:Type}(a:aq)(b c:Int)(d:aq)(e:aq->Int->Int->Option R):Option R:=
 e a b c
def zuf{R:Type}(a:aq)(b:aq->Int->Int->Option R):Option R:=
 b a 0 0
def BI:Nat->ByteArray->aq->Int->x8->Option (Sum oL aq)
 |0,_,_,_,_=>none
 |k+1,v0,v1,v2,v3=>MS v0 v1 v2 v3 (fun a0 a1 a2 a3=>some (.inl (a0,a1,a2,a3))) (fun a0 a1 a2 a3=>BI k a0 a1 a2 a3) (fun a0=>some (.inr a0))
def qq(a:ByteArray):Option (Sum ii ii):=
 MR a (fun a0 a1 a2 a3=>(BI ag a0 a1 a2 a3).bind fun e=>Sum.elim (fun(we:oL)=>zue we.1 we.2.1 we.2.2.1 we.2.2.2 (fun a0 a1 a2=>some (.inl (a0,a1,a2)))) (fun(we:aq)=>zuf we (fun a0 a1 a2=>some (.inr (a0,a1,a2)))) e)
def Mx{R:Type}(a:aj)(b:Int->Option R):Option R:=
 bif a.1<2 then b 1 else bif 128<a.1 then b 1 else(xX a.2.1).bind fun r1=>bif !r1 then b 6 else bif a.2.2.1<1 then b 3 else bif 3<a.2.2.1 then b 3 else bif a.2.2.2.1<1 then b 5 else bif a.2.2.2.2.1<a.2.2.2.1 then b 5 else bif 999<a.2.2.2.2.1 then b 5 else bif a.2.2.1=1 then bif !decide (a.2.2.2.1=a.2.2.2.2.1) then b 5 else bif !decide (a.2.2.1=1) then(ox a.2.2.1).bind fun r2=>bif r2<a.2.2.2.2.1 then b 5 else bif a.2.2.1=1 then bif a.2.1=6 then b 13 else b 0 else b 0 else bif a.2.2.1=1 then bif a.2.1=6 then b 13 else b 0 else b 0 else bif !decide (a.2.2.1=1) then(ox a.2.2.1).bind fun r3=>bif r3<a.2.2.2.2.1 then b 5 else bif a.2.2.1=1 then bif a.2.1=6 then b 13 else b 0 else b 0 else bif a.2.2.1=1 then bif a.2.1=6 then b 13 else b 0 else b 0
def kl(a:aj):Option Int:=
 Mx a (fun a0=>some a0)
def My{R:Type}(a:aj)(b:ByteArray)(c:Int->Option R):Option R:=
 (kl a).bind fun r1=>bif !decide (r1=0) then c 1 else bif(b.size:Int)<a.2.2.2.1 then c 5 else bif a.2.2.2.2.1<(b.size:Int) then c 5 else(Cv a.2.1 b).bind fun r2=>bif 0<=r2 then c 6 else bif a.2.1=6 then(qq b).bind fun r3=>Sum.elim (fun(zL:ii)=>bif !decide (zL.2.1=0) then c 13 else c 0) (fun(zL:ii)=>bif !decide (zL.2.1=0) then c 13 else c 0) r3 else c 0
def bz(a:aj)(b:ByteArray):Option Int:=
 My a b (fun a0=>some a0)
def MA{R:Type}(a b:Int)(c:Bool->Option R):Option R:=
 bif a=5 then c true else bif a=6 then c (decide (a=b)) else bif b=6 then c (decide (a=b)) else(Cx a b).bind fun r1=>c r1
def sV(a b:Int):Option Bool:=
 MA a b (fun a0=>some a0)
def Mz{R:Type}(a b:aj)(c:Bool->Option R):Option R:=
 (kl a).bind fun r1=>bif r1=0 then(kl b).bind fun r2=>bif r2=0 then bif a.2.2.2.1<=b.2.2.2.1 then bif b.2.2.2.2.1<=a.2.2.2.2.1 then(sV a.2.1 b.2.1).bind fun r3=>c r3 else c false else c false else c false else c false
def km(a b:aj):Option Bool:=
 Mz a b (fun a0=>some a0)
end bn

