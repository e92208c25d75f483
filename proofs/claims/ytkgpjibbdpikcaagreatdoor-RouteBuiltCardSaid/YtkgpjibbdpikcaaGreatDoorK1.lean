/- No condition. -/
import Derived.Test.YtkgpjibbdpikcaaGreatDoorK0
import Derived.Laws.CopyRow
import Derived.OpenShut
import Derived.Deep.Slices
import Derived.Shelf.Strings.Repeat
set_option linter.unusedVariables false
set_option linter.unusedSimpArgs false
set_option maxRecDepth 100000
namespace Go.Ref
open Go
variable {P:Program} {E:Env} {X:ak} {s:State} {a:Act} {o:Oper} {u:Out}
theorem YJ(hE:ah P E)(hr:Rel X s a){ops:List Oper}{T:TypeId}{x:Operand}{lo hi:Option Operand}(ho:o.op= .slice T x lo hi none){C:FuncId->bg Out}(h:act E C ops o s some=some u):ay P X s a o u:=by
 unfold act at h
 simp only[ho] at h
 split at h
 ·rename_i id n ta tb cz
  split at h
  case h_2=>cases h
  rename_i e t hT
  split at h
  case isFalse=>cases h
  rename_i heq
  have:=Ty.aH heq
  subst this
  unfold kV at h
  split at h
  ·cases h
  rename_i u6
  have B6:hi=none:=by
   cases hi with
   |none=>rfl
   |some _=>cases u6
  subst B6
  obtain⟨l,h,h1,hl⟩:=FB h
  cases h
  have hx:=hr.ax x
  rw[cz] at hx
  obtain⟨r0,hβ,cap,hv,gG⟩:=hx
  have hu:=(hE.ty T _ hT).b8
  have Nq:=FG (P:=P) (isS:=true) hr hl (hi:=none) (m:=n) (n:=n) (c:=cap) rfl h1 (Nat.le_refl _) gG X.w
  rw[Option.map_none] at Nq
  refine ay.plain hr (v:= .slice (if cap=l then some ⟨r0,0,none⟩ else(some (⟨r0,0,none⟩:Addr)).map (·.add (l*ta.cells))) (n-l) (cap-l)) ?_ ⟨r0,hβ,?_⟩ (fun _ _ _ e=>by cases e;exact pC hr cz)
  ·simp only[execOp,ho,Sem.run_bind,Instr.sliceAt,run_underlying hu.1,Result.andThen_ok,Instr.slice,hv,Option.map_none,Nq,Sem.run_pure,zl hE hu.2]
  ·show∃nr off,_=Value.slice (some ⟨r0,off,none⟩) (n-l) nr/\_
   by_cases e':cap=l
   ·rw[if_pos e']
    exact⟨_,_,rfl,by omega,h1,.inl ⟨by omega,rfl⟩⟩
   ·rw[if_neg e']
    refine⟨cap-l,l*ta.cells,?_,by omega,h1,.inr rfl⟩
    rw[Option.map_some,zr,Nat.zero_add]
 ·rename_i id n t cz
  have hx:=hr.ax x
  rw[cz] at hx
  obtain⟨r0,hβ,hv⟩:=hx
  unfold jM at h
  split at h
  case h_2=>cases h
  rename_i u' hT qY u6
  have R5:lo=none:=by
   cases lo with
   |none=>rfl
   |some _=>cases qY
  have B6:hi=none:=by
   cases hi with
   |none=>rfl
   |some _=>cases u6
  subst R5 B6
  split at h
  case isFalse=>cases h
  rename_i heq
  have:=Ty.aH heq
  subst this
  split at h
  case h_2=>cases h
  rename_i B hB
  split at h
  case isFalse=>cases h
  rename_i dh
  cases h
  have hb:=ke hB
  obtain⟨r,h1,nw⟩:=hr.boxes id B hb
  rw[hβ] at h1
  cases h1
  obtain⟨bt,bx,bo⟩:=B
  have e:=Ty.aH dh
  simp only at e
  subst e
  obtain⟨cs,T',aF,aJ,how,_⟩:=nw.cells rfl
  have hv:a.eval x= .pointer (some ⟨r0,0,none⟩):=by rw[((zu rfl).1 hv).1];rfl
  obtain⟨e,eB,eR,_⟩:=(hE.ty T _ hT).b8
  have hlen:List.length (bx:List (El t))=n:=aJ.1
  have bA:bd X id r0 ⟨.aP .row t .unit,(bx:List (El t)),[]⟩:=⟨how,cs,T',aF,by have:=aJ.2.1;rw[hlen];simpa using this,aJ.2.2⟩
  have uW:(Ty.cast dh bx:El (.arr n t))=bx:=rfl
  rw[uW]
  refine⟨X,.slice (some ⟨r0,0,none⟩) n n,.inl ?_,Ext.refl X,(hr.iB hb hβ bA).fin ⟨r0,hβ,n,rfl,Nat.le_refl _⟩ (fun bu t' p' hm=> ?_)⟩
  ·simp only[execOp,ho,Sem.run_bind,Instr.sliceAt,run_underlying eB,Result.andThen_ok,Option.map_none,hv,Instr.sureAddr,Sem.run_pure,zl hE eR]
   simp [Instr.sliceBounds]
   intro _
   rw[zr]
  ·have Ca:SV.ptr bu t' p'= .ptr id (.aP (.ey n) t .unit) []:=by simpa using hm
   cases Ca
   exact⟨_,FL hb⟩
 ·exact WL hE hr ho h
theorem T7(hr:Rel X s a){ops:List Oper}{fn:Fn}{fi ca:Array Operand}(ho:o.op= .makeFunc fn fi ca){C:FuncId->bg Out}(h:act E C ops o s some=some u):ay P X s a o u:=by
 unfold act at h
 cases fn with
 |func f=>
  simp only[ho] at h
  split at h
  case h_3=>cases h
  case h_2=>
   rename_i x y nC qS
   have nC:fi= #[]:=by rw[<-Array.toArray_toList (xs:=fi),nC]
   have qS:ca= #[x,y]:=by rw[<-Array.toArray_toList (xs:=ca),qS]
   subst nC qS
   unfold kU at h
   split at h
   case h_2=>cases h
   rename_i t x1 u' y1 cz vA
   cases h
   have hx:=hr.ax x
   have hy:=hr.ax y
   rw[cz] at hx
   rw[vA] at hy
   obtain⟨ad,cs,h1,h2,h3,h4⟩:=hx
   obtain⟨jl,cI,k1,k2,k3,k4⟩:=hy
   refine ay.plain hr (v:= .func (.func f) #[] #[.pointer (some ad),.pointer (some jl)]) ?_ ⟨ad,jl,cs,cI,rfl,⟨h2,h3,h4⟩,k2,k3,k4⟩ (fun _ _ _ e=>by cases e)
   simp [execOp,ho,Instr.makeFunc,h1,k1]
  rename_i x nC qS
  have nC:fi= #[]:=by rw[<-Array.toArray_toList (xs:=fi),nC]
  have qS:ca= #[x]:=by rw[<-Array.toArray_toList (xs:=ca),qS]
  subst nC qS
  unfold gC at h
  split at h
  case h_2=>cases h
  rename_i id u' cz
  split at h
  case isTrue=>cases h
  rename_i hs
  cases h
  have hx:=hr.ax x
  rw[cz] at hx
  obtain⟨r0,hβ,hv⟩:=hx
  have hv:=((wi (by simpa using hs)).1 hv).1
  refine ay.plain hr (v:= .func (.func f) #[] #[.pointer (some ⟨r0,0,none⟩)]) ?_ ⟨r0,hβ,rfl⟩ (fun _ _ _ e=>by cases e;exact pC hr cz)
  have hv:a.eval x= .pointer (some ⟨r0,0,none⟩):=by rw[hv];simp [Ty.off]
  simp [execOp,ho,Instr.makeFunc,hv]
 |_=>simp only[ho] at h;cases h
theorem Pv{t:Ty}{xs:List (El t)}{n l:Nat}{cs:List Value}(h:aN X (.arr n t) xs cs)(hl:l<=n):aN X (.arr l t) (xs.take l:List (El t)) (cs.take (l*t.cells)):=by
 obtain⟨h1,h2,h3⟩:=h
 have hm:=Nat.mul_le_mul_right t.cells hl
 refine⟨by rw[List.length_take];omega,by rw[List.length_take];omega,fun j y hj=> ?_⟩
 have hj:(xs.take l)[j]? =some y:=hj
 rw[List.getElem?_take] at hj
 split at hj
 case isFalse=>cases hj
 rename_i nD
 have hk:(j+1)*t.cells<=l*t.cells:=Nat.mul_le_mul_right _ nD
 rw[Nat.add_mul,Nat.one_mul] at hk
 have e:((cs.take (l*t.cells)).drop (j*t.cells)).take t.cells=(cs.drop (j*t.cells)).take t.cells:=by
  rw[List.drop_take,List.take_take,Nat.min_eq_left (by omega)]
 rw[e]
 exact h3 j y hj
theorem Pu{t:Ty}{xs:List (El t)}{n l:Nat}{cs:List Value}(h:aN X (.arr n t) xs cs)(hl:l<=n):aN X (.arr (n-l) t) (xs.drop l:List (El t)) (cs.drop (l*t.cells)):=by
 obtain⟨h1,h2,h3⟩:=h
 refine⟨by rw[List.length_drop];omega,by rw[List.length_drop,Nat.sub_mul];omega,fun j y hj=> ?_⟩
 have hj:(xs.drop l)[j]? =some y:=hj
 rw[List.getElem?_drop] at hj
 rw[List.drop_drop,<-Nat.add_mul]
 exact h3 (l+j) y hj
theorem PL{α:Type}(xs ys:List α)(lo:Nat)(h:lo+ys.length<=xs.length):(bJ xs ys lo).length=xs.length:=by
 unfold bJ;simp;omega
theorem OB(hE:ah P E)(hr:Rel X s a){d x:Operand}{T e:TypeId}{t:Ty}{ts:Array TypeId}(ho:o.op= .call ⟨.builtin .copy,#[d,x],ts⟩)(jT:ts[0]? =some T)(hT:E.ty T=some (.sl e t)){id n lo:Nat}{ta tb:Ty}{p:List Nat}
 (cz:s.ax d= .ptr id (.aP (.ey n) ta tb) p) (iy:∀r,iA (.aP (.ey n) ta tb) p r (a.eval d)->∃cap off,a.eval d= .slice (some ⟨r,off,none⟩) (n-lo) cap/\lo<=n/\((n=lo/\off=0)\/off=lo*ta.cells))
 (h:dH t s id n lo ta tb (s.ax x) e some=some u):ay P X s a o u:=by
 have hx:=hr.ax d
 rw[cz] at hx
 obtain⟨r0,hβ,hv⟩:=hx
 unfold dH at h
 split at h
 case isFalse=>cases h
 rename_i heq
 have:=Ty.aH heq
 subst this
 obtain⟨ys,h,lB⟩:=zi h
 split at h
 case h_2=>cases h
 rename_i B hB
 split at h
 case isFalse=>cases h
 rename_i dh
 obtain⟨hb,r,h1,how,cs,T',aF,dq,cT⟩:=rL hr hB dh
 rw[hβ] at h1
 cases h1
 generalize(Ty.cast dh B.x:List (El ta))=xs at*
 cases hn:Nat.beq n (List.length xs)<;>rw[hn] at h
 ·cases h
 cases qY:Nat.ble lo n<;>rw[qY] at h
 ·cases h
 cases h
 have hn:=Nat.eq_of_beq_eq_true hn
 have qY:=Nat.le_of_ble_eq_true qY
 obtain⟨cap,off,hd,_,vk⟩:=iy r0 hv
 obtain⟨cx,gY,ev⟩:=lB X _ _ (hr.ax x)
 have Dz:=gY
 obtain⟨A,c,nA,_⟩:=Dz
 have ev:a.eval x= .slice A ys.length c:=by rw[ev,nA];rfl
 rw[nA] at gY
 obtain⟨_,hc,cy,ry,ny,sy⟩:=FC (X:=X) gY
 have hu:=(hE.ty T _ hT).b8
 have hm:(ys.take (n-lo)).length=min ys.length (n-lo):=by rw[List.length_take,Nat.min_comm]
 generalize rZ:min ys.length (n-lo)=m at hm
 have NB:m<=ys.length:=by omega
 have hmn:m<=n-lo:=by omega
 have RM:ys.take (n-lo)=ys.take m:=by
  rw[<-rZ]
  rcases Nat.le_total ys.length (n-lo) with g|g
  ·rw[Nat.min_eq_left g,List.take_of_length_le g,List.take_of_length_le (Nat.le_refl _)]
  ·rw[Nat.min_eq_right g]
 have rz:=Pv ry NB
 have Cx:(cy.take (m*ta.cells)).length=m*ta.cells:=rz.2.1
 have di:aN X (.arr xs.length ta) xs cs.toList:=⟨rfl,by simpa using dq,cT⟩
 have eN:(Builtin.firstCells ta.cells m (a.eval x)).run P X.w= .ok (cy.take (m*ta.cells)).toArray X.w:=by
  rw[ev]
  cases A with
  |none=>
   have:=ny rfl
   subst this
   have:m=0:=by simpa using NB
   subst this
   simp [Builtin.firstCells]
  |some ad=>
   have:=run_loadCells_list (P:=P) X.w ad (cy.take (m*ta.cells)) (fun j v hj=>by
    rw[List.getElem?_take] at hj
    split at hj
    ·exact(sy ad rfl j v hj).2.1
    ·cases hj)
   rw[Cx] at this
   simpa [Builtin.firstCells] using this
 have b6:off+0+(cy.take (m*ta.cells)).length<=cs.size:=by
  rw[Cx,dq,<-hn]
  rcases vk with⟨g1,g2⟩|g
  ·have:m=0:=by omega
   subst this
   omega
  ·rw[g,Nat.add_zero,<-Nat.add_mul]
   exact Nat.mul_le_mul_right _ (by omega)
 let new:=(cs.toList.take off++cy.take (m*ta.cells)++cs.toList.drop (off+(cy.take (m*ta.cells)).length)).toArray
 have bL:=run_storeCells_at P r0 off T' (cy.take (m*ta.cells)) 0 cs X.w aF b6 rz.one
 simp only[Nat.add_zero] at bL b6
 have aQ:(execOp a.eval o).run P X.w= .ok (.value (.int .i64 m)) (X.row r0 new).w:=by
  have Cb:Nat.min ys.length (n-lo)=m:=rZ
  simp only[execOp,ho,resolve,invoke,builtin,Sem.run_bind,Sem.run_pure,Result.andThen_ok,List.map_toArray,List.map_cons,List.map_nil,Builtin.copy_,jT,hd]
  have e1:(Builtin.lenOf (a.eval x)).run P X.w= .ok ys.length X.w:=by rw[ev];simp [Builtin.lenOf]
  simp [run_underlying hu.1,e1,Cb,eN,bL,goInt,zl hE hu.2]
  show _=X.w.setRow r0 new
  congr 1
  simp [new]
 have iq:new.toList=cs.toList.take off++cy.take (m*ta.cells)++cs.toList.drop (off+(cy.take (m*ta.cells)).length):=rfl
 have aJ:aN X (.arr xs.length ta) (bJ xs (ys.take m) lo:List (El ta)) new.toList:=by
  rw[iq,Cx]
  by_cases m0:m=0
  ·subst m0
   have e1:bJ xs (ys.take 0) lo=xs:=by unfold bJ;simp
   rw[e1]
   simpa using di
  ·have g:off=lo*ta.cells:=by rcases vk with⟨g1,_⟩|g<;>omega
   have h1:=Pv di (show lo<=xs.length by omega)
   have h3:=Pu di (show lo+m<=xs.length by omega)
   have:=si h1 (si rz h3)
   rw[show lo+(m+(xs.length-(lo+m)))=xs.length by omega] at this
   unfold bJ
   rw[show(ys.take m).length=m by rw[List.length_take];omega,g,<-Nat.add_mul,List.append_assoc]
   exact this
 have bF:new.size=cs.size:=by
  have h1:new.toList.length=xs.length*ta.cells:=aJ.2.1
  rw[dq,<-h1];simp
 have bA:bd (X.row r0 new) id r0 ⟨.aP .row ta tb,(bJ xs (ys.take (n-lo)) lo:List (El ta)),[]⟩:=by
  rw[RM]
  refine⟨how,new,T',setRow_heap X.w r0 cs new T' (0,0) aF,?_,fun j z hj=> ?_⟩
  ·rw[bF,dq]
   show _=List.length (bJ xs (ys.take m) lo)*_
   rw[PL _ _ _ (by rw[List.length_take];omega)]
  ·exact aN.aj (fun _ _=>mh (cs:=new) how) (aJ.2.2 j z hj)
 refine⟨X.row r0 new,.int .i64 m,.inl aQ,zX how,?_⟩
 rw[hm]
 exact(hr.row hb hβ how bA).fin zk (fun id t p hm=>by simp [i64] at hm)
theorem WA{X:ak}(l:List UInt8):aN X (.arr l.length (.int .u8)) (l.map fun c=>(c.toNat:Int):List Int) (l.map fun c=>Value.int .u8 c.toNat):=by
 refine⟨by show(l.map _).length=_;simp,by simp [Ty.cells],fun j y hj=> ?_⟩
 have hj:(l.map fun c=>(c.toNat:Int))[j]? =some y:=hj
 rw[List.getElem?_map] at hj
 obtain⟨c,hc,rfl⟩:=Option.map_eq_some_iff.1 hj
 have:((l.map fun c=>Value.int .u8 c.toNat).drop (j*(Ty.int IntKind.u8).cells)).take (Ty.int IntKind.u8).cells=[Value.int .u8 c.toNat]:=by
  rw[show(Ty.int IntKind.u8).cells=1 from rfl,Nat.mul_one]
  apply List.ext_getElem?
  intro i
  rw[List.getElem?_take]
  cases i with
  |zero=>simp [hc]
  |succ i=>simp
 rw[this]
 rfl
theorem UN(hE:ah P E)(hr:Rel X s a){d x:Operand}{T e:TypeId}{t:Ty}{ts:Array TypeId}(ho:o.op= .call ⟨.builtin .copy,#[d,x],ts⟩)(jT:ts[0]? =some T)(hT:E.ty T=some (.sl e t)){id n:Nat}{ta tb:Ty}
 (cz:s.ax d= .ptr id (.aP (.ey n) ta tb) []) {y:ByteArray} {w:List (List Nat)} (vA:s.ax x= .af .str y w) (h:eL t s id n ta tb y some=some u):ay P X s a o u:=by
 have hx:=hr.ax d
 rw[cz] at hx
 obtain⟨r0,hβ,cap,hd,gG⟩:=hx
 unfold eL at h
 split at h
 case isFalse=>cases h
 rename_i BZ
 have:=Ty.aH BZ
 subst this
 split at h
 case isFalse=>cases h
 rename_i heq
 have:=Ty.aH heq
 subst this
 split at h
 case h_2=>cases h
 rename_i B hB
 split at h
 case isFalse=>cases h
 rename_i dh
 obtain⟨hb,r,h1,how,cs,T',aF,dq,cT⟩:=rL hr hB dh
 rw[hβ] at h1
 cases h1
 generalize(Ty.cast dh B.x:List Int)=xs at*
 cases hn:Nat.beq n (List.length xs)<;>rw[hn] at h
 ·cases h
 cases h
 have hn:=Nat.eq_of_beq_eq_true hn
 have hy:=hr.ax x
 rw[vA] at hy
 obtain⟨cy,ry,ev,_⟩:=hy
 have ev:a.eval x= .string y:=by rw[ev,zz ry]
 have hu:=(hE.ty T _ hT).b8
 have lW:(Ty.int IntKind.u8).cells=1:=rfl
 rw[lW,Nat.mul_one] at dq
 let l:=y.data.toList.take n
 have wZ:l.length=min n y.size:=by simp [l]
 have wU:List.take n (ju y)=l.map fun c=>(c.toNat:Int):=by simp [ju,l]
 have eN:(Builtin.firstCells 1 (Nat.min y.size n) (.string y)).run P X.w= .ok (l.map fun c=>Value.int .u8 c.toNat).toArray X.w:=by
  have e1:((y.extract 0 (Nat.min y.size n)).data.map fun b=>Value.int .u8 b.toNat)=(l.map fun c=>Value.int .u8 c.toNat).toArray:=by
   apply Array.ext'
   have e0:(y.extract 0 (Nat.min y.size n)).data.toList=l:=by
    rw[ByteArray.data_extract,Array.toList_extract,List.extract_eq_take_drop]
    show List.take (Nat.min y.size n-0) (y.data.toList.drop 0)=y.data.toList.take n
    rw[Nat.sub_zero,List.drop_zero]
    show List.take (min y.data.toList.length n) y.data.toList=y.data.toList.take n
    rw[Nat.min_comm,<-List.take_eq_take_min]
   rw[Array.toList_map,e0]
  simp only[Builtin.firstCells,Sem.run_pure,e1]
 have b6:0+(l.map fun c=>Value.int .u8 c.toNat).length<=cs.size:=by
  rw[List.length_map,dq,<-hn,wZ];omega
 let new:=((l.map fun c=>Value.int .u8 c.toNat)++cs.toList.drop l.length).toArray
 have rz:=WA (X:=X) l
 have bL:=run_storeCells_at P r0 0 T' (l.map fun c=>Value.int .u8 c.toNat) 0 cs X.w aF (by simpa using b6) rz.one
 have aQ:(execOp a.eval o).run P X.w= .ok (.value (.int .i64 (l.length:Nat))) (X.row r0 new).w:=by
  have e1:(Builtin.lenOf (a.eval x)).run P X.w= .ok y.size X.w:=by rw[ev];simp [Builtin.lenOf]
  have e2:Nat.min y.size n=l.length:=by rw[wZ];exact Nat.min_comm _ _
  have e3:=eN
  rw[e2] at e3
  simp only[execOp,ho,resolve,invoke,builtin,Sem.run_bind,Sem.run_pure,Result.andThen_ok,List.map_toArray,List.map_cons,List.map_nil,Builtin.copy_,jT,hd]
  rw[ev] at e1⊢
  simp [run_underlying hu.1,e1,e2,e3,bL,goInt,zl hE hu.2,lW]
  rfl
 have di:aN X (.arr xs.length (.int .u8)) xs cs.toList:=⟨rfl,by simpa [lW] using dq,cT⟩
 have aJ:aN X (.arr xs.length (.int .u8)) (bJ xs (l.map fun c=>(c.toNat:Int)) 0:List Int) new.toList:=by
  have hle:l.length<=xs.length:=by rw[wZ];omega
  have h3:=Pu di hle
  have:=si rz h3
  rw[show l.length+(xs.length-l.length)=xs.length by omega] at this
  unfold bJ
  simp only[List.take_zero,List.nil_append,Nat.zero_add,List.length_map]
  rw[lW,Nat.mul_one] at this
  exact this
 have bF:new.size=cs.size:=by
  have h1:new.toList.length=xs.length*1:=aJ.2.1
  rw[dq];simpa using h1
 have bA:bd (X.row r0 new) id r0 ⟨.aP .row (.int .u8) tb,(bJ xs (List.take n (ju y)) 0:List Int),[]⟩:=by
  rw[wU]
  refine⟨how,new,T',setRow_heap X.w r0 cs new T' (0,0) aF,?_,fun j z hj=> ?_⟩
  ·rw[bF,dq]
   show _=List.length (bJ xs (l.map fun c=>(c.toNat:Int)) 0)*_
   rw[PL _ _ _ (by rw[List.length_map,wZ];omega)]
   simp [lW]
  ·exact aN.aj (fun _ _=>mh (cs:=new) how) (aJ.2.2 j z hj)
 refine⟨X.row r0 new,.int .i64 (l.length:Nat),.inl aQ,zX how,?_⟩
 have ve:(List.take n (ju y)).length=l.length:=by rw[wU,List.length_map]
 rw[ve]
 exact(hr.row hb hβ how bA).fin zk (fun id t p hm=>by simp [i64] at hm)
theorem WK(hE:ah P E)(hr:Rel X s a){ops:List Oper}{cH:Array Operand}{ts:Array TypeId}(ho:o.op= .call ⟨.builtin .copy,cH,ts⟩){C:FuncId->bg Out}(h:act E C ops o s some=some u):ay P X s a o u:=by
 unfold act at h
 simp only[ho] at h
 split at h
 case h_2=>cases h
 rename_i d x T r lA qP
 have has:cH= #[d,x]:=by rw[<-Array.toArray_toList (xs:=cH),lA]
 have jT:ts[0]? =some T:=by rw[<-Array.getElem?_toList,qP];rfl
 subst has
 unfold copyV at h
 split at h
 ·rename_i e t id n ta tb hT cz
  split at h
  ·rename_i y w vA
   exact UN hE hr ho jT hT cz vA h
  ·exact OB hE hr ho jT hT cz (fun r hv=>by
    obtain⟨cap,h1,h2⟩:=hv
    exact⟨cap,0,h1,Nat.zero_le _,.inr (by simp)⟩) h
 ·rename_i e t id n ta tb l hT cz
  exact OB hE hr ho jT hT cz (fun r hv=>by
   obtain⟨cap,off,h1,h2,h3,h4⟩:=hv
   exact⟨cap,off,h1,h3,h4⟩) h
 ·cases h
end Go.Ref

namespace Go.Ref
open Go
variable {P:Program} {E:Env} {X:ak} {s:State} {a:Act} {o:Oper} {u:Out}
structure fp(X:ak)(l:List SV)(b:Option aX)(args:Array Value):Prop where
 size:args.size=l.length
 rep:∀(i:Nat) sv v,l[i]? =some sv->args[i]? =some v->ar X (.c i 0) sv v
 ptr:∀id t p,SV.ptr id t p∈l->id=0/\b.isSome=true
 box:∀B,b=some B->∃r,X.β 0=some r/\bd X 0 r B
 rows:b=none->∀g pl n,X.ow g≠ .row pl n
def n8(X Y:ak)(b:Option aX)(r:List SV)(b':Option aX)(v:Value):Prop:=
 ∃r0,bQ {Y with β:=fun _=>some r0} .r r v/\
  (∀B',b'=some B'->bd Y 0 r0 B'/\(b.isSome=true->X.β 0=some r0))/\
  ((b'=none\/b.isSome=true)->∀id t p,SV.ptr id t p∉r)
def j5(P:Program)(f:FuncId):Prop:=∃fn c,P.funcs[f]? =some fn/\(fn.name== "runtime.NumGoroutine")=false/\fn.body=some c
def bX(P:Program)(C:ae)(f:FuncId):Prop:=
 ∀(l:List SV) (b:Option aX) (r:List SV) (b':Option aX),C (List SV×Option aX) f l b (fun r b=>some (r,b))=some (r,b')->j5 P f/\
  ∀(X:ak) (args:Array Value),fp X l b args->Calls P f args X.w fun e w'=>match e with
   | .returned v=>∃Y,Y.w=w'/\Ext X Y/\n8 X Y b r b' v
   |_=>False
def eC(k:Option Nat):Ow->Bool
 | .box id=>decide (k=some id)
 | .row (.b id _) _=>decide (k=some id)
 |_=>false
def dJ(k:Option Nat):Ow->Ow
 | .all=> .all
 | .ro n=> .ro n
 | .box id=>if k=some id then .box 0 else .ro 0
 | .row (.b id p) n=>if k=some id then .row (.b 0 p) n else .ro n
 | .row _ n=> .ro n
def ej(k:Option Nat)(d:Nat):Ow->Ow
 | .all=> .all
 | .ro n=> .ro n
 | .box 0=>match k with
   |some id=> .box id
   |none=> .ro 0
 | .box _=> .ro 0
 | .row (.r j p) n=> .row (.c d j p) n
 | .row (.b 0 p) n=>match k with
   |some id=> .row (.b id p) n
   |none=> .ro n
 | .row _ n=> .ro n
theorem O6{k:Option Nat}{w:Ow}{i:Nat}:(dJ k w).used i↔w.used i:=by
 cases w with
 |all=>rfl
 |ro n=>rfl
 |box id=>simp only[dJ];split<;>simp [Ow.used]
 |row pl n=>
  cases pl with
  |b id p=>simp only[dJ];split<;>simp [Ow.used]
  |_=>rfl
theorem U0{k:Option Nat}{d:Nat}{w:Ow}{i:Nat}(h:w.used i):(ej k d w).used i:=by
 cases w with
 |all=>exact h
 |ro n=>exact h
 |box id=>exact h.elim
 |row pl n=>
  cases pl with
  |b id p=>
   cases id with
   |zero=>simp only[ej];split<;>exact h
   |succ id=>exact h
  |c i j p=>exact h
  |r j p=>exact h
theorem OH{k:Option Nat}{w:Ow}(h:eC k w=false):(dJ k w).still:=by
 cases w with
 |all=>trivial
 |ro n=>trivial
 |box id=>simp only[eC,decide_eq_false_iff_not] at h;simp only[dJ];rw[if_neg h];trivial
 |row pl n=>
  cases pl with
  |b id p=>simp only[eC,decide_eq_false_iff_not] at h;simp only[dJ];rw[if_neg h];trivial
  |_=>trivial
def ak.bO(X:ak)(k:Option Nat):ak:=⟨X.w,fun g=>dJ k (X.ow g),match k with
 |some id=>fun _=>X.β id
 |none=>X.β⟩
theorem l8{k:Option Nat}{ad:Addr}{v:Value}:(X.bO k).au ad v↔X.au ad v:=by
 simp only[ak.au,ak.bO,O6]
def ak.back(X Y:ak)(k k':Option Nat)(d:Nat)(β:Nat->Option Nat):ak:=
 ⟨Y.w,fun g=>if g<X.w.heap.size/\eC k (X.ow g)=false then X.ow g else ej k' d (Y.ow g),β⟩
section
variable {k k':Option Nat} {d:Nat} {β:Nat->Option Nat} {Y:ak}
theorem ss(h:Ext (X.bO k) Y){g:Nat}(hg:g<X.w.heap.size)(hm:eC k (X.ow g)=false):(X.back Y k k' d β).ow g=X.ow g/\(X.back Y k k' d β).w.heap[g]? =X.w.heap[g]? /\(Y.ow g).still/\Y.ow g=dJ k (X.ow g):=by
 obtain⟨h1,h2⟩:=h.still g hg (OH hm)
 refine⟨by simp only[ak.back];rw[if_pos ⟨hg,hm⟩],h2,?_,h1⟩
 rw[h1];exact OH hm
theorem FF(h:Ext (X.bO k) Y){g:Nat}(hs:¬(Y.ow g).still):(X.back Y k k' d β).ow g=ej k' d (Y.ow g):=by
 simp only[ak.back]
 rw[if_neg]
 rintro⟨hg,hm⟩
 exact hs (ss (k':=k') (d:=d) (β:=β) h hg hm).2.2.1
theorem lP(h:Ext (X.bO k) Y){ad:Addr}{v:Value}(hs:Y.au ad v):(X.back Y k k' d β).au ad v:=by
 refine⟨hs.1,hs.2.1,?_⟩
 simp only[ak.back]
 split
 ·rename_i hc
  have:=(ss (k':=k') (d:=d) (β:=β) h hc.1 hc.2).2.2.2
  have hu:=hs.2.2
  rw[this,O6] at hu
  exact hu
 ·exact U0 hs.2.2
theorem Hv(h:Ext (X.bO k) Y)(hβ:β 0=X.β 0):Ext X (X.back Y k k' d β) where
 au:=fun ad v hs=>lP h (h.au ad v (l8.2 hs))
 size:=h.size
 os:=h.os
 tape:=h.tape
 output:=h.output
 β0:=hβ
 still:=fun g hg bL=>by
  have hm:eC k (X.ow g)=false:=by cases hx:X.ow g<;>rw[hx] at bL<;>first|rfl|exact bL.elim
  obtain⟨h1,h2,_⟩:=ss (k':=k') (d:=d) (β:=β) h hg hm
  exact⟨h1,h2⟩
theorem aV.back(h:Ext (X.bO k) Y){pl:Place}(eF:∀n,eC k (.row pl n)=false){e:TypeId}{m n:Nat}{v:Value}(ho:aV X pl e m n v):aV (X.back Y k k' d β) pl e m n v:=by
 rcases ho with ho|⟨g,cap,cur,h1,h2,h3,h4,h5,h6⟩
 ·exact .inl ho
 ·obtain⟨k1,k2,_⟩:=ss (k':=k') (d:=d) (β:=β) h (sA h2) (by rw[h6];exact eF _)
  exact .inr ⟨g,cap,cur,h1,k2.trans h2,h3,h4,h5,k1.trans h6⟩
theorem aU.back(h:Ext (X.bO k) Y){pl:List Nat->Place}(eF:∀p n,eC k (.row (pl p) n)=false){t:Ty}{x:El t}{cs:List Value}{own:List (List Nat)}(ho:aU X pl t x cs own):aU (X.back Y k k' d β) pl t x cs own:=fun p hp=>by
 obtain⟨e,t',xs,v,g0,g1,g2,g3⟩:=ho p hp
 exact⟨e,t',xs,v,g0,g1,g2,g3.back h (eF p)⟩
theorem aU.out(h:Ext (X.bO k) Y){pl eD:List Nat->Place}(eF:∀p n,ej k' d (.row (pl p) n)= .row (eD p) n){t:Ty}{x:El t}{cs:List Value}{own:List (List Nat)}(ho:aU Y pl t x cs own):aU (X.back Y k k' d β) eD t x cs own:=fun p hp=>by
 obtain⟨e,t',xs,v,g0,g1,g2,g3⟩:=ho p hp
 refine⟨e,t',xs,v,g0,g1,g2,?_⟩
 rcases g3 with ho|⟨g,cap,cur,h1,h2,h3,h4,h5,h6⟩
 ·exact .inl ho
 ·refine .inr ⟨g,cap,cur,h1,h2,h3,h4,h5,?_⟩
  rw[FF h (by rw[h6];exact fun e=>e),h6,eF]
theorem ar.back(h:Ext (X.bO k) Y){i j:Nat}{sv:SV}{v:Value}(hβ:∀id t p,sv= .ptr id t p->β id=X.β id)(hr:ar X (.c i j) sv v):ar (X.back Y k k' d β) (.c i j) sv v:=by
 cases sv with
 |undef=>trivial
 |skip=>exact hr
 |bK=>exact hr
 |dL=>exact hr
 |over=>exact hr
 |af t x own=>
  obtain⟨cs,h1,h2,h3⟩:=hr
  exact⟨cs,h1.aj (fun _ _ hs=>lP h (h.au _ _ (l8.2 hs))),h2,h3.back h (fun _ _=>rfl)⟩
 |ptr id t p=>
  obtain⟨r,h1,h2⟩:=hr
  exact⟨r,(hβ id t p rfl).trans h1,h2⟩
 |view t x=>
  obtain⟨ad,cs,h1,h2,h3,h4⟩:=hr
  exact⟨ad,cs,h1,h2,h3.aj (fun _ _ hs=>lP h (h.au _ _ (l8.2 hs))),fun i u hi=>lP h (h.au _ _ (l8.2 (h4 i u hi)))⟩
 |cap f t x u y=>exact l9 (fun _ _ hs=>lP h (h.au _ _ (l8.2 hs))) hr
theorem bd.back(h:Ext (X.bO k) Y){id r:Nat}{B:aX}(hk:k≠some id)(hb:bd X id r B):bd (X.back Y k k' d β) id r B:=by
 obtain⟨h3,h1⟩:=hb
 have hm:eC k (X.ow r)=false:=by rw[h3];simp [eC,hk]
 obtain⟨k1,k2,_⟩:=ss (k':=k') (d:=d) (β:=β) h h1.lt hm
 exact⟨k1.trans h3,h1.move (fun _ _ hs=>lP h (h.au _ _ (l8.2 hs))) k2 (fun cs h4=>h4.back h (fun _ _=>by simp [eC,hk])) fun _ g o ho hw=>by
  obtain⟨e1,e2,_⟩:=ss (k':=k') (d:=d) (β:=β) h (sA ho) (by rw[hw];simp [eC,hk])
  exact⟨e2.trans ho,e1.trans hw⟩⟩
theorem bd.out(h:Ext (X.bO k) Y){id r:Nat}{B:aX}(hk:k'=some id)(hb:bd Y 0 r B):bd (X.back Y k k' d β) id r B:=by
 obtain⟨h3,h1⟩:=hb
 refine⟨?_,h1.move (fun _ _ hs=>lP h hs) rfl (fun cs h4=>h4.out h (fun p n=>by simp [ej,hk])) fun _ g o ho hw=>⟨ho,by rw[FF h (by rw[hw];exact fun hh=>hh),hw];simp [ej,hk]⟩⟩
 rw[FF h (by rw[h3];exact fun e=>e),h3]
 simp [ej,hk]
theorem ar.out(h:Ext (X.bO k) Y){r0 id j:Nat}{sv:SV}{v:Value}(hβ:∀bu t p,sv= .ptr bu t p->β id=some r0)(hr:ar {Y with β:=fun _=>some r0} (.r j) sv v):ar (X.back Y k k' d β) (.c d j) (sv.dM id) v:=by
 cases sv with
 |undef=>trivial
 |skip=>exact hr
 |bK=>exact hr
 |dL=>exact hr
 |over=>exact hr
 |af t x own=>
  obtain⟨cs,h1,h2,h3⟩:=hr
  have h3:aU Y (.r j) t x cs own:=h3
  exact⟨cs,aN.aj (fun ad v (hs:({Y with β:=fun _=>some r0}:ak).au ad v)=>lP (Y:=Y) h hs) h1,h2,h3.out h (fun _ _=>rfl)⟩
 |ptr bu t p=>
  obtain⟨r,h1,h2⟩:=hr
  have h1:some r0=some r:=h1
  cases h1
  exact⟨r0,hβ bu t p rfl,h2⟩
 |view t x=>
  obtain⟨ad,cs,h1,h2,h3,h4⟩:=hr
  exact⟨ad,cs,h1,h2,aN.aj (fun ad v (hs:({Y with β:=fun _=>some r0}:ak).au ad v)=>lP (Y:=Y) h hs) h3,fun i u hi=>lP h (show Y.au _ _ from h4 i u hi)⟩
 |cap f t x u y=>exact l9 (X:={Y with β:=fun _=>some r0}) (fun ad v (hs:({Y with β:=fun _=>some r0}:ak).au ad v)=>lP (Y:=Y) h hs) hr
theorem Rel.back(h:Ext (X.bO k) Y)(hr:Rel X s a)(hβ:∀(id:Nat) B,s.bs[id]? =some (some B)->β id=X.β id)(hk:∀(id:Nat) B,s.bs[id]? =some (some B)->k≠some id):Rel (X.back Y k k' d β) s a where
 size:=hr.size
 dP:=hr.dP
 bh:=fun i l v hl hv=>(hr.bh i l v hl hv).fk fun j sv u hm fc=>fc.back h (fun id t p e=>by
  obtain⟨B,hB⟩:=hr.live i l id t p hl (e▸List.mem_of_getElem? hm)
  exact hβ id B hB)
 boxes:=fun id B hB=>by
  obtain⟨r,h1,h2⟩:=hr.boxes id B hB
  exact⟨r,(hβ id B hB).trans h1,h2.back h (hk id B hB)⟩
 live:=hr.live
 defers:=hr.defers
theorem Rel.nq(h:Ext (X.bO k) Y)(hr:Rel X s a){id r:Nat}{B B':aX}(hb:s.bs[id]? =some (some B))(hk:k=some id)(u7:k'=some id)(hβ:X.β id=some r)(hB:bd Y 0 r B'):Rel (X.back Y k k' d X.β) (s.aC (some (id,B'))) a where
 size:=hr.size
 dP:=by simpa [State.aC] using hr.dP
 bh:=fun i l v hl hv=>(hr.bh i l v hl hv).fk fun j sv u hm fc=>fc.back h (fun _ _ _ _=>rfl)
 boxes:=fun bu B2 b9=>by
  have aK:id<s.bs.length:=(List.getElem?_eq_some_iff.1 hb).1
  simp only[State.aC,List.getElem?_set] at b9
  by_cases e:id=bu
  ·subst e
   rw[if_pos rfl,if_pos aK] at b9
   cases b9;exact⟨r,hβ,hB.out h u7⟩
  ·rw[if_neg e] at b9
   obtain⟨r',h1,h2⟩:=hr.boxes bu B2 b9
   exact⟨r',h1,h2.back h (by rw[hk];intro e2;cases e2;exact e rfl)⟩
 live:=fun i l bu t p hi hm=>by
  have aK:id<s.bs.length:=(List.getElem?_eq_some_iff.1 hb).1
  obtain⟨B2,b9⟩:=hr.live i l bu t p hi hm
  simp only[State.aC,List.getElem?_set]
  by_cases e:id=bu
  ·subst e;exact⟨B',by rw[if_pos rfl,if_pos aK]⟩
  ·rw[if_neg e];exact⟨B2,b9⟩
 defers:=hr.defers
end
theorem ar.bO{k:Option Nat}{pl eD:List Nat->Place}{t:Ty}{x:El t}{w:List (List Nat)}{v:Value}(hr:ar X pl (.af t x w) v):ar (X.bO k) eD (.af t x []) v:=by
 obtain⟨cs,h1,h2,_⟩:=hr
 exact⟨cs,h1.aj (fun _ _=>l8.2),h2,zw⟩
theorem bd.bO{id r:Nat}{B:aX}(hb:bd X id r B):bd (X.bO (some id)) 0 r B:=by
 obtain⟨h3,h1⟩:=hb
 refine⟨by simp [ak.bO,h3,dJ],h1.move (fun _ _=>l8.2) rfl (fun cs h4 p hp=> ?_) fun _ g o ho hw=>⟨ho,by simp [ak.bO,hw,dJ]⟩⟩
 obtain⟨e,t',xs,v,g0,g1,g2,g3⟩:=h4 p hp
 refine⟨e,t',xs,v,g0,g1,g2,?_⟩
 rcases g3 with ho|⟨g,cap,cur,k1,k2,k3,k4,k5,k6⟩
 ·exact .inl ho
 ·exact .inr ⟨g,cap,cur,k1,k2,k3,k4,k5,by simp [ak.bO,k6,dJ]⟩
theorem Ps(hr:Rel X s a):∀(vs:List (SV×Value)) (l:List SV) (b:Option (Nat×aX)),(∀x∈vs,∃q,ar X q x.1 x.2)->hH s (vs.map (·.1))=some (l,b)->l.length=vs.length/\
 (∀id B,b=some (id,B)->s.bs[id]? =some (some B))/\
 (∀id t p,SV.ptr id t p∈l->id=0/\b.isSome=true)/\
 ∀k,(∀id B,b=some (id,B)->k=some id)->∀(i:Nat) sv x,l[i]? =some sv->vs[i]? =some x->∀q,ar (X.bO k) q sv x.2:=by
 intro vs
 induction vs with
 |nil=>
  intro l b _ h
  simp only[List.map_nil,hH,Option.some.injEq,Prod.mk.injEq] at h
  obtain⟨rfl,rfl⟩:=h
  refine⟨rfl,(fun id B e=>by cases e),(fun id t p hm=>by cases hm),fun k _ i sv x hl=>by simp at hl⟩
 |cons x r ih=>
  intro l b gK h
  simp only[List.map_cons,hH] at h
  split at h
  ·cases h
  rename_i l1 b1 h1
  obtain⟨i1,i2,i3,i4⟩:=ih l1 b1 (fun y hy=>gK y (List.mem_cons_of_mem _ hy)) h1
  obtain⟨q0,hx⟩:=gK x List.mem_cons_self
  have fin:∀(sv:SV),l=sv::l1->(∀id B,b1=some (id,B)->b=b1)->(∀id B,b=some (id,B)->s.bs[id]? =some (some B))->(∀id t p,sv= .ptr id t p->id=0/\b.isSome=true)->
   (∀k,(∀id B,b=some (id,B)->k=some id)->∀q,ar (X.bO k) q sv x.2)->l.length=(x::r).length/\
   (∀id B,b=some (id,B)->s.bs[id]? =some (some B))/\
   (∀id t p,SV.ptr id t p∈l->id=0/\b.isSome=true)/\
   ∀k,(∀id B,b=some (id,B)->k=some id)->∀(i:Nat) sv y,l[i]? =some sv->(x::r)[i]? =some y->∀q,ar (X.bO k) q sv y.2:=by
   intro sv hl hb bA bV aJ
   subst hl
   refine⟨by simp [i1],bA,fun id t p hm=> ?_,fun k hk i TE y hl hv=> ?_⟩
   ·rcases List.mem_cons.1 hm with e|hm
    ·exact bV id t p e.symm
    ·obtain⟨j1,j2⟩:=i3 id t p hm
     cases lV:b1 with
     |none=>rw[lV] at j2;cases j2
     |some bb=>rw[hb bb.1 bb.2 lV];exact⟨j1,j2⟩
   ·cases i with
    |zero=>
     simp only[List.getElem?_cons_zero,Option.some.injEq] at hl hv
     subst hl hv
     exact aJ k hk
    |succ i=>
     simp only[List.getElem?_cons_succ] at hl hv
     exact i4 k (fun id B e=>hk id B (by rw[hb id B e];exact e)) i TE y hl hv
  obtain⟨x1,x2⟩:=x
  simp only at h hx fin
  split at h
  ·cases h
   exact fin _ rfl (fun _ _ _=>rfl) i2 (fun _ _ _ e=>by cases e) (fun k _ q=>hx.bO)
  ·cases h
   exact fin _ rfl (fun _ _ _=>rfl) i2 (fun _ _ _ e=>by cases e) (fun k _ q=>hx)
  ·cases h
   refine fin _ rfl (fun _ _ _=>rfl) i2 (fun _ _ _ e=>by cases e) (fun k _ q=> ?_)
   obtain⟨ad,cs,g1,g2,g3,g4⟩:=hx
   exact⟨ad,cs,g1,g2,g3.aj (fun _ _=>l8.2),fun i w hi=>l8.2 (g4 i w hi)⟩
  ·rename_i id t
   split at h
   case h_2=>cases h
   rename_i B hB
   split at h
   case isFalse=>cases h
   cases h
   obtain⟨rr,g1,g2⟩:=hx
   refine fin _ rfl (fun _ _ e=>by cases e) (fun id B e=>by cases e;exact ke hB) (fun _ _ _ e=>by cases e;exact⟨rfl,rfl⟩) (fun k hk q=> ?_)
   have:=hk id B rfl
   subst this
   exact⟨rr,g1,g2⟩
  ·cases h
def fN(P:Program)(X:ak)(s:State)(a:Act)(o:Oper)(u:Out):Prop:=
 ∀(next:Act->World->Prop) (Q:Exit->Act->World->Prop),(∀Y v,Ext X Y->Rel Y (s.apply o.dst u) (a.put o.dst v)->next (a.put o.dst v) Y.w)->o.wp P a X.w next Q
theorem ay.does(h:ay P X s a o u):fN P X s a o u:=fun next Q hn=>by
 obtain⟨Y,v,h1,h2,h3⟩:=h
 unfold Oper.wp
 rcases h1 with h1|⟨h1,rfl⟩
 ·rw[h1,Oper.upon_value];exact hn Y v h2 h3
 ·rw[h1,Oper.upon_skip];exact hn Y _ h2 h3
theorem WT{f:FuncId}(h:j5 P f){cH:Array Operand}{ts:Array TypeId}(ho:o.op= .call ⟨.value (.func f),cH,ts⟩)(w:World):(execOp a.eval o).run P w= .ok (.enter f (cH.map a.eval)) w:=by
 obtain⟨fn,c,h1,h2,h3⟩:=h
 simp [execOp,ho,resolve,Deferred.ofValue,Act.eval,invoke,callFunc,h1,h3]
 simpa using h2
theorem OO{l:List SV}{id:Nat}(h:∀id t p,SV.ptr id t p∉l):l.map (SV.dM id)=l:=by
 induction l with
 |nil=>rfl
 |cons v r ih=>
  rw[List.map_cons,ih (fun id t p hm=>h id t p (List.mem_cons_of_mem _ hm))]
  congr 1
  cases v<;>first|rfl|skip
  exact absurd (List.mem_cons_self) (h _ _ _)
theorem HG{k k':Option Nat}{d:Nat}{β:Nat->Option Nat}{Y:ak}(h:Ext (X.bO k) Y){r0 id:Nat}{r:List SV}{v:Value}(hβ:∀bu t p,SV.ptr bu t p∈r->β id=some r0)(hr:bQ {Y with β:=fun _=>some r0} .r r v):bQ (X.back Y k k' d β) (.c d) (r.map (SV.dM id)) v:=by
 match r,hr with
 | [sv],hr=>exact ar.out h (fun bu t p e=>hβ bu t p (by simp [e])) hr
 | [],⟨vs,h1,h2,h3⟩=>exact⟨vs,h1,h2,fun j s u hs=>by simp at hs⟩
 |x::y::r,⟨vs,h1,h2,h3⟩=>
  refine⟨vs,h1,by simpa using h2,fun j sv u hs hu=> ?_⟩
  have hs:((x::y::r).map (SV.dM id))[j]? =some sv:=hs
  rw[List.getElem?_map] at hs
  obtain⟨s0,dz,rfl⟩:=Option.map_eq_some_iff.1 hs
  exact ar.out h (fun bu t p e=>hβ bu t p (e▸List.mem_of_getElem? dz)) (h3 j s0 u dz hu)
theorem UZ:∀g pl n,(X.bO none).ow g≠ .row pl n:=fun g pl n=>by
 show dJ none (X.ow g)≠_
 cases X.ow g with
 |row q m=>cases q<;>simp [dJ]
 |_=>simp [dJ]
theorem FJ(hr:Rel X s a){C:ae}(hC:C.Nat){f:FuncId}(hf:bX P C f){vs:List (SV×Value)}(q9:∀x∈vs,∃q,ar X q x.1 x.2)(cJ:j5 P f->(execOp a.eval o).run P X.w= .ok (.enter f (vs.map (·.2)).toArray) X.w)(h:cX (C Out) s o.dst f (vs.map (·.1)) some=some u):fN P X s a o u:=by
 have aQ:=cJ
 clear cJ
 unfold cX at h
 have enter:∀(l:List SV) (b:Option (Nat×aX)) (k:Option Nat),hH s (vs.map (·.1))=some (l,b)->(∀id B,b=some (id,B)->k=some id)->(b=none->k=none)->fp (X.bO k) l (b.map (·.2)) (vs.map (·.2)).toArray:=by
  intro l b k bB hk va
  obtain⟨i1,i2,i3,i4⟩:=Ps hr vs l b q9 bB
  refine⟨by simpa using i1.symm,fun i sv v hl hv=> ?_,fun id t p hm=> ?_,fun B hB=> ?_,fun hb=> ?_⟩
  ·rw[List.getElem?_toArray,List.getElem?_map] at hv
   obtain⟨x,hx,rfl⟩:=Option.map_eq_some_iff.1 hv
   exact i4 k hk i sv x hl hx _
  ·obtain⟨j1,j2⟩:=i3 id t p hm
   exact⟨j1,by simpa using j2⟩
  ·obtain⟨bb,Np,rfl⟩:=Option.map_eq_some_iff.1 hB
   obtain⟨id,B⟩:=bb
   obtain⟨r,h1,h2⟩:=hr.boxes id B (i2 id B Np)
   have:=hk id B Np
   subst this
   exact⟨r,h1,h2.bO⟩
  ·have hb:b=none:=by cases b<;>simp at hb⊢
   rw[va hb]
   exact UZ
 split at h
 ·rename_i l bB
  obtain⟨⟨r,b'⟩,kY,h⟩:=zs (hC Out _ f l none _ (fun r b=>some (r,b)) (fun z=>match z.2 with
   |none=>some {v:=z.1}
   |some B=>match o.dst with
    |some d=>match s.bs[d+1]? with
     |some none=>some {v:=z.1.map (SV.dM (d+1)),bx:=some (d+1,B)}
     |_=>none
    |none=>none) (fun r b=>rfl)) h
  obtain⟨cJ,ln⟩:=hf l none r b' kY
  have dR:=enter l none none bB (fun id B e=>by cases e) (fun _=>rfl)
  intro next Q hn
  unfold Oper.wp
  rw[aQ cJ,Oper.upon_enter]
  refine(ln (X.bO none) _ dR).mono fun e w' he=> ?_
  cases e with
  |returned v=>
   obtain⟨Y,rfl,aT,r0,aJ,bA,lq⟩:=he
   simp only at h
   cases b' with
   |none=>
    cases h
    have hp:=lq (.inl rfl)
    have bp:=Hv (k':=none) (d:=o.dst.getD 0) (β:=X.β) aT rfl
    refine hn (X.back Y none none (o.dst.getD 0) X.β) v bp ?_
    refine(Rel.back (k':=none) aT hr (fun _ _ _=>rfl) (fun _ _ _=>by simp)).fin ?_ (fun id t p hm=>absurd hm (hp id t p))
    have:=HG (k':=none) (d:=o.dst.getD 0) (β:=X.β) (id:=0) aT (fun bu t p hm=>absurd hm (hp bu t p)) aJ
    rw[OO hp] at this
    exact this
   |some B=>
    simp only at h
    split at h
    case h_2=>cases h
    rename_i d hd
    split at h
    case h_2=>cases h
    rename_i fa
    cases h
    have aK:d+1<s.bs.length:=(List.getElem?_eq_some_iff.1 fa).1
    obtain⟨hB,_⟩:=bA B rfl
    let β:Nat->Option Nat:=fun id=>if id=d+1 then some r0 else X.β id
    have hβd:β (d+1)=some r0:=by simp [β]
    have bp:=Hv (k':=some (d+1)) (d:=d) (β:=β) aT (by simp [β])
    refine hn (X.back Y none (some (d+1)) d β) v bp ?_
    have aY:=(Rel.back (k':=some (d+1)) (d:=d) (β:=β) aT hr (fun id B2 b9=>by
     show(if _ then _ else _)=_
     rw[if_neg (fun e=>by rw[e,fa] at b9;cases b9)]) (fun _ _ _=>by simp)).dB aK fa hβd (hB.out aT rfl)
    rw[hd]
    refine aY.put (fun d' e=> ?_) (fun id t p hm=> ?_)
    ·cases e
     exact HG aT (fun _ _ _ _=>hβd) aJ
    ·obtain⟨s0,_,Nu⟩:=List.mem_map.1 hm
     have:id=d+1:=by
      cases s0<;>simp [SV.dM] at Nu
      exact Nu.1.symm
     subst this
     exact⟨B,by simp [State.close,State.aC,List.getElem?_set,aK]⟩
  |panicked c=>exact he.elim
  |outgrown=>exact he.elim
 ·rename_i l id B bB
  obtain⟨⟨r,b'⟩,kY,h⟩:=zs (hC Out _ f l (some B) _ (fun r b=>some (r,b)) (fun z=>match z.2 with
   |some B'=>if B'.t.bE B.t=true then some {v:=z.1,bx:=some (id,B')} else none
   |none=>none) (fun r b=>rfl)) h
  obtain⟨cJ,ln⟩:=hf l (some B) r b' kY
  have dR:=enter l (some (id,B)) (some id) bB (fun id B e=>by cases e;rfl) (fun e=>by cases e)
  obtain⟨_,i2,_,_⟩:=Ps hr vs l _ q9 bB
  have hb:=i2 id B rfl
  intro next Q hn
  unfold Oper.wp
  rw[aQ cJ,Oper.upon_enter]
  refine(ln (X.bO (some id)) _ dR).mono fun e w' he=> ?_
  cases e with
  |returned v=>
   obtain⟨Y,rfl,aT,r0,aJ,bA,lq⟩:=he
   simp only at h
   cases b' with
   |none=>cases h
   |some B'=>
    simp only at h
    split at h
    case isFalse=>cases h
    cases h
    have hp:=lq (.inr rfl)
    obtain⟨hB,hβ⟩:=bA B' rfl
    have hβ:=hβ rfl
    have bp:=Hv (k':=some id) (d:=o.dst.getD 0) (β:=X.β) aT rfl
    refine hn (X.back Y (some id) (some id) (o.dst.getD 0) X.β) v bp ?_
    refine(Rel.nq (k:=some id) (k':=some id) aT hr hb rfl rfl hβ hB).fin ?_ (fun id t p hm=>absurd hm (hp id t p))
    have:=HG (k':=some id) (d:=o.dst.getD 0) (β:=X.β) (id:=0) aT (fun bu t p hm=>absurd hm (hp bu t p)) aJ
    rw[OO hp] at this
    exact this
  |panicked c=>exact he.elim
  |outgrown=>exact he.elim
 ·cases h
theorem FE(hr:Rel X s a)(cH:Array Operand):∀x∈cH.toList.map (fun x=>(s.ax x,a.eval x)),∃q,ar X q x.1 x.2:=fun x hx=>by
 obtain⟨y,_,rfl⟩:=List.mem_map.1 hx
 exact⟨_,hr.ax y⟩
theorem Pk{X:ak}{pl:List Nat->Place}{sv:SV}{v:Value}(h:ar X pl sv v):ar X pl sv.shut v:=by
 cases sv with
 |af t x own=>
  obtain⟨cs,h1,h2,_⟩:=h
  exact⟨cs,h1,h2,zw⟩
 |_=>exact h
theorem Xf{X:ak}{pl:Nat->List Nat->Place}{l:List SV}{v:Value}(h:bQ X pl l v):bQ X pl (l.map SV.shut) v:=by
 match l,h with
 | [sv],h=>exact Pk (sv:=sv) h
 | [],h=>exact h
 |x::y::r,⟨vs,g1,g2,g3⟩=>
  refine⟨vs,g1,by simpa using g2,fun j sv u fZ hu=> ?_⟩
  have fZ:((x::y::r).map SV.shut)[j]? =some sv:=fZ
  rw[List.getElem?_map] at fZ
  obtain⟨s0,dz,rfl⟩:=Option.map_eq_some_iff.1 fZ
  exact Pk (g3 j s0 u dz hu)
theorem Xe{l:List SV}{j:Nat}{t:Ty}{p:List Nat}(h:SV.ptr j t p∈l.map SV.shut):SV.ptr j t p∈l:=by
 obtain⟨s0,dz,he⟩:=List.mem_map.1 h
 cases s0<;>first|(cases he;done)|(rw[<-he];exact dz)|skip
theorem Rel.bn(hr:Rel X s a){d:Nat}{l:List SV}:Rel X {s with sl:=s.sl.set d l} a->Rel X {s with sl:=s.sl.set d (l.map SV.shut)} a:=fun h=>{
 size:=by simpa using hr.size
 dP:=by simpa using hr.dP
 bh:=fun i l' v hl hv=>by
  replace hl:(s.sl.set d (l.map SV.shut))[i]? =some l':=hl
  rw[List.getElem?_set] at hl
  split at hl
  ·rename_i nB
   split at hl
   ·cases hl
    rename_i aK
    exact Xf (h.bh i l v (by show(s.sl.set d l)[i]? =_;rw[List.getElem?_set,if_pos nB,if_pos aK]) hv)
   ·cases hl
  ·rename_i nB
   exact h.bh i l' v (by show(s.sl.set d l)[i]? =_;rw[List.getElem?_set,if_neg nB];exact hl) hv
 boxes:=h.boxes
 live:=fun i l' id t p hl hm=>by
  replace hl:(s.sl.set d (l.map SV.shut))[i]? =some l':=hl
  rw[List.getElem?_set] at hl
  split at hl
  ·rename_i nB
   split at hl
   ·cases hl
    rename_i aK
    exact h.live i l id t p (by show(s.sl.set d l)[i]? =_;rw[List.getElem?_set,if_pos nB,if_pos aK]) (Xe hm)
   ·cases hl
  ·rename_i nB
   exact h.live i l' id t p (by show(s.sl.set d l)[i]? =_;rw[List.getElem?_set,if_neg nB];exact hl) hm
 defers:=h.defers}
theorem fN.shut(h:fN P X s a o u):fN P X s a o u.shut:=fun next Q hn=>h next Q fun Y v aT aY=>hn Y v aT (by
 unfold State.apply at aY⊢
 show Rel Y (((s.close u.cl).aC u.bx).aG o.dst (u.v.map SV.shut)) _
 generalize(s.close u.cl).aC u.bx=s1 at*
 cases hd:o.dst with
 |none=>rw[hd] at aY;exact aY
 |some d=>
  rw[hd] at aY
  have e:=Rel.bn (X:=Y) (s:={s1 with sl:=s1.sl.set d u.v}) (a:=a.put (some d) v) (d:=d) (l:=u.v) aY (by
   show Rel Y {s1 with sl:=(s1.sl.set d u.v).set d u.v} _
   rw[List.set_set];exact aY)
  show Rel Y {s1 with sl:=s1.sl.set d (u.v.map SV.shut)} _
  have e2:Rel Y {s1 with sl:=(s1.sl.set d u.v).set d (u.v.map SV.shut)} (a.put (some d) v):=e
  rw[List.set_set] at e2
  exact e2)
theorem WI(hr:Rel X s a){C:ae}(hC:C.Nat){f:FuncId}(hf:bX P C f){ops:List Oper}{cH:Array Operand}{ts:Array TypeId}(ho:o.op= .call ⟨.value (.func f),cH,ts⟩)(h:act E (C Out) ops o s some=some u):fN P X s a o u:=by
 unfold act at h
 simp only[ho] at h
 obtain⟨u0,h0,h1⟩:=zs (xq hC (F:=fun u=>some (bif cP E o.dst then u.shut else u)) (G:=some) (K:=fun u=>some (bif cP E o.dst then u.shut else u)) (fun _=>rfl)) h
 have hd:fN P X s a o u0:=by
  refine FJ hr hC hf (FE hr cH) (fun cJ=> ?_) (by rw[List.map_map];exact h0)
  rw[WT cJ ho]
  congr 2
  apply Array.toList_inj.1
  simp [Function.comp_def]
 cases hs:cP E o.dst with
 |false=>rw[hs] at h1;cases h1;exact hd
 |true=>rw[hs] at h1;cases h1;exact hd.shut
theorem DT{f:FuncId}(h:j5 P f){x:Operand}{v:Value}{cH:Array Operand}{ts:Array TypeId}(ho:o.op= .call ⟨.value x,cH,ts⟩)(hx:a.eval x= .func (.func f) #[] #[v])(w:World):(execOp a.eval o).run P w= .ok (.enter f (cH.map a.eval++ #[v])) w:=by
 obtain⟨fn,c,h1,h2,h3⟩:=h
 simp [execOp,ho,resolve,Deferred.ofValue,hx,invoke,callFunc,h1,h3]
 simpa using h2
theorem YC{f:FuncId}(h:j5 P f){x:Operand}{v v2:Value}{cH:Array Operand}{ts:Array TypeId}(ho:o.op= .call ⟨.value x,cH,ts⟩)(hx:a.eval x= .func (.func f) #[] #[v,v2])(w:World):(execOp a.eval o).run P w= .ok (.enter f (cH.map a.eval++ #[v,v2])) w:=by
 obtain⟨fn,c,h1,h2,h3⟩:=h
 simp [execOp,ho,resolve,Deferred.ofValue,hx,invoke,callFunc,h1,h3]
 simpa using h2
theorem UK(hr:Rel X s a){C:ae}(hC:C.Nat)(hf:∀f,bX P C f){ops:List Oper}{y:Nat}{cH:Array Operand}{ts:Array TypeId}(ho:o.op= .call ⟨.value (.tmp y),cH,ts⟩)(h:act E (C Out) ops o s some=some u):fN P X s a o u:=by
 unfold act at h
 simp only[ho] at h
 split at h
 case h_3=>cases h
 case h_2=>
  rename_i f t x1 u' y1 cz
  have hx:=hr.ax (.tmp y)
  rw[cz] at hx
  obtain⟨ad,jl,cs,cI,hv,⟨g2,g3,g4⟩,k2,k3,k4⟩:=hx
  refine FJ hr hC (hf f) (vs:=cH.toList.map (fun x=>(s.ax x,a.eval x))++ [(.view t x1,.pointer (some ad)),(.view u' y1,.pointer (some jl))]) (fun x hx=> ?_) (fun cJ=> ?_) (by rw[List.map_append,List.map_map];exact h)
  ·rcases List.mem_append.1 hx with hx|hx
   ·exact FE hr cH x hx
   ·rcases List.mem_cons.1 hx with rfl|hx
    ·exact⟨.r 0,ad,cs,rfl,g2,g3,g4⟩
    ·rw[List.mem_singleton.1 hx]
     exact⟨.r 0,jl,cI,rfl,k2,k3,k4⟩
  ·rw[YC cJ ho hv]
   congr 2
   apply Array.toList_inj.1
   simp [Function.comp_def]
 rename_i id f t b cz
 have hx:=hr.ax (.tmp y)
 rw[cz] at hx
 obtain⟨r0,hβ,hv⟩:=hx
 have hv:a.eval (.tmp y)= .func (.func f) #[] #[.pointer (some ⟨r0,0,none⟩)]:=hv
 split at h
 case isTrue=>cases h
 rename_i hs
 refine FJ hr hC (hf f) (vs:=cH.toList.map (fun x=>(s.ax x,a.eval x))++ [(.ptr id t [],.pointer (some ⟨r0,0,none⟩))]) (fun x hx=> ?_) (fun cJ=> ?_) (by rw[List.map_append,List.map_map];exact h)
 ·rcases List.mem_append.1 hx with hx|hx
  ·exact FE hr cH x hx
  ·rw[List.mem_singleton.1 hx]
   exact⟨.r 0,r0,hβ,(wi (by simpa using hs)).2 ⟨by simp [Ty.off],by simp [Ty.cS]⟩⟩
 ·rw[DT cJ ho hv]
  congr 2
  apply Array.toList_inj.1
  simp [Function.comp_def]
end Go.Ref

namespace Go.Ref
open Go
variable {P:Program} {E:Env} {X:ak} {s:State} {a:Act} {o:Oper} {u:Out}
theorem Yt(hE:ah P E)(hr:Rel X s a){C:ae}(hC:C.Nat)(hf:∀f,bX P C f){ops:List Oper}(h:act E (C Out) ops o s some=some u):fN P X s a o u:=by
 cases ho:o.op with
 |move x=>exact(WN hr ho h).does
 |assign x=>exact(Us hr ho h).does
 |pick c x y=>exact(WQ hr ho h).does
 |binOp op T x y T'=>exact(YH hE hr ho h).does
 |unOp op T x=>exact(DV hr ho h).does
 |convert S T x=>exact(WJ hE hr ho h).does
 |load T x=>exact(WM hE hr ho h).does
 |store T x y=>exact(UR hE hr ho h).does
 |nilCheck x=>exact(T8 hr ho h).does
 |fieldAddr T x j=>exact(T4 hE hr ho h).does
 |indexAddr T x i=>exact(T5 hE hr ho h).does
 |index T x i=>exact(UP hE hr ho h).does
 |field T x j=>exact(UO hE hr ho h).does
 |slice T x lo hi mx=>
  cases mx with
  |none=>exact(YJ hE hr ho h).does
  |some m=>unfold act at h;simp only[ho] at h;cases h
 |alloc T=>exact(UI hE hr ho h).does
 |box T x=>exact(YI hE hr ho h).does
 |build T parts=>exact(UJ hE hr ho h).does
 |buildSlice T n parts=>exact(T3 hE hr ho h).does
 |extract x j=>exact(Ue hr ho h).does
 |makeMap T r=>exact(Uh hE hr ho h).does
 |lookup T x i ok=>exact(Ut hE hr ho h).does
 |mapUpdate T m k x=>exact(Ob hE hr (.inl ho) h).does
 |insert T m k x=>exact(Ob hE hr (.inr ho) h).does
 |range T x=>exact(UQ hE hr ho h).does
 |next x str=>exact(WO hr ho h).does
 |makeSlice T l c=>exact(T6 hE hr ho h).does
 |makeFunc fn fi ca=>exact(T7 hr ho h).does
 |call c=>
  obtain⟨callee,args,ts⟩:=c
  cases callee with
  |value x=>
   cases x with
   |func f=>exact WI hr hC (hf f) ho h
   |tmp y=>exact UK hr hC hf ho h
   |_=>unfold act at h;simp only[ho] at h;cases h
  |builtin b=>
   cases b with
   |len=>exact(YK (x:= .const Go.undef) (T:=0) hE hr ho h).does
   |append=>exact(Ur hE hr ho h).does
   |copy=>exact(WK hE hr ho h).does
   |max=>exact(O1 (g:=true) hr ho h).does
   |min=>exact(O1 (g:=false) hr ho h).does
   |_=>unfold act at h;simp only[ho] at h;cases h
  |_=>unfold act at h;simp only[ho] at h;cases h
 |_=>unfold act at h;simp only[ho] at h;cases h
theorem Rel.know(hr:Rel X s a){d:Nat}{p:Bool}{o:List (List Nat)}(h:s.slot d=[.af .bool p o]):Rel X (s.aG (some d) (bl p)) a/\a.tmps[d]? =some (.bool p):=by
 have hd:d<s.sl.length:=by
  rcases Nat.lt_or_ge d s.sl.length with h1|h1
  ·exact h1
  ·simp [State.slot,List.getElem?_eq_none h1] at h
 have kZ:d<a.tmps.size:=by rw[<-hr.size];exact hd
 have hv:a.tmps[d]? =some (a.tmps.getD d Go.undef):=by simp [Array.getElem?_eq_getElem kZ]
 have hs:=hr.slot d
 rw[h] at hs
 have hb:=z21 (X:=X) hs
 rw[hb] at hv
 refine⟨?_,hv⟩
 have Cj:a.put (some d) (.bool p)=a:=by
  cases a with
  |mk tmps defers=>
   simp only[Act.put,Act.mk.injEq,and_true]
   apply Array.ext_getElem?
   intro i
   rw[Array.getElem?_setIfInBounds]
   split
   ·rename_i e
    subst e
    first
     |exact hv.symm
     |(rw[if_pos kZ];exact hv.symm)
   ·rfl
 have:=hr.put (d:=some d) (l:=bl p) (v:= .bool p) (fun _ _=>zp) (fun id t q hm=>by simp [bl] at hm)
 rw[Cj] at this
 exact this
theorem LU(hE:ah P E)(hr:Rel X s a){C:ae}(hC:C.Nat)(hf:∀f,bX P C f){ops:Array Oper}{i:Nat}(hi:ops[i]? =some o){s':State}(h:step E (C State) ops.toList o s some=some s'){Q:Exit->Act->World->Prop}{K:Act->World->Prop}
 (hK:∀Y a',Ext X Y->Rel Y s' a'->K a' Y.w):wpOp P ops Q i K a X.w:=by
 unfold wpOp
 simp only[hi]
 have lY:∀{s1:State},Rel X s1 a->(act E (C State) ops.toList o s1 fun u=>some (s1.apply o.dst u))=some s'->o.wp P a X.w K Q:=by
  intro s1 dQ h1
  obtain⟨u,hu,h2⟩:=zs (n0 hC (F:=fun u=>some (s1.apply o.dst u)) (G:=some) (K:=fun u=>some (s1.apply o.dst u)) (fun _=>rfl)) h1
  cases h2
  exact Yt hE dQ hC hf hu K Q (fun Y v aT aY=>hK Y _ aT aY)
 have eP:∀{s1:State},Rel X s1 a->some (s1.aG o.dst [.skip])=some s'->K (a.put o.dst Go.undef) X.w:=by
  intro s1 dQ h1
  cases h1
  exact hK X _ (Ext.refl X) (dQ.skip o.dst)
 unfold step at h
 simp only at h
 split at h
 ·rename_i hg
  have hw:Region.wanted o (yielded ops a.tmps)=true:=by simp [Region.wanted,hg]
  rw[if_pos hw]
  exact .inl (lY hr h)
 ·rename_i g want hg
  split at h
  ·cases h
  rename_i d hd
  have Nt:(ops[g]?).bind (·.dst)=some d:=by simpa [wv] using hd
  split at h
  ·rename_i p hs
   obtain⟨dQ,hv⟩:=hr.know hs
   have hy:yielded ops a.tmps g=some p:=by simp [yielded,Nt,hv]
   have hw:Region.wanted o (yielded ops a.tmps)=(p==want):=by simp [Region.wanted,hg,hy]
   cases p<;>cases want<;>simp only[cond_true,cond_false] at h<;>rw[hw]
   ·exact .inl (lY dQ h)
   ·exact eP dQ h
   ·exact eP dQ h
   ·exact .inl (lY dQ h)
  ·rename_i hs
   have eQ:=hr.slot d
   rw[hs] at eQ
   have iy:a.tmps.getD d Go.undef=Go.undef:=eQ
   have hy:yielded ops a.tmps g=none:=by
    simp only[yielded,Nt,Option.bind_some]
    cases ht:a.tmps[d]? with
    |none=>rfl
    |some v=>
     have:v=Go.undef:=by
      rw[<-iy]
      simp [Array.getD_eq_getD_getElem?,ht]
     subst this
     rfl
   have hw:Region.wanted o (yielded ops a.tmps)=false:=by simp [Region.wanted,hg,hy]
   rw[hw]
   exact eP hr h
  ·cases h
theorem PO(hE:ah P E){C:ae}(hC:C.Nat)(hf:∀f,bX P C f){ops:Array Oper}{s':State}{Q:Exit->Act->World->Prop}:∀(l:List Nat) (X:ak) (s:State) (a:Act),Rel X s a->(∀i∈l,i<ops.size)->
 steps E (C State) ops.toList (l.map fun i=>ops.getD i default) s some=some s'->(∀Y a',Ext X Y->Rel Y s' a'->Q .normal a' Y.w)->wpOps P ops Q l a X.w
 | [],X,s,a,hr,_,h,hQ=>by
   cases h
   exact hQ X a (Ext.refl X) hr
 |i::r,X,s,a,hr,hl,h,hQ=>by
  simp only[List.map_cons,steps] at h
  obtain⟨s1,h1,h2⟩:=zs (HH hC (F:=fun s=>steps E (C State) ops.toList (r.map fun i=>ops.getD i default) s some) (G:=some) (K:=fun s=>steps E (C State) ops.toList (r.map fun i=>ops.getD i default) s some) (fun _=>rfl)) h
  have hi:ops[i]? =some (ops.getD i default):=by
   have:=hl i (by simp)
   simp [this]
  rw[wpOps_cons]
  refine LU hE hr hC hf hi h1 fun Y a' aT aY=> ?_
  exact PO hE hC hf r Y s1 a' aY (fun j hj=>hl j (List.mem_cons_of_mem _ hj)) h2 fun Z a2 bp cg=>hQ Z a2 (aT.trans bp) cg
end Go.Ref

namespace Go.Ref
open Go
variable {P:Program} {E:Env} {X:ak} {s:State} {a:Act} {o:Oper} {u:Out}
theorem HA(i j:Nat):(bit i).testBit j=decide (i=j):=by
 simp [bit,Nat.shiftLeft_eq,Nat.testBit_two_pow]
theorem nW:∀(l:List Nat) (j:Nat),(eh l).testBit j=decide (j∈l)
 | [],j=>by simp [eh]
 |i::r,j=>by
  rw[eh,Nat.testBit_or,HA,nW r j]
  by_cases h:i=j
  ·subst h;simp
  ·have h':¬j=i:=fun e=>h e.symm
   simp [h,h']
theorem xu{a b:Nat}(h:Nat.beq (a&&&b) 0=true)(j:Nat):a.testBit j=true->b.testBit j=false:=by
 intro ha
 have h0:=Nat.eq_of_beq_eq_true h
 have:=congrArg (fun n=>Nat.testBit n j) h0
 simp only[Nat.testBit_and,Nat.zero_testBit,ha,Bool.true_and] at this
 exact this
theorem FD:∀(l:List Edge) (j:Nat),(zn l).testBit j=true->∃e∈l,Region.binds .any e=true/\e.on=j
 | [],j,h=>by simp [zn] at h
 |e::r,j,h=>by
  simp only[zn] at h
  cases hb:Region.binds .any e with
  |false=>
   rw[hb] at h
   obtain⟨e',h1,h2⟩:=FD r j h
   exact⟨e',List.mem_cons_of_mem _ h1,h2⟩
  |true=>
   rw[hb] at h
   simp only[cond_true,Nat.testBit_or,HA,Bool.or_eq_true,decide_eq_true_eq] at h
   rcases h with h|h
   ·exact⟨e,by simp,hb,h⟩
   ·obtain⟨e',h1,h2⟩:=FD r j h
    exact⟨e',List.mem_cons_of_mem _ h1,h2⟩
theorem OT:∀(l:List Edge) (e:Edge),e∈l->Region.binds .any e=true->(zn l).testBit e.on=true
 |e'::r,e,h,hb=>by
  simp only[zn]
  rcases List.mem_cons.1 h with rfl|h
  ·rw[hb];simp [Nat.testBit_or,HA]
  ·have:=OT r e h hb
   cases Region.binds .any e'<;>simp [Nat.testBit_or,this]
theorem Wt{m i j:Nat}(h:Nat.ble (m+1) (bit i)=true)(hj:m.testBit j=true):j<i:=by
 have h1:m<2^i:=by
  have:=Nat.le_of_ble_eq_true h
  simp only[bit,Nat.shiftLeft_eq,Nat.one_mul] at this
  omega
 rcases Nat.lt_or_ge j i with h2|h2
 ·exact h2
 ·have h3:m<2^j:=Nat.lt_of_lt_of_le h1 (Nat.pow_le_pow_right (by omega) h2)
  rw[Nat.testBit_lt_two_pow h3] at hj
  cases hj
def cK(E:Env)(C:ae)(ops:List Oper)(o:Oper)(s:State):Option Out:=
 match o.guard with
 |none=>act E (C Out) ops o s some
 |some (g,want)=>match wv ops g with
  |none=>none
  |some d=>match s.slot d with
   | [.af .bool p []]=>if p=want then act E (C Out) ops o s some else some {v:=[.skip]}
   | [.skip]=>some {v:=[.skip]}
   |_=>none
theorem su{d:Nat}{l:List SV}(h:s.slot d=l):s.aG (some d) l=s:=by
 cases s with
 |mk sl bs=>
  simp only[State.aG,State.mk.injEq,and_true]
  simp only[State.slot] at h
  apply List.ext_getElem?
  intro i
  rw[List.getElem?_set]
  split
  ·rename_i e
   subst e
   split
   ·rename_i aK
    rw[List.getD_eq_getElem?_getD,List.getElem?_eq_getElem aK] at h
    rw[List.getElem?_eq_getElem aK]
    simpa using h.symm
   ·rename_i aK
    rw[List.getElem?_eq_none (by omega)]
  ·rfl
theorem Xj{C:ae}(hC:C.Nat){R:Type}{ops:List Oper}{i:Nat}{tr:List cr}{K:State->List cr->Option R}{z:R}(h:fK E (C R) ops o i s tr K=some z):
 ∃u,cK E C ops o s=some u/\fits (zn o.after.toList) (zj ops o i s u) tr=true/\K (s.apply o.dst u) (zj ops o i s u::tr)=some z:=by
 have lY:(act E (C R) ops o s fun u=>bif fits (zn o.after.toList) (zj ops o i s u) tr then K (s.apply o.dst u) (zj ops o i s u::tr) else none)=some z->
  ∃u,act E (C Out) ops o s some=some u/\fits (zn o.after.toList) (zj ops o i s u) tr=true/\K (s.apply o.dst u) (zj ops o i s u::tr)=some z:=by
  intro h
  obtain⟨u,h1,h2⟩:=zs (n0 hC (F:=fun u=>bif fits (zn o.after.toList) (zj ops o i s u) tr then K (s.apply o.dst u) (zj ops o i s u::tr) else none) (G:=some) (K:=fun u=>bif fits (zn o.after.toList) (zj ops o i s u) tr then K (s.apply o.dst u) (zj ops o i s u::tr) else none) (fun _=>rfl)) h
  cases hf:fits (zn o.after.toList) (zj ops o i s u) tr with
  |false=>rw[hf] at h2;cases h2
  |true=>rw[hf] at h2;exact⟨u,h1,hf,h2⟩
 have eP:(bif fits (zn o.after.toList) (zj ops o i s {v:=[.skip]}) tr then K (s.apply o.dst {v:=[.skip]}) (zj ops o i s {v:=[.skip]}::tr) else none)=some z->
  fits (zn o.after.toList) (zj ops o i s {v:=[.skip]}) tr=true/\K (s.apply o.dst {v:=[.skip]}) (zj ops o i s {v:=[.skip]}::tr)=some z:=by
  intro h
  cases hf:fits (zn o.after.toList) (zj ops o i s {v:=[.skip]}) tr with
  |false=>rw[hf] at h;cases h
  |true=>rw[hf] at h;exact⟨rfl,h⟩
 unfold fK at h
 unfold cK
 simp only at h
 split at h
 ·rename_i hg
  try simp only[hg]
  exact lY h
 ·rename_i g want hg
  try simp only[hg]
  split at h
  ·cases h
  rename_i d hd
  try simp only[hd]
  split at h
  ·rename_i p hs
   have fZ:s.slot d=bl p:=hs
   try simp only[hs]
   cases p<;>cases want<;>simp only[cond_true,cond_false] at h
   ·rw[su fZ] at h;rw[if_pos rfl];exact lY h
   ·rw[su fZ] at h;rw[if_neg (by simp)];exact⟨_,rfl,eP h⟩
   ·rw[su fZ] at h;rw[if_neg (by simp)];exact⟨_,rfl,eP h⟩
   ·rw[su fZ] at h;rw[if_pos rfl];exact lY h
  ·rename_i hs
   try simp only[hs]
   exact⟨_,rfl,eP h⟩
  ·cases h
theorem Uy{C:ae}(hC:C.Nat){ops:List Oper}(h:cK E C ops o s=some u):step E (C State) ops o s some=some (s.apply o.dst u):=by
 have lY:act E (C Out) ops o s some=some u->(act E (C State) ops o s fun u=>some (s.apply o.dst u))=some (s.apply o.dst u):=by
  intro h
  rw[n0 hC (F:=fun u=>some (s.apply o.dst u)) (G:=some) (K:=fun u=>some (s.apply o.dst u)) (fun _=>rfl),h]
  rfl
 unfold cK at h
 unfold step
 simp only
 split at h
 ·rename_i hg
  try simp only[hg]
  exact lY h
 ·rename_i g want hg
  try simp only[hg]
  split at h
  ·cases h
  rename_i d hd
  try simp only[hd]
  split at h
  ·rename_i p hs
   have fZ:s.slot d=bl p:=hs
   try simp only[hs]
   split at h
   ·rename_i e
    subst e
    cases p<;>simp only[cond_true,cond_false]<;>rw[su fZ]<;>exact lY h
   ·rename_i e
    cases h
    cases p<;>cases want<;>simp only[cond_true,cond_false]<;>first|exact absurd rfl e|(rw[su fZ];rfl)
  ·rename_i hs
   try simp only[hs]
   cases h
   rfl
  ·cases h
structure gq(ts bs:List Nat)(s s':State):Prop where
 sl:∀t∈ts,s.slot t=s'.slot t
 bs:∀id∈bs,s.bs[id]? =s'.bs[id]?
theorem Zd{l:List Operand}{t:Nat}:Operand.tmp t∈l->t∈j4 l:=by
 induction l with
 |nil=>intro h;cases h
 |cons x r ih=>
  intro h
  rcases List.mem_cons.1 h with e|h
  ·subst e;simp [j4]
  ·have:=ih h
   cases x<;>simp [j4,this]
theorem Hh{s s':State}{ts:List Nat}(h:∀t∈ts,s.slot t=s'.slot t){l:List Operand}(hl:∀t∈j4 l,t∈ts){x:Operand}(hx:x∈l):s.ax x=s'.ax x:=by
 cases x with
 |tmp t=>simp only[State.ax,State.nM,h t (hl t (Zd hx))]
 |_=>rfl
theorem U3(j:Nat):bn [SV.undef] j=[SV.undef]:=by
 cases j<;>rfl
theorem FA{s:State}{i j t:Nat}:(s.bS i j).slot t=if t=i then bn (s.slot t) j else s.slot t:=by
 simp only[State.bS,State.slot,List.getD_eq_getElem?_getD,List.getElem?_set]
 by_cases e:t=i
 ·subst e
  rw[if_pos rfl,if_pos rfl]
  by_cases aK:t<s.sl.length
  ·rw[if_pos aK];rfl
  ·rw[if_neg aK,List.getElem?_eq_none (by omega)]
   simp [U3]
 ·rw[if_neg e,if_neg (fun h=>e h.symm)]
theorem Ol{t:Nat}:∀{c:List (Nat×Nat)} {s s':State},s.slot t=s'.slot t->(s.close c).slot t=(s'.close c).slot t
 | [],s,s',h=>h
 |(i,j)::r,s,s',h=>by
  rw[sk,sk]
  refine Ol (c:=r) ?_
  rw[FA,FA,h]
theorem Ou{ts:List Nat}:∀{l:List (Nat×Operand)} {s s':State},(∀t∈ts,s.slot t=s'.slot t)->(∀t∈j4 (l.map (·.2)),t∈ts)->zx s l=zx s' l
 | [],s,s',h,hl=>rfl
 |(i,x)::r,s,s',h,hl=>by
  have hx:s.ax x=s'.ax x:=Hh h hl (by simp)
  have hr:∀c:List (Nat×Nat),zx (s.close c) r=zx (s'.close c) r:=fun c=>Ou (fun t ht=>Ol (h t ht)) (fun t ht=>hl t (by
   cases x<;>simp [j4,ht]))
  simp only[zx,hx,hr]
theorem xl{s s':State}:∀{l:List SV},(∀id∈l.flatMap bq,s.box id=s'.box id)->hH s l=hH s' l
 | [],h=>rfl
 |v::r,h=>by
  have hr:hH s r=hH s' r:=xl fun id dm=>h id (by simp only[List.flatMap_cons,List.mem_append];exact .inr dm)
  simp only[hH,hr]
  split
  ·rfl
  ·rename_i l b _
   cases v with
   |ptr id t p=>
    have hb:s.box id=s'.box id:=h id (by simp [bq])
    cases p with
    |nil=>cases b<;>simp only[hb]
    |cons _ _=>rfl
   |_=>rfl
theorem Wn{C:FuncId->bg Out}{ops:List Oper}{s s':State}(h:gq (looks ops o) (zh s o) s s'):act E C ops o s some=act E C ops o s' some:=by
 have eQ:∀t∈j4 o.op.operands.toList,s.slot t=s'.slot t:=fun t ht=>h.sl t (by simp only[looks,List.mem_append];exact .inl ht)
 have bC:∀x∈o.op.operands.toList,s.ax x=s'.ax x:=fun x hx=>Hh eQ (fun _ ht=>ht) hx
 have bA:∀id∈zh s o,s.box id=s'.box id:=fun id dm=>by
  simp only[State.box,List.getD_eq_getElem?_getD,h.bs id dm]
 unfold act
 cases ho:o.op with
 |move x=>
  have ht:hD s x=hD s' x:=by
   cases x with
   |tmp t=>
    have:s.slot t=s'.slot t:=eQ t (by simp [ho,Op.operands,j4])
    simp only[hD,this]
   |_=>rfl
  simp only;rw[bC x (by simp [ho,Op.operands]),ht]
 |assign x=>simp only;rw[bC x (by simp [ho,Op.operands])]
 |pick c x y=>simp only;rw[bC c (by simp [ho,Op.operands]),bC x (by simp [ho,Op.operands]),bC y (by simp [ho,Op.operands])]
 |binOp op T x y T'=>simp only;rw[bC x (by simp [ho,Op.operands]),bC y (by simp [ho,Op.operands])]
 |unOp op T x=>simp only;rw[bC x (by simp [ho,Op.operands])]
 |convert S T x=>
  have hx:=bC x (by simp [ho,Op.operands])
  simp only
  rw[<-hx]
  split
  ·rename_i id n ta tb e
   simp only[eK,bA id (by simp [zh,ho,e,bq])]
  ·rfl
 |makeMap T r=>
  cases r with
  |some r=>rfl
  |none=>
   simp only
   cases hd:o.dst with
   |none=>rfl
   |some d=>
    have:=h.bs (d+1) (by simp [zh,ho,hd])
    simp only[eX,this]
 |lookup T x i ok=>
  cases ok with
  |true=>rfl
  |false=>
   simp only
   rw[<-bC x (by simp [ho,Op.operands]),<-bC i (by simp [ho,Op.operands])]
   unfold fD ml
   split
   ·split
    ·rename_i e
     simp only[bA _ (by simp only[zh,ho,e,bq];exact List.mem_singleton.2 rfl)]
    ·rfl
   ·rfl
 |mapUpdate T m k x=>
  simp only
  rw[<-bC m (by simp [ho,Op.operands]),<-bC k (by simp [ho,Op.operands]),<-bC x (by simp [ho,Op.operands])]
  unfold gi ml
  split
  ·split
   ·rename_i e
    simp only[bA _ (by simp only[zh,ho,e,bq];exact List.mem_singleton.2 rfl)]
   ·rfl
  ·rfl
 |insert T m k x=>
  simp only
  rw[<-bC m (by simp [ho,Op.operands]),<-bC k (by simp [ho,Op.operands]),<-bC x (by simp [ho,Op.operands])]
  unfold gi ml
  split
  ·split
   ·rename_i e
    simp only[bA _ (by simp only[zh,ho,e,bq];exact List.mem_singleton.2 rfl)]
   ·rfl
  ·rfl
 |range T x=>
  simp only
  rw[<-bC x (by simp [ho,Op.operands])]
  cases hd:o.dst with
  |none=>rfl
  |some d=>
   have:=h.bs (d+1) (by simp [zh,ho,hd])
   simp only[eX,this]
 |next x str=>
  cases str with
  |false=>rfl
  |true=>
   simp only
   rw[<-bC x (by simp [ho,Op.operands])]
   unfold fF
   split
   ·rename_i e
    simp only[bA _ (by simp only[zh,ho,e,bq];exact List.mem_singleton.2 rfl)]
   ·rfl
 |makeSlice T l c=>
  simp only
  rw[<-bC l (by simp [ho,Op.operands]),<-bC c (by simp [ho,Op.operands])]
  cases hd:o.dst with
  |none=>rfl
  |some d=>
   have:=h.bs (d+1) (by simp [zh,ho,hd])
   simp only[fE,eX,this]
 |load T x=>
  have hx:=bC x (by simp [ho,Op.operands])
  simp only
  rw[<-hx]
  unfold load
  split
  ·split
   ·rfl
   ·rename_i id t p e
    simp only[rJ,bA id (by simp [zh,ho,e,bq])]
   ·rfl
  ·rfl
 |store T x y=>
  have hx:=bC x (by simp [ho,Op.operands])
  have hy:=bC y (by simp [ho,Op.operands])
  simp only
  rw[<-hx]
  unfold store
  rw[<-hy]
  split
  ·split
   ·rename_i id t p e
    simp only[rH,bA id (by simp [zh,ho,e,bq])]
   ·rfl
  ·rfl
 |nilCheck x=>simp only;rw[bC x (by simp [ho,Op.operands])]
 |fieldAddr T x j=>simp only;rw[bC x (by simp [ho,Op.operands])]
 |indexAddr T x i=>simp only;rw[bC x (by simp [ho,Op.operands]),bC i (by simp [ho,Op.operands])]
 |index T x i=>simp only;rw[bC x (by simp [ho,Op.operands]),bC i (by simp [ho,Op.operands])]
 |field T x j=>simp only;rw[bC x (by simp [ho,Op.operands])]
 |slice T x lo hi mx=>
  cases mx with
  |none=>
   simp only
   have qY:lo.map s.ax=lo.map s'.ax:=by
    cases lo with
    |none=>rfl
    |some l=>simp only[Option.map_some,bC l (by simp [ho,Op.operands])]
   have u6:hi.map s.ax=hi.map s'.ax:=by
    cases hi with
    |none=>rfl
    |some l=>simp only[Option.map_some,bC l (by simp [ho,Op.operands])]
   rw[<-bC x (by simp [ho,Op.operands]),qY,u6]
   split
   ·rfl
   ·rename_i id n t e
    simp only[jM,bA id (by simp [zh,ho,e,bq])]
   ·rfl
  |some m=>rfl
 |makeFunc fn fi ca=>
  cases fn with
  |func f=>
   simp only
   split
   ·rename_i x e1 e2
    have hm:x∈o.op.operands.toList:=by
     simp only[ho,Op.operands,Array.toList_append,List.mem_append,e2]
     exact .inr (by simp)
    rw[bC x hm]
   ·rename_i x y e1 e2
    have hm:∀z∈ [x,y],z∈o.op.operands.toList:=fun z hz=>by
     simp only[ho,Op.operands,Array.toList_append,List.mem_append,e2]
     exact .inr hz
    rw[bC x (hm x (by simp)),bC y (hm y (by simp))]
   ·rfl
  |_=>rfl
 |alloc T=>
  simp only
  cases hd:o.dst with
  |none=>split<;>simp_all
  |some d=>
   have:=h.bs (d+1) (by simp [zh,ho,hd])
   cases E.ty T<;>simp only[this]
 |box T x=>
  have hx:=bC x (by simp [ho,Op.operands])
  simp only
  cases hd:o.dst with
  |none=>split<;>simp_all
  |some d=>
   have:=h.bs (d+1) (by simp [zh,ho,hd])
   cases E.ty T<;>simp only[this,hx]
 |build T parts=>
  have hp:zx s parts.toList=zx s' parts.toList:=Ou eQ (fun t ht=>by simpa [ho,Op.operands] using ht)
  simp only[hp]
 |buildSlice T n parts=>
  have hp:(parts.toList.map fun p=>(p.1,s.ax p.2))=parts.toList.map fun p=>(p.1,s'.ax p.2):=List.map_congr_left fun p hp=>by
   rw[bC p.2 (by
    simp only[ho,Op.operands]
    exact List.mem_map.2 ⟨p,hp,rfl⟩)]
  simp only[hp]
 |extract x j=>
  cases x with
  |tmp t=>
   have:s.slot t=s'.slot t:=eQ t (by simp [ho,Op.operands,j4])
   simp only[this]
  |_=>rfl
 |call c=>
  obtain⟨callee,args,ts⟩:=c
  cases callee with
  |value x=>
   cases x with
   |func f=>
    have bB:args.toList.map s.ax=args.toList.map s'.ax:=List.map_congr_left fun x hx=>bC x (by
     simp only[ho,Op.operands,Call.operands,Array.toList_append,List.mem_append]
     exact .inr hx)
    have fa:hH s (args.toList.map s'.ax)=hH s' (args.toList.map s'.ax):=xl fun id dm=>bA id (by
     simp only[zh,ho,List.mem_append]
     refine .inl ?_
     rw[<-bB,List.flatMap_map] at dm
     exact dm)
    simp only[cX,bB,fa]
    cases hd:o.dst with
    |none=>rfl
    |some d=>
     have:=h.bs (d+1) (by simp [zh,ho,hd])
     simp only[this]
   |tmp y=>
    have hy:s.ax (.tmp y)=s'.ax (.tmp y):=bC (.tmp y) (by
     simp only[ho,Op.operands,Call.operands,Array.toList_append,List.mem_append]
     exact .inl (by simp))
    have bB:args.toList.map s.ax=args.toList.map s'.ax:=List.map_congr_left fun x hx=>bC x (by
     simp only[ho,Op.operands,Call.operands,Array.toList_append,List.mem_append]
     exact .inr hx)
    simp only
    rw[<-hy]
    split
    ·rename_i id f t b e
     have fa:hH s (args.toList.map s'.ax++ [.ptr id t []])=hH s' (args.toList.map s'.ax++ [.ptr id t []]):=xl fun bu dm=>bA bu (by
      simp only[zh,ho,List.mem_append,e]
      rw[List.flatMap_append,List.mem_append] at dm
      rcases dm with dm|dm
      ·refine .inl ?_
       rw[<-bB,List.flatMap_map] at dm
       exact dm
      ·exact .inr (.inl (by simpa [bq] using dm)))
     simp only[cX,bB,fa]
     cases hd:o.dst with
     |none=>rfl
     |some d=>
      have:=h.bs (d+1) (by simp [zh,ho,hd])
      simp only[this]
    ·rename_i f t x u y e
     have fa:hH s (args.toList.map s'.ax++ [.view t x,.view u y])=hH s' (args.toList.map s'.ax++ [.view t x,.view u y]):=xl fun bu dm=>bA bu (by
      simp only[zh,ho,List.mem_append]
      rw[List.flatMap_append,List.mem_append] at dm
      rcases dm with dm|dm
      ·refine .inl ?_
       rw[<-bB,List.flatMap_map] at dm
       exact dm
      ·simp [bq] at dm)
     simp only[cX,bB,fa]
     cases hd:o.dst with
     |none=>rfl
     |some d=>
      have:=h.bs (d+1) (by simp [zh,ho,hd])
      simp only[this]
    ·rfl
   |_=>rfl
  |builtin b=>
   have bB:∀x∈args.toList,s.ax x=s'.ax x:=fun x hx=>bC x (by
    simp only[ho,Op.operands,Call.operands,Array.toList_append,List.mem_append]
    exact .inr hx)
   cases b with
   |copy=>
    simp only
    split
    ·rename_i d x T r e1 e2
     rw[bB x (by rw[e1];simp),<-bB d (by rw[e1];simp)]
     unfold copyV
     split
     ·rename_i e0 t0 id n ta tb hT e
      have hb:s.box id=s'.box id:=bA id (by simp only[zh,ho,e1,List.flatMap_cons,e,bq];exact List.mem_append_left _ (List.mem_singleton.2 rfl))
      simp only[dH,eL,hb]
     ·rename_i e0 t0 id n ta tb l hT e
      have hb:s.box id=s'.box id:=bA id (by simp only[zh,ho,e1,List.flatMap_cons,e,bq];exact List.mem_append_left _ (List.mem_singleton.2 rfl))
      simp only[dH,hb]
     ·rfl
    ·rfl
   |len=>
    simp only
    split
    ·rename_i x T e1 e2
     rw[bB x (by rw[e1];simp)]
    ·rfl
   |append=>
    simp only
    split
    ·rename_i x y T U e1 e2
     rw[bB x (by rw[e1];simp),bB y (by rw[e1];simp)]
    ·rfl
   |max=>
    simp only
    split
    ·rename_i x y e1
     rw[bB x (by rw[e1];simp),bB y (by rw[e1];simp)]
    ·rfl
   |min=>
    simp only
    split
    ·rename_i x y e1
     rw[bB x (by rw[e1];simp),bB y (by rw[e1];simp)]
    ·rfl
   |_=>rfl
  |_=>rfl
 |_=>rfl
end Go.Ref

namespace Go.Ref
open Go
variable {P:Program} {E:Env} {X:ak} {s:State} {a:Act} {o:Oper} {u:Out}
def wH:List (Nat×Nat)->Nat->List SV->List SV
 | [],_,l=>l
 |(i,j)::r,t,l=>wH r t (if t=i then bn l j else l)
theorem xm{t:Nat}:∀{c:List (Nat×Nat)} {s:State},(s.close c).slot t=wH c t (s.slot t)
 | [],s=>rfl
 |(i,j)::r,s=>by rw[sk,xm (c:=r),FA];rfl
theorem zt{t:Nat}:∀{c:List (Nat×Nat)} {l:List SV},t∉c.map (·.1)->wH c t l=l
 | [],l,h=>rfl
 |(i,j)::r,l,h=>by
  simp only[List.map_cons,List.mem_cons,not_or] at h
  simp only[wH]
  rw[if_neg h.1]
  exact zt h.2
theorem sn{d:Option Nat}:(s.apply d u).sl.length=s.sl.length:=by
 cases d with
 |none=>simp only[State.apply,State.aG];cases u.bx<;>simp [State.aC,vZ]
 |some d=>simp only[State.apply,State.aG,List.length_set];cases u.bx<;>simp [State.aC,vZ]
theorem vV{d:Option Nat}{t:Nat}:(s.apply d u).slot t=if d=some t/\t<s.sl.length then u.v else wH u.cl t (s.slot t):=by
 have hb:∀(s:State) b,(s.aC b).slot t=s.slot t:=fun s b=>by cases b<;>rfl
 cases d with
 |none=>
  simp only[State.apply,State.aG,hb,xm]
  rw[if_neg (by simp)]
 |some d=>
  simp only[State.apply]
  by_cases e:d=t
  ·subst e
   by_cases aK:d<s.sl.length
   ·rw[if_pos ⟨rfl,aK⟩]
    have:d<((s.close u.cl).aC u.bx).sl.length:=by
     have:((s.close u.cl).aC u.bx).sl.length=s.sl.length:=by cases u.bx<;>simp [State.aC,vZ]
     omega
    simp only[State.aG,State.slot,List.getD_eq_getElem?_getD,List.getElem?_set_self this,Option.getD_some]
   ·rw[if_neg (fun h=>aK h.2)]
    have:((s.close u.cl).aC u.bx).sl.length<=d:=by
     have:((s.close u.cl).aC u.bx).sl.length=s.sl.length:=by cases u.bx<;>simp [State.aC,vZ]
     omega
    have h2:(((s.close u.cl).aC u.bx).aG (some d) u.v).slot d=((s.close u.cl).aC u.bx).slot d:=by
     simp only[State.aG,State.slot]
     rw[List.set_eq_of_length_le this]
    rw[h2,hb,xm]
  ·rw[if_neg (fun h=>e (by injection h.1))]
   have h2:(((s.close u.cl).aC u.bx).aG (some d) u.v).slot t=((s.close u.cl).aC u.bx).slot t:=by
    simp only[State.aG,State.slot,List.getD_eq_getElem?_getD,List.getElem?_set_ne e]
   rw[h2,hb,xm]
theorem wg{d:Option Nat}{id:Nat}:(s.apply d u).bs[id]? =match u.bx with
 |some (bu,B)=>if bu=id then(s.bs[id]?).map (fun _=>some B) else s.bs[id]?
 |none=>s.bs[id]? :=by
 have hs:∀(s:State) d l,(s.aG d l).bs=s.bs:=fun s d l=>by cases d<;>rfl
 simp only[State.apply,hs]
 cases hb:u.bx with
 |none=>simp only[State.aC,nY]
 |some b=>
  obtain⟨bu,B⟩:=b
  simp only[State.aC,nY]
  rw[List.getElem?_set]
  by_cases e:bu=id
  ·subst e
   rw[if_pos rfl,if_pos rfl]
   by_cases aK:bu<s.bs.length
   ·rw[if_pos aK,List.getElem?_eq_getElem aK];rfl
   ·rw[if_neg aK,List.getElem?_eq_none (by omega)];rfl
  ·rw[if_neg e,if_neg e]
theorem Xh{s s':State}(h1:s.sl.length=s'.sl.length)(h2:∀t,s.slot t=s'.slot t)(h3:∀id:Nat,s.bs[id]? =s'.bs[id]?):s=s':=by
 cases s with
 |mk sl bs=>
  cases s' with
  |mk sl' Z6=>
   simp only[State.mk.injEq]
   refine⟨List.ext_getElem? fun i=> ?_,List.ext_getElem? h3⟩
   have:=h2 i
   simp only[State.slot,List.getD_eq_getElem?_getD] at this h1
   by_cases aK:i<sl.length
   ·rw[List.getElem?_eq_getElem aK,List.getElem?_eq_getElem (by omega)] at this⊢
    simpa using this
   ·rw[List.getElem?_eq_none (by omega),List.getElem?_eq_none (by omega)]
structure pH(R1 W1 b1 c1 R2 W2 b2 c2:List Nat):Prop where
 h1:∀t∈W1,t∉R2/\t∉W2
 h2:∀t∈W2,t∉R1
 h3:∀id∈c1,id∉b2/\id∉c2
 h4:∀id∈c2,id∉b1
theorem Ud{o1 o2:Oper}{ops:List Oper}{i1 i2:Nat}{s1 s2:State}{u1 u2:Out}(h:(zj ops o1 i1 s1 u1).apart (zj ops o2 i2 s2 u2)=true):
 pH (looks ops o1) (o1.dst.toList++u1.cl.map (·.1)) (zh s1 o1) (u1.bx.toList.map (·.1)) (looks ops o2) (o2.dst.toList++u2.cl.map (·.1)) (zh s2 o2) (u2.bx.toList.map (·.1)):=by
 simp only[cr.apart,zj,Bool.and_eq_true] at h
 obtain⟨g1,g2,g3,g4⟩:=h
 refine⟨fun t ht=> ?_,fun t ht=> ?_,fun t ht=> ?_,fun t ht=> ?_⟩
 ·have:=xu g1 t (by rw[nW];exact decide_eq_true ht)
  simp only[Nat.testBit_or,nW,Bool.or_eq_false_iff,decide_eq_false_iff_not] at this
  exact this
 ·have:=xu g2 t (by rw[nW];exact decide_eq_true ht)
  simpa only[nW,decide_eq_false_iff_not] using this
 ·have:=xu g3 t (by rw[nW];exact decide_eq_true ht)
  simp only[Nat.testBit_or,nW,Bool.or_eq_false_iff,decide_eq_false_iff_not] at this
  exact this
 ·have:=xu g4 t (by rw[nW];exact decide_eq_true ht)
  simpa only[nW,decide_eq_false_iff_not] using this
theorem Oj{d:Option Nat}{ts bs:List Nat}(h1:∀t∈ts,t∉d.toList++u.cl.map (·.1))(h2:∀id∈bs,id∉u.bx.toList.map (·.1)):gq ts bs (s.apply d u) s where
 sl:=fun t ht=>by
  have h:=h1 t ht
  simp only[List.mem_append,not_or] at h
  rw[vV,if_neg (fun hc=>h.1 (by rw[hc.1];simp)),zt h.2]
 bs:=fun id dm=>by
  have h:=h2 id dm
  rw[wg]
  cases hb:u.bx with
  |none=>rfl
  |some b=>
   obtain⟨bu,B⟩:=b
   rw[hb] at h
   simp only
   rw[if_neg (fun e=>h (by simp [e]))]
theorem UE{d1 d2:Option Nat}{u1 u2:Out}(h1:∀t∈d1.toList++u1.cl.map (·.1),t∉d2.toList++u2.cl.map (·.1))(h2:∀id∈u1.bx.toList.map (·.1),id∉u2.bx.toList.map (·.1)):
 (s.apply d1 u1).apply d2 u2=(s.apply d2 u2).apply d1 u1:=by
 refine Xh (by rw[sn,sn,sn,sn]) (fun t=> ?_) (fun id=> ?_)
 ·rw[vV,vV,vV,vV,sn,sn]
  by_cases rU:d1=some t
  ·have hm:t∈d1.toList++u1.cl.map (·.1):=by rw[rU];simp
   have hn:=h1 t hm
   simp only[List.mem_append,not_or] at hn
   have kZ:¬d2=some t:=fun e=>hn.1 (by rw[e];simp)
   by_cases aK:t<s.sl.length
   ·rw[if_neg (fun h=>kZ h.1),if_pos ⟨rU,aK⟩,zt hn.2,if_pos ⟨rU,aK⟩]
   ·rw[if_neg (fun h=>kZ h.1),if_neg (fun h=>aK h.2),if_neg (fun h=>aK h.2),if_neg (fun h=>aK h.2),zt hn.2,zt hn.2]
  ·by_cases kZ:d2=some t
   ·have hn:t∉d1.toList++u1.cl.map (·.1):=fun hm=>h1 t hm (by rw[kZ];simp)
    simp only[List.mem_append,not_or] at hn
    by_cases aK:t<s.sl.length
    ·rw[if_pos ⟨kZ,aK⟩,if_neg (fun h=>rU h.1),if_pos ⟨kZ,aK⟩,zt hn.2]
    ·rw[if_neg (fun h=>aK h.2),if_neg (fun h=>aK h.2),if_neg (fun h=>aK h.2),if_neg (fun h=>aK h.2),zt hn.2,zt hn.2]
   ·rw[if_neg (fun h=>kZ h.1),if_neg (fun h=>rU h.1),if_neg (fun h=>rU h.1),if_neg (fun h=>kZ h.1)]
    by_cases hm:t∈u1.cl.map (·.1)
    ·have hn:=h1 t (by simp only[List.mem_append];exact .inr hm)
     simp only[List.mem_append,not_or] at hn
     rw[zt hn.2,zt hn.2]
    ·rw[zt hm,zt hm]
 ·rw[wg,wg,wg,wg]
  cases lV:u1.bx with
  |none=>rfl
  |some b1=>
   obtain⟨Cy,B1⟩:=b1
   cases oM:u2.bx with
   |none=>rfl
   |some b2=>
    obtain⟨NK,B2⟩:=b2
    rw[lV,oM] at h2
    have bV:Cy≠NK:=fun e=>h2 Cy (by simp) (by simp [e])
    simp only
    by_cases e1:Cy=id
    ·subst e1
     rw[if_neg (fun e=>bV e.symm),if_pos rfl,if_pos rfl,if_neg (fun e=>bV e.symm)]
    ·by_cases e2:NK=id
     ·subst e2
      rw[if_pos rfl,if_neg e1,if_neg e1,if_pos rfl]
     ·rw[if_neg e2,if_neg e1,if_neg e1,if_neg e2]
theorem Ov{ops:List Oper}{s s':State}(h:∀t∈looks ops o,s.slot t=s'.slot t):zh s o=zh s' o:=by
 have bC:∀x∈o.op.operands.toList,s.ax x=s'.ax x:=fun x hx=>Hh (ts:=j4 o.op.operands.toList) (fun t ht=>h t (by simp only[looks,List.mem_append];exact .inl ht)) (fun _ ht=>ht) hx
 unfold zh
 cases ho:o.op with
 |load T x=>simp only;rw[bC x (by simp [ho,Op.operands])]
 |store T x y=>simp only;rw[bC x (by simp [ho,Op.operands])]
 |convert S T x=>simp only;rw[bC x (by simp [ho,Op.operands])]
 |slice T x lo hi mx=>simp only;rw[bC x (by simp [ho,Op.operands])]
 |lookup T x i ok=>simp only;rw[bC x (by simp [ho,Op.operands])]
 |mapUpdate T m k x=>simp only;rw[bC m (by simp [ho,Op.operands])]
 |insert T m k x=>simp only;rw[bC m (by simp [ho,Op.operands])]
 |next x str=>simp only;rw[bC x (by simp [ho,Op.operands])]
 |call c=>
  obtain⟨callee,args,ts⟩:=c
  have:(args.toList.map fun x=>bq (s.ax x))=args.toList.map fun x=>bq (s'.ax x):=List.map_congr_left fun x hx=>by
   rw[bC x (by
    simp only[ho,Op.operands,Call.operands,Array.toList_append,List.mem_append]
    exact .inr hx)]
  cases callee with
  |value f=>
   simp only
   have hf:s.ax f=s'.ax f:=bC f (by
    simp only[ho,Op.operands,Call.operands,Array.toList_append,List.mem_append]
    exact .inl (by simp))
   rw[hf,List.flatMap_def,List.flatMap_def,this]
  |builtin b=>
   cases b with
   |copy=>simp only;rw[List.flatMap_def,List.flatMap_def,this]
   |_=>rfl
  |_=>rfl
 |_=>rfl
theorem Pg{C:ae}{ops:List Oper}{s s':State}(h:gq (looks ops o) (zh s o) s s'):cK E C ops o s=cK E C ops o s':=by
 unfold cK
 rw[Wn h]
 split
 ·rfl
 ·rename_i g want hg
  split
  ·rfl
  ·rename_i d hd
   rw[h.sl d (by simp [looks,hg,hd])]
theorem swap{C:ae}{ops:List Oper}{o1 o2:Oper}{i1 i2:Nat}{u1 u2:Out}(h1:cK E C ops o1 s=some u1)(h2:cK E C ops o2 (s.apply o1.dst u1)=some u2)(h:(zj ops o1 i1 s u1).apart (zj ops o2 i2 (s.apply o1.dst u1) u2)=true):
 cK E C ops o2 s=some u2/\zj ops o2 i2 s u2=zj ops o2 i2 (s.apply o1.dst u1) u2/\cK E C ops o1 (s.apply o2.dst u2)=some u1/\zj ops o1 i1 (s.apply o2.dst u2) u1=zj ops o1 i1 s u1/\
  (s.apply o2.dst u2).apply o1.dst u1=(s.apply o1.dst u1).apply o2.dst u2:=by
 have hp:=Ud h
 have M9:gq (looks ops o2) (zh (s.apply o1.dst u1) o2) (s.apply o1.dst u1) s:=Oj (fun t ht hm=>(hp.h1 t hm).1 ht) (fun id dm hm=>(hp.h3 id hm).1 dm)
 have dQ:=Ov (ops:=ops) (o:=o2) M9.sl
 have BG:gq (looks ops o1) (zh s o1) (s.apply o2.dst u2) s:=Oj (fun t ht hm=>hp.h2 t hm ht) (fun id dm hm=>hp.h4 id hm dm)
 have dp:=Ov (ops:=ops) (o:=o1) BG.sl
 refine⟨by rw[<-Pg M9];exact h2,by simp only[zj,dQ],?_,by simp only[zj,dp],(UE (fun t ht=>(hp.h1 t ht).2) (fun id dm=>(hp.h3 id dm).2)).symm⟩
 rw[Pg (s:=s.apply o2.dst u2) (s':=s) ⟨BG.sl,fun id dm=>BG.bs id (by rw[<-dp];exact dm)⟩]
 exact h1
end Go.Ref

namespace Go.Ref
open Go
variable {P:Program} {E:Env} {X:ak} {s:State} {a:Act} {o:Oper} {u:Out}
def jC(E:Env)(C:ae)(ops:Array Oper):List Nat->State->List cr->State->Prop
 | [],s,tr,z=>s=z/\tr=[]
 |i::r,s,f::tr,z=>∃u,cK E C ops.toList (ops.getD i default) s=some u/\f=zj ops.toList (ops.getD i default) i s u/\jC E C ops r (s.apply (ops.getD i default).dst u) tr z
 |_::_,_,[],_=>False
def BF(ops:Array Oper)(i:Nat):Nat:=zn (ops.getD i default).after.toList
def pG(ops:Array Oper)(a b:cr):Prop:=(BF ops b.i).testBit a.i=true\/a.apart b=true
theorem QD{C:ae}{ops:Array Oper}:∀{l:List Nat} {s z:State} {tr:List cr},jC E C ops l s tr z->tr.map (·.i)=l
 | [],s,z,tr,h=>by rw[h.2];rfl
 |i::r,s,z,f::tr,h=>by
  obtain⟨u,_,rfl,h3⟩:=h
  simp only[List.map_cons,QD h3]
  rfl
 |_::_,s,z,[],h=>h.elim
theorem Oy{C:ae}(hC:C.Nat){ops:Array Oper}{z:State}:∀(l:List Nat) (i:Nat) (s:State) (tr:List cr),(∀(j:Nat) k,l[j]? =some k->k=i+j)->
 pF E (C State) ops.toList (l.map fun k=>ops.getD k default) i s tr some=some z->∃ru,jC E C ops l s ru z/\(∀a∈tr,∀b∈ru,pG ops a b)/\ru.Pairwise (pG ops)/\∀k∈l,Nat.ble (BF ops k+1) (bit k)=true
 | [],i,s,tr,hl,h=>by
   cases h
   exact⟨[],⟨rfl,rfl⟩,(fun a _ b hb=>by cases hb),List.Pairwise.nil,fun k hk=>by cases hk⟩
 |k::r,i,s,tr,hl,h=>by
  have hk:k=i:=by simpa using hl 0 k rfl
  subst hk
  simp only[List.map_cons,pF] at h
  obtain⟨u,h1,h2,h3⟩:=Xj hC h
  obtain⟨ru,r1,r2,r3,r4⟩:=Oy hC r (k+1) _ _ (fun j k' hj=>by
   have:=hl (j+1) k' hj
   omega) h3
  simp only[fits,Bool.and_eq_true] at h2
  obtain⟨QS,BO⟩:=h2
  have BO:=List.all_eq_true.1 BO
  refine⟨zj ops.toList (ops.getD k default) k s u::ru,⟨u,h1,rfl,r1⟩,fun a ha b hb=> ?_,?_,fun k' u7=> ?_⟩
  ·rcases List.mem_cons.1 hb with rfl|hb
   ·have:=BO a ha
    simp only[Bool.or_eq_true] at this
    exact this
   ·exact r2 a (List.mem_cons_of_mem _ ha) b hb
  ·exact List.pairwise_cons.2 ⟨fun b hb=>r2 _ (by simp) b hb,r3⟩
  ·rcases List.mem_cons.1 u7 with rfl|u7
   ·exact QS
   ·exact r4 k' u7
theorem PS{C:ae}{ops:Array Oper}{z:State}{i:Nat}{q:List Nat}:∀(p:List Nat) (s:State) (tr:List cr),jC E C ops (p++i::q) s tr z->(∀(tp:List cr) f tq,tr=tp++f::tq->tp.length=p.length->∀a∈tp,a.apart f=true)->
 ∃tp f tq u,tr=tp++f::tq/\tp.length=p.length/\cK E C ops.toList (ops.getD i default) s=some u/\f=zj ops.toList (ops.getD i default) i s u/\jC E C ops (p++q) (s.apply (ops.getD i default).dst u) (tp++tq) z
 | [],s,[],h,uR=>h.elim
 | [],s,f::tr,h,uR=>by
   obtain⟨u,h1,h2,h3⟩:=h
   exact⟨[],f,tr,u,rfl,rfl,h1,h2,h3⟩
 |j::p,s,[],h,uR=>h.elim
 |j::p,s,g::tr,h,uR=>by
  obtain⟨uj,h1,h2,h3⟩:=h
  obtain⟨tp,f,tq,u,e1,e2,k1,k2,k3⟩:=PS p _ tr h3 (fun tp f tq e hl a ha=>uR (g::tp) f tq (by rw[e];rfl) (by simp [hl]) a (List.mem_cons_of_mem _ ha))
  have hg:=uR (g::tp) f tq (by rw[e1];rfl) (by simp [e2]) g (by simp)
  rw[h2,k2] at hg
  obtain⟨w1,w2,w3,w4,w5⟩:=swap h1 k1 hg
  refine⟨g::tp,f,tq,u,by rw[e1];rfl,by simp [e2],w1,by rw[k2,w2],uj,w3,by rw[h2,w4],?_⟩
  rw[w5]
  exact k3
theorem Y9{l:List Nat}{i:Nat}(h:i∈l):∃p q,l=p++i::q:=List.append_of_mem h
theorem UT{p q:List Nat}{i:Nat}(h:(p++i::q).Nodup):(p++i::q).filter (fun j=> !(Nat.beq j i))=p++q:=by
 have h':=List.nodup_append.1 h
 have hp:∀j∈p,j≠i:=fun j hj=>h'.2.2 j hj i (by simp)
 have hq:∀j∈q,j≠i:=fun j hj e=>by
  have:=(List.nodup_cons.1 h'.2.1).1
  rw[e] at hj;exact this hj
 rw[List.filter_append,List.filter_cons]
 have hb:∀j,j≠i->(!(Nat.beq j i))=true:=fun j hj=>by
  cases hh:Nat.beq j i with
  |false=>rfl
  |true=>exact absurd (Nat.eq_of_beq_eq_true hh) hj
 rw[List.filter_eq_self.2 (fun j hj=>hb j (hp j hj)),List.filter_eq_self.2 (fun j hj=>hb j (hq j hj))]
 have:(!(Nat.beq i i))=false:=by simp
 rw[this]
 simp
def rest(n:Nat)(listed:Array Bool):List Nat:=(List.range n).filter fun i=> !listed.getD i true
theorem Y6{n:Nat}{listed:Array Bool}(hs:listed.size=n){i:Nat}{p q:List Nat}(h:rest n listed=p++i::q):rest n (listed.setIfInBounds i true)=p++q:=by
 have Cd:(rest n listed).Nodup:=List.nodup_range.filter _
 rw[h] at Cd
 rw[<-UT Cd,<-h]
 simp only[rest,List.filter_filter]
 refine List.filter_congr fun j hj=> ?_
 have Rm:=List.mem_range.1 hj
 by_cases e:j=i
 ·subst e
  have:(listed.setIfInBounds j true).getD j true=true:=by simp [Array.getD_eq_getD_getElem?,hs,Rm]
  rw[this];simp
 ·have h1:(listed.setIfInBounds i true).getD j true=listed.getD j true:=by
   simp only[Array.getD_eq_getD_getElem?]
   rw[Array.getElem?_setIfInBounds_ne (fun h=>e h.symm)]
  have h2:Nat.beq j i=false:=by
   cases hh:Nat.beq j i with
   |false=>rfl
   |true=>exact absurd (Nat.eq_of_beq_eq_true hh) e
  rw[h1,h2];simp
theorem Pj{ops:Array Oper}{listed:Array Bool}{i:Nat}(h:i∈Region.ready .any ops listed):i∈rest ops.size listed/\∀e∈(ops.getD i default).after.toList,Region.binds .any e=true->listed.getD e.on false=true:=by
 unfold Region.ready at h
 obtain⟨h1,h2⟩:=List.mem_filter.1 h
 have hi:=List.mem_range.1 h1
 rw[Bool.and_eq_true] at h2
 refine⟨List.mem_filter.2 ⟨h1,h2.1⟩,fun e he hb=> ?_⟩
 have h3:=h2.2
 rw[Array.getElem?_eq_getElem hi] at h3
 simp only[Option.map_some,Option.getD_some] at h3
 have bN:ops.getD i default=ops[i]:=by simp [hi]
 rw[bN] at he
 have h4:=Array.all_eq_true_iff_forall_mem.1 h3 e (by simpa using he)
 rw[hb] at h4
 simpa using h4
theorem Y5{ops:Array Oper}{listed:Array Bool}{i:Nat}(h:i∈rest ops.size listed)(ha:∀e∈(ops.getD i default).after.toList,Region.binds .any e=true->listed.getD e.on false=true):i∈Region.ready .any ops listed:=by
 obtain⟨h1,h2⟩:=List.mem_filter.1 h
 have hi:=List.mem_range.1 h1
 refine List.mem_filter.2 ⟨h1,?_⟩
 rw[Bool.and_eq_true]
 refine⟨h2,?_⟩
 have bN:ops.getD i default=ops[i]:=by simp [hi]
 rw[Array.getElem?_eq_getElem hi]
 simp only[Option.map_some,Option.getD_some]
 refine Array.all_eq_true_iff_forall_mem.2 fun e he=> ?_
 cases hb:Region.binds .any e with
 |false=>rfl
 |true=>
  rw[ha e (by rw[bN];simpa using he) hb]
  simp
theorem YL(hE:ah P E){C:ae}(hC:C.Nat)(hf:∀f,bX P C f){ops:Array Oper}{z:State}{Q:Exit->Act->World->Prop}(B8:∀k,k<ops.size->Nat.ble (BF ops k+1) (bit k)=true):
 ∀(bI:Nat) (listed:Array Bool) (X:ak) (s:State) (a:Act) (tr:List cr),Rel X s a->listed.size=ops.size->bI=(rest ops.size listed).length->jC E C ops (rest ops.size listed) s tr z->tr.Pairwise (pG ops)->
  (∀Y a',Ext X Y->Rel Y z a'->Q .normal a' Y.w)->wpAny P .any ops Q bI listed a X.w:=by
 intro bI
 have done:∀(listed:Array Bool),listed.size=ops.size->Region.ready .any ops listed=[]->rest ops.size listed=[]:=by
  intro listed hs hr
  rcases hl:rest ops.size listed with _|⟨i,r⟩
  ·rfl
  have eO:i∈rest ops.size listed:=by rw[hl];simp
  have dy:=List.mem_range.1 (List.mem_filter.1 eO).1
  have lr:i∈Region.ready .any ops listed:=by
   refine Y5 eO fun e he hb=> ?_
   have aK:e.on<i:=Wt (B8 i dy) (OT _ e he hb)
   cases hx:listed.getD e.on false with
   |true=>rfl
   |false=>
    exfalso
    have lh:e.on<listed.size:=by omega
    have RT:listed.getD e.on true=false:=by
     simp only[Array.getD_eq_getD_getElem?,Array.getElem?_eq_getElem lh,Option.getD_some] at hx⊢
     exact hx
    have hm:e.on∈rest ops.size listed:=List.mem_filter.2 ⟨List.mem_range.2 (by omega),by rw[RT];rfl⟩
    have jq:(rest ops.size listed).Pairwise (· < ·):=List.pairwise_lt_range.filter _
    rw[hl] at jq hm
    rcases List.mem_cons.1 hm with e1|hm
    ·omega
    ·have:=(List.pairwise_cons.1 jq).1 _ hm
     omega
  rw[hr] at lr
  cases lr
 induction bI with
 |zero=>
  intro listed X s a tr hr hs rV fB vn hQ
  have ll:rest ops.size listed=[]:=List.eq_nil_of_length_eq_zero rV.symm
  rw[ll] at fB
  obtain⟨rfl,_⟩:=fB
  refine⟨?_,hQ X a (Ext.refl X) hr⟩
  rcases RH:Region.ready .any ops listed with _|⟨i,r⟩
  ·rfl
  ·have:=(Pj (i:=i) (by rw[RH];simp)).1
   rw[ll] at this
   cases this
 |succ bI ih=>
  intro listed X s a tr hr hs rV fB vn hQ
  refine⟨fun vj=> ?_,fun i hi=> ?_⟩
  ·rw[done listed hs vj] at rV
   cases rV
  ·obtain⟨eO,BS⟩:=Pj hi
   obtain⟨p,q,w6⟩:=Y9 eO
   have dy:=List.mem_range.1 (List.mem_filter.1 eO).1
   rw[w6] at fB
   have nG:=QD fB
   obtain⟨tp,f,tq,u,e1,e2,k1,k2,k3⟩:=PS p s tr fB (fun tp f tq e hl a' Nn=>by
    have nC:f.i=i:=by
     rw[e,List.map_append,List.map_cons] at nG
     have:=List.append_inj nG (by simp [hl])
     injection this.2
    have QW:a'.i∈p:=by
     rw[e,List.map_append,List.map_cons] at nG
     have:=List.append_inj nG (by simp [hl])
     rw[<-this.1]
     exact List.mem_map.2 ⟨a',Nn,rfl⟩
    rw[e] at vn
    have uX:=(List.pairwise_append.1 vn).2.2 a' Nn f (by simp)
    rcases uX with hb|hb
    ·exfalso
     rw[nC] at hb
     obtain⟨ed,QZ,Ra,Rb⟩:=FD _ _ hb
     have lg:=BS ed QZ Ra
     have cM:a'.i∈rest ops.size listed:=by rw[w6];exact List.mem_append_left _ QW
     have iq:=(List.mem_filter.1 cM).2
     have aK:=List.mem_range.1 (List.mem_filter.1 cM).1
     have lh:a'.i<listed.size:=by omega
     rw[Rb] at lg
     simp only[Array.getD_eq_getD_getElem?,Array.getElem?_eq_getElem lh,Option.getD_some] at lg iq
     rw[lg] at iq
     cases iq
    ·exact hb)
   have cM:=Y6 hs w6
   have Rk:ops[i]? =some (ops.getD i default):=by simp [dy]
   refine LU hE hr hC hf Rk (Uy hC k1) fun Y a' aT aY=> ?_
   refine ih (listed.setIfInBounds i true) Y _ a' (tp++tq) aY (by simp [hs]) ?_ (by rw[cM];exact k3) ?_ (fun Z a2 bp cg=>hQ Z a2 (aT.trans bp) cg)
   ·rw[cM]
    rw[w6] at rV
    simp only[List.length_append,List.length_cons] at rV⊢
    omega
   ·rw[e1] at vn
    obtain⟨a1,a2,a3⟩:=List.pairwise_append.1 vn
    exact List.pairwise_append.2 ⟨a1,(List.pairwise_cons.1 a2).2,fun x hx y hy=>a3 x hx y (List.mem_cons_of_mem _ hy)⟩
theorem WR(hE:ah P E)(hm:P.follows .mixedOrders=true){C:ae}(hC:C.Nat)(hf:∀f,bX P C f){id:Nat}{ops:Array Oper}{z:State}{Q:Exit->Act->World->Prop}(hr:Rel X s a)(h:pF E (C State) ops.toList ops.toList 0 s [] some=some z)
 (hQ:∀Y a',Ext X Y->Rel Y z a'->Q .normal a' Y.w):(Code.region id ops true).wp P Q a X.w:=by
 have ix:(List.range ops.size).map (fun i=>ops.getD i default)=ops.toList:=by
  apply List.ext_getElem?
  intro i
  rw[List.getElem?_map]
  by_cases hi:i<ops.size
  ·simp [hi]
  ·simp [hi]
 have cM:rest ops.size (Array.replicate ops.size false)=List.range ops.size:=by
  refine List.filter_eq_self.2 fun i hi=> ?_
  have:=List.mem_range.1 hi
  simp [this]
 obtain⟨ru,r1,_,r3,r4⟩:=Oy hC (List.range ops.size) 0 s [] (fun j k hj=>by
  have:=(List.getElem?_eq_some_iff.1 hj)
  obtain⟨h1,h2⟩:=this
  simp at h2
  omega) (by rw[ix];exact h)
 have hk:cQ s X {X with w:={X.w with drawn:=X.w.drawn+1}}:=⟨Nat.le_refl _,rfl,rfl,rfl,fun g _=>⟨rfl,rfl⟩,rfl,fun _ _ _=>rfl⟩
 refine wp_region_any hm ?_
 exact YL hE hC hf (fun k hk=>r4 k (List.mem_range.2 hk)) ops.size (Array.replicate ops.size false) _ s a ru (hr.cj hk) (by simp) (by rw[cM];simp) (by rw[cM];exact r1) r3 (fun Y a' aT aY=>hQ Y a' (hk.ext.trans aT) aY)
end Go.Ref

namespace Go.Ref
open Go
variable {P:Program} {E:Env} {X:ak} {s:State} {a:Act}
theorem aN.flat{X Y:ak}:∀{t:Ty} {x:El t} {cs:List Value},t.flat=true->aN X t x cs->aN Y t x cs
 | .bool,_,_,_,hr=>hr
 | .int _,_,_,_,hr=>hr
 | .str,_,_,_,hr=>hr
 | .unit,_,_,_,hr=>hr
 | .sl _ _,_,_,hf,_=>by cases hf
 | .aP _ _ _,_,_,hf,_=>by cases hf
 | .arr n t,xs,cs,hf,⟨h1,h2,h3⟩=>⟨h1,h2,fun j x hj=>aN.flat (t:=t) hf (h3 j x hj)⟩
 | .pair a b,x,cs,hf,⟨c1,c2,h1,h2,h3⟩=>by
   have hf:(a.flat&&b.flat)=true:=hf
   rw[Bool.and_eq_true] at hf
   exact⟨c1,c2,h1,aN.flat hf.1 h2,aN.flat hf.2 h3⟩
theorem ar.flat{X Y:ak}{pl:List Nat->Place}{sv:SV}{v:Value}(hf:sv.flat=true)(hr:ar X pl sv v):ar Y pl sv v:=by
 cases sv with
 |af t x own=>
  have hf:(t.flat&&own.isEmpty)=true:=hf
  rw[Bool.and_eq_true] at hf
  obtain⟨cs,h1,h2,_⟩:=hr
  have:own=[]:=List.isEmpty_iff.1 hf.2
  subst this
  exact⟨cs,h1.flat hf.1,h2,zw⟩
 |undef=>trivial
 |skip=>exact hr
 |bK=>exact hr
 |dL=>exact hr
 |over=>exact hr
 |_=>cases hf
theorem Hd{o:Nat}:∀{sl:List (List SV)} {i:Nat},fA o i sl=true->∀(j:Nat) l,sl[j]? =some l->i+j≠o->∀sv∈l,SV.flat sv=true
 | [],i,_,j,l,h,_=>by simp at h
 |l0::r,i,h,j,l,hl,bV=>by
  rw[fA,Bool.and_eq_true,Bool.or_eq_true] at h
  cases j with
  |zero=>
   cases hl
   rcases h.1 with h1|h1
   ·exact absurd (Nat.eq_of_beq_eq_true h1) bV
   ·exact fun sv hm=>List.all_eq_true.1 h1 sv hm
  |succ j=>exact Hd h.2 j l hl (by omega)
structure hZ(X:ak)(a:Act)(o:Nat)(e:TypeId)(xs:List Int)(own:List (List Nat))(g c:Nat)(cur:Array Value):Prop where
 val:a.tmps.getD o Go.undef= .slice (some ⟨g,0,none⟩) xs.length c
 heap:X.w.heap[g]? =some (.cells cur e (0,0))
 cell:∀(j:Nat) x,xs[j]? =some x->X.w.cell? ⟨g,j,none⟩=some (.int .u8 x)
 le:xs.length<=c
 most:c<=maxLen
 size:cur.size=c
 ow:X.ow g= .row (.c o 0 []) (xs.length*1)
 own:∀p∈own,p=[]
theorem D0{o:Nat}{e:TypeId}{xs:List Int}{own:List (List Nat)}(hr:Rel X s a)(hs:s.slot o=[.af (.sl e (.int .u8)) xs own])(bm:hN own []=true){i:Nat}(hi:i<xs.length):∃g c cur,hZ X a o e xs own g c cur:=by
 have eQ:=hr.slot o
 rw[hs] at eQ
 obtain⟨cs,aJ,hv,hO⟩:=(show ar X (.c o 0) (.af (.sl e (.int .u8)) xs own) (a.tmps.getD o Go.undef) from eQ)
 have eO:([]:List Nat)∈own:=by
  unfold hN at bm
  obtain⟨q,h1,h2⟩:=List.any_eq_true.1 bm
  have:q=[]:=by simpa using h2
  rw[<-this];exact h1
 have dx:∀p∈own,p=[]:=fun p hp=>by
  obtain⟨e2,t2,xs2,v2,g1,g2,g3,g4⟩:=hO p hp
  cases p with
  |cons q r=>simp [El.get] at g2
  |nil=>rfl
 obtain⟨e1,t1,N7,v1,_,hg,hc,bz⟩:=hO [] eO
 simp only[El.get,Option.some.injEq] at hg
 cases hg
 obtain⟨A,c,di,hle,cT⟩:=aJ
 subst di
 have hv:a.tmps.getD o Go.undef= .slice A xs.length c:=hv
 have oW:v1= .slice A xs.length c:=by
  have:([Value.slice A xs.length c]:List Value)[0]? =some v1:=hc
  simpa using this.symm
 subst oW
 rcases bz with⟨_,h0⟩|⟨g,cap,cur,h1,h2,h3,h4,h5,h6⟩
 ·have h0:List.length xs=0:=h0
  omega
 injection h1 with k1 k2 k3
 subst k1 k3
 have h5:cur.size=c*1:=h5
 have h6:X.ow g= .row (.c o 0 []) (List.length xs*1):=h6
 have dI:∀(j:Nat) x,xs[j]? =some x->X.w.cell? ⟨g,j,none⟩=some (.int .u8 x):=fun j x hj=>by
  obtain⟨ad,cI,e1,_,e2,e3⟩:=cT j x hj
  cases e1
  have e2:cI=[.int .u8 x]:=e2
  subst e2
  have:=(e3 0 (.int .u8 x) rfl).2.1
  rw[zr] at this
  simpa [Ty.cells] using this
 exact⟨g,c,cur,hv,h2,dI,hle,h4,by omega,h6,dx⟩
theorem Y4{o:Nat}{e:TypeId}{xs:List Int}{own:List (List Nat)}{X0:ak}(hF:∀g pl n,X0.ow g≠ .row pl n)(hx:Ext X0 X)(hr:Rel X s a)(ho:o<s.sl.length)(lX:fA o 0 s.sl=true)(fa:s.bs.all Option.isNone=true)
 {g c:Nat} {cur:Array Value} (hR:hZ X a o e xs own g c cur) {i:Nat} (hi:i<xs.length) (z:Int):
   Ext X0 (X.row g (cur.toList.take i++ [Value.int .u8 z]++cur.toList.drop (i+1)).toArray)/\Rel (X.row g (cur.toList.take i++ [Value.int .u8 z]++cur.toList.drop (i+1)).toArray) ⟨s.sl.set o [.af (.sl e (.int .u8)) (xs.set i z:List Int) own],s.bs⟩ a:=by
 obtain⟨hv,h2,dI,hle,h4,h5,h6,dx⟩:=hR
 refine⟨?_,?_⟩
 ·
  have fY:∀b,b≠g->(X.row g (cur.toList.take i++ [Value.int .u8 z]++cur.toList.drop (i+1)).toArray).w.heap[b]? =X.w.heap[b]? :=fun b hb=>setRow_other X.w g b _ hb
  have lZ:∀ad v,X0.au ad v->ad.block≠g:=fun ad v cn e0=>by
   have aK:=ak.dN cn
   have hu:=cn.2.2
   cases hw:X0.ow ad.block with
   |all=>have:=(hx.still ad.block aK (by rw[hw];trivial)).1;rw[e0,h6] at this;rw[<-e0,hw] at this;cases this
   |ro n=>have:=(hx.still ad.block aK (by rw[hw];trivial)).1;rw[e0,h6] at this;rw[<-e0,hw] at this;cases this
   |box id=>rw[hw] at hu;exact hu
   |row pl n=>exact hF _ _ _ hw
  refine⟨fun ad v cn=> ?_,?_,hx.os,hx.tape,hx.output,hx.β0,fun b hb bL=> ?_⟩
  ·have h7:=hx.au ad v cn
   refine⟨h7.1,?_,h7.2.2⟩
   have:=h7.2.1
   simp only[World.cell?] at this⊢
   rw[fY _ (lZ ad v cn)];exact this
  ·have:=hx.size
   simpa [ak.row] using this
  ·have h7:=hx.still b hb bL
   have bV:b≠g:=fun e0=>by
    have h8:=h7.1
    rw[e0,h6] at h8
    rw[e0,<-h8] at bL
    exact bL
   exact⟨h7.1,(fY b bV).trans h7.2⟩
 ·generalize fj:(cur.toList.take i++ [Value.int .u8 z]++cur.toList.drop (i+1)).toArray=new
  have iq:new.toList=cur.toList.take i++ [Value.int .u8 z]++cur.toList.drop (i+1):=by rw[<-fj]
  have cU:new.size=cur.size:=by
   have:new.toList.length=cur.toList.length:=by rw[iq];simp;omega
   simpa using this
  have aF:(X.row g new).w.heap[g]? =some (.cells new e (0,0)):=setRow_heap X.w g cur new e (0,0) h2
  refine⟨by simpa using hr.size,by simpa using hr.dP,fun j l v hl lz=> ?_,fun id B hB=> ?_,fun j l id t p hl hm=> ?_,hr.defers⟩
  ·rw[List.getElem?_set] at hl
   by_cases vl:o=j
   ·subst vl
    rw[if_pos rfl,if_pos ho] at hl
    cases hl
    have RO:a.tmps.getD o Go.undef=v:=by rw[Array.getD_eq_getD_getElem?,lz];rfl
    rw[RO] at hv
    subst hv
    refine⟨[.slice (some ⟨g,0,none⟩) xs.length c],?_,rfl,fun p hp=> ?_⟩
    ·refine aN.nO (t:= .int .u8) (List.length_set ..) hle fun j x hj=>⟨⟨g,0,none⟩,[.int .u8 x],rfl,rfl,rfl,fun k w hk=> ?_⟩
     have nD:j<xs.length:=by have:=(List.getElem?_eq_some_iff.1 hj).1;rw[List.length_set] at this;exact this
     cases k with
     |succ k=>simp at hk
     |zero=>
      have hk:Value.int .u8 x=w:=by simpa using hk
      subst hk
      refine⟨pw rfl _,?_,?_⟩
      ·rw[zr]
       show(X.row g new).w.cell? _=_
       simp only[World.cell?,aF,Ty.cells]
       rw[show 0+(j*1+0)=j by omega,<-Array.getElem?_toList,iq]
       have hj:(xs.set i z)[j]? =some x:=hj
       rw[List.getElem?_set] at hj
       have Nw:i<cur.toList.length:=by simp;omega
       by_cases Nx:i=j
       ·subst Nx
        rw[if_pos rfl,if_pos hi] at hj
        cases hj
        rw[List.append_assoc,List.getElem?_append_right (by simp;omega)]
        have:i-(cur.toList.take i).length=0:=by simp;omega
        rw[this];rfl
       ·rw[if_neg Nx] at hj
        have lW:=dI j x hj
        simp only[World.cell?,h2] at lW
        rw[<-Array.getElem?_toList] at lW
        rcases Nat.lt_or_ge j i with aK|B4
        ·rw[List.append_assoc,List.getElem?_append_left (by simp;omega),List.getElem?_take,if_pos aK]
         exact lW
        ·have Nv:i<j:=by omega
         rw[List.getElem?_append_right (by simp;omega),List.getElem?_drop]
         have:i+1+(j-(cur.toList.take i++ [Value.int .u8 z]).length)=j:=by simp;omega
         rw[this]
         exact lW
      ·rw[zr]
       show Ow.used (X.ow g) _
       rw[h6]
       show _<_
       simp only[Ty.cells]
       omega
    ·have:=dx p hp
     subst this
     refine⟨e,.int .u8,(xs.set i z:List Int),_,by simp [Ty.cS],rfl,rfl,?_⟩
     have Ro:List.length (xs.set i z)=xs.length:=List.length_set ..
     rw[Ro]
     exact .inr ⟨g,c,new,rfl,aF,hle,h4,by rw[cU,h5];simp [Ty.cells],h6⟩
   ·rw[if_neg vl] at hl
    have:=Hd lX j l hl (by omega)
    exact(hr.bh j l v hl lz).fk fun k sv u hk hu=>hu.flat (this sv (List.mem_of_getElem? hk))
  ·have:=List.all_eq_true.1 fa (some B) (List.mem_of_getElem? hB)
   cases this
  ·rw[List.getElem?_set] at hl
   by_cases vl:o=j
   ·subst vl
    rw[if_pos rfl,if_pos ho] at hl
    cases hl
    simp at hm
   ·rw[if_neg vl] at hl
    have:=Hd lX j l hl (by omega) _ hm
    cases this
theorem jv{a:Act}{d i:Nat}{v:Value}(hd:d<a.tmps.size):(a.put (some d) v).tmps.getD i Go.undef=if d=i then v else a.tmps.getD i Go.undef:=by
 simp only[Act.put,Array.getD_eq_getD_getElem?,Array.getElem?_setIfInBounds]
 split
 ·first|rfl|(rw[if_pos hd];rfl)
 ·rfl
theorem kf{a:Act}{d:Nat}{v:Value}:(a.put (some d) v).tmps.size=a.tmps.size:=by simp [Act.put]
theorem raw{ops:Array Oper}{Q:Exit->Act->World->Prop}{i d:Nat}{rest:List Nat}{a:Act}{w:World}{o:Oper}{v:Value}(hi:ops[i]? =some o)(hd:isDst o d=true)(aQ:(execOp a.eval o).run P w= .ok (.value v) w)(K:wpOps P ops Q rest (a.put (some d) v) w):wpOps P ops Q (i::rest) a w:=by
 have j8:o.dst=some d/\o.guard=none:=by
  unfold isDst at hd
  split at hd
  ·rename_i d' h1 h2
   exact⟨by rw[h1,Nat.eq_of_beq_eq_true hd],h2⟩
  ·cases hd
 rw[wpOps_cons]
 unfold wpOp
 simp only[hi]
 have hw:Region.wanted o (yielded ops a.tmps)=true:=by simp [Region.wanted,j8.2]
 rw[if_pos hw]
 refine .inl ?_
 unfold Oper.wp
 rw[aQ,Oper.upon_value,j8.1]
 exact K
theorem me{x:Operand}{i:Nat}(h:cN x i=true):x= .tmp i:=by
 unfold cN at h
 split at h
 ·rw[Nat.eq_of_beq_eq_true h]
 ·cases h
theorem Qf{T:TypeId}(h:nI E T=true):E.ty T=some (.int .u8):=by
 unfold nI at h
 split at h
 ·assumption
 ·cases h
theorem OJ{T:TypeId}(h:zR E T=true):∃e,E.ty T=some (.sl e (.int .u8)):=by
 unfold zR at h
 split at h
 ·exact⟨_,by assumption⟩
 ·cases h
theorem mf{o:Oper}{d x:Nat}(h:rQ o d x=true):isDst o d=true/\∀(a:Act) (w:World),(execOp a.eval o).run P w= .ok (.value (a.tmps.getD x Go.undef)) w:=by
 unfold rQ at h
 rw[Bool.and_eq_true] at h
 refine⟨h.1,fun a w=> ?_⟩
 have h:=h.2
 split at h
 ·rename_i y ho
  have:=me h
  subst this
  simp only[execOp,ho]
  rfl
 ·cases h
theorem zV(hE:ah P E){o:Oper}{d x:Nat}(h:isLen E o d x=true):isDst o d=true/\∀(a:Act) (w:World) A n c,a.tmps.getD x Go.undef= .slice A n c->(execOp a.eval o).run P w= .ok (.value (.int .i64 n)) w:=by
 unfold isLen at h
 rw[Bool.and_eq_true] at h
 refine⟨h.1,fun a w A n c hv=> ?_⟩
 have h:=h.2
 split at h
 ·rename_i cH ts ho
  split at h
  ·rename_i y T lA qP
   have has:cH= #[y]:=by rw[<-Array.toArray_toList (xs:=cH),lA]
   have jT:ts= #[T]:=by rw[<-Array.toArray_toList (xs:=ts),qP]
   subst has jT
   rw[Bool.and_eq_true] at h
   have:=me h.1
   subst this
   obtain⟨e,hT⟩:=OJ h.2
   have hu:=(hE.ty T _ hT).b8
   have ev:a.eval (.tmp x)= .slice A n c:=hv
   simp [execOp,ho,resolve,invoke,builtin,Builtin.len_,ev,run_underlying hu.1,goInt]
  ·cases h
 ·cases h
theorem xw{o:Oper}{d x:Nat}(h:A9 o d x=true):isDst o d=true/\∀(a:Act) (w:World) (n:Int),a.tmps.getD x Go.undef= .int .i64 n->(execOp a.eval o).run P w= .ok (.value (.int .i64 (IntKind.i64.wrap (n-1)))) w:=by
 unfold A9 at h
 rw[Bool.and_eq_true] at h
 refine⟨h.1,fun a w n hv=> ?_⟩
 have h:=h.2
 split at h
 ·rename_i T y c T' ho
  rw[Bool.and_eq_true] at h
  have:=me h.1
  subst this
  have hc:=of_decide_eq_true h.2
  subst hc
  have ev:a.eval (.tmp x)= .int .i64 n:=hv
  have ec:a.eval (.const (.int .i64 1))= .int .i64 1:=rfl
  obtain⟨sv,v,hl,vw,_,hr,_⟩:=Hy (P:=P) (op:= .sub) (T:=T) (k:= .i64) (k':= .i64) (m:=n) (n:=1) w rfl
  cases hl
  have:=pr (hr ⟨w,fun _=> .all,fun _=>none⟩ (fun _=> .r 0 []))
  subst this
  simp only[execOp,ho,Sem.run_bind,ev,ec,xj,Result.andThen_ok,vw,Sem.run_pure]
 ·cases h
theorem Qk{o:Oper}{d x y:Nat}(h:lE o d x y=true):isDst o d=true/\∀(a:Act) (w:World) (n m:Int),a.tmps.getD x Go.undef= .int .u8 n->a.tmps.getD y Go.undef= .int .u8 m->(execOp a.eval o).run P w= .ok (.value (.int .u8 (IntKind.u8.wrap (n+m)))) w:=by
 unfold lE at h
 rw[Bool.and_eq_true] at h
 refine⟨h.1,fun a w n m hv hu=> ?_⟩
 have h:=h.2
 split at h
 ·rename_i T u v T' ho
  rw[Bool.and_eq_true] at h
  have:=me h.1
  subst this
  have:=me h.2
  subst this
  have ev:a.eval (.tmp x)= .int .u8 n:=hv
  have eu:a.eval (.tmp y)= .int .u8 m:=hu
  obtain⟨sv,v,hl,vw,_,hr,_⟩:=Hy (P:=P) (op:= .add) (T:=T) (k:= .u8) (k':= .u8) (m:=n) (n:=m) w rfl
  cases hl
  have:=pr (hr ⟨w,fun _=> .all,fun _=>none⟩ (fun _=> .r 0 []))
  subst this
  simp only[execOp,ho,Sem.run_bind,ev,eu,xj,Result.andThen_ok,vw,Sem.run_pure]
 ·cases h
theorem A7(hE:ah P E){o:Oper}{d x i:Nat}(h:nH E o d x i=true):isDst o d=true/\∀(a:Act) (w:World) (g n c:Nat) (j:Int),a.tmps.getD x Go.undef= .slice (some ⟨g,0,none⟩) n c->a.tmps.getD i Go.undef= .int .i64 j->0<=j->j<n->(execOp a.eval o).run P w= .ok (.value (.pointer (some ⟨g,j.toNat,none⟩))) w:=by
 unfold nH at h
 rw[Bool.and_eq_true] at h
 refine⟨h.1,fun a w g n c j hv hj h0 h1=> ?_⟩
 have h:=h.2
 split at h
 ·rename_i T y z ho
  rw[Bool.and_eq_true,Bool.and_eq_true] at h
  have:=me h.1
  subst this
  have:=me h.2.1
  subst this
  obtain⟨e,hT⟩:=OJ h.2.2
  have hu:=(hE.ty T _ hT).b8
  have ev:a.eval (.tmp x)= .slice (some ⟨g,0,none⟩) n c:=hv
  have ei:a.eval (.tmp i)= .int .i64 j:=hj
  simp only[execOp,ho,Sem.run_bind,Instr.indexAt,ei,ev,asIntOf,Sem.run_pure,Result.andThen_ok,run_underlying hu.1,Sem.run_ite,h0,h1,and_self,if_true,zl hE hu.2]
  simp [Ty.cells,zr]
 ·cases h
theorem PD(hE:ah P E){o:Oper}{d x:Nat}(h:MQ E o d x=true):isDst o d=true/\∀(a:Act) (w:World) (g j:Nat) (y:Int),a.tmps.getD x Go.undef= .pointer (some ⟨g,j,none⟩)->w.cell? ⟨g,j,none⟩=some (.int .u8 y)->(execOp a.eval o).run P w= .ok (.value (.int .u8 y)) w:=by
 unfold MQ at h
 rw[Bool.and_eq_true] at h
 refine⟨h.1,fun a w g j y hv hc=> ?_⟩
 have h:=h.2
 split at h
 ·rename_i T z ho
  rw[Bool.and_eq_true] at h
  have:=me h.1
  subst this
  have hT:=Qf h.2
  have ev:a.eval (.tmp x)= .pointer (some ⟨g,j,none⟩):=hv
  have hl:=sg (P:=P) hE hT (X:=⟨w,fun _=> .all,fun _=>none⟩) (x:=y) (cs:=[.int .u8 y]) rfl (ad:=⟨g,j,none⟩) (w:=w) (fun k v hk=>by
   cases k with
   |zero=>rw[zr];have hk:Value.int .u8 y=v:=by simpa using hk
          rw[<-hk];exact hc
   |succ k=>simp at hk)
  simp only[execOp,ho,Sem.run_bind,Instr.loadAt,ev,Instr.sureAddr,Sem.run_pure,Result.andThen_ok,hl]
  rfl
 ·cases h
theorem D2(hE:ah P E){ops:Array Oper}{Q:Exit->Act->World->Prop}{o:Oper}{x y:Nat}(h:lD E o x y=true){k:Nat}{rest:List Nat}(hi:ops[k]? =some o){a:Act}{X:ak}{g j:Nat}{z:Int}{cur:Array Value}{T':TypeId}(hv:a.tmps.getD x Go.undef= .pointer (some ⟨g,j,none⟩))(hz:a.tmps.getD y Go.undef= .int .u8 z)(hg:X.w.heap[g]? =some (.cells cur T' (0,0)))(hj:j+1<=cur.size)
 (K:wpOps P ops Q rest (a.put none Go.undef) (X.row g (cur.toList.take j++ [Value.int .u8 z]++cur.toList.drop (j+1)).toArray).w):wpOps P ops Q (k::rest) a X.w:=by
 unfold lD at h
 rw[Bool.and_eq_true] at h
 have j8:o.dst=none/\o.guard=none:=by
  have h:=h.1
  split at h
  ·exact⟨by assumption,by assumption⟩
  ·cases h
 have h:=h.2
 rw[wpOps_cons]
 unfold wpOp
 simp only[hi]
 have hw:Region.wanted o (yielded ops a.tmps)=true:=by simp [Region.wanted,j8.2]
 rw[if_pos hw]
 refine .inl ?_
 unfold Oper.wp
 split at h
 ·rename_i T u v ho
  rw[Bool.and_eq_true,Bool.and_eq_true] at h
  have:=me h.1
  subst this
  have:=me h.2.1
  subst this
  have hT:=Qf h.2.2
  have ev:a.eval (.tmp x)= .pointer (some ⟨g,j,none⟩):=hv
  have ez:a.eval (.tmp y)= .int .u8 z:=hz
  have bL:=xk (P:=P) hE hT (X:=X) (x:=z) (cs:=[.int .u8 z]) rfl (off:=j) (w:=X.w) (r:=g) (cur:=cur) (T':=T') hg hj
  have vg:cq (.int .u8) [.int .u8 z]= .int .u8 z:=rfl
  rw[vg] at bL
  have aQ:(execOp a.eval o).run P X.w= .ok .skip (X.row g (cur.toList.take j++ [Value.int .u8 z]++cur.toList.drop (j+1)).toArray).w:=by
   simp only[execOp,ho,Sem.run_bind,Instr.storeAt,ev,Instr.sureAddr,Sem.run_pure,Result.andThen_ok,ez,bL]
   rfl
  rw[aQ,Oper.upon_skip,j8.1]
  exact K
 ·cases h
theorem Pa:∀(n m:Nat) (sl:List (List SV)),(eV n m sl).length=sl.length
 |0,m,sl=>rfl
 |n+1,m,sl=>by rw[eV,Pa n (m+1),List.length_set]
def dead(s:State)(d:Nat):State:=s.aG (some d) [.undef]
theorem Rel.dead(hr:Rel X s a)(d:Nat)(v:Value):Rel X (Ref.dead s d) (a.put (some d) v):=hr.put (fun _ _=>trivial) (fun id t p hm=>by simp at hm)
theorem Xl(hE:ah P E){X0:ak}(hF:∀g pl n,X0.ow g≠ .row pl n)(hx:Ext X0 X)(hr:Rel X s a){q:Nat×Nat×Nat}{id:Nat}{ops:Array Oper}{s':State}(h:fL E q ops.toList s some=some s'){Q:Exit->Act->World->Prop}(hQ:∀Y a',Ext X0 Y->Rel Y s' a'->Q .normal a' Y.w):(Code.region id ops false).wp P Q a X.w:=by
 obtain⟨o,x,m⟩:=q
 unfold fL at h
 simp only at h
 cases j9:MS E o x m ops.toList with
 |false=>rw[j9] at h;cases h
 |true=>
 rw[j9,cond_true] at h
 cases hb:(Nat.ble (o+1) m&&(Nat.ble (x+1) m&&(!(Nat.beq o x)&&Nat.ble (m+13) s.sl.length))) with
 |false=>rw[hb] at h;cases h
 |true=>
 rw[hb,cond_true] at h
 simp only[Bool.and_eq_true,Bool.not_eq_true',Nat.ble_eq] at hb
 obtain⟨hom,hxm,hox,rY⟩:=hb
 split at h
 case h_2=>cases h
 rename_i et xs own y Tz eA Cn
 cases bm:hN own [] with
 |false=>rw[bm] at h;cases h
 |true=>
 rw[bm,cond_true] at h
 cases lX:(fA o 0 (eV 13 m s.sl)&&s.bs.all Option.isNone) with
 |false=>rw[lX] at h;cases h
 |true=>
 rw[lX,cond_true] at h
 rw[Bool.and_eq_true] at lX
 obtain⟨h0,h1,h⟩:=pu h
 cases h
 generalize hj:IntKind.i64.wrap ((List.length xs:Int)-1)=j at h0 h1
 have hi:j.toNat<xs.length:=by omega
 obtain⟨g,c,cur,hR⟩:=D0 hr eA bm hi
 have dq:m+13<=a.tmps.size:=by rw[<-hr.size];exact rY
 have hy:a.tmps.getD x Go.undef= .int .u8 y:=by
  have eQ:=hr.slot x
  rw[Cn] at eQ
  exact pr (show ar X (.c x 0) (.af (.int .u8) y Tz) _ from eQ)
 have Rh:xs[j.toNat]? =some (xs.getD j.toNat 0):=by rw[List.getD_eq_getElem?_getD,List.getElem?_eq_getElem hi];rfl
 have nA:=hR.cell _ _ Rh
 unfold MS at j9
 split at j9
 case h_2=>cases j9
 rename_i o0 o1 o2 o3 o4 o5 o6 o7 o8 o9 CN CX C8 Dj iu
 simp only[Bool.and_eq_true] at j9
 obtain⟨k0,k1,k2,k3,k4,k5,k6,k7,k8,k9,NL,NM,NN,R3⟩:=j9
 have bN:∀i,ops[i]? =([o0,o1,o2,o3,o4,o5,o6,o7,o8,o9,CN,CX,C8,Dj]:List Oper)[i]? :=fun i=>by rw[<-Array.getElem?_toList,iu]
 have bF:ops.size=14:=by rw[<-Array.length_toList,iu];rfl
 refine wp_region ?_
 rw[bF,show List.range 14=[0,1,2,3,4,5,6,7,8,9,10,11,12,13] from rfl]
 have vo:=hR.val
 generalize q9:(Value.slice (some ⟨g,0,none⟩) xs.length c)=vs at vo
 refine raw (bN 0) (mf (P:=P) k0).1 ((mf k0).2 a X.w) ?_
 rw[vo]
 have e1:=fun i=>jv (i:=i) (v:=vs) (show m<a.tmps.size by omega)
 have r1:=hr.dead m vs
 generalize Rt:a.put (some m) vs=a1 at e1 r1
 have z1:a1.tmps.size=a.tmps.size:=by rw[<-Rt,kf]
 refine raw (bN 1) (mf (P:=P) k1).1 ((mf k1).2 a1 X.w) ?_
 rw[e1,if_neg (by omega),vo]
 have e2:=fun i=>jv (a:=a1) (i:=i) (v:=vs) (show m+1<a1.tmps.size by omega)
 have r2:=r1.dead (m+1) vs
 generalize Rv:a1.put (some (m+1)) vs=a2 at e2 r2
 have z2:a2.tmps.size=a.tmps.size:=by rw[<-Rv,kf,z1]
 refine raw (bN 2) (zV hE k2).1 ((zV hE k2).2 a2 X.w _ _ _ (by rw[e2,if_pos rfl];exact q9.symm)) ?_
 have e3:=fun i=>jv (a:=a2) (i:=i) (v:= .int .i64 (xs.length:Nat)) (show m+2<a2.tmps.size by omega)
 have r3:=r2.dead (m+2) (.int .i64 (xs.length:Nat))
 generalize Rw:a2.put (some (m+2)) (.int .i64 (xs.length:Nat))=a3 at e3 r3⊢
 have z3:a3.tmps.size=a.tmps.size:=by rw[<-Rw,kf,z2]
 refine raw (bN 3) (xw (P:=P) k3).1 ((xw k3).2 a3 X.w _ (by rw[e3,if_pos rfl])) ?_
 rw[hj]
 have e4:=fun i=>jv (a:=a3) (i:=i) (v:= .int .i64 j) (show m+3<a3.tmps.size by omega)
 have r4:=r3.dead (m+3) (.int .i64 j)
 generalize Rx:a3.put (some (m+3)) (.int .i64 j)=a4 at e4 r4⊢
 have z4:a4.tmps.size=a.tmps.size:=by rw[<-Rx,kf,z3]
 have q4:∀i,i<m->a4.tmps.getD i Go.undef=a.tmps.getD i Go.undef:=fun i hi=>by rw[e4,if_neg (by omega),e3,if_neg (by omega),e2,if_neg (by omega),e1,if_neg (by omega)]
 have qm:a4.tmps.getD m Go.undef=vs:=by rw[e4,if_neg (by omega),e3,if_neg (by omega),e2,if_neg (by omega),e1,if_pos rfl]
 refine raw (bN 4) (mf (P:=P) k4).1 ((mf k4).2 a4 X.w) ?_
 rw[q4 o (by omega),vo]
 have e5:=fun i=>jv (a:=a4) (i:=i) (v:=vs) (show m+4<a4.tmps.size by omega)
 have r5:=r4.dead (m+4) vs
 generalize Ry:a4.put (some (m+4)) vs=a5 at e5 r5⊢
 have z5:a5.tmps.size=a.tmps.size:=by rw[<-Ry,kf,z4]
 refine raw (bN 5) (mf (P:=P) k5).1 ((mf k5).2 a5 X.w) ?_
 rw[e5,if_neg (by omega),q4 o (by omega),vo]
 have e6:=fun i=>jv (a:=a5) (i:=i) (v:=vs) (show m+5<a5.tmps.size by omega)
 have r6:=r5.dead (m+5) vs
 generalize Rz:a5.put (some (m+5)) vs=a6 at e6 r6⊢
 have z6:a6.tmps.size=a.tmps.size:=by rw[<-Rz,kf,z5]
 refine raw (bN 6) (zV hE k6).1 ((zV hE k6).2 a6 X.w _ _ _ (by rw[e6,if_pos rfl];exact q9.symm)) ?_
 have e7:=fun i=>jv (a:=a6) (i:=i) (v:= .int .i64 (xs.length:Nat)) (show m+6<a6.tmps.size by omega)
 have r7:=r6.dead (m+6) (.int .i64 (xs.length:Nat))
 generalize RA:a6.put (some (m+6)) (.int .i64 (xs.length:Nat))=a7 at e7 r7⊢
 have z7:a7.tmps.size=a.tmps.size:=by rw[<-RA,kf,z6]
 refine raw (bN 7) (xw (P:=P) k7).1 ((xw k7).2 a7 X.w _ (by rw[e7,if_pos rfl])) ?_
 rw[hj]
 have e8:=fun i=>jv (a:=a7) (i:=i) (v:= .int .i64 j) (show m+7<a7.tmps.size by omega)
 have r8:=r7.dead (m+7) (.int .i64 j)
 generalize RB:a7.put (some (m+7)) (.int .i64 j)=a8 at e8 r8⊢
 have z8:a8.tmps.size=a.tmps.size:=by rw[<-RB,kf,z7]
 have q8:∀i,i<=m+3->a8.tmps.getD i Go.undef=a4.tmps.getD i Go.undef:=fun i hi=>by rw[e8,if_neg (by omega),e7,if_neg (by omega),e6,if_neg (by omega),e5,if_neg (by omega)]
 refine raw (bN 8) (A7 hE k8).1 ((A7 hE k8).2 a8 X.w g xs.length c j (by rw[e8,if_neg (by omega),e7,if_neg (by omega),e6,if_neg (by omega),e5,if_pos rfl];exact q9.symm) (by rw[e8,if_pos rfl]) h0 h1) ?_
 have e9:=fun i=>jv (a:=a8) (i:=i) (v:= .pointer (some ⟨g,j.toNat,none⟩)) (show m+8<a8.tmps.size by omega)
 have r9:=r8.dead (m+8) (.pointer (some ⟨g,j.toNat,none⟩))
 generalize RC:a8.put (some (m+8)) (.pointer (some ⟨g,j.toNat,none⟩))=a9 at e9 r9⊢
 have z9:a9.tmps.size=a.tmps.size:=by rw[<-RC,kf,z8]
 refine raw (bN 9) (PD hE k9).1 ((PD hE k9).2 a9 X.w g j.toNat _ (by rw[e9,if_pos rfl]) nA) ?_
 generalize RR:xs.getD j.toNat 0=wx
 have wR:=fun i=>jv (a:=a9) (i:=i) (v:= .int .u8 wx) (show m+9<a9.tmps.size by omega)
 have dW:=r9.dead (m+9) (.int .u8 wx)
 generalize Cg:a9.put (some (m+9)) (.int .u8 wx)=qz at wR dW⊢
 have TS:qz.tmps.size=a.tmps.size:=by rw[<-Cg,kf,z9]
 refine raw (bN 10) (mf (P:=P) NL).1 ((mf NL).2 qz X.w) ?_
 rw[wR,if_neg (by omega),e9,if_neg (by omega),q8 x (by omega),q4 x (by omega),hy]
 have wS:=fun i=>jv (a:=qz) (i:=i) (v:= .int .u8 y) (show m+10<qz.tmps.size by omega)
 have fJ:=dW.dead (m+10) (.int .u8 y)
 generalize Ch:qz.put (some (m+10)) (.int .u8 y)=qA at wS fJ⊢
 have TT:qA.tmps.size=a.tmps.size:=by rw[<-Ch,kf,TS]
 refine raw (bN 11) (Qk (P:=P) NM).1 ((Qk NM).2 qA X.w wx y (by rw[wS,if_neg (by omega),wR,if_pos rfl]) (by rw[wS,if_pos rfl])) ?_
 generalize RS:IntKind.u8.wrap (wx+y)=wz
 have BK:=fun i=>jv (a:=qA) (i:=i) (v:= .int .u8 wz) (show m+11<qA.tmps.size by omega)
 have gV:=fJ.dead (m+11) (.int .u8 wz)
 generalize Ci:qA.put (some (m+11)) (.int .u8 wz)=a12 at BK gV⊢
 have z12:a12.tmps.size=a.tmps.size:=by rw[<-Ci,kf,TT]
 have Dt:∀i,i<=m+3->a12.tmps.getD i Go.undef=a4.tmps.getD i Go.undef:=fun i hi=>by rw[BK,if_neg (by omega),wS,if_neg (by omega),wR,if_neg (by omega),e9,if_neg (by omega),q8 i hi]
 refine raw (bN 12) (A7 hE NN).1 ((A7 hE NN).2 a12 X.w g xs.length c j (by rw[Dt m (by omega),qm];exact q9.symm) (by rw[Dt (m+3) (by omega),e4,if_pos rfl]) h0 h1) ?_
 have wT:=fun i=>jv (a:=a12) (i:=i) (v:= .pointer (some ⟨g,j.toNat,none⟩)) (show m+12<a12.tmps.size by omega)
 have gW:=gV.dead (m+12) (.pointer (some ⟨g,j.toNat,none⟩))
 generalize Ru:a12.put (some (m+12)) (.pointer (some ⟨g,j.toNat,none⟩))=uP at wT gW⊢
 have BP:hZ X uP o et xs own g c cur:=⟨by rw[wT,if_neg (by omega),Dt o (by omega),q4 o (by omega),hR.val],hR.heap,hR.cell,hR.le,hR.most,hR.size,hR.ow,hR.own⟩
 refine D2 hE R3 (bN 13) (by rw[wT,if_pos rfl]) (by rw[wT,if_neg (by omega),BK,if_pos rfl]) hR.heap (by rw[hR.size];have:=hR.le;omega) ?_
 have Cm:Rel X ⟨eV 13 m s.sl,s.bs⟩ uP:=gW
 obtain⟨hX,aY⟩:=Y4 hF hx Cm (by rw[Pa];omega) lX.1 lX.2 BP hi wz
 have B3:=hQ _ uP hX (by
  unfold pk
  rw[hj,RR,RS]
  exact aY)
 exact B3
end Go.Ref

namespace Go.Ref
open Go
variable {P:Program} {E:Env} {X:ak} {s:State} {a:Act}
structure ib(X Y:ak)(g0:Nat):Prop where
 heap:∀b,b≠g0->Y.w.heap[b]? =X.w.heap[b]?
 ow:Y.ow=X.ow
 β:Y.β=X.β
theorem ib.au{Y:ak}{g0:Nat}(h:ib X Y g0){ad:Addr}{v:Value}(bV:ad.block≠g0)(hs:X.au ad v):Y.au ad v:=by
 refine⟨hs.1,?_,?_⟩
 ·have:=hs.2.1
  simp only[World.cell?] at this⊢
  rw[h.heap _ bV];exact this
 ·rw[h.ow];exact hs.2.2
theorem Qc{own:List (List Nat)}{p:List Nat}(h:hN own p=true):p∈own:=by
 unfold hN at h
 obtain⟨q,h1,h2⟩:=List.any_eq_true.1 h
 have:q=p:=by simpa using h2
 rw[<-this];exact h1
def NO(pl:List Nat->Place):List Nat->Place
 |j::p=>pl ((j+1)::p)
 | []=>pl []
theorem Y1{pl:List Nat->Place}{a b:Ty}{x:El (.pair a b)}{c1 c2:List Value}{own:List (List Nat)}(hr:aN X a x.1 c1)(h:aU X pl (.pair a b) x (c1++c2) own):aU X (fun p=>pl (0::p)) a x.1 c1 (z87 own [0]):=fun p hp=>by
 unfold z87 at hp
 obtain⟨q,hq,rfl⟩:=List.mem_map.1 hp
 obtain⟨hq,c8⟩:=List.mem_filter.1 hq
 match q,c8 with
 |0::q,_=>
  obtain⟨e,t',xs,v,g0,g1,g2,g3⟩:=h (0::q) hq
  have g2:(c1++c2)[a.off q]? =some v:=g2
  refine⟨e,t',xs,v,g0,g1,?_,g3⟩
  show c1[a.off q]? =some v
  rw[<-g2,List.getElem?_append_left]
  obtain⟨_,k2,_⟩:=wu hr (show a.cS q from g0) (show El.get a q x.1=_ from g1)
  have k2:a.off q+1<=a.cells:=k2
  have:=hr.len
  omega
 | [],c8=>simp at c8
 |(j+1)::q,c8=>simp at c8
theorem Y2{pl:List Nat->Place}{a b:Ty}{x:El (.pair a b)}{c1 c2:List Value}{own:List (List Nat)}(hl:c1.length=a.cells)(h:aU X pl (.pair a b) x (c1++c2) own):aU X (NO pl) b x.2 c2 (nt own):=fun p hp=>by
 unfold nt at hp
 obtain⟨q,hq,he⟩:=List.mem_filterMap.1 hp
 match q,he with
 |(j+1)::q,he=>
  cases he
  obtain⟨e,t',xs,v,g0,g1,g2,g3⟩:=h ((j+1)::q) hq
  refine⟨e,t',xs,v,g0,g1,?_,g3⟩
  have g2:(c1++c2)[a.cells+b.off (j::q)]? =some v:=g2
  rw[List.getElem?_append_right (by omega)] at g2
  rw[<-g2]
  congr 1
  omega
 | [],he=>cases he
 |0::q,he=>cases he
theorem aU.vP{Y:ak}{g0:Nat}(h:ib X Y g0){pl:List Nat->Place}(eF:∀p n,X.ow g0≠ .row (pl p) n){t:Ty}{x:El t}{cs:List Value}{own:List (List Nat)}(ho:aU X pl t x cs own):aU Y pl t x cs own:=fun p hp=>by
 obtain⟨e,t',xs,v,k0,k1,k2,k3⟩:=ho p hp
 refine⟨e,t',xs,v,k0,k1,k2,?_⟩
 rcases k3 with ho|⟨g,cap,cur,h1,h2,h3,h4,h5,h6⟩
 ·exact .inl ho
 ·have bV:g≠g0:=fun e=>eF p _ (e▸h6)
  exact .inr ⟨g,cap,cur,h1,(h.heap g bV).trans h2,h3,h4,h5,by rw[h.ow];exact h6⟩
theorem aN.bH{Y:ak}{g0:Nat}(h:ib X Y g0):∀{t:Ty} {x:El t} {cs:List Value} {own:List (List Nat)} {pl:List Nat->Place},(∀p n,X.ow g0≠ .row (pl p) n)->t.bH own=true->aN X t x cs->aU X pl t x cs own->aN Y t x cs
 | .bool,_,_,_,_,_,_,hr,_=>hr
 | .int _,_,_,_,_,_,_,hr,_=>hr
 | .str,_,_,_,_,_,_,hr,_=>hr
 | .unit,_,_,_,_,_,_,hr,_=>hr
 | .aP _ _ _,_,_,_,_,_,hs,_,_=>by cases hs
 | .arr n t,xs,cs,own,pl,_,hs,hr,_=>aN.flat (t:= .arr n t) (show t.flat=true from hs) hr
 | .pair a b,x,cs,own,pl,eF,hs,hr,ho=>by
   have hs:(a.bH (z87 own [0])&&b.bH (nt own))=true:=hs
   rw[Bool.and_eq_true] at hs
   obtain⟨c1,c2,h1,h2,h3⟩:=hr
   subst h1
   exact⟨c1,c2,rfl,aN.bH h (pl:=fun p=>pl (0::p)) (fun p n=>eF _ n) hs.1 h2 (Y1 h2 ho),aN.bH h (pl:=NO pl) (fun p n=>by cases p<;>exact eF _ n) hs.2 h3 (Y2 h2.len ho)⟩
 | .sl e t,xs,cs,own,pl,eF,hs,hr,ho=>by
   have hs:(t.flat&&hN own [])=true:=hs
   rw[Bool.and_eq_true] at hs
   obtain⟨A,c,di,hle,cT⟩:=hr
   subst di
   refine⟨A,c,rfl,hle,fun j x hj=> ?_⟩
   obtain⟨ad,cI,e1,e2,e3,e4⟩:=cT j x hj
   subst e1
   refine⟨ad,cI,rfl,e2,e3.flat hs.1,fun i v hi=>h.au ?_ (e4 i v hi)⟩
   obtain⟨e1,t1,N7,v1,_,hg,hc,bz⟩:=ho [] (Qc hs.2)
   simp only[El.get,Option.some.injEq] at hg
   cases hg
   have oW:v1= .slice (some ad) xs.length c:=by
    have:([Value.slice (some ad) xs.length c]:List Value)[0]? =some v1:=hc
    simpa using this.symm
   subst oW
   rcases bz with⟨h0,_⟩|⟨g,cap,cur,h1,h2,h3,h4,h5,h6⟩
   ·cases h0
   ·injection h1 with k1 k2 k3
    cases k1
    rw[zr]
    intro e
    have e:g=g0:=e
    exact eF [] _ (e▸h6)
theorem ar.bH{Y:ak}{g0:Nat}(h:ib X Y g0){pl:List Nat->Place}(eF:∀p n,X.ow g0≠ .row (pl p) n){bs:List (Option aX)}{sv:SV}{v:Value}(hs:sv.bH bs=true)(hr:ar X pl sv v):ar Y pl sv v:=by
 cases sv with
 |af t x own=>
  obtain⟨cs,h1,h2,h3⟩:=hr
  exact⟨cs,h1.bH h eF hs h3,h2,h3.vP h eF⟩
 |undef=>trivial
 |skip=>exact hr
 |bK=>exact hr
 |dL=>exact hr
 |over=>exact hr
 |ptr id t p=>
  obtain⟨r,h1,h2⟩:=hr
  exact⟨r,by rw[h.β];exact h1,h2⟩
 |_=>cases hs
theorem U4{bs:List (Option aX)}{id:Nat}{B:aX}(h:(bs.map Bb)[id]? =some (some B)):bs[id]? =some (some B)/\B.bH=true:=by
 rw[List.getElem?_map] at h
 obtain⟨b0,h0,h1⟩:=Option.map_eq_some_iff.1 h
 cases b0 with
 |none=>cases h1
 |some B0=>
  unfold Bb at h1
  simp only at h1
  cases hb:B0.bH with
  |false=>rw[hb] at h1;cases h1
  |true=>rw[hb] at h1;cases h1;exact⟨h0,hb⟩
structure Bd(X:ak)(o:Nat)(e:TypeId)(k n:Nat)(v:Value)(g c:Nat)(cur:Array Value):Prop where
 val:v= .slice (some ⟨g,0,none⟩) n c
 heap:X.w.heap[g]? =some (.cells cur e (0,0))
 le:n<=c
 size:cur.size=c*k
 ow:X.ow g= .row (.c o 0 []) (n*k)
theorem vI{o:Nat}{e:TypeId}{t:Ty}{xs:List (El t)}{own:List (List Nat)}(hr:Rel X s a)(hs:s.slot o=[.af (.sl e t) xs own])(bm:hN own []=true){i:Nat}(hi:i<xs.length):∃g c cur,Bd X o e t.cells xs.length (a.tmps.getD o Go.undef) g c cur:=by
 have eQ:=hr.slot o
 rw[hs] at eQ
 obtain⟨cs,aJ,hv,hO⟩:=(show ar X (.c o 0) (.af (.sl e t) xs own) (a.tmps.getD o Go.undef) from eQ)
 obtain⟨e1,t1,N7,v1,_,hg,hc,bz⟩:=hO [] (Qc bm)
 simp only[El.get,Option.some.injEq] at hg
 cases hg
 obtain⟨A,c,di,hle,cT⟩:=aJ
 subst di
 have hv:a.tmps.getD o Go.undef= .slice A xs.length c:=hv
 have oW:v1= .slice A xs.length c:=by
  have:([Value.slice A xs.length c]:List Value)[0]? =some v1:=hc
  simpa using this.symm
 subst oW
 rcases bz with⟨_,h0⟩|⟨g,cap,cur,h1,h2,h3,h4,h5,h6⟩
 ·have h0:List.length xs=0:=h0
  omega
 injection h1 with k1 k2 k3
 subst k1 k3
 exact⟨g,c,cur,hv,h2,hle,h5,h6⟩
theorem PM{g:Nat}{new:Array Value}:ib X (X.row g new) g:=⟨fun b hb=>setRow_other X.w g b _ hb,rfl,rfl⟩
theorem Y7{X0:ak}(hF:∀g pl n,X0.ow g≠ .row pl n)(hx:Ext X0 X){g m:Nat}{pl:Place}{new:Array Value}(how:X.ow g= .row pl m):Ext X0 (X.row g new):=by
 have fY:∀b,b≠g->(X.row g new).w.heap[b]? =X.w.heap[b]? :=fun b hb=>setRow_other X.w g b _ hb
 have lZ:∀ad v,X0.au ad v->ad.block≠g:=fun ad v cn e0=>by
  have aK:=ak.dN cn
  have hu:=cn.2.2
  cases hw:X0.ow ad.block with
  |all=>have:=(hx.still ad.block aK (by rw[hw];trivial)).1;rw[e0,how] at this;rw[<-e0,hw] at this;cases this
  |ro n=>have:=(hx.still ad.block aK (by rw[hw];trivial)).1;rw[e0,how] at this;rw[<-e0,hw] at this;cases this
  |box id=>rw[hw] at hu;exact hu
  |row pl n=>exact hF _ _ _ hw
 refine⟨fun ad v cn=>PM.au (lZ ad v cn) (hx.au ad v cn),?_,hx.os,hx.tape,hx.output,hx.β0,fun b hb bL=> ?_⟩
 ·have:=hx.size
  simpa [ak.row] using this
 ·have h7:=hx.still b hb bL
  have bV:b≠g:=fun e0=>by
   have h8:=h7.1
   rw[e0,how] at h8
   rw[e0,<-h8] at bL
   exact bL
  exact⟨h7.1,(fY b bV).trans h7.2⟩
theorem Xg(hr:Rel X s a){x g m:Nat}{new:Array Value}(how:X.ow g= .row (.c x 0 []) m):Rel (X.row g new) (s.bH x) a:=by
 have hB:ib X (X.row g new) g:=PM
 refine⟨by simpa [State.bH] using hr.size,by simpa [State.bH] using hr.dP,fun j l v hl hv=> ?_,fun id B hb=> ?_,fun j l id t p hl hm=> ?_,hr.defers⟩
 ·simp only[State.bH,List.getElem?_map] at hl
  obtain⟨l0,h0,rfl⟩:=Option.map_eq_some_iff.1 hl
  unfold hold
  cases dx:l0.all (SV.bH s.bs) with
  |false=>trivial
  |true=>
   rw[cond_true]
   rw[List.getElem?_set] at h0
   by_cases Cr:x=j
   ·subst Cr
    rw[if_pos rfl] at h0
    split at h0
    ·cases h0;trivial
    ·cases h0
   ·rw[if_neg Cr] at h0
    exact(hr.bh j l0 v h0 hv).fk fun k sv u hk hu=>hu.bH hB (fun p n e=>by rw[how] at e;injection e with e _;injection e with e _;exact Cr e) (List.all_eq_true.1 dx sv (List.mem_of_getElem? hk))
 ·obtain⟨h1,h2⟩:=U4 hb
  obtain⟨r,k1,k2⟩:=hr.boxes id B h1
  unfold aX.bH at h2
  rw[Bool.and_eq_true] at h2
  have cU:B.t.bf=false:=by simpa using h2.1
  obtain⟨cs,T,aF,aJ,iv,bm⟩:=k2.cells cU
  have bV:r≠g:=fun e=>by rw[e,how] at iv;cases iv
  have eF:∀p n,X.ow g≠ .row (.b id p) n:=fun p n e=>by rw[how] at e;injection e with e _;cases e
  exact⟨r,k1,by rw[hB.ow];exact iv,ci.of cU ((hB.heap r bV).trans aF) (aJ.bH hB eF h2.2 bm) (bm.vP hB eF)⟩
 ·simp only[State.bH,List.getElem?_map] at hl
  obtain⟨l0,h0,rfl⟩:=Option.map_eq_some_iff.1 hl
  unfold hold at hm
  cases dx:l0.all (SV.bH s.bs) with
  |false=>rw[dx] at hm;simp at hm
  |true=>
   rw[dx,cond_true] at hm
   have h1:=List.all_eq_true.1 dx _ hm
   unfold SV.bH at h1
   simp only at h1
   split at h1
   case h_2=>cases h1
   rename_i B hB
   have hb:=ke (s:=s) hB
   exact⟨B,by simp only[State.bH,List.getElem?_map,hb,Option.map_some,Bb,h1,cond_true]⟩
theorem OK{α:Type}:∀{l r:List α} {x y:α},zS l=some (r,x,y)->l=r++ [x,y]
 | [],_,_,_,h=>by cases h
 | [_],_,_,_,h=>by cases h
 | [a,b],_,_,_,h=>by cases h;rfl
 |a::b::c::r,_,_,_,h=>by
  simp only[zS] at h
  split at h
  case h_2=>cases h
  rename_i l x y hl
  cases h
  have:=OK (l:=b::c::r) hl
  rw[this];rfl
theorem PN(hE:ah P E){C:ae}(hC:C.Nat)(hf:∀f,bX P C f){ops:Array Oper}{s':State}{Q:Exit->Act->World->Prop}{rest:List Nat}:∀(l:List Nat) (X:ak) (s:State) (a:Act),Rel X s a->(∀i∈l,i<ops.size)->
 steps E (C State) ops.toList (l.map fun i=>ops.getD i default) s some=some s'->(∀Y a',Ext X Y->Rel Y s' a'->wpOps P ops Q rest a' Y.w)->wpOps P ops Q (l++rest) a X.w
 | [],X,s,a,hr,_,h,hQ=>by
   cases h
   exact hQ X a (Ext.refl X) hr
 |i::r,X,s,a,hr,hl,h,hQ=>by
  simp only[List.map_cons,steps] at h
  obtain⟨s1,h1,h2⟩:=zs (HH hC (F:=fun s=>steps E (C State) ops.toList (r.map fun i=>ops.getD i default) s some) (G:=some) (K:=fun s=>steps E (C State) ops.toList (r.map fun i=>ops.getD i default) s some) (fun _=>rfl)) h
  have hi:ops[i]? =some (ops.getD i default):=by
   have:=hl i (by simp)
   simp [this]
  rw[List.cons_append,wpOps_cons]
  refine LU hE hr hC hf hi h1 fun Y a' aT aY=> ?_
  exact PN hE hC hf r Y s1 a' aY (fun j hj=>hl j (List.mem_cons_of_mem _ hj)) h2 fun Z a2 bp cg=>hQ Z a2 (aT.trans bp) cg
theorem Y3(hE:ah P E){X0:ak}(hF:∀g pl n,X0.ow g≠ .row pl n)(hx:Ext X0 X)(hr:Rel X s a){ops:Array Oper}{k l:Nat}{oA oS:Oper}(hA:ops[k]? =some oA)(hS:ops[l]? =some oS){s':State}(h:ep E oA oS s some=some s'){Q:Exit->Act->World->Prop}(hQ:∀Y a',Ext X0 Y->Rel Y s' a'->Q .normal a' Y.w):wpOps P ops Q [k,l] a X.w:=by
 unfold ep at h
 split at h
 case h_2=>cases h
 rename_i T x i T' d vo Rq Rr
 cases j9:(isDst oA d&&(!(Nat.beq x d)&&lH oS)) with
 |false=>rw[j9] at h;cases h
 |true=>
 rw[j9,cond_true] at h
 rw[Bool.and_eq_true,Bool.and_eq_true] at j9
 obtain⟨hd,Cq,j8⟩:=j9
 have j8:oS.dst=none/\oS.guard=none:=by
  unfold lH at j8
  split at j8
  ·exact⟨by assumption,by assumption⟩
  ·cases j8
 have Cq:x≠d:=fun e=>by rw[e] at Cq;simp at Cq
 unfold lK at h
 split at h
 case h_2=>cases h
 rename_i e t xs own Cn
 cases hb:hN own [] with
 |false=>rw[hb] at h;cases h
 |true=>
 rw[hb,cond_true] at h
 split at h
 case h_2=>cases h
 rename_i u w hT oL
 cases hu:(u.bE (.sl e t)&&(w.bE t&&Nat.ble (d+1) s.sl.length)) with
 |false=>rw[hu] at h;cases h
 |true=>
 rw[hu,cond_true] at h
 rw[Bool.and_eq_true,Bool.and_eq_true] at hu
 have:=Ty.aH hu.1
 subst this
 have:=Ty.aH hu.2.1
 subst this
 have QY:d<a.tmps.size:=by rw[<-hr.size];exact Nat.le_of_ble_eq_true hu.2.2
 obtain⟨n,kk,h,hn⟩:=HE h
 obtain⟨y,h,hy⟩:=zi h
 obtain⟨h0,h1,h⟩:=pu h
 cases h
 have hi:n.toNat<xs.length:=by omega
 obtain⟨g,c,cur,hR⟩:=vI hr Cn hb hi
 have dy:=hn X _ _ (hr.ax i)
 have hU:=hE.ty T _ hT
 have ev:a.eval (.tmp x)= .slice (some ⟨g,0,none⟩) xs.length c:=hR.val
 have vu:(execOp a.eval oA).run P X.w= .ok (.value (.pointer (some ⟨g,n.toNat*w.cells,none⟩))) X.w:=by
  have aK:n<(xs.length:Int):=h1
  simp only[execOp,Rq,Sem.run_bind,Instr.indexAt,dy,ev,asIntOf,Sem.run_pure,Result.andThen_ok,run_underlying hU.b8.1,Sem.run_ite,h0,aK,and_self,if_true,zl hE hU.b8.2]
  simp [zr]
 refine raw hA hd vu ?_
 have dQ:Rel X (s.aG (some d) [.undef]) (a.put (some d) (.pointer (some ⟨g,n.toNat*w.cells,none⟩))):=hr.put (fun _ _=>trivial) (fun id t p hm=>by simp at hm)
 have Nc:(a.put (some d) (.pointer (some ⟨g,n.toNat*w.cells,none⟩))).eval (.tmp d)= .pointer (some ⟨g,n.toNat*w.cells,none⟩):=by
  show(a.put (some d) _).tmps.getD d Go.undef=_
  rw[jv QY,if_pos rfl]
 generalize a.put (some d) (.pointer (some ⟨g,n.toNat*w.cells,none⟩))=a1 at dQ Nc⊢
 obtain⟨cs,gY,BM⟩:=hy X _ _ (dQ.ax vo)
 have hle:(n.toNat+1)*w.cells<=c*w.cells:=Nat.mul_le_mul_right _ (by have:=hR.le;omega)
 rw[Nat.add_mul,Nat.one_mul] at hle
 have bL:=xk (P:=P) hE oL gY (r:=g) (off:=n.toNat*w.cells) (w:=X.w) hR.heap (by rw[hR.size];exact hle)
 rw[wpOps_cons]
 unfold wpOp
 simp only[hS]
 have hw:Region.wanted oS (yielded ops a1.tmps)=true:=by simp [Region.wanted,j8.2]
 rw[if_pos hw]
 refine .inl ?_
 unfold Oper.wp
 generalize fj:(cur.toList.take (n.toNat*w.cells)++cs++cur.toList.drop (n.toNat*w.cells+cs.length)).toArray=new at bL
 have aQ:(execOp a1.eval oS).run P X.w= .ok .skip (X.row g new).w:=by
  simp only[execOp,Rr,Sem.run_bind,Instr.storeAt,Nc,Instr.sureAddr,Sem.run_pure,Result.andThen_ok,BM,bL]
  rfl
 rw[aQ,Oper.upon_skip,j8.1]
 exact hQ _ a1 (Y7 hF hx hR.ow) (Xg dQ hR.ow)
theorem Xb(hE:ah P E){C:ae}(hC:C.Nat)(hf:∀f,bX P C f){X0:ak}(hF:∀g pl n,X0.ow g≠ .row pl n)(hx:Ext X0 X)(hr:Rel X s a){id:Nat}{ops:Array Oper}{s':State}(h:fH E (C State) ops.toList s some=some s'){Q:Exit->Act->World->Prop}(hQ:∀Y a',Ext X0 Y->Rel Y s' a'->Q .normal a' Y.w):(Code.region id ops false).wp P Q a X.w:=by
 unfold fH at h
 split at h
 case h_2=>cases h
 rename_i l oA oS hl
 obtain⟨s1,h1,h2⟩:=zs (wc hC (F:=fun s=>ep E oA oS s some) (G:=some) (K:=fun s=>ep E oA oS s some) (fun _=>rfl) l s) h
 have iu:=OK hl
 have bF:ops.size=l.length+2:=by rw[<-Array.length_toList,iu];simp
 refine wp_region ?_
 have ix:List.range ops.size=List.range l.length++ [l.length,l.length+1]:=by
  rw[bF,List.range_succ,List.range_succ,List.append_assoc];rfl
 rw[ix]
 have hA:ops[l.length]? =some oA:=by rw[<-Array.getElem?_toList,iu,List.getElem?_append_right (Nat.le_refl _),Nat.sub_self];rfl
 have hS:ops[l.length+1]? =some oS:=by rw[<-Array.getElem?_toList,iu,List.getElem?_append_right (by omega),Nat.add_sub_cancel_left];rfl
 have jS:(List.range l.length).map (fun i=>ops.getD i default)=l:=by
  apply List.ext_getElem?
  intro i
  rw[List.getElem?_map]
  by_cases hi:i<l.length
  ·have h3:ops[i]? =l[i]? :=by rw[<-Array.getElem?_toList,iu,List.getElem?_append_left hi]
   have h4:i<ops.size:=by omega
   rw[List.getElem?_range hi,<-h3]
   simp [h4]
  ·rw[List.getElem?_eq_none (by simpa using hi),List.getElem?_eq_none (by omega)];rfl
 refine PN hE hC hf (List.range l.length) X s a hr (fun i hi=>by have:=List.mem_range.1 hi;omega) (by rw[jS];exact h1) fun Y a' aT aY=> ?_
 exact Y3 hE hF (hx.trans aT) aY hA hS h2 hQ
end Go.Ref

namespace Go.Ref
open Go
variable {P:Program} {E:Env} {X:ak} {s:State} {a:Act}
def Ex.exit':Ex->Exit
 | .normal=> .normal
 | .exit id=> .exit id
 | .ret=> .ret
theorem Xq{Q:Exit->Act->World->Prop}{c:Code}(I:Nat->Act->World->Prop)(round:∀n a w,I n a w->∃m,n=m+1/\c.wp P (Exit.then (I m) Q) a w){n:Nat}{a:Act}{w:World}(h₀:I n a w):(Code.loop c).wp P Q a w:=by
 intro b k cs
 have key:∀n a w,I n a w->∃e a' w',Q e a' w'/\Arrives P (lone (b.at a (.code c:: .inLoop c::k)) cs w) b k cs e a' w':=by
  intro n
  induction n with
  |zero=>intro a w h;obtain⟨m,hm,_⟩:=round 0 a w h;cases hm
  |succ n ih=>
   intro a w h
   obtain⟨m,hm,hr⟩:=round (n+1) a w h
   cases hm
   obtain⟨e,a₁,w₁,hq,gE⟩:=hr b (.inLoop c::k) cs
   cases e with
   |normal=>
    obtain⟨e₂,a₂,w₂,hq₂,harr₂⟩:=ih a₁ w₁ hq
    exact⟨e₂,a₂,w₂,hq₂,.of_steps (Steps.trans gE (.one step_inLoop)) harr₂⟩
   |exit id=>exact⟨_,a₁,w₁,hq,.pass (x:= .inLoop c) rfl (fun _ _=> .inl (by simp)) gE⟩
   |goto l=>exact⟨_,a₁,w₁,hq,.pass (x:= .inLoop c) rfl (fun _ _=> .inl (by simp)) gE⟩
   |ret=>exact⟨_,a₁,w₁,hq,.pass (x:= .inLoop c) rfl (fun _ _=> .inl (by simp)) gE⟩
   |panic ch=>exact⟨_,a₁,w₁,hq,.pass (x:= .inLoop c) rfl (fun _ _=> .inl (by simp)) gE⟩
   |outgrown=>exact⟨_,a₁,w₁,hq,.pass (x:= .inLoop c) rfl (fun _ _=> .inl (by simp)) gE⟩
 obtain⟨e,a',w',hq,gE⟩:=key n a w h₀
 exact⟨e,a',w',hq,.of_steps (.one step_loop) gE⟩
theorem wa{α:Type}(z:α)(l:List Nat):∀(xs:List α) (i j:Nat),(dc z l i xs)[j]? =(xs[j]?).map fun x=>bif l.any (Nat.beq (i+j)) then x else z
 | [],i,j=>by simp [dc]
 |x::r,i,0=>by simp [dc]
 |x::r,i,j+1=>by
  simp only[dc,List.getElem?_cons_succ]
  rw[wa z l r (i+1) j,show i+1+j=i+(j+1) by omega]
theorem He{α:Type}(z:α)(l:List Nat):∀(xs:List α) (i:Nat),(dc z l i xs).length=xs.length
 | [],i=>rfl
 |x::r,i=>by simp [dc,He z l r]
theorem PF{p q:List Nat}:∀{l:List (List Nat)},q∈lC p l->q=p\/q∈l
 | [],h=>by simp [lC] at h;exact .inl h
 |r::l,h=>by
  simp only[lC] at h
  cases hl:CE r p with
  |false=>rw[hl] at h;simpa using h
  |true=>
   rw[hl] at h
   rcases List.mem_cons.1 h with h|h
   ·exact .inr (by simp [h])
   ·rcases PF h with h|h
    ·exact .inl h
    ·exact .inr (List.mem_cons_of_mem _ h)
theorem Hf{q:List Nat}:∀{l:List (List Nat)},q∈js l->q∈l
 | [],h=>h
 |p::l,h=>by
  rcases PF h with h|h
  ·simp [h]
  ·exact List.mem_cons_of_mem _ (Hf h)
theorem Y0{v:SV}{id:Nat}{t:Ty}{p:List Nat}(h:v.norm= .ptr id t p):v= .ptr id t p:=by
 cases v<;>simp [SV.norm] at h
 obtain⟨h1,h2,h3⟩:=h
 rw[h1,h2,h3]
theorem ar.norm{pl:List Nat->Place}{sv:SV}{v:Value}(hr:ar X pl sv v):ar X pl sv.norm v:=by
 cases sv with
 |af t x own=>
  obtain⟨cs,h1,h2,h3⟩:=hr
  exact⟨cs,h1,h2,fun p hp=>h3 p (Hf hp)⟩
 |_=>exact hr
theorem bQ.norm{pl:Nat->List Nat->Place}{l:List SV}{v:Value}(hr:bQ X pl l v):bQ X pl (l.map SV.norm) v:=by
 match l,hr with
 | [s],hr=>exact ar.norm hr
 | [],hr=>exact hr
 |x::y::r,⟨vs,h1,h2,h3⟩=>
  refine⟨vs,h1,by simpa using h2,fun j s u hs hu=> ?_⟩
  have hs:((x::y::r).map SV.norm)[j]? =some s:=hs
  rw[List.getElem?_map] at hs
  obtain⟨s0,dz,rfl⟩:=Option.map_eq_some_iff.1 hs
  exact ar.norm (h3 j s0 u dz hu)
theorem ci.less{r:Nat}{pl:List Nat->Place}{t:Ty}{x:El t}{own gU:List (List Nat)}(ho:∀p∈gU,p∈own)(h:ci X r pl t x own):ci X r pl t x gU:=by
 unfold ci at h⊢
 split at h
 ·exact h
 ·exact h
 ·exact h
 ·exact⟨h.1,fun hm=>h.2 (ho [] hm)⟩
 ·exact h.elim
 ·obtain⟨cs,T,h1,h2,h3⟩:=h
  exact⟨cs,T,h1,h2,fun p hp=>h3 p (ho p hp)⟩
theorem Rel.norm(hr:Rel X s a):Rel X s.norm a where
 size:=by simpa [State.norm] using hr.size
 dP:=by simpa [State.norm] using hr.dP
 bh:=fun i l v hl hv=>by
  simp only[State.norm,List.getElem?_map] at hl
  obtain⟨l0,h0,rfl⟩:=Option.map_eq_some_iff.1 hl
  exact bQ.norm (hr.bh i l0 v h0 hv)
 boxes:=fun id B hB=>by
  simp only[State.norm,List.getElem?_map] at hB
  obtain⟨b0,h0,h1⟩:=Option.map_eq_some_iff.1 hB
  obtain⟨B0,rfl,rfl⟩:=Option.map_eq_some_iff.1 h1
  obtain⟨r,g1,g2,g3⟩:=hr.boxes id B0 h0
  exact⟨r,g1,g2,g3.less fun p hp=>Hf hp⟩
 live:=fun i l id t p hl hm=>by
  simp only[State.norm,List.getElem?_map] at hl
  obtain⟨l0,h0,rfl⟩:=Option.map_eq_some_iff.1 hl
  obtain⟨v0,NJ,he⟩:=List.mem_map.1 hm
  rw[Y0 he] at NJ
  obtain⟨B,hB⟩:=hr.live i l0 id t p h0 NJ
  exact⟨B.norm,by simp [State.norm,hB]⟩
 defers:=hr.defers
theorem vX(hr:Rel X s a){l:List Nat}{R:Type}{K:State->Option R}{z:R}(h:jZ l s K=some z):∃s',K s'=some z/\Rel X s' a:=by
 unfold jZ at h
 simp only at h
 cases hb:(dc [.undef] l 0 s.sl).all (fun v=>v.all (SV.roots l)) with
 |false=>rw[hb] at h;cases h
 |true=>
  rw[hb] at h
  refine⟨_,h,Rel.norm ?_⟩
  have fa:s.bs=s.bs.headD none::s.bs.tail:=by
   have:=hr.dP
   cases hs:s.bs with
   |nil=>rw[hs] at this;simp at this
   |cons b r=>rfl
  have bN:∀(id:Nat) B,(s.bs.headD none::dc none l 0 s.bs.tail)[id]? =some (some B)->s.bs[id]? =some (some B):=by
   intro id B hB
   rw[fa]
   cases id with
   |zero=>exact hB
   |succ id=>
    simp only[List.getElem?_cons_succ] at hB⊢
    rw[wa] at hB
    obtain⟨x,hx,he⟩:=Option.map_eq_some_iff.1 hB
    rw[hx]
    cases hl:l.any (Nat.beq (0+id))<;>rw[hl] at he
    ·cases he
    ·rw[<-he];rfl
  refine⟨by rw[He];exact hr.size,?_,fun i v x hv hx=> ?_,fun id B hB=>hr.boxes id B (bN id B hB),fun i v id t p hv hm=> ?_,hr.defers⟩
  ·simp only[List.length_cons,He,List.length_tail]
   have:=hr.dP
   omega
  ·rw[wa] at hv
   obtain⟨y,hy,rfl⟩:=Option.map_eq_some_iff.1 hv
   cases hl:l.any (Nat.beq (0+i)) with
   |false=>trivial
   |true=>exact hr.bh i y x hy hx
  ·have vq:SV.roots l (.ptr id t p)=true:=by
    have:=List.all_eq_true.1 hb v (List.mem_of_getElem? hv)
    exact List.all_eq_true.1 this _ hm
   rw[wa] at hv
   obtain⟨y,hy,he⟩:=Option.map_eq_some_iff.1 hv
   have Ca:SV.ptr id t p∈y:=by
    cases hl:l.any (Nat.beq (0+i)) with
    |false=>rw[hl] at he;subst he;simp at hm
    |true=>rw[hl] at he;subst he;exact hm
   obtain⟨B,hB⟩:=hr.live i y id t p hy Ca
   refine⟨B,?_⟩
   rw[fa] at hB
   cases id with
   |zero=>exact hB
   |succ id=>
    simp only[List.getElem?_cons_succ] at hB⊢
    rw[wa,hB]
    have:l.any (Nat.beq id)=true:=vq
    have h2:l.any (Nat.beq (0+id))=true:=by rw[Nat.zero_add];exact this
    simp [this]
theorem YD{Y:ak}{id:Nat}{pl:Nat->List Nat->Place}{l:List SV}{v:Value}(hr:bQ Y pl l v):bQ Y pl (ns id l) v:=by
 have key:∀(sv:SV) (q:List Nat->Place) (w:Value),ar Y q sv w->ar Y q (match sv with
  | .ptr j _ _=>bif Nat.beq j id then .undef else sv
  |v=>v) w:=by
  intro sv q w h
  cases sv with
  |ptr j t p=>
   simp only
   cases Nat.beq j id with
   |true=>trivial
   |false=>exact h
  |_=>exact h
 match l,hr with
 | [sv],hr=>exact key sv _ _ hr
 | [],hr=>exact hr
 |x::y::r,⟨vs,h1,h2,h3⟩=>
  refine⟨vs,h1,by simpa [ns] using h2,fun j s u hs hu=> ?_⟩
  have hs:(ns id (x::y::r))[j]? =some s:=hs
  unfold ns at hs
  rw[List.getElem?_map] at hs
  obtain⟨s0,dz,rfl⟩:=Option.map_eq_some_iff.1 hs
  exact key s0 _ _ (h3 j s0 u dz hu)
theorem DU{id:Nat}{l:List SV}{j:Nat}{t:Ty}{p:List Nat}(h:SV.ptr j t p∈ns id l):SV.ptr j t p∈l/\j≠id:=by
 unfold ns at h
 obtain⟨s0,dz,he⟩:=List.mem_map.1 h
 cases s0 with
 |ptr j' t' p'=>
  simp only at he
  cases hb:Nat.beq j' id with
  |true=>rw[hb] at he;cases he
  |false=>
   rw[hb] at he
   cases he
   exact⟨dz,fun e=>Nat.ne_of_beq_eq_false hb e⟩
 |_=>simp only at he;cases he
def ak.still(X:ak)(r n:Nat):ak:={X with ow:=fun g=>if g=r then .ro n else X.ow g}
theorem nV{r n id:Nat}(h:X.ow r= .box id){ad:Addr}{v:Value}(hs:X.au ad v):(X.still r n).au ad v:=by
 have bV:ad.block≠r:=fun e=>by
  have:=hs.2.2
  rw[e,h] at this
  exact this
 refine⟨hs.1,hs.2.1,?_⟩
 simp only[ak.still]
 rw[if_neg bV]
 exact hs.2.2
theorem Pm{r n id:Nat}(h:X.ow r= .box id):Ext X (X.still r n) where
 au:=fun _ _=>nV h
 size:=Nat.le_refl _
 os:=rfl
 tape:=rfl
 output:=rfl
 β0:=rfl
 still:=fun g _ bL=>by
  have bV:g≠r:=fun e=>by rw[e,h] at bL;exact bL
  exact⟨by simp only[ak.still];rw[if_neg bV],rfl⟩
theorem aV.cB{r n id:Nat}(h:X.ow r= .box id){pl:Place}{e:TypeId}{k m:Nat}{v:Value}(ho:aV X pl e k m v):aV (X.still r n) pl e k m v:=by
 rcases ho with ho|⟨g,cap,cur,h1,h2,h3,h4,h5,h6⟩
 ·exact .inl ho
 ·have bV:g≠r:=fun e=>by rw[e,h] at h6;cases h6
  exact .inr ⟨g,cap,cur,h1,h2,h3,h4,h5,by simp only[ak.still];rw[if_neg bV];exact h6⟩
theorem aU.cB{r n id:Nat}(h:X.ow r= .box id){pl:List Nat->Place}{t:Ty}{x:El t}{c:List Value}{own:List (List Nat)}(ho:aU X pl t x c own):aU (X.still r n) pl t x c own:=fun p hp=>by
 obtain⟨e,t',xs,v,g0,g1,g2,g3⟩:=ho p hp
 exact⟨e,t',xs,v,g0,g1,g2,g3.cB h⟩
theorem ar.cB{r n id:Nat}(h:X.ow r= .box id){pl:List Nat->Place}{sv:SV}{v:Value}(hr:ar X pl sv v):ar (X.still r n) pl sv v:=by
 cases sv with
 |af t x own=>
  obtain⟨c,h1,h2,h3⟩:=hr
  exact⟨c,h1.aj (fun _ _=>nV h),h2,h3.cB h⟩
 |view t x=>
  obtain⟨ad,c,h1,h2,h3,h4⟩:=hr
  exact⟨ad,c,h1,h2,h3.aj (fun _ _=>nV h),fun i u hi=>nV h (h4 i u hi)⟩
 |cap f t x u y=>exact l9 (fun _ _=>nV h) hr
 |_=>exact hr
theorem Hc(l:List Nat):∀(xs:List (Option aX)) (i j:Nat),(ea l i xs)[j]? =(xs[j]?).map fun b=>bif l.any (Nat.beq (i+j)) then b.map (fun B=>{B with own:=[]}) else b
 | [],i,j=>by simp [ea]
 |x::r,i,0=>by simp [ea]
 |x::r,i,j+1=>by
  simp only[ea,List.getElem?_cons_succ]
  rw[Hc l r (i+1) j,show i+1+j=i+(j+1) by omega]
theorem O2(l:List Nat):∀(xs:List (Option aX)) (i:Nat),(ea l i xs).length=xs.length
 | [],i=>rfl
 |x::r,i=>by simp [ea,O2 l r]
theorem Rel.drop(hr:Rel X s a)(l:List Nat):Rel X (s.drop l) a where
 size:=hr.size
 dP:=by simp only[State.drop,O2];exact hr.dP
 bh:=hr.bh
 boxes:=fun id B hB=>by
  simp only[State.drop,Hc] at hB
  obtain⟨b0,h0,h1⟩:=Option.map_eq_some_iff.1 hB
  cases hl:l.any (Nat.beq (0+id)) with
  |false=>rw[hl] at h1;simp only[cond_false] at h1;subst h1;exact hr.boxes id B h0
  |true=>
   rw[hl] at h1
   simp only[cond_true] at h1
   obtain⟨B0,rfl,rfl⟩:=Option.map_eq_some_iff.1 h1
   obtain⟨r,g1,g2,g3⟩:=hr.boxes id B0 h0
   exact⟨r,g1,g2,g3.less fun p hp=>by cases hp⟩
 live:=fun i v id t p hv hm=>by
  obtain⟨B,hB⟩:=hr.live i v id t p hv hm
  simp only[State.drop,Hc,hB,Option.map_some]
  cases l.any (Nat.beq (0+id))<;>exact⟨_,rfl⟩
 defers:=hr.defers
theorem Zc(hr:Rel X s a){r:Nat}{R:Type}{K:State->Option R}{z:R}(h:jW E r s K=some z):∃Y s',Y.w=X.w/\Ext X Y/\K s'=some z/\Rel Y s' a:=by
 unfold jW at h
 split at h
 ·exact⟨X,s,rfl,Ext.refl X,h,hr⟩
 rename_i d T Rd
 split at h
 case h_2=>cases h
 rename_i id n ta tb e t eQ hT
 split at h
 case isFalse=>cases h
 rename_i heq
 have:=Ty.aH heq
 subst this
 split at h
 case h_2=>cases h
 rename_i B hB
 split at h
 case isFalse=>cases h
 rename_i dh
 obtain⟨hb,rr,h1,how,cs,T',aF,dq,cT⟩:=rL hr hB dh
 generalize(Ty.cast dh B.x:List (El ta))=xs at*
 cases hn:Nat.beq n (List.length xs) with
 |false=>rw[hn] at h;cases h
 |true=>
  rw[hn] at h
  have hn:=Nat.eq_of_beq_eq_true hn
  have hd:d<s.sl.length:=by
   rcases Nat.lt_or_ge d s.sl.length with h1|h1
   ·exact h1
   ·simp [State.slot,List.getElem?_eq_none h1] at eQ
  have gN:=hr.slot d
  rw[eQ] at gN
  obtain⟨r0,hβ,cap,hv,gG⟩:=(show ar X (.c d 0) (.ptr id (.aP (.ey n) ta tb) []) _ from gN)
  rw[h1] at hβ
  cases hβ
  have aK:id<s.bs.length:=(List.getElem?_eq_some_iff.1 hb).1
  refine⟨X.still rr (xs.length*ta.cells),_,rfl,Pm how,h,?_,?_,fun i l v hl hx=> ?_,fun bu B' dg=> ?_,fun i l j t p hl hm=> ?_,hr.defers⟩
  ·simpa using hr.size
  ·simpa using hr.dP
  ·replace hl:((s.sl.map (ns id)).set d [.af (.sl e ta) xs []])[i]? =some l:=hl
   rw[List.getElem?_set] at hl
   split at hl
   ·rename_i nB
    subst nB
    rw[if_pos (by simpa using hd)] at hl
    cases hl
    have Cp:a.tmps.getD d Go.undef=v:=by
     rw[Array.getD_eq_getD_getElem?,hx];rfl
    rw[Cp] at hv
    refine⟨[v],?_,rfl,zw⟩
    rw[hv,hn]
    refine aN.nO rfl (by omega) (fun j y hj=>⟨⟨rr,0,none⟩,_,rfl,rfl,(cT j y hj).aj (fun _ _=>nV how),fun i u hi=> ?_⟩)
    have nD:=(List.getElem?_eq_some_iff.1 hj).1
    have hle:(j+1)*ta.cells<=xs.length*ta.cells:=Nat.mul_le_mul_right _ nD
    rw[Nat.add_mul,Nat.one_mul] at hle
    rw[List.getElem?_take] at hi
    split at hi
    case isFalse=>cases hi
    rename_i wX
    rw[List.getElem?_drop] at hi
    refine⟨pw rfl _,?_,?_⟩
    ·rw[zr,Nat.zero_add]
     show X.w.cell? _=_
     simp only[World.cell?,aF]
     simpa using hi
    ·rw[zr,Nat.zero_add]
     show Ow.used (if rr=rr then .ro (xs.length*ta.cells) else X.ow rr) _
     rw[if_pos rfl]
     show j*ta.cells+i<_
     omega
   ·rw[List.getElem?_map] at hl
    obtain⟨l0,h0,rfl⟩:=Option.map_eq_some_iff.1 hl
    exact YD ((hr.bh i l0 v h0 hx).fk fun j sv u hm fc=>fc.cB how)
  ·replace dg:(s.bs.set id none)[bu]? =some (some B'):=dg
   rw[List.getElem?_set] at dg
   split at dg
   ·rename_i wW
    cases dg
   ·rename_i wW
    obtain⟨r',g1,g2,g3⟩:=hr.boxes bu B' dg
    have bV:r'≠rr:=fun e2=>by rw[e2,how] at g2;cases g2;exact wW rfl
    exact⟨r',g1,by simp only[ak.still];rw[if_neg bV];exact g2,g3.move (fun _ _=>nV how) rfl (fun cs h5=>h5.cB how) fun _ g o ho hw=>⟨ho,by simp only[ak.still];rw[if_neg (fun e3=>by rw[e3,how] at hw;cases hw)];exact hw⟩⟩
  ·replace hl:((s.sl.map (ns id)).set d [.af (.sl e ta) xs []])[i]? =some l:=hl
   rw[List.getElem?_set] at hl
   split at hl
   ·rw[if_pos (by simpa using hd)] at hl
    cases hl
    simp at hm
   ·rw[List.getElem?_map] at hl
    obtain⟨l0,h0,rfl⟩:=Option.map_eq_some_iff.1 hl
    obtain⟨hm,bV⟩:=DU hm
    obtain⟨B2,b9⟩:=hr.live i l0 j t p h0 hm
    exact⟨B2,by show(s.bs.set id none)[j]? =_;rw[List.getElem?_set,if_neg (fun e=>bV e.symm)];exact b9⟩
theorem Pp(hr:Rel X s a){id rr:Nat}{B:aX}(hb:s.bs[id]? =some (some B))(hs:B.t.bf=false)(h1:X.β id=some rr)(how:X.ow rr= .box id){cs:Array Value}{T:TypeId}(aF:X.w.heap[rr]? =some (.cells cs T (0,0)))(aJ:aN X B.t B.x cs.toList){pl:List Nat->Place}{sv:SV}{v:Value}(h:ar X pl sv v):ar (X.still rr cs.size) pl (n7 id B sv) v:=by
 have cj:=h.cB (n:=cs.size) how
 cases sv with
 |ptr j t p=>
  unfold n7
  simp only
  cases hj:Nat.beq j id with
  |false=>exact cj
  |true=>
   have:=Nat.eq_of_beq_eq_true hj
   subst this
   simp only[cond_true]
   split
   case isFalse=>trivial
   rename_i heq
   have:=Ty.aH heq
   subst this
   split
   case h_2=>trivial
   rename_i u y bN
   obtain⟨r0,hβ,hv⟩:=h
   rw[h1] at hβ
   cases hβ
   obtain⟨hv,dy⟩:=(zu hs).1 hv
   obtain⟨k1,k2,k3⟩:=wu aJ dy bN
   refine⟨_,_,hv,rfl,k3.aj (fun _ _=>nV how),fun i w hi=>⟨pw rfl _,?_,?_⟩⟩
   ·exact xv aF hi
   ·rw[zr]
    show Ow.used (if rr=rr then .ro cs.size else X.ow rr) _
    rw[if_pos rfl]
    rw[List.getElem?_take] at hi
    split at hi
    case isFalse=>cases hi
    rw[List.getElem?_drop] at hi
    have:=(List.getElem?_eq_some_iff.1 hi).1
    show _<cs.size
    simpa using this
 |_=>exact cj
theorem Xo(hr:Rel X s a){id rr:Nat}{B:aX}(hb:s.bs[id]? =some (some B))(hs:B.t.bf=false)(h1:X.β id=some rr)(how:X.ow rr= .box id){cs:Array Value}{T:TypeId}(aF:X.w.heap[rr]? =some (.cells cs T (0,0)))(aJ:aN X B.t B.x cs.toList){pl:Nat->List Nat->Place}{l:List SV}{v:Value}(h:bQ X pl l v):bQ (X.still rr cs.size) pl (l.map (n7 id B)) v:=by
 match l,h with
 | [sv],h=>exact Pp hr hb hs h1 how aF aJ h
 | [],⟨vs,g1,g2,g3⟩=>exact⟨vs,g1,g2,fun j sv u fZ=>by simp at fZ⟩
 |x::y::r,⟨vs,g1,g2,g3⟩=>
  refine⟨vs,g1,by simpa using g2,fun j sv u fZ hu=> ?_⟩
  have fZ:((x::y::r).map (n7 id B))[j]? =some sv:=fZ
  rw[List.getElem?_map] at fZ
  obtain⟨s0,dz,rfl⟩:=Option.map_eq_some_iff.1 fZ
  exact Pp hr hb hs h1 how aF aJ (g3 j s0 u dz hu)
theorem Zf{id:Nat}{B:aX}{l:List SV}{j:Nat}{t:Ty}{p:List Nat}(h:SV.ptr j t p∈l.map (n7 id B)):SV.ptr j t p∈l/\j≠id:=by
 obtain⟨s0,dz,he⟩:=List.mem_map.1 h
 unfold n7 at he
 cases s0 with
 |ptr j' t' p'=>
  simp only at he
  cases hb:Nat.beq j' id with
  |true=>
   rw[hb] at he
   simp only[cond_true] at he
   split at he
   ·split at he<;>cases he
   ·cases he
  |false=>
   rw[hb] at he
   cases he
   exact⟨dz,fun e=>Nat.ne_of_beq_eq_false hb e⟩
 |_=>simp only at he;cases he
theorem Uu(hr:Rel X s a){id:Nat}{R:Type}{K:State->Option R}{z:R}(h:zQ id s K=some z):∃Y s',Y.w=X.w/\Ext X Y/\K s'=some z/\Rel Y s' a:=by
 unfold zQ at h
 split at h
 case h_2=>cases h
 rename_i B hB
 split at h
 case isTrue=>cases h
 rename_i hs
 have hs:B.t.bf=false:=by simpa using hs
 have hb:=ke hB
 obtain⟨rr,h1,nw⟩:=hr.boxes id B hb
 obtain⟨cs,T,aF,aJ,how,_⟩:=nw.cells hs
 refine⟨X.still rr cs.size,_,rfl,Pm how,h,by simpa using hr.size,by simpa using hr.dP,fun i l v hl hx=> ?_,fun bu B' dg=> ?_,fun i l j t p hl hm=> ?_,hr.defers⟩
 ·replace hl:(s.sl.map fun l=>l.map (n7 id B))[i]? =some l:=hl
  rw[List.getElem?_map] at hl
  obtain⟨l0,h0,rfl⟩:=Option.map_eq_some_iff.1 hl
  exact Xo hr hb hs h1 how aF aJ (hr.bh i l0 v h0 hx)
 ·replace dg:(s.bs.set id none)[bu]? =some (some B'):=dg
  rw[List.getElem?_set] at dg
  split at dg
  ·split at dg<;>cases dg
  ·rename_i wW
   obtain⟨r',g1,g2,g3⟩:=hr.boxes bu B' dg
   have bV:r'≠rr:=fun e2=>by rw[e2,how] at g2;cases g2;exact wW rfl
   exact⟨r',g1,by simp only[ak.still];rw[if_neg bV];exact g2,g3.move (fun _ _=>nV how) rfl (fun cs h5=>h5.cB how) fun _ g o ho hw=>⟨ho,by simp only[ak.still];rw[if_neg (fun e3=>by rw[e3,how] at hw;cases hw)];exact hw⟩⟩
 ·replace hl:(s.sl.map fun l=>l.map (n7 id B))[i]? =some l:=hl
  rw[List.getElem?_map] at hl
  obtain⟨l0,h0,rfl⟩:=Option.map_eq_some_iff.1 hl
  obtain⟨hm,bV⟩:=Zf hm
  obtain⟨B2,b9⟩:=hr.live i l0 j t p h0 hm
  exact⟨B2,by show(s.bs.set id none)[j]? =_;rw[List.getElem?_set,if_neg (fun e=>bV e.symm)];exact b9⟩
theorem Oq{R:Type}{K:State->Option R}{z:R}:∀(l:List Nat) (X:ak) (s:State),Rel X s a->sw l s K=some z->∃Y s',Y.w=X.w/\Ext X Y/\K s'=some z/\Rel Y s' a
 | [],X,s,hr,h=>⟨X,s,rfl,Ext.refl X,h,hr⟩
 |id::r,X,s,hr,h=>by
  obtain⟨Y,s1,h1,h2,h3,h4⟩:=Uu hr h
  obtain⟨Z,s2,k1,k2,k3,k4⟩:=Oq r Y s1 h4 h3
  exact⟨Z,s2,k1.trans h1,h2.trans k2,k3,k4⟩
def Fr(E:Env)(X0:ak):Prop:=E.sp≠none->∀g pl n,X0.ow g≠ .row pl n
def Pq(P:Program)(E:Env)(C:ae)(k:Nat)(c:Code):Prop:=
 ∀(X0 X:ak) (s:State) (a:Act) (e:Ex) (s':State),Fr E X0->Ext X0 X->Rel X s a->ev E (C (Ex×State)) k c s (fun e s=>some (e,s))=some (e,s')->
  ∀(Q:Exit->Act->World->Prop),(∀Y a',Ext X0 Y->Rel Y s' a'->Q e.exit' a' Y.w)->c.wp P Q a X.w
theorem YX(hr:Rel X s a){k r:Nat}{R:Type}{K:State->Option R}{z:R}(h:gS E k r s K=some z):∃s',K s'=some z/\Rel X s' a:=by
 unfold gS at h
 split at h
 ·exact⟨s,h,hr⟩
 ·obtain⟨s',h1,h2⟩:=vX hr h
  refine⟨s',?_,h2⟩
  unfold gQ at h1
  split at h1
  ·cases h1
  ·exact h1
theorem WZ{C:ae}(hC:C.Nat){k:Nat}{b:Code}(hb:Pq P E C k b){l lx:List Nat}{Q:Exit->Act->World->Prop}{e':Ex}{s':State}{X0:ak}(hF:Fr E X0)(hQ:∀Y a',Ext X0 Y->Rel Y s' a'->Q e'.exit' a' Y.w):
 ∀(n:Nat) (a:Act) (w:World),(∃X s,X.w=w/\Ext X0 X/\Rel X s a/\az (ev E (C (Ex×State)) k b) l lx n s (fun e s=>some (e,s))=some (e',s'))->
  ∃m,n=m+1/\b.wp P (Exit.then (fun a w=>∃X s,X.w=w/\Ext X0 X/\Rel X s a/\az (ev E (C (Ex×State)) k b) l lx m s (fun e s=>some (e,s))=some (e',s')) Q) a w:=by
 rintro n a w ⟨X,s,rfl,aT,hr,h⟩
 cases n with
 |zero=>cases h
 |succ m=>
  refine⟨m,rfl,?_⟩
  simp only[az] at h
  obtain⟨⟨e1,s2⟩,h1,h2⟩:=zs (mj hC b _ (fun e s=>some (e,s)) (K:=fun z=>match z.1 with
   | .normal=>jZ l z.2 fun s=>az (ev E (C (Ex×State)) k b) l lx m s (fun e s=>some (e,s))
   |e=>jZ lx z.2 fun s=>some (e,s)) (fun e s=>by cases e<;>rfl) s) h
  refine hb X0 X s a e1 s2 hF aT hr h1 _ fun Y a' bp aY=> ?_
  cases e1 with
  |normal=>
   obtain⟨s3,h3,q6⟩:=vX aY h2
   exact⟨Y,s3,rfl,bp,q6,h3⟩
  |exit id=>
   obtain⟨s3,h3,q6⟩:=vX aY h2
   cases h3
   exact hQ Y a' bp q6
  |ret=>
   obtain⟨s3,h3,q6⟩:=vX aY h2
   cases h3
   exact hQ Y a' bp q6
theorem Oh(hE:ah P E)(hm:P.follows .mixedOrders=true){C:ae}(hC:C.Nat)(hf:∀f,bX P C f){id:Nat}{ops:Array Oper}{d:Bool}{M7 X0:ak}{s0:State}{a:Act}{e:Ex}{s':State}(hx:Ext M7 X0)(NE:Rel X0 s0 a)(h0:sC E (C (Ex×State)) id ops d s0 ((fun e s=>some (e,s)) Ex.normal)=some (e,s')){Q:Exit->Act->World->Prop}(Nj:∀Y a',Ext M7 Y->Rel Y s' a'->Q e.exit' a' Y.w):(Code.region id ops d).wp P Q a X0.w:=by
 unfold sC at h0
 obtain⟨X1,s1,xa,oP,Nf,dQ⟩:=Zc NE h0
 obtain⟨X,s,l4,bp,h,hr⟩:=Oq _ X1 s1 dQ Nf
 have hw:X.w=X0.w:=l4.trans xa
 have oO:Ext X0 X:=oP.trans bp
 clear Nf dQ xa l4 oP bp
 have hQ:∀Y a',Ext X Y->Rel Y s' a'->Q e.exit' a' Y.w:=fun Y a' aT aY=>Nj Y a' (hx.trans (oO.trans aT)) aY
 rw[<-hw]
 clear h0 NE Nj oO hw
 cases d with
 |true=>
  simp only[cond_true] at h
  obtain⟨s1,h1,h2⟩:=zs (FN hC (F:=fun s=>some (Ex.normal,s)) (G:=some) (K:=fun s=>some (Ex.normal,s)) (fun _=>rfl) ops.toList 0 s []) h
  cases h2
  exact WR hE hm hC hf hr h1 hQ
 |false=>
  simp only[cond_false] at h
  obtain⟨s1,h1,h2⟩:=zs (wc hC (F:=fun s=>some (Ex.normal,s)) (G:=some) (K:=fun s=>some (Ex.normal,s)) (fun _=>rfl) ops.toList s) h
  cases h2
  refine wp_region (PO hE hC hf (List.range ops.size) X s a hr (fun i hi=>List.mem_range.1 hi) ?_ hQ)
  have:(List.range ops.size).map (fun i=>ops.getD i default)=ops.toList:=by
   apply List.ext_getElem?
   intro i
   rw[List.getElem?_map]
   by_cases hi:i<ops.size
   ·simp [hi]
   ·simp [hi]
  rw[this];exact h1
theorem rD(hE:ah P E)(hm:P.follows .mixedOrders=true){C:ae}(hC:C.Nat)(hf:∀f,bX P C f)(k:Nat):∀c:Code,Pq P E C k c
 | .skip=>fun X0 X s a e s' hF hx hr h Q hQ=>by
   simp only[ev,Option.some.injEq,Prod.mk.injEq] at h
   obtain⟨rfl,rfl⟩:=h
   exact wp_skip (hQ X a hx hr)
 | .region id ops d=>fun X0 X s a e s' hF hx hr h Q hQ=>by
   simp only[ev] at h
   split at h
   ·rename_i j q gp
    cases hj:Nat.beq id j with
    |true=>
     rw[hj,cond_true] at h
     cases d with
     |true=>cases h
     |false=>
      cases hq:Nat.beq q.2.2 0 with
      |true=>
       simp only[hq,cond_true] at h
       obtain⟨s1,h1,h2⟩:=zs (PK hC (F:=fun s=>some (Ex.normal,s)) (G:=some) (K:=fun s=>some (Ex.normal,s)) (fun _=>rfl)) h
       cases h2
       exact Xb hE hC hf (hF (by rw[gp];exact fun e=>by cases e)) hx hr h1 hQ
      |false=>
      simp only[hq,cond_false] at h
      obtain⟨s1,h1,h2⟩:=zs (PQ (F:=fun s=>some (Ex.normal,s)) (G:=some) (K:=fun s=>some (Ex.normal,s)) (fun _=>rfl)) h
      cases h2
      exact Xl hE (hF (by rw[gp];exact fun e=>by cases e)) hx hr h1 hQ
    |false=>
     rw[hj,cond_false] at h
     exact Oh hE hm hC hf hx hr h hQ
   ·exact Oh hE hm hC hf hx hr h hQ
 | .seq x y=>fun X0 X s a e s' hF hx hr h Q hQ=>by
   simp only[ev] at h
   obtain⟨⟨e1,s1⟩,h1,h2⟩:=zs (mj hC x _ (fun e s=>some (e,s)) (K:=fun z=>match z.1 with
    | .normal=>gS E k (zy y) z.2 fun s=>ev E (C (Ex×State)) k y s (fun e s=>some (e,s))
    |e=>some (e,z.2)) (fun e s=>by cases e<;>rfl) s) h
   refine wp_seq (rD hE hm hC hf k x X0 X s a e1 s1 hF hx hr h1 _ fun Y a' aT aY=> ?_)
   cases e1 with
   |normal=>
    obtain⟨s2,h2,aY⟩:=YX aY h2
    exact rD hE hm hC hf k y X0 Y s2 a' e s' hF aT aY h2 Q hQ
   |exit id=>cases h2;exact hQ Y a' aT aY
   |ret=>cases h2;exact hQ Y a' aT aY
 | .cond c x y=>fun X0 X s a e s' hF hx hr h Q hQ=>by
   simp only[ev] at h
   have hc:=hr.ax c
   split at h
   case h_2=>cases h
   rename_i p w hs
   rw[hs] at hc
   have hv:=z21 hc
   have dQ:Rel X (s.aG (lM c) (bl p)) a:=by
    cases c with
    |tmp i=>
     have eQ:s.slot i=[.af .bool p w]:=by
      have hh:one (s.slot i)= .af .bool p w:=hs
      match hm:s.slot i,hh with
      | [sv],hh=>have Ri:sv= .af .bool p w:=hh;rw[Ri]
      | [],hh=>cases hh
      |_::_::_,hh=>cases hh
     exact(hr.know eQ).1
    |_=>exact hr
   refine wp_cond_split hv (fun hp=> ?_) (fun hp=> ?_)
   ·subst hp
    exact rD hE hm hC hf k x X0 X _ a e s' hF hx dQ h Q hQ
   ·subst hp
    exact rD hE hm hC hf k y X0 X _ a e s' hF hx dQ h Q hQ
 | .block id b=>fun X0 X s a e s' hF hx hr h Q hQ=>by
   simp only[ev] at h
   obtain⟨⟨e1,s1⟩,h1,h2⟩:=zs (mj hC b _ (fun e s=>some (e,s)) (K:=fun z=>match z.1 with
    | .exit j=>bif Nat.beq j id then some (.normal,z.2) else some (.exit j,z.2)
    |e=>some (e,z.2)) (fun e s=>by cases e<;>rfl) s) h
   refine wp_block (rD hE hm hC hf k b X0 X s a e1 s1 hF hx hr h1 _ fun Y a' aT aY=> ?_)
   cases e1 with
   |normal=>cases h2;exact hQ Y a' aT aY
   |ret=>cases h2;exact hQ Y a' aT aY
   |exit j=>
    simp only at h2
    show(if j=id then Q .normal a' Y.w else Q (.exit j) a' Y.w)
    cases hj:Nat.beq j id with
    |true=>
     rw[hj] at h2;cases h2
     rw[if_pos (Nat.eq_of_beq_eq_true hj)]
     exact hQ Y a' aT aY
    |false=>
     rw[hj] at h2;cases h2
     rw[if_neg (Nat.ne_of_beq_eq_false hj)]
     exact hQ Y a' aT aY
 | .loop b=>fun X0 X s a e s' hF hx hr h Q hQ=>by
   simp only[ev] at h
   obtain⟨s1,h,dQ⟩:=vX (hr.drop _) h
   exact Xq _ (WZ hC (rD hE hm hC hf k b) hF (Q:=Q) hQ) ⟨X,s1,rfl,hx,dQ,h⟩
 | .exit id=>fun X0 X s a e s' hF hx hr h Q hQ=>by
   simp only[ev,Option.some.injEq,Prod.mk.injEq] at h
   obtain⟨rfl,rfl⟩:=h
   exact wp_exit (hQ X a hx hr)
 | .ret=>fun X0 X s a e s' hF hx hr h Q hQ=>by
   simp only[ev,Option.some.injEq,Prod.mk.injEq] at h
   obtain⟨rfl,rfl⟩:=h
   exact wp_ret (hQ X a hx hr)
 | .rangeFunc .. =>fun X0 X s a e s' hF hx hr h Q hQ=>by simp only[ev] at h;cases h
 | .scope _=>fun X0 X s a e s' hF hx hr h Q hQ=>by simp only[ev] at h;cases h
 | .label _=>fun X0 X s a e s' hF hx hr h Q hQ=>by simp only[ev] at h;cases h
 | .goto _=>fun X0 X s a e s' hF hx hr h Q hQ=>by simp only[ev] at h;cases h
 | .refuse _=>fun X0 X s a e s' hF hx hr h Q hQ=>by simp only[ev] at h;cases h
end Go.Ref

namespace Go.Ref
open Go
variable {P:Program} {E:Env} {X:ak} {s:State} {a:Act}
def cG(X Y:ak):Prop:=Y.w=X.w/\∀g j p n,X.ow g= .row (.r j p) n->Y.ow g= .row (.r j p) n
theorem cG.refl(X:ak):cG X X:=⟨rfl,fun _ _ _ _ h=>h⟩
theorem cG.trans{X Y Z:ak}(h:cG X Y)(k:cG Y Z):cG X Z:=⟨k.1.trans h.1,fun g j p n e=>k.2 g j p n (h.2 g j p n e)⟩
theorem ar.pj{X Y:ak}(h:cG X Y)(hx:Ext X Y)(hβ:Y.β=X.β){j:Nat}{sv:SV}{v:Value}(hr:ar X (.r j) sv v):ar Y (.r j) sv v:=by
 cases sv with
 |undef=>trivial
 |skip=>exact hr
 |bK=>exact hr
 |dL=>exact hr
 |over=>exact hr
 |af t x own=>
  obtain⟨cs,h1,h2,h3⟩:=hr
  refine⟨cs,h1.mono hx,h2,fun p hp=> ?_⟩
  obtain⟨e,t',xs,v,g0,g1,g2,g3⟩:=h3 p hp
  refine⟨e,t',xs,v,g0,g1,g2,?_⟩
  rcases g3 with ho|⟨g,cap,cur,k1,k2,k3,k4,k5,k6⟩
  ·exact .inl ho
  ·exact .inr ⟨g,cap,cur,k1,by rw[h.1];exact k2,k3,k4,k5,h.2 _ _ _ _ k6⟩
 |ptr id t p=>obtain⟨r,h1,h2⟩:=hr;exact⟨r,by rw[hβ];exact h1,h2⟩
 |view t x=>
  obtain⟨ad,cs,h1,h2,h3,h4⟩:=hr
  exact⟨ad,cs,h1,h2,h3.mono hx,fun i u hi=>hx.au _ _ (h4 i u hi)⟩
 |cap f t x u y=>exact l9 hx.au hr
theorem U6{X:ak}{i j:Nat}{q:List Nat->Place}:cG X (X.turn i j q):=⟨rfl,fun g j p n h=>by simp only[ak.turn,h]⟩
theorem Uz{X:ak}{id:Nat}{p:List Nat}{q:List Nat->Place}:cG X (X.du id p q):=⟨rfl,fun g j p n h=>by simp only[ak.du,h]⟩
theorem LR(hE:ah P E):∀(rs:List ResultVar) (X:ak) (s s':State) (l:List SV) (j0:Nat),Rel X s a->dt E s rs=some (l,s')->
 ∃Y vs,Y.w=X.w/\Ext X Y/\cG X Y/\Y.β=X.β/\Rel Y s' a/\vs.length=l.length/\(∀(j:Nat) sv v,l[j]? =some sv->vs[j]? =some v->ar Y (.r (j0+j)) sv v)/\
  (rs.mapM (m:=Sem) fun x=>match x with
    | .tmp t=>pure (a.tmps.getD t Go.undef)
    | .cell ad t=>do loadVar t (<-asAddr (a.tmps.getD ad Go.undef))).run P X.w= .ok vs X.w
 | [],X,s,s',l,j0,hr,h=>by
   simp only[dt,Option.some.injEq,Prod.mk.injEq] at h
   obtain⟨rfl,rfl⟩:=h
   exact⟨X,[],rfl,Ext.refl X,cG.refl X,rfl,hr,rfl,fun j sv v hl=>by simp at hl,by simp⟩
 | .tmp t::r,X,s,s',l,j0,hr,h=>by
   simp only[dt] at h
   split at h
   case h_2=>cases h
   rename_i l1 s1 h1
   cases h
   have key:∃Y,Y.w=X.w/\Ext X Y/\cG X Y/\Y.β=X.β/\Rel Y (s.close [(t,0)]) a/\ar Y (.r j0) (one (s.slot t)) (a.tmps.getD t Go.undef):=by
    have bC:=hr.ax (.tmp t)
    cases hs:one (s.slot t) with
    |af ty x w=>
     have bC:ar X (.c t 0) (one (s.slot t)) (a.tmps.getD t Go.undef):=bC
     rw[hs] at bC
     obtain⟨cs,g1,g2,g3⟩:=bC
     have hT:cm (s.close [(t,0)]) X (X.turn t 0 (.r j0)):=Po fun p=>bP.close
     exact⟨X.turn t 0 (.r j0),rfl,hT.ext,U6,rfl,(hr.close _).mod hT.mod,cs,g1.aj (fun _ _=>hT.au.1),g2,g3.gh⟩
    |_=>
     refine⟨X,rfl,Ext.refl X,cG.refl X,rfl,hr.close _,?_⟩
     have bC:ar X (.c t 0) (one (s.slot t)) (a.tmps.getD t Go.undef):=bC
     rw[hs] at bC
     exact bC
   obtain⟨Y,hw,aT,bL,hβ,aY,aJ⟩:=key
   obtain⟨Z,vs,l4,bp,ly,hβ2,cg,hlen,gL,aQ⟩:=LR hE r Y _ s' l1 (j0+1) aY h1
   refine⟨Z,a.tmps.getD t Go.undef::vs,l4.trans hw,aT.trans bp,bL.trans ly,hβ2.trans hβ,cg,by simp [hlen],fun j sv v hl hv=> ?_,?_⟩
   ·cases j with
    |zero=>
     simp only[List.getElem?_cons_zero,Option.some.injEq] at hl hv
     subst hl hv
     exact aJ.pj ly bp hβ2
    |succ j=>
     simp only[List.getElem?_cons_succ] at hl hv
     rw[show j0+(j+1)=j0+1+j by omega]
     exact gL j sv v hl hv
   ·rw[hw] at aQ
    simp only[List.mapM_cons,Sem.run_bind,Sem.run_pure,Result.andThen_ok,aQ]
 | .cell p T::r,X,s,s',l,j0,hr,h=>by
   simp only[dt] at h
   split at h
   case h_2=>cases h
   rename_i id tt t eQ hT
   split at h
   case h_2=>cases h
   rename_i B hB
   split at h
   case isFalse=>cases h
   rename_i heq
   rw[Bool.and_eq_true] at heq
   have cU:tt.bf=false:=by simpa using heq.2
   have NI:=Ty.aH heq.1
   have ND:B.t.bf=false:=NI▸hE.dV hT
   split at h
   case h_2=>cases h
   rename_i l1 s1 h1
   cases h
   have hb:=ke hB
   obtain⟨r0,hβ,nw⟩:=hr.boxes id B hb
   obtain⟨cs,T',aF,aJ,how,bm⟩:=nw.cells ND
   have gN:=hr.slot p
   rw[eQ] at gN
   obtain⟨r1,hβ1,RN⟩:ar X (.c p 0) (.ptr id tt []) (a.tmps.getD p Go.undef):=gN
   obtain⟨hv,_⟩:=(zu cU).1 RN
   rw[hβ] at hβ1
   cases hβ1
   have dQ:Rel X (s.aC (some (id,{B with own:=[]}))) a:=hr.iB hb hβ ⟨how,ci.of ND aF aJ zw⟩
   have sc:∀q,¬bP (s.aC (some (id,{B with own:=[]}))) (.b id ([]++q)):=by
    rintro q ⟨B2,b9,hp⟩
    rw[FL hb] at b9
    cases b9
    cases hp
   have gm:=OS (X:=X) (q:= .r j0) sc
   have vp:ar (X.du id [] (.r j0)) (.r j0) (.af B.t B.x B.own) (cq B.t cs.toList):=by
    refine⟨cs.toList,aJ.aj (fun _ _=>gm.au.1),rfl,fun q hq=> ?_⟩
    obtain⟨e,t',xs,v,g0,g1,g2,g3⟩:=bm q hq
    exact⟨e,t',xs,v,g0,g1,g2,aV.jt (p:=[]) g3⟩
   obtain⟨Z,vs,l4,bp,ly,hβ2,cg,hlen,gL,aQ⟩:=LR hE r (X.du id [] (.r j0)) _ s' l1 (j0+1) (dQ.mod gm.mod) h1
   refine⟨Z,cq B.t cs.toList::vs,l4,gm.ext.trans bp,Uz.trans ly,hβ2,cg,by simp [hlen],fun j sv v hl hv=> ?_,?_⟩
   ·cases j with
    |zero=>
     simp only[List.getElem?_cons_zero,Option.some.injEq] at hl hv
     subst hl hv
     exact vp.pj ly bp hβ2
    |succ j=>
     simp only[List.getElem?_cons_succ] at hl hv
     rw[show j0+(j+1)=j0+1+j by omega]
     exact gL j sv v hl hv
   ·have hl:=sg (P:=P) hE (NI▸hT:E.ty T=some B.t) aJ (ad:=⟨r0,0,none⟩) (w:=X.w) (fun i v hi=>by
     rw[zr,Nat.zero_add]
     simp only[World.cell?,aF]
     simpa using hi)
    have RQ:(X.du id [] (.r j0)).w=X.w:=rfl
    rw[RQ] at aQ
    have lz:a.tmps.getD p Go.undef= .pointer (some ⟨r0,0,none⟩):=by simpa [Ty.off] using hv
    have ha:(asAddr (.pointer (some ⟨r0,0,none⟩))).run P X.w= .ok ⟨r0,0,none⟩ X.w:=by simp [asAddr]
    simp only[List.mapM_cons,Sem.run_bind,Sem.run_pure,Result.andThen_ok,aQ,lz,ha,hl]
def ak.zero(X:ak)(id:Nat):ak:=
 {X with ow:=fun g=>match X.ow g with
  | .box bu=>if bu=id then .box 0 else .box bu
  | .row (.b bu p) n=>if bu=id then .row (.b 0 p) n else .row (.b bu p) n
  |w=>w}
theorem sr{id:Nat}{ad:Addr}{v:Value}(h:X.au ad v):(X.zero id).au ad v:=by
 refine⟨h.1,h.2.1,?_⟩
 have:=h.2.2
 simp only[ak.zero]
 cases hx:X.ow ad.block with
 |box i=>rw[hx] at this;exact this.elim
 |row pl n=>
  rw[hx] at this
  cases pl with
  |b i p=>simp only;split<;>exact this
  |_=>exact this
 |_=>rw[hx] at this;exact this
theorem Zg{id:Nat}:Ext X (X.zero id) where
 au:=fun _ _=>sr
 size:=Nat.le_refl _
 os:=rfl
 tape:=rfl
 output:=rfl
 β0:=rfl
 still:=fun g _ bL=>by
  refine⟨?_,rfl⟩
  simp only[ak.zero]
  cases hx:X.ow g with
  |box i=>rw[hx] at bL;exact bL.elim
  |row pl n=>rw[hx] at bL;exact bL.elim
  |_=>rfl
theorem bd.zero{id r:Nat}{B:aX}(h:bd X id r B):bd (X.zero id) 0 r B:=by
 obtain⟨h3,h1⟩:=h
 refine⟨by simp [ak.zero,h3],h1.move (fun _ _=>sr) rfl (fun cs h4 p hp=> ?_) fun _ g o ho hw=>⟨ho,by simp [ak.zero,hw]⟩⟩
 obtain⟨e,t',xs,v,g0,g1,g2,g3⟩:=h4 p hp
 refine⟨e,t',xs,v,g0,g1,g2,?_⟩
 rcases g3 with ho|⟨g,cap,cur,k1,k2,k3,k4,k5,k6⟩
 ·exact .inl ho
 ·exact .inr ⟨g,cap,cur,k1,k2,k3,k4,k5,by simp [ak.zero,k6]⟩
theorem ar.zero{id j r0:Nat}{sv:SV}{v:Value}(hp:∀bu t p,sv= .ptr bu t p->X.β bu=some r0)(h:ar X (.r j) sv v):ar {X.zero id with β:=fun _=>some r0} (.r j) (sv.dM 0) v:=by
 cases sv with
 |undef=>trivial
 |skip=>exact h
 |bK=>exact h
 |dL=>exact h
 |over=>exact h
 |af t x own=>
  obtain⟨cs,h1,h2,h3⟩:=h
  refine⟨cs,aN.aj (Y:={X.zero id with β:=fun _=>some r0}) (fun ad v hs=>(sr hs:(X.zero id).au ad v)) h1,h2,fun p hp=> ?_⟩
  obtain⟨e,t',xs,v,g0,g1,g2,g3⟩:=h3 p hp
  refine⟨e,t',xs,v,g0,g1,g2,?_⟩
  rcases g3 with ho|⟨g,cap,cur,k1,k2,k3,k4,k5,k6⟩
  ·exact .inl ho
  ·exact .inr ⟨g,cap,cur,k1,k2,k3,k4,k5,by simp [ak.zero,k6]⟩
 |ptr bu t p=>
  obtain⟨r,h1,h2⟩:=h
  have:=hp bu t p rfl
  rw[h1] at this
  cases this
  exact⟨r0,rfl,h2⟩
 |view t x=>
  obtain⟨ad,cs,h1,h2,h3,h4⟩:=h
  exact⟨ad,cs,h1,h2,aN.aj (Y:={X.zero id with β:=fun _=>some r0}) (fun ad v hs=>(sr hs:(X.zero id).au ad v)) h3,fun i u hi=>(sr (h4 i u hi):(X.zero id).au _ _)⟩
 |cap f t x u y=>exact l9 (Y:={X.zero id with β:=fun _=>some r0}) (fun ad v hs=>(sr hs:(X.zero id).au ad v)) h
theorem ar.anyβ{j r0:Nat}{sv:SV}{v:Value}(hp:∀bu t p,sv≠ .ptr bu t p)(h:ar X (.r j) sv v):ar {X with β:=fun _=>some r0} (.r j) sv v:=by
 cases sv with
 |undef=>trivial
 |skip=>exact h
 |bK=>exact h
 |dL=>exact h
 |over=>exact h
 |af t x own=>
  obtain⟨cs,h1,h2,h3⟩:=h
  exact⟨cs,aN.aj (X:=X) (Y:={X with β:=fun _=>some r0}) (fun ad v (hs:X.au ad v)=>(hs:({X with β:=fun _=>some r0}:ak).au ad v)) h1,h2,h3⟩
 |ptr bu t p=>exact absurd rfl (hp bu t p)
 |view t x=>
  obtain⟨ad,cs,h1,h2,h3,h4⟩:=h
  exact⟨ad,cs,h1,h2,aN.aj (X:=X) (Y:={X with β:=fun _=>some r0}) (fun ad v (hs:X.au ad v)=>(hs:({X with β:=fun _=>some r0}:ak).au ad v)) h3,h4⟩
 |cap f t x u y=>exact l9 (X:=X) (Y:={X with β:=fun _=>some r0}) (fun ad v (hs:X.au ad v)=>(hs:({X with β:=fun _=>some r0}:ak).au ad v)) h
theorem xx:∀{l:List SV} {id:Nat} {t:Ty} {p:List Nat},SV.ptr id t p∈l->id∈pE l
 |v::r,id,t,p,h=>by
  rcases List.mem_cons.1 h with e|h
  ·subst e;simp [pE]
  ·have:=xx h
   cases v<;>simp [pE,this]
theorem LQ{l:List SV}{vs:List Value}(hlen:vs.length=l.length)(h:∀(j:Nat) sv v,l[j]? =some sv->vs[j]? =some v->ar X (.r j) sv v):bQ X .r l (if h:vs.toArray.size=1 then vs.toArray[0] else .tuple vs.toArray):=by
 match l,vs,hlen with
 | [sv],[v],_=>exact h 0 sv v rfl rfl
 | [],[],_=>exact⟨#[],rfl,rfl,fun j s u hs=>by simp at hs⟩
 |x::y::r,u::v::w,hlen=>
  refine⟨(u::v::w).toArray,by simp,by simpa using hlen,fun j s z hs hz=>h j s z hs (by simpa using hz)⟩
theorem Ui{Z:ak}{s':State}{b:Option aX}{l' r:List SV}{b':Option aX}{vs:List Value}(hX:Ext X Z)(cg:Rel Z s' a)(hlen:vs.length=l'.length)(dS:∀(j:Nat) sv v,l'[j]? =some sv->vs[j]? =some v->ar Z (.r j) sv v)
 (dp:sF s' b l' (fun r b=>some (r,b))=some (r,b')):∃Y',Y'.w=Z.w/\Ext X Y'/\n8 X Y' b r b' (if h:vs.toArray.size=1 then vs.toArray[0] else .tuple vs.toArray):=by
 unfold sF at dp
 cases b with
 |some B=>
  cases hp:pE l' with
  |cons _ _=>rw[hp] at dp;cases dp
  |nil=>
   rw[hp] at dp
   have lZ:∀id t p,SV.ptr id t p∉l':=fun id t p hm=>by
    have:=xx hm
    rw[hp] at this;cases this
   cases dg:s'.box 0 with
   |none=>simp only[dg] at dp;cases dp
   |some B'=>
    simp only[dg] at dp
    cases dp
    obtain⟨r0,h3,h4⟩:=cg.boxes 0 B' (ke dg)
    refine⟨Z,rfl,hX,r0,LQ hlen fun j sv v h1 h2=>(dS j sv v h1 h2).anyβ (fun id t p e=>lZ id t p (e▸List.mem_of_getElem? h1)),fun B2 b9=> ?_,fun _=>lZ⟩
    cases b9
    exact⟨h4,fun _=>by rw[<-hX.β0];exact h3⟩
 |none=>
  cases hp:pE l' with
  |nil=>
   rw[hp] at dp
   have lZ:∀id t p,SV.ptr id t p∉l':=fun id t p hm=>by
    have:=xx hm
    rw[hp] at this;cases this
   cases dp
   exact⟨Z,rfl,hX,0,LQ hlen fun j sv v h1 h2=>(dS j sv v h1 h2).anyβ (fun id t p e=>lZ id t p (e▸List.mem_of_getElem? h1)),(fun B2 b9=>by cases b9),fun _=>lZ⟩
  |cons id rest=>
   rw[hp] at dp
   cases rest with
   |cons _ _=>cases dp
   |nil=>
    cases hB:s'.box id with
    |none=>simp only[hB] at dp;cases dp
    |some B=>
     simp only[hB] at dp
     cases dp
     obtain⟨r0,h3,h4⟩:=cg.boxes id B (ke hB)
     refine⟨Z.zero id,rfl,hX.trans Zg,r0,?_,fun B2 b9=> ?_,fun hh=> ?_⟩
     ·refine LQ (by simpa using hlen) fun j sv v h1 h2=> ?_
      rw[List.getElem?_map] at h1
      obtain⟨s0,dz,rfl⟩:=Option.map_eq_some_iff.1 h1
      refine(dS j s0 v dz h2).zero fun bu t p e=> ?_
      have:=xx (e▸List.mem_of_getElem? dz)
      rw[hp] at this
      simp only[List.mem_singleton] at this
      subst this
      exact h3
     ·cases b9
      exact⟨h4.zero,fun hh=>by cases hh⟩
     ·rcases hh with hh|hh<;>cases hh
theorem xt:∀(ts:List Ty) (l:List SV),(aI ts l).length=l.length
 | [],l=>by simp [aI]
 |t::r,[]=>by simp [aI]
 |t::r,v::q=>by
  cases t<;>cases v<;>simp [aI,xt r q]
theorem Pe{X:ak}:∀(ts:List Ty) (l:List SV) (i:Nat) (sv:SV) (v:Value),(aI ts l)[i]? =some sv->(∀sv,l[i]? =some sv->∃pl,ar X pl sv v)->∀q,(∃nP,l[i]? =some nP/\(sv=nP\/sv=nP.shut\/nP= .bK))/\((∀nP,l[i]? =some nP->ar X q nP v)->ar X q sv v)
 | [],l,i,sv,v,h,_,q=>by
   have h:l[i]? =some sv:=by simpa [aI] using h
   exact⟨⟨sv,h,.inl rfl⟩,fun hh=>hh sv h⟩
 |t::r,[],i,sv,v,h,_,q=>by simp [aI] at h
 |t::r,x::y,i,sv,v,h,hx,q=>by
  cases i with
  |zero=>
   have key:(aI (t::r) (x::y))[0]? =some sv->(sv=x.shut)\/(x= .bK/\∃e u,sv= .af (.sl e u) ([]:List (El u)) []):=by
    intro h
    cases t<;>cases x<;>simp only[aI,List.getElem?_cons_zero,Option.some.injEq] at h<;>first|exact .inl h.symm|exact .inr ⟨rfl,_,_,h.symm⟩
   rcases key h with rfl|⟨rfl,e,u,rfl⟩
   ·exact⟨⟨x,rfl,.inr (.inl rfl)⟩,fun hh=>(hh x rfl).shut⟩
   ·refine⟨⟨_,rfl,.inr (.inr rfl)⟩,fun hh=> ?_⟩
    have:=hh _ rfl
    exact⟨[.slice none 0 0],⟨none,0,rfl,Nat.le_refl _,fun j x hj=>by simp at hj⟩,this,zw⟩
  |succ i=>
   have h':(aI r y)[i]? =some sv:=by
    cases t<;>cases x<;>simpa [aI] using h
   have:=Pe r y i sv v h' (fun sv hs=>hx sv (by simpa using hs)) q
   simpa using this
theorem W7{ts:List Ty}{l:List SV}{id:Nat}{t:Ty}{p:List Nat}(h:SV.ptr id t p∈aI ts l):SV.ptr id t p∈l:=by
 induction ts generalizing l with
 |nil=>simpa [aI] using h
 |cons u r ih=>
  cases l with
  |nil=>simp [aI] at h
  |cons v q=>
   have key:SV.ptr id t p=v.shut\/SV.ptr id t p∈aI r q:=by
    cases u<;>cases v<;>simp [aI,SV.shut] at h⊢ <;>first|exact h|exact .inr h|skip
   rcases key with e|hm
   ·rw[xy e.symm];simp
   ·exact List.mem_cons_of_mem _ (ih hm)
theorem DX(hE:ah P E)(hm:P.follows .mixedOrders=true){C C0:ae}(Nh:C0.Nat)(Rc:∀f,bX P C0 f){f:FuncId}{fn:Func}{code:Code}(fb:P.funcs[f]? =some fn)(lk:(fn.name== "runtime.NumGoroutine")=false)(jm:fn.body=some code)
 (hC:∀(l:List SV) (b:Option aX) (r:List SV) (b':Option aX),C (List SV×Option aX) f l b (fun r b=>some (r,b))=some (r,b')->∃k,ew E (C0 (List SV×Option aX)) k fn code l b (fun r b=>some (r,b))=some (r,b')):bX P C f:=by
 intro l b r b' h
 refine⟨⟨fn,code,fb,lk,jm⟩,fun X args dR=> ?_⟩
 obtain⟨k,h⟩:=hC l b r b' h
 unfold ew at h
 cases hg:(E.sp.isSome&&b.isSome) with
 |true=>rw[hg] at h;cases h
 |false=>
 rw[hg,cond_false] at h
 have hF:Fr E X:=fun bV=>dR.rows (by
  cases Ni:E.sp with
  |none=>exact absurd Ni bV
  |some z=>
   cases b with
   |none=>rfl
   |some B=>rw[Ni] at hg;cases hg)
 simp only at h
 obtain⟨⟨e,s⟩,h1,h2⟩:=zs (mj Nh code _ (fun e s=>some (e,s)) (K:=fun z=>match z.1 with
  | .exit _=>none
  |_=>match dt E z.2 fn.results.toList with
   |some (l,s')=>sF s' b (eo E l) (fun r b=>some (r,b))
   |none=>none) (fun e s=>by cases e<;>rfl) _) h
 refine calls_of_wp fb jm ?_
 have dq:=dR.size
 refine rD hE hm Nh Rc k code X X _ _ e s hF (Ext.refl X) (?_:Rel X _ _) h1 _ fun Y a' aT aY=> ?_
 ·have iq:=xt E.ps l
  refine⟨by simp [dq,iq],by simp [iq],fun i sl v hs hv=> ?_,fun id B hB=> ?_,fun i sl id t p hs hm=> ?_,rfl⟩
  ·by_cases hi:i<l.length
   ·rw[List.getElem?_append_left (by simpa [iq] using hi),List.getElem?_map] at hs
    obtain⟨sv,fc,rfl⟩:=Option.map_eq_some_iff.1 hs
    rw[Array.getElem?_append_left (by omega)] at hv
    exact(Pe E.ps l i sv v fc (fun sv h0=>⟨_,dR.rep i sv v h0 hv⟩) (.c i 0)).2 fun nP h0=>dR.rep i nP v h0 hv
   ·rw[List.getElem?_append_right (by simp [iq];omega),List.getElem?_replicate] at hs
    split at hs
    ·cases hs;trivial
    ·cases hs
  ·cases id with
   |zero=>
    simp only[List.getElem?_cons_zero,Option.some.injEq] at hB
    exact dR.box B hB
   |succ id=>
    simp only[List.getElem?_cons_succ,List.getElem?_replicate] at hB
    split at hB<;>cases hB
  ·by_cases hi:i<l.length
   ·rw[List.getElem?_append_left (by simpa [iq] using hi),List.getElem?_map] at hs
    obtain⟨sv,fc,rfl⟩:=Option.map_eq_some_iff.1 hs
    simp only[List.mem_singleton] at hm
    subst hm
    obtain⟨rfl,hb⟩:=dR.ptr id t p (W7 (List.mem_of_getElem? fc))
    cases b with
    |none=>cases hb
    |some B=>exact⟨B,rfl⟩
   ·rw[List.getElem?_append_right (by simp [iq];omega),List.getElem?_replicate] at hs
    split at hs
    ·cases hs;simp at hm
    ·cases hs
 ·
  have Cl:∃l s',dt E s fn.results.toList=some (l,s')/\sF s' b (eo E l) (fun r b=>some (r,b))=some (r,b')/\(e= .normal\/e= .ret):=by
   cases e with
   |exit id=>cases h2
   |normal=>
    simp only at h2
    split at h2
    ·exact⟨_,_,by assumption,h2,.inl rfl⟩
    ·cases h2
   |ret=>
    simp only at h2
    split at h2
    ·exact⟨_,_,by assumption,h2,.inr rfl⟩
    ·cases h2
  obtain⟨l',s',dQ,dp,he⟩:=Cl
  obtain⟨Z,vs,hw,bp,bL,hβ,cg,hlen,gL,aQ⟩:=LR hE fn.results.toList Y s s' l' 0 aY dQ
  have oT:(results fn a'.tmps).run P Y.w= .ok (if h:vs.toArray.size=1 then vs.toArray[0] else .tuple vs.toArray) Y.w:=by
   unfold results
   simp only[Array.mapM_eq_mapM_toList,Sem.run_bind,Sem.run_map,Sem.run_pure,Result.andThen_ok]
   exact congrArg (fun r:Result (List Value)=>(r.andThen fun a w'=>Result.ok a.toArray w').andThen fun a w'=>Result.ok (if h:a.size=1 then a[0] else Value.tuple a) w') aQ
  have hX:Ext X Z:=aT.trans bp
  have dS:∀(j:Nat) sv v,l'[j]? =some sv->vs[j]? =some v->ar Z (.r j) sv v:=fun j sv v h1 h2=>by
   have:=gL j sv v h1 h2
   rwa [Nat.zero_add] at this
  have vd:vs.length=(eo E l').length:=by
   unfold eo
   cases E.ro<;>simpa using hlen
  have q7:∀(j:Nat) sv v,(eo E l')[j]? =some sv->vs[j]? =some v->ar Z (.r j) sv v:=fun j sv v h1 h2=>by
   unfold eo at h1
   cases NF:E.ro with
   |false=>rw[NF] at h1;exact dS j sv v h1 h2
   |true=>
    rw[NF,cond_true,List.getElem?_map] at h1
    obtain⟨s0,dz,rfl⟩:=Option.map_eq_some_iff.1 h1
    exact ar.cP (dS j s0 v dz h2)
  have fin:=Ui (b:=b) hX cg vd q7 dp
  obtain⟨Y',w9,Nl,hL⟩:=fin
  have w9:=w9.trans hw
  rcases he with rfl|rfl
  ·exact⟨aY.defers,_,oT,Y',w9,Nl,hL⟩
  ·exact⟨aY.defers,_,oT,Y',w9,Nl,hL⟩
end Go.Ref

namespace Go.Ref
open Go
variable {P:Program} {E:Env}
def Wf:(t:Ty)->El t->Prop
 | .bool,_=>True
 | .int k,n=>(Lit.int k n).wf=true
 | .str,s=>s.size<=maxLen
 | .sl _ t,xs=>List.length xs<=maxLen/\∀x∈(xs:List (El t)),Wf t x
 | .arr n t,xs=>List.length xs=n/\∀x∈(xs:List (El t)),Wf t x
 | .unit,_=>True
 | .pair a b,x=>Wf a x.1/\Wf b x.2
 | .aP _ _ _,_=>False
theorem sj(hE:ah P E){T:TypeId}{t:Ty}(ht:E.ty T=some t):P.cellsOf T=t.cells:=by
 obtain⟨i,h1,h2,_⟩:=(hE.ty T t ht).info
 simp [Program.cellsOf,h1,h2]
def Ty.df:Ty->Bool
 | .sl _ t=> !(Nat.beq t.cells 0)&&t.df
 | .arr _ t=>t.df
 | .pair a b=>a.df&&b.df
 |_=>true
def lR(w:World)(β:Nat->Option Nat):ak:=⟨w,fun _=> .all,β⟩
theorem W9{w:World}{β:Nat->Option Nat}{a:Addr}{v:Value}(h:w.cell? a=some v):(lR w β).au a v:=⟨World.cell?_spot h,h,trivial⟩
theorem Ok{α:Type}{n:Nat}{p:Nat->α->Prop}(h:∀i,i<n->∃x,p i x):∃xs:List α,xs.length=n/\∀(i:Nat) x,xs[i]? =some x->p i x:=by
 induction n with
 |zero=>exact⟨[],rfl,fun i x hi=>by simp at hi⟩
 |succ n ih=>
  obtain⟨xs,h1,h2⟩:=ih fun i hi=>h i (by omega)
  obtain⟨y,hy⟩:=h n (by omega)
  refine⟨xs++ [y],by simp [h1],fun i x hi=> ?_⟩
  rw[List.getElem?_append] at hi
  split at hi
  ·exact h2 i x hi
  ·rename_i aK
   have Rj:i-xs.length=0:=by
    have:=(List.getElem?_eq_some_iff.1 hi).1
    simp at this
    omega
   rw[Rj] at hi
   simp only[List.getElem?_cons_zero,Option.some.injEq] at hi
   subst hi
   have:i=n:=by omega
   subst this
   exact hy
section
variable {H:Type} {enc:TypeId×Value->H} {w:World} {base:Nat} {spare:Nat->Bool} {held:Bool} {β:Nat->Option Nat}
theorem DZ(hE:ah P E):∀t:Ty,
 (∀(T:TypeId) (bI:Nat) (cs:List Value) (x:DataW H×List MemPlace),E.ty T=some t->t.df=true->DataW.trod enc P w base spare held bI T cs=some x->∃y:El t,aN (lR w β) t y cs/\Wf t y)/\
 (∀(fl:List Field) (off bI:Nat) (cs:List Value),zo E fl t off->t.df=true->off+t.cells<=cs.length->(∀f∈fl,∃x,DataW.trod enc P w base spare held bI f.type ((cs.drop f.offset).take (P.cellsOf f.type))=some x)->
   ∃y:El t,aN (lR w β) t y ((cs.drop off).take t.cells)/\Wf t y):=by
 intro t
 have fG:∀{t:Ty},t.b7=false->t≠ .unit->∀(fl:List Field) (off:Nat),¬zo E fl t off:=by
  intro t h1 h2 fl off h
  cases t<;>cases fl<;>simp_all [zo,Ty.b7]
 induction t with
 |aP k a b _ _=>exact⟨fun T bI cs x hT eA h=>absurd (hE.dV hT) (by simp [Ty.bf]),fun fl off bI cs hf=>absurd hf (fG rfl (by simp) fl off)⟩
 |bool=>
  refine⟨fun T bI cs x hT eA h=> ?_,fun fl off bI cs hf=>absurd hf (fG rfl (by simp) fl off)⟩
  have hu:=(hE.ty T _ hT).b8
  cases bI with
  |zero=>simp [DataW.trod] at h
  |succ m=>
   unfold DataW.trod at h
   rw[hu] at h
   split at h<;>try(first|cases h;done|(simp_all;done))
   rename_i b _
   exact⟨b,rfl,trivial⟩
 |int k=>
  refine⟨fun T bI cs x hT eA h=> ?_,fun fl off bI cs hf=>absurd hf (fG rfl (by simp) fl off)⟩
  have hu:=(hE.ty T _ hT).b8
  cases bI with
  |zero=>simp [DataW.trod] at h
  |succ m=>
   unfold DataW.trod at h
   rw[hu] at h
   split at h<;>simp_all
   rename_i k1 k2 n hk
   subst hk
   exact⟨n,rfl,h.1.2⟩
 |str=>
  refine⟨fun T bI cs x hT eA h=> ?_,fun fl off bI cs hf=>absurd hf (fG rfl (by simp) fl off)⟩
  have hu:=(hE.ty T _ hT).b8
  cases bI with
  |zero=>simp [DataW.trod] at h
  |succ m=>
   unfold DataW.trod at h
   rw[hu] at h
   split at h<;>simp_all
   rename_i s
   exact⟨s,rfl,h.1⟩
 |sl e t ih=>
  refine⟨fun T bI cs x hT eA h=> ?_,fun fl off bI cs hf=>absurd hf (fG rfl (by simp) fl off)⟩
  obtain⟨hu,he⟩:=(hE.ty T _ hT).b8
  have hc:=sj hE he
  rcases Go.Deep.open_slice hu h with⟨rfl,_⟩|⟨a,len,cap,m,n,D,Pl,rfl,hb,hl,hm,rZ,_,cT⟩
  ·exact⟨[],⟨none,0,rfl,Nat.le_refl _,fun j x hj=>by simp at hj⟩,by simp [maxLen],fun x hx=>by cases hx⟩
  ·have hlm:len<=m:=by rw[rZ];split<;>omega
   have hk:0<t.cells/\t.df=true:=by
    simp only[Ty.df,Bool.and_eq_true,Bool.not_eq_true'] at eA
    refine⟨?_,eA.2⟩
    rcases Nat.eq_zero_or_pos t.cells with h0|h0
    ·rw[h0] at eA;simp at eA
    ·exact h0
   obtain⟨ys,h1,h2⟩:=Ok (n:=len) (p:=fun i (y:El t)=>∃cI,w.cells? base (a.add (i*t.cells)) t.cells=some cI/\aN (lR w β) t y cI/\Wf t y) (fun i hi=>by
    obtain⟨cI,g1,g2⟩:=cT i (by omega)
    rw[hc] at g1
    obtain⟨y,k1,k2⟩:=ih.1 e n cI _ he hk.2 g2
    exact⟨y,cI,g1,k1,k2⟩)
   refine⟨ys,aN.nO h1 hl (fun j y hj=> ?_),by show ys.length<=_;omega,fun y hy=> ?_⟩
   ·obtain⟨cI,g1,g2,g3⟩:=h2 j y hj
    obtain⟨_,hlen,dI⟩:=World.cells?_some g1
    have hj0:=(List.getElem?_eq_some_iff.1 hj).1
    obtain⟨c0,e1,_⟩:=h2 0 _ (List.getElem?_eq_getElem (by omega))
    obtain⟨_,Nz,qU⟩:=World.cells?_some e1
    have oV:a.spot=none:=by
     have:=qU 0 (by omega)
     rw[List.getElem?_eq_getElem (by omega)] at this
     have h3:=World.cell?_spot this
     simpa [Addr.add] using h3
    refine⟨a,cI,rfl,oV,g2,fun i v hi=>W9 ?_⟩
    have Z9:=(List.getElem?_eq_some_iff.1 hi).1
    have:=dI i (by omega)
    rw[wm a oV,hi] at this
    exact this
   ·obtain⟨i,hi⟩:=List.mem_iff_getElem?.1 hy
    obtain⟨cI,_,_,g3⟩:=h2 i y hi
    exact g3
 |arr n t ih=>
  refine⟨fun T bI cs x hT eA h=> ?_,fun fl off bI cs hf=>absurd hf (fG rfl (by simp) fl off)⟩
  obtain⟨e,hu,he,_⟩:=(hE.ty T _ hT).b8
  have hc:=sj hE he
  have uV:=sj hE hT
  obtain⟨xs,m,rfl,_,hl,oY,cT⟩:=DataW.trod_array hu h
  obtain⟨ys,h1,h2⟩:=Ok (n:=n) (p:=fun i (y:El t)=>aN (lR w β) t y ((cs.drop (i*t.cells)).take t.cells)/\Wf t y) (fun i hi=>by
   have g:=cT i hi
   rw[hc,List.getElem?_eq_getElem (by omega)] at g
   exact ih.1 e m _ _ he eA g)
  refine⟨ys,⟨h1,by rw[hl,uV];rfl,fun j y hj=>(h2 j y hj).1⟩,h1,fun y hy=> ?_⟩
  obtain⟨i,hi⟩:=List.mem_iff_getElem?.1 hy
  exact(h2 i y hi).2
 |unit=>
  refine⟨fun T bI cs x hT eA h=> ?_,fun fl off bI cs hf eA hle dx=>⟨(),by simp [Ty.cells,aN],trivial⟩⟩
  obtain⟨fs,hu,b6,_⟩:=(hE.ty T _ hT).b8
  have uV:=sj hE hT
  obtain⟨xs,m,rfl,_,hl,_⟩:=DataW.trod_struct hu h
  rw[uV] at hl
  refine⟨(),?_,trivial⟩
  exact List.eq_nil_of_length_eq_zero hl
 |pair ta tb ga gb=>
  have step:∀(fl:List Field) (off bI:Nat) (cs:List Value),zo E fl (.pair ta tb) off->(Ty.pair ta tb).df=true->off+(Ty.pair ta tb).cells<=cs.length->(∀f∈fl,∃x,DataW.trod enc P w base spare held bI f.type ((cs.drop f.offset).take (P.cellsOf f.type))=some x)->
   ∃y:El (.pair ta tb),aN (lR w β) (.pair ta tb) y ((cs.drop off).take (Ty.pair ta tb).cells)/\Wf (.pair ta tb) y:=by
   intro fl off bI cs hf eA hle dx
   cases fl with
   |nil=>simp [zo] at hf
   |cons f fl=>
    obtain⟨f1,f2,f3,f4⟩:=hf
    simp only[Ty.df,Bool.and_eq_true] at eA
    simp only[Ty.cells] at hle
    obtain⟨x,hx⟩:=dx f (by simp)
    rw[sj hE f2,f1] at hx
    obtain⟨y1,r1,w1⟩:=ga.1 f.type bI _ x f2 eA.1 hx
    obtain⟨y2,r2,w2⟩:=gb.2 fl (off+ta.cells) bI cs f4 eA.2 (by omega) (fun g hg=>dx g (List.mem_cons_of_mem _ hg))
    refine⟨(y1,y2),⟨_,_,?_,r1,r2⟩,w1,w2⟩
    simp only[Ty.cells]
    rw[<-List.drop_drop]
    exact List.take_add
  refine⟨fun T bI cs x hT eA h=> ?_,step⟩
  obtain⟨fs,hu,b6,_⟩:=(hE.ty T _ hT).b8
  have uV:=sj hE hT
  obtain⟨xs,m,rfl,_,hl,oY,cT⟩:=DataW.trod_struct hu h
  rw[uV] at hl
  obtain⟨y,r,wf⟩:=step fs.toList 0 m cs b6 eA (by omega) (fun f hf=>by
   obtain⟨i,hi⟩:=List.mem_iff_getElem?.1 hf
   have B5:fs[i]? =some f:=by simpa using hi
   have:=cT i f B5
   have aK:=(List.getElem?_eq_some_iff.1 hi).1
   rw[List.getElem?_eq_getElem (by simp at aK;omega)] at this
   exact⟨_,this⟩)
  refine⟨y,?_,wf⟩
  rw[List.drop_zero,<-hl,List.take_length] at r
  exact r
end
end Go.Ref

namespace Go.Ref
open Go
variable {P:Program} {E:Env}
def MP:Value->Value->Bool
 | .bool a,.bool b=>a==b
 | .int k a,.int j b=>decide (k=j)&&decide (a=b)
 | .string a,.string b=>Nat.beq a.size 0&&Nat.beq b.size 0
 | .slice none 0 0,.slice none 0 0=>true
 |_,_=>false
theorem Om{a:ByteArray}(h:a.size=0):a=⟨#[]⟩:=by
 cases a with
 |mk d=>
  have:d.size=0:=h
  have:=Array.eq_empty_of_size_eq_zero this
  rw[this]
theorem WB{a b:Value}(h:MP a b=true):a=b:=by
 unfold MP at h
 split at h
 ·simp at h;rw[h]
 ·simp at h;rw[h.1,h.2]
 ·simp only[Bool.and_eq_true] at h
  rw[Om (Nat.eq_of_beq_eq_true h.1),Om (Nat.eq_of_beq_eq_true h.2)]
 ·rfl
 ·cases h
def wq:List Value->List Value->Bool
 | [],[]=>true
 |a::r,b::q=>MP a b&&wq r q
 |_,_=>false
theorem FH:∀{a b:List Value},wq a b=true->a=b
 | [],[],_=>rfl
 |a::r,b::q,h=>by
  simp only[wq,Bool.and_eq_true] at h
  rw[WB h.1,FH h.2]
def MU(t:Ty)(v:Value):Bool:=
 match v with
 | .agg cs=>t.agg&&wq cs.toList (zf t)
 |v=> !t.agg&&wq [v] (zf t)
theorem Xr{t:Ty}{v:Value}(h:MU t v=true):v=cq t (zf t):=by
 unfold MU at h
 split at h
 ·simp only[Bool.and_eq_true] at h
  rw[zm h.1,<-FH h.2]
 ·simp only[Bool.and_eq_true,Bool.not_eq_true'] at h
  rw[<-FH h.2,ww h.1]
def jP(E:Env):List Field->Ty->Nat->Bool
 | [],.unit,_=>true
 |f::r,.pair a b,off=>Nat.beq f.offset off&&((match E.ty f.type with
  |some t=>t.bE a
  |none=>false)&&(!(f.name== "_")&&jP E r b (off+a.cells)))
 |_,_,_=>false
theorem HB:∀{fl:List Field} {t:Ty} {off:Nat},jP E fl t off=true->zo E fl t off
 | [],t,off,h=>by cases t<;>simp_all [jP,zo]
 |f::r,t,off,h=>by
  cases t<;>simp only[jP,Bool.and_eq_true] at h<;>try(cases h;done)
  obtain⟨h1,h2,h3,h4⟩:=h
  refine⟨Nat.eq_of_beq_eq_true h1,?_,?_,HB h4⟩
  ·cases hf:E.ty f.type with
   |none=>rw[hf] at h2;cases h2
   |some u=>rw[hf] at h2;rw[Ty.aH h2]
  ·simpa using h3
def nU(E:Env)(T:TypeId)(t:Ty):Bool:=
 match E.ty T with
 |some u=>u.bE t
 |none=>false
theorem Ql{T:TypeId}{t:Ty}(h:nU E T t=true):E.ty T=some t:=by
 unfold nU at h
 split at h
 ·rename_i u hu;rw[hu,Ty.aH h]
 ·cases h
def rA(P:Program)(E:Env)(T:TypeId)(t:Ty):Bool:=
 match P.underlying T,t with
 |some .bool,.bool=>true
 |some (.int k),.int j=>decide (k=j)
 |some .string,.str=>true
 |some (.slice e),.sl e' u=>Nat.beq e e'&&nU E e u
 |some (.array n e),.arr m u=>Nat.beq n m&&(nU E e u&& !P.eqGuardType P.depth T)
 |some (.struct fs),.unit=>jP E fs.toList .unit 0&&(!P.stoodInHeld T&& !P.eqGuardType P.depth T)
 |some (.struct fs),.pair a b=>jP E fs.toList (.pair a b) 0&&(!P.stoodInHeld T&& !P.eqGuardType P.depth T)
 |_,_=>false
theorem Ze{T:TypeId}{t:Ty}(h:rA P E T t=true):Qw P E T t:=by
 unfold rA at h
 split at h
 ·assumption
 ·rename_i k j hu;rw[<-of_decide_eq_true h];exact hu
 ·assumption
 ·rename_i e e' u hu
  simp only[Bool.and_eq_true] at h
  have:=Nat.eq_of_beq_eq_true h.1
  subst this
  exact⟨hu,Ql h.2⟩
 ·rename_i n e m u hu
  simp only[Bool.and_eq_true] at h
  have:=Nat.eq_of_beq_eq_true h.1
  subst this
  exact⟨e,hu,Ql h.2.1,by simpa using h.2.2⟩
 ·rename_i fs hu
  simp only[Bool.and_eq_true,Bool.not_eq_true'] at h
  exact⟨fs,hu,HB h.1,h.2.1,h.2.2⟩
 ·rename_i fs a b hu
  simp only[Bool.and_eq_true,Bool.not_eq_true'] at h
  exact⟨fs,hu,HB h.1,h.2.1,h.2.2⟩
 ·cases h
def oZ(P:Program)(E:Env)(T:TypeId)(t:Ty):Bool:=
 match P.info? T with
 |some i=>Nat.beq i.size t.cells&&(Nat.beq i.bytes (E.bytes T)&&match i.zero with
  |some v=>MU t v
  |none=>false)
 |none=>false
def qO(P:Program)(E:Env)(T:TypeId):Bool:=
 match E.ty T with
 |some t=>oZ P E T t&&rA P E T t
 |none=>true
theorem YP{T:TypeId}{t:Ty}(h:qO P E T=true)(ht:E.ty T=some t):fW P E T t:=by
 unfold qO at h
 rw[ht] at h
 simp only[Bool.and_eq_true] at h
 refine⟨?_,Ze h.2⟩
 have h1:=h.1
 unfold oZ at h1
 split at h1
 ·rename_i i hi
  simp only[Bool.and_eq_true] at h1
  obtain⟨g1,g2,g3⟩:=h1
  split at g3
  ·rename_i v hv
   exact⟨i,hi,Nat.eq_of_beq_eq_true g1,Nat.eq_of_beq_eq_true g2,by rw[hv,Xr g3]⟩
  ·cases g3
 ·cases h1
def NP(P:Program)(T:TypeId):Bool:=
 match P.underlying T with
 |some (.pointer _)=>true
 |_=>false
structure jD where
 sf:List (Option Ty)
 BJ:List Nat
 pf:List Bool
 xc:List (TypeId×TypeId×TypeId):=[]
def nL:List (TypeId×TypeId×TypeId)->TypeId->Option (TypeId×TypeId)
 | [],_=>none
 |q::r,T=>bif Nat.beq q.1 T then some q.2 else nL r T
def CI(P:Program)(q:TypeId×TypeId×TypeId):Bool:=
 match P.underlying q.1 with
 |some (.map k e)=>Nat.beq k q.2.1&&Nat.beq e q.2.2
 |_=>false
theorem Qg{P:Program}:∀{l:List (TypeId×TypeId×TypeId)},l.all (CI P)=true->∀{T k e:TypeId},nL l T=some (k,e)->P.underlying T=some (.map k e)
 |q::r,hl,T,k,e,h=>by
  simp only[List.all_cons,Bool.and_eq_true] at hl
  unfold nL at h
  cases hq:Nat.beq q.1 T with
  |false=>rw[hq] at h;exact Qg hl.2 h
  |true=>
   rw[hq] at h
   have:=Nat.eq_of_beq_eq_true hq
   subst this
   have h1:=hl.1
   unfold CI at h1
   split at h1
   ·rename_i k' e' hu
    simp only[Bool.and_eq_true] at h1
    have a1:=Nat.eq_of_beq_eq_true h1.1
    have a2:=Nat.eq_of_beq_eq_true h1.2
    rw[hu,a1,a2]
    have h:some q.2=some (k,e):=h
    injection h with h
    rw[h]
   ·cases h1
def jD.env(t:jD)(cj fC:Nat->List Nat)(outs:List Nat)(ps:List Ty):Env:=⟨fun T=>t.sf.getD T none,fun T=>t.BJ.getD T 0,fun T=>t.pf.getD T false,cj,fC,outs,ps,nL t.xc,fun _=>none,fun _=>none,fun _=>[],[],false,[],fun _=>[],fun _=>none,none⟩
def jD.nu(t:jD):Env:=t.env (fun _=>[]) (fun _=>[]) [] []
def jD.ok(P:Program)(t:jD):Bool:=(List.range t.sf.length).all (qO P t.nu)&&((List.range t.pf.length).all (fun T=> !t.pf.getD T false||NP P T)&&t.xc.all (CI P))
theorem mc{E':Env}(h1:E.ty=E'.ty)(h2:E.bytes=E'.bytes){T:TypeId}{t:Ty}(h:fW P E T t):fW P E' T t:=by
 have b6:∀(fl:List Field) (t:Ty) (off:Nat),zo E fl t off->zo E' fl t off:=by
  intro fl
  induction fl with
  |nil=>intro t off h;cases t<;>simp_all [zo]
  |cons f r ih=>
   intro t off h
   cases t<;>simp only[zo] at h⊢ <;>try exact h
   exact⟨h.1,by rw[<-h1];exact h.2.1,h.2.2.1,ih _ _ h.2.2.2⟩
 refine⟨by rw[<-h2];exact h.info,?_⟩
 have hu:=h.b8
 cases t with
 |bool=>exact hu
 |int k=>exact hu
 |str=>exact hu
 |sl e u=>exact⟨hu.1,by rw[<-h1];exact hu.2⟩
 |arr n u=>obtain⟨e,g1,g2⟩:=hu;exact⟨e,g1,by rw[<-h1];exact g2⟩
 |unit=>obtain⟨fs,g1,g2,g3⟩:=hu;exact⟨fs,g1,b6 _ _ _ g2,g3⟩
 |pair a b=>obtain⟨fs,g1,g2,g3⟩:=hu;exact⟨fs,g1,b6 _ _ _ g2,g3⟩
 |aP k a b=>exact hu.elim
theorem ah.join(h:ah P E)(j:Nat->Option (List Nat)):ah P {E with join:=j}:=
 ⟨fun T u hT=>mc (E:=E) (E':={E with join:=j}) rfl rfl (h.ty T u hT),h.pt,h.mp,h.bl⟩
theorem ah.fz(h:ah P E)(j:Nat->Option (Nat×TypeId)):ah P {E with fz:=j}:=
 ⟨fun T u hT=>mc (E:=E) (E':={E with fz:=j}) rfl rfl (h.ty T u hT),h.pt,h.mp,h.bl⟩
theorem ah.dr(h:ah P E)(j:Nat->List Nat):ah P {E with dr:=j}:=
 ⟨fun T u hT=>mc (E:=E) (E':={E with dr:=j}) rfl rfl (h.ty T u hT),h.pt,h.mp,h.bl⟩
theorem ah.sh(h:ah P E)(j:List Nat):ah P {E with sh:=j}:=
 ⟨fun T u hT=>mc (E:=E) (E':={E with sh:=j}) rfl rfl (h.ty T u hT),h.pt,h.mp,h.bl⟩
theorem ah.mv(h:ah P E)(j:List Nat):ah P {E with mv:=j}:=
 ⟨fun T u hT=>mc (E:=E) (E':={E with mv:=j}) rfl rfl (h.ty T u hT),h.pt,h.mp,h.bl⟩
theorem ah.fr(h:ah P E)(j:Nat->List Nat):ah P {E with fr:=j}:=
 ⟨fun T u hT=>mc (E:=E) (E':={E with fr:=j}) rfl rfl (h.ty T u hT),h.pt,h.mp,h.bl⟩
def Na(P:Program)(T:TypeId):Bool:=
 match P.info? T with
 |some i=>match i.zero with
  |some (.agg a)=>match a.toList with
   | [.pointer none,.slice none 0 0]=>true
   |_=>false
  |_=>false
 |none=>false
theorem ah.dk(h:ah P E)(T e:TypeId)(hT:Na P T=true):ah P {E with bl:=fun t=>bif Nat.beq t T then some e else none}:=
 ⟨fun T' u hT=>mc (E:=E) (E':={E with bl:=fun t=>bif Nat.beq t T then some e else none}) rfl rfl (h.ty T' u hT),h.pt,h.mp,fun T' e' he=>by
   have he:(bif Nat.beq T' T then some e else none)=some e':=he
   cases hb:Nat.beq T' T with
   |false=>rw[hb] at he;cases he
   |true=>
    have:=Nat.eq_of_beq_eq_true hb
    subst this
    unfold Na at hT
    split at hT
    case h_2=>cases hT
    rename_i i hi
    split at hT
    case h_2=>cases hT
    rename_i a ha
    split at hT
    case h_2=>cases hT
    rename_i hl
    exact⟨i,hi,by rw[ha];congr 1;congr 1;apply Array.ext';rw[hl]⟩⟩
theorem ah.sp(h:ah P E)(j:Option (Nat×Nat×Nat×Nat)):ah P {E with sp:=j}:=
 ⟨fun T u hT=>mc (E:=E) (E':={E with sp:=j}) rfl rfl (h.ty T u hT),h.pt,h.mp,h.bl⟩
theorem ah.ro(h:ah P E)(j:Bool):ah P {E with ro:=j}:=
 ⟨fun T u hT=>mc (E:=E) (E':={E with ro:=j}) rfl rfl (h.ty T u hT),h.pt,h.mp,h.bl⟩
theorem jD.im{t:jD}(h:t.ok P=true)(cj fC:Nat->List Nat)(outs:List Nat)(ps:List Ty):ah P (t.env cj fC outs ps):=by
 unfold jD.ok at h
 simp only[Bool.and_eq_true] at h
 refine⟨fun T u hT=> ?_,fun T hT=> ?_,fun T k e hT=>Qg h.2.2 hT,fun T e hT=>by cases hT⟩
 ·refine mc (E:=t.nu) (E':=t.env cj fC outs ps) rfl rfl (YP ?_ hT)
  refine List.all_eq_true.1 h.1 T (List.mem_range.2 ?_)
  have oL:t.sf.getD T none=some u:=hT
  rcases Nat.lt_or_ge T t.sf.length with h1|h1
  ·exact h1
  ·rw[List.getD_eq_getElem?_getD,List.getElem?_eq_none h1] at oL;cases oL
 ·have oL:t.pf.getD T false=true:=hT
  have aK:T<t.pf.length:=by
   rcases Nat.lt_or_ge T t.pf.length with h1|h1
   ·exact h1
   ·rw[List.getD_eq_getElem?_getD,List.getElem?_eq_none h1] at oL;cases oL
  have:=List.all_eq_true.1 h.2.1 T (List.mem_range.2 aK)
  rw[oL] at this
  simp only[Bool.not_true,Bool.false_or] at this
  unfold NP at this
  split at this
  ·rename_i e he;exact⟨e,he⟩
  ·cases this
end Go.Ref

namespace Go.Ref
open Go
variable {P:Program} {E:Env}
abbrev Pure:=(R:Type)->List SV->Option aX->(List SV->Option aX->Option R)->Option R
def Pure.Nat(g:Pure):Prop:=∀(R S:Type) l b (F:List SV->Option aX->Option R) (G:List SV->Option aX->Option S) (K:S->Option R),(∀r b,F r b=(G r b).bind K)->g R l b F=(g S l b G).bind K
def ae.none:ae:=fun _ _ _ _ _=> .none
def ae.add(C:ae)(n:FuncId)(ps:List Ty)(g:Pure):ae:=fun R f l b K=>bif Nat.beq f n then g R (aI ps l) b K else C R f l b K
theorem YY:ae.none.Nat:=fun _ _ _ _ _ _ _ _ _=>rfl
theorem W6(f:FuncId):bX P ae.none f:=fun _ _ _ _ h=>by cases h
theorem zO{C:ae}{n:FuncId}{ps:List Ty}{g:Pure}(hC:C.Nat)(hg:g.Nat):(C.add n ps g).Nat:=fun R S f l b F G K h=>by
 unfold ae.add
 cases Nat.beq f n with
 |false=>exact hC R S f l b F G K h
 |true=>exact hg R S _ b F G K h
theorem Yu(hE:ah P E)(hm:P.follows .mixedOrders=true){C:ae}(hC:C.Nat)(h0:∀f,bX P C f){n:FuncId}{ps:List Ty}{g:Pure}{fn:Func}{code:Code}(fb:P.funcs[n]? =some fn)(lk:(fn.name== "runtime.NumGoroutine")=false)(jm:fn.body=some code)
 (h:∀(l:List SV) (b:Option aX) (r:List SV) (b':Option aX),g (List SV×Option aX) (aI ps l) b (fun r b=>some (r,b))=some (r,b')->∃k,ew E (C (List SV×Option aX)) k fn code l b (fun r b=>some (r,b))=some (r,b')):∀f,bX P (C.add n ps g) f:=by
 intro f
 by_cases e:f=n
 ·subst e
  refine DX hE hm hC h0 fb lk jm fun l b r b' hc=>h l b r b' ?_
  unfold ae.add at hc
  have:Nat.beq f f=true:=by simp
  rw[this] at hc
  exact hc
 ·intro l b r b' hc
  unfold ae.add at hc
  have:Nat.beq f n=false:=by
   cases hh:Nat.beq f n with
   |false=>rfl
   |true=>exact absurd (Nat.eq_of_beq_eq_true hh) e
  rw[this] at hc
  exact h0 f l b r b' hc
def sub:List Nat->Code->Code
 | [],c=>c
 |0::p,.seq a _=>sub p a
 |_::p,.seq _ b=>sub p b
 |0::p,.cond _ a _=>sub p a
 |_::p,.cond _ _ b=>sub p b
 |_::p,.block _ b=>sub p b
 |_::p,.loop b=>sub p b
 |_,c=>c
section
variable {R:Type}
def zd(id:Nat)(K:Ex->State->Option R):Ex->State->Option R:=fun e s=>match e with
 | .exit j=>bif Nat.beq j id then K .normal s else K (.exit j) s
 |e=>K e s
def aS(E:Env)(C:FuncId->bg R)(k:Nat)(b:Code)(K:Ex->State->Option R):Ex->State->Option R:=fun e s=>match e with
 | .normal=>gS E k (zy b) s fun s=>ev E C k b s K
 |e=>K e s
def aW(E:Env)(rs:List ResultVar)(bx:Option aX)(K:List SV->Option aX->Option R):Ex->State->Option R:=fun e s=>match e with
 | .exit _=>none
 |_=>match dt E s rs with
  |some (l,s')=>sF s' bx (eo E l) K
  |none=>none
end
section
variable {R:Type}
def dY(l:List SV)(K:Option R):Option R:=
 match l with
 | []=>K
 |_=>none
def dZ(t:Ty)(l:List SV)(K:El t->Option R):Option R:=
 match l with
 | [a]=>a.el t K
 |_=>none
def dG(t u:Ty)(l:List SV)(K:El t->El u->Option R):Option R:=
 match l with
 | [a,b]=>a.el t fun x=>b.el u fun y=>K x y
 |_=>none
def fw(t u v:Ty)(l:List SV)(K:El t->El u->El v->Option R):Option R:=
 match l with
 | [a,b,c]=>a.el t fun x=>b.el u fun y=>c.el v fun z=>K x y z
 |_=>none
def fx(t u v w:Ty)(l:List SV)(K:El t->El u->El v->El w->Option R):Option R:=
 match l with
 | [a,b,c,d]=>a.el t fun x=>b.el u fun y=>c.el v fun z=>d.el w fun z'=>K x y z z'
 |_=>none
end
theorem DW{R:Type}{t:Ty}{v:SV}{r:List Ty}{q:List SV}{K:El t->Option R}{z:R}{v':SV}{q':List SV}(hn:aI (t::r) (v::q)=v'::q')(h:v'.el t K=some z):∃y,v'= .af t y []/\q'=aI r q/\K y=some z:=by
 have key:v'=v.shut/\q'=aI r q\/(∃e u,t= .sl e u/\v'= .af (.sl e u) ([]:List (El u)) []/\q'=aI r q):=by
  cases t<;>cases v<;>simp only[aI,List.cons.injEq] at hn<;>first|exact .inl ⟨hn.1.symm,hn.2.symm⟩|exact .inr ⟨_,_,rfl,hn.1.symm,hn.2.symm⟩
 rcases key with⟨rfl,rfl⟩|⟨e,u,rfl,rfl,rfl⟩
 ·cases v with
  |af t' x own=>
   simp only[SV.shut,SV.el] at h
   split at h
   ·rename_i heq
    have:=Ty.aH heq
    subst this
    exact⟨x,rfl,rfl,h⟩
   ·cases h
  |bK=>cases t<;>first|(simp [SV.shut,SV.el] at h;done)|(simp [aI,SV.shut] at hn;done)
  |_=>simp [SV.shut,SV.el] at h
 ·simp only[SV.el,Ty.bk,dite_true] at h
  exact⟨[],rfl,rfl,h⟩
theorem PJ(hE:ah P E){H:Type}{enc:TypeId×Value->H}{w:World}{spare:Nat->Bool}{held:Bool}{β:Nat->Option Nat}{base b:Nat}{T:TypeId}{t:Ty}{v:Value}{d:DataW H}{ps:List MemPlace}(hT:E.ty T=some t)(eA:t.df=true)
 (hv:Value.okWide P w .any b T v) (hd:DataW.Trod enc P w base spare held T v d ps):∃y:El t,Wf t y/\∀q,ar (lR w β) q (.af t y []) v:=by
 obtain⟨bI,hd⟩:=hd
 obtain⟨y,r,wf⟩:=(DZ (β:=β) hE t).1 T bI _ _ hT eA hd
 refine⟨y,wf,fun q=>⟨_,r,?_,zw⟩⟩
 have hu:=(hE.ty T t hT).b8
 have hl:=r.len
 cases ht:t.agg with
 |true=>
  rw[zm ht]
  have:∃cs,v= .agg cs:=by
   unfold Value.okWide at hv
   cases t with
   |arr n t=>obtain⟨e,h1,_⟩:=hu;rw[h1] at hv;obtain⟨cs,h,_⟩:=hv;exact⟨cs,h⟩
   |unit=>obtain⟨fs,h1,_⟩:=hu;rw[h1] at hv;obtain⟨cs,h,_⟩:=hv;exact⟨cs,h⟩
   |pair a b=>obtain⟨fs,h1,_⟩:=hu;rw[h1] at hv;obtain⟨cs,h,_⟩:=hv;exact⟨cs,h⟩
   |aP k a b=>exact absurd (hE.dV hT) (by simp [Ty.bf])
   |_=>simp [Ty.agg] at ht
  obtain⟨cs,rfl⟩:=this
  rfl
 |false=>
  have Ce:∀cs,v≠ .agg cs:=by
   rintro cs rfl
   unfold Value.okWide at hv
   cases t with
   |bool=>have hu:P.underlying T=some .bool:=hu;rw[hu] at hv;unfold Cell.okWide at hv;rw[hu] at hv;unfold Cell.ok at hv;rw[hu] at hv;exact hv
   |int k=>have hu:P.underlying T=some (.int k):=hu;rw[hu] at hv;unfold Cell.okWide at hv;rw[hu] at hv;unfold Cell.ok at hv;rw[hu] at hv;exact hv
   |str=>have hu:P.underlying T=some .string:=hu;rw[hu] at hv;unfold Cell.okWide at hv;rw[hu] at hv;unfold Cell.ok at hv;rw[hu] at hv;exact hv
   |sl e t=>have hu:P.underlying T=some (.slice e):=hu.1;rw[hu] at hv;unfold Cell.okWide at hv;rw[hu] at hv;unfold Cell.ok at hv;rw[hu] at hv;exact hv
   |_=>simp [Ty.agg] at ht
  have hc:v.cells.toList=[v]:=by
   cases v<;>first|rfl|exact absurd rfl (Ce _)
  rw[hc,ww ht]
theorem U5{w:World}{β:Nat->Option Nat}{Y:ak}(h:Ext (lR w β) Y):∀g,g<w.heap.size->Y.w.heap[g]? =w.heap[g]? :=fun g hg=>(h.still g hg trivial).2
end Go.Ref

namespace Go.Ref
open Go
theorem QE{x:Int}(h1: -9223372036854775808<=x)(h2:x<=9223372036854775807):IntKind.i64.wrap x=x:=by
 simp [IntKind.wrap,IntKind.signed,IntKind.bits]
 omega
theorem Xp{R:Type}{j n:Nat}{x:Option R}(h:j<n):za (j:Int) n x=x:=by
 unfold za
 rw[decide_eq_true (by omega:(0:Int)<=j),decide_eq_true (by omega:(j:Int)<n)]
 rfl
variable {P:Program} {E:Env}
def wy(X:ak):List SV->List Value->Prop
 | [],[]=>True
 |s::l,v::vs=>(∀q,ar X q s v)/\(∀id t p,s≠ .ptr id t p)/\wy X l vs
 |_,_=>False
theorem OC{X:ak}:∀{l:List SV} {vs:List Value},wy X l vs->vs.length=l.length/\∀(i:Nat) s v,l[i]? =some s->vs[i]? =some v->(∀q,ar X q s v)/\∀id t p,s≠ .ptr id t p
 | [],[],_=>⟨rfl,fun i s v h=>by simp at h⟩
 |s::l,v::vs,h=>by
  obtain⟨h1,h2,h3⟩:=h
  obtain⟨g1,g2⟩:=OC h3
  refine⟨by simp [g1],fun i s' v' hs hv=> ?_⟩
  cases i with
  |zero=>
   simp only[List.getElem?_cons_zero,Option.some.injEq] at hs hv
   subst hs hv
   exact⟨h1,h2⟩
  |succ i=>
   simp only[List.getElem?_cons_succ] at hs hv
   exact g2 i s' v' hs hv
theorem YM{X:ak}{l:List SV}{args:Array Value}(h:wy X l args.toList)(hX:∀g pl n,X.ow g≠ .row pl n):fp X l none args:=by
 obtain⟨h1,h2⟩:=OC h
 refine⟨by simpa using h1,fun i sv v hs hv=>(h2 i sv v hs (by simpa using hv)).1 _,fun id t p hm=> ?_,fun B hB=>(by cases hB),fun _=>hX⟩
 obtain⟨i,hi⟩:=List.mem_iff_getElem?.1 hm
 have aK:=(List.getElem?_eq_some_iff.1 hi).1
 have lh:i<args.toList.length:=by omega
 exact absurd rfl ((h2 i _ _ hi (List.getElem?_eq_getElem lh)).2 id t p)
theorem Xc{C:ae}{f:FuncId}(ho:bX P C f){l:List SV}{args:Array Value}{W:World}{b:Bool}(hc:C (List SV×Option aX) f l none (fun r b=>some (r,b))=some ([.af .bool b []],none))(dR:wy (lR W fun _=>none) l args.toList):
 Calls P f args W fun e w'=>e= .returned (.bool b)/\RowKit.Below W.heap.size W w':=by
 refine((ho l none _ _ hc).2 (lR W fun _=>none) args (YM dR fun g pl n e=>by cases e)).mono fun e w' he=> ?_
 cases e with
 |returned v=>
  obtain⟨Y,rfl,aT,r0,aJ,_,_⟩:=he
  have aJ:ar {Y with β:=fun _=>some r0} (.r 0) (.af .bool b []) v:=aJ
  refine⟨by rw[z21 aJ],aT.os,aT.tape,aT.output,aT.size,fun k hk=>U5 aT k hk⟩
 |panicked c=>exact he.elim
 |outgrown=>exact he.elim
end Go.Ref

namespace Go.Ref
open Go
variable {P:Program} {E:Env}
def bs(l:List Nat):ByteArray:=⟨(l.map UInt8.ofNat).toArray⟩
@[irreducible] def aq:Nat:=18446744073709551616
section
variable {R S:Type}
def lF(body:State->(Ex->State->Option R)->Option R)(l lx:List Nat)(k:Nat)(K:Ex->State->Option R):Ex->State->Option R:=fun e s=>match e with
 | .normal=>jZ l s fun s=>az body l lx k s K
 |e=>jZ lx s fun s=>K e s
def il(t:Ty)(own:List (List Nat))(l:List SV)(b:Option aX)(K:El t->List SV->Option R):Option R:=
 match l,b with
 | .ptr 0 u []::r,some B=>if h:B.t.bE t=true then if(u.bE t&&B.own==own)=true then K (Ty.cast h B.x) r else none else none
 |_,_=>none
def fu(t pt bt:Ty)(own:List (List Nat))(l:List SV)(b:Option aX)(K:El t->El bt->Option R):Option R:=
 match l,b with
 | [a,.ptr 0 u []],some B=>if h:B.t.bE bt=true then if(u.bE pt&&B.own==own)=true then a.el t fun y=>K y (Ty.cast h B.x) else none else none
 |_,_=>none
def sD(t u v w:Ty)(l:List SV)(K:El t->El u->El v->El w->Option R):Option R:=
 match l with
 | [a,b,.view v' x,.view w' y]=>if h:v'.bE v=true then if h2:w'.bE w=true then a.el t fun p=>b.el u fun q=>K p q (Ty.cast h x) (Ty.cast h2 y) else none else none
 |_=>none
def de(b:Option aX)(K:Option R):Option R:=
 match b with
 |none=>K
 |some _=>none
theorem z28{b:Option aX}{F:Option R}{G:Option S}{K:S->Option R}(h:F=G.bind K):de b F=(de b G).bind K:=by
 cases b
 ·exact h
 ·rfl
theorem rC{b:Option aX}{F:Option R}{z:R}(h:de b F=some z):b=none/\F=some z:=by
 cases b
 ·exact⟨rfl,h⟩
 ·cases h
theorem G9(c:Bool)(x y:Option S)(F:S->Option R):(bif c then x else y).bind F=bif c then x.bind F else y.bind F:=by cases c<;>rfl
theorem UA(i:Int)(n:Nat)(x:Option S)(F:S->Option R):(za i n x).bind F=za i n (x.bind F):=by
 unfold za;rw[G9,G9];rfl
theorem W5(F:S->Option R):(none:Option S).bind F=none:=Eq.trans rfl rfl
theorem zq(x:S)(F:S->Option R):(some x).bind F=F x:=Eq.trans rfl rfl
theorem Za{α β:Type}(f:α->Option S)(g:β->Option S)(e:α⊕β)(F:S->Option R):(Sum.elim f g e).bind F=Sum.elim (fun x=>(f x).bind F) (fun x=>(g x).bind F) e:=by cases e<;>rfl
theorem Wu{α:Type}(x:Option α)(f:α->Option S)(F:S->Option R):(x.bind f).bind F=x.bind fun y=>(f y).bind F:=by cases x<;>rfl
theorem OV{l:List SV}{F:Option R}{G:Option S}{K:S->Option R}(h:F=G.bind K):dY l F=(dY l G).bind K:=by
 unfold dY;split
 ·exact h
 ·rfl
theorem OW{t:Ty}{l:List SV}{F:El t->Option R}{G:El t->Option S}{K:S->Option R}(h:∀x,F x=(G x).bind K):dZ t l F=(dZ t l G).bind K:=by
 unfold dZ;split
 ·exact zg h
 ·rfl
theorem OX{t u:Ty}{l:List SV}{F:El t->El u->Option R}{G:El t->El u->Option S}{K:S->Option R}(h:∀x y,F x y=(G x y).bind K):dG t u l F=(dG t u l G).bind K:=by
 unfold dG;split
 ·exact zg fun x=>zg fun y=>h x y
 ·rfl
theorem Wr{t u v:Ty}{l:List SV}{F:El t->El u->El v->Option R}{G:El t->El u->El v->Option S}{K:S->Option R}(h:∀x y z,F x y z=(G x y z).bind K):fw t u v l F=(fw t u v l G).bind K:=by
 unfold fw;split
 ·exact zg fun x=>zg fun y=>zg fun z=>h x y z
 ·rfl
theorem Ws{t u v w:Ty}{l:List SV}{F:El t->El u->El v->El w->Option R}{G:El t->El u->El v->El w->Option S}{K:S->Option R}(h:∀x y z a,F x y z a=(G x y z a).bind K):fx t u v w l F=(fx t u v w l G).bind K:=by
 unfold fx;split
 ·exact zg fun x=>zg fun y=>zg fun z=>zg fun a=>h x y z a
 ·rfl
theorem Pr{t:Ty}{own:List (List Nat)}{l:List SV}{b:Option aX}{F:El t->List SV->Option R}{G:El t->List SV->Option S}{K:S->Option R}(h:∀x r,F x r=(G x r).bind K):il t own l b F=(il t own l b G).bind K:=by
 unfold il;split
 ·split
  ·split
   ·exact h _ _
   ·rfl
  ·rfl
 ·rfl
theorem Wq{t pt bt:Ty}{own:List (List Nat)}{l:List SV}{b:Option aX}{F:El t->El bt->Option R}{G:El t->El bt->Option S}{K:S->Option R}(h:∀x y,F x y=(G x y).bind K):fu t pt bt own l b F=(fu t pt bt own l b G).bind K:=by
 unfold fu;split
 ·split
  ·split
   ·exact zg fun y=>h _ _
   ·rfl
  ·rfl
 ·rfl
theorem UF{t u v w:Ty}{l:List SV}{F:El t->El u->El v->El w->Option R}{G:El t->El u->El v->El w->Option S}{K:S->Option R}(h:∀x y z a,F x y z a=(G x y z a).bind K):sD t u v w l F=(sD t u v w l G).bind K:=by
 unfold sD;split
 ·split
  ·split
   ·exact zg fun x=>zg fun y=>h x y _ _
   ·rfl
  ·rfl
 ·rfl
theorem l7{α:Type}{m:Option α}{F:α->Option R}{G:α->Option S}{K:S->Option R}(h:∀r,F r=(G r).bind K):m.bind F=(m.bind G).bind K:=by
 cases m with
 |none=>rfl
 |some x=>exact h x
theorem D5{α β:Type}{f:α->Option R}{g:β->Option R}{f':α->Option S}{g':β->Option S}{K:S->Option R}{e:α⊕β}(h1:∀x,f x=(f' x).bind K)(h2:∀x,g x=(g' x).bind K):Sum.elim f g e=(Sum.elim f' g' e).bind K:=by
 cases e with
 |inl x=>exact h1 x
 |inr x=>exact h2 x
end
section
variable {R:Type}
theorem WV{C:FuncId->bg R}{k:Nat}{fn:Func}{code:Code}{l q:List SV}{b:Option aX}{K:List SV->Option aX->Option R}(h:aI E.ps l=q)(hq:aI E.ps q=q)(hl:q.length=l.length):ew E C k fn code l b K=ew E C k fn code q b K:=by
 unfold ew
 simp only[h,hq,hl]
theorem Pf:∀{ts:List Ty} {q:List SV},(∀s∈q,s.shut=s/\s≠ .bK)->aI ts q=q
 |ts,[],_=>by cases ts<;>simp [aI]
 | [],q,_=>by simp [aI]
 |t::r,v::q,h=>by
  have h1:=h v (by simp)
  have h2:=Pf (ts:=r) (q:=q) (fun s hs=>h s (by simp [hs]))
  cases t<;>cases v<;>simp [aI,h2]<;>first|exact h1.1|exact absurd rfl h1.2
theorem YZ{ts:List Ty}{l:List SV}(h:aI ts l=[]):l=[]:=by
 have:=xt ts l
 rw[h] at this
 exact List.length_eq_zero_iff.1 this.symm
theorem W8{t:Ty}{r:List Ty}{l:List SV}{v':SV}{q':List SV}(h:aI (t::r) l=v'::q'):∃v q,l=v::q:=by
 cases l with
 |nil=>simp [aI] at h
 |cons v q=>exact⟨v,q,rfl⟩
theorem jX{t:Ty}{r:List Ty}{l:List SV}{a:SV}{q':List SV}{K:El t->Option R}{z:R}(hn:aI (t::r) l=a::q')(h:a.el t K=some z):∃y v q,a= .af t y []/\l=v::q/\aI r q=q'/\K y=some z:=by
 obtain⟨v,q,rfl⟩:=W8 hn
 obtain⟨y,h1,h2,h3⟩:=DW hn h
 exact⟨y,v,q,h1,rfl,h2.symm,h3⟩
theorem rE{l q:List SV}(hn:aI E.ps l=q)(hd:∀s∈q,s.shut=s/\s≠ .bK){C:FuncId->bg R}{k:Nat}{fn:Func}{code:Code}{b:Option aX}{K:List SV->Option aX->Option R}:ew E C k fn code l b K=ew E C k fn code q b K:=
 WV hn (Pf hd) (by rw[<-hn,xt])
theorem rP{t:Ty}{x:El t}:(SV.af t x []).shut=SV.af t x []/\SV.af t x []≠ .bK:=⟨rfl,by simp⟩
def fU(E:Env)(l q:List SV):Prop:=∀{R:Type} (C:FuncId->bg R) (k:Nat) (fn:Func) (code:Code) (b:Option aX) (K:List SV->Option aX->Option R),ew E C k fn code l b K=ew E C k fn code q b K
theorem nN{l:List SV}{F:Option R}{z:R}(gK:E.ps=[])(h:dY (aI [] l) F=some z):F=some z/\fU E l []:=by
 unfold dY at h
 split at h
 ·rename_i hn
  have:=YZ hn
  subst this
  exact⟨h,fun C k fn code b K=>rfl⟩
 ·cases h
theorem Dq{t:Ty}{l:List SV}{F:El t->Option R}{z:R}(gK:E.ps=[t])(h:dZ t (aI [t] l) F=some z):∃x,F x=some z/\fU E l [.af t x []]:=by
 unfold dZ at h
 split at h
 ·rename_i a hn
  obtain⟨x,v,q,rfl,rfl,h1,h⟩:=jX hn h
  refine⟨x,h,fun C k fn code b K=>rE (by rw[gK];exact hn) ?_⟩
  intro s hs
  simp only[List.mem_cons,List.not_mem_nil,or_false] at hs
  subst hs;exact rP
 ·cases h
theorem lJ{t u:Ty}{l:List SV}{F:El t->El u->Option R}{z:R}(gK:E.ps=[t,u])(h:dG t u (aI [t,u] l) F=some z):∃x y,F x y=some z/\fU E l [.af t x [],.af u y []]:=by
 unfold dG at h
 split at h
 ·rename_i a b hn
  obtain⟨x,v,q,rfl,rfl,h1,h⟩:=jX hn h
  obtain⟨y,v',q',rfl,rfl,h2,h⟩:=jX h1 h
  refine⟨x,y,h,fun C k fn code b K=>rE (by rw[gK];exact hn) ?_⟩
  intro s hs
  simp only[List.mem_cons,List.not_mem_nil,or_false] at hs
  rcases hs with rfl|rfl<;>exact rP
 ·cases h
theorem Dr{t u v:Ty}{l:List SV}{F:El t->El u->El v->Option R}{z:R}(gK:E.ps=[t,u,v])(h:fw t u v (aI [t,u,v] l) F=some z):∃x y a,F x y a=some z/\fU E l [.af t x [],.af u y [],.af v a []]:=by
 unfold fw at h
 split at h
 ·rename_i a b c hn
  obtain⟨x,v,q,rfl,rfl,h1,h⟩:=jX hn h
  obtain⟨y,v',q',rfl,rfl,h2,h⟩:=jX h1 h
  obtain⟨w,v',q',rfl,rfl,h3,h⟩:=jX h2 h
  refine⟨x,y,w,h,fun C k fn code b K=>rE (by rw[gK];exact hn) ?_⟩
  intro s hs
  simp only[List.mem_cons,List.not_mem_nil,or_false] at hs
  rcases hs with rfl|rfl|rfl<;>exact rP
 ·cases h
theorem Ds{t u v w:Ty}{l:List SV}{F:El t->El u->El v->El w->Option R}{z:R}(gK:E.ps=[t,u,v,w])(h:fx t u v w (aI [t,u,v,w] l) F=some z):∃x y a b,F x y a b=some z/\fU E l [.af t x [],.af u y [],.af v a [],.af w b []]:=by
 unfold fx at h
 split at h
 ·rename_i a b c d hn
  obtain⟨x,v,q,rfl,rfl,h1,h⟩:=jX hn h
  obtain⟨y,v',q',rfl,rfl,h2,h⟩:=jX h1 h
  obtain⟨w,v',q',rfl,rfl,h3,h⟩:=jX h2 h
  obtain⟨w',v',q',rfl,rfl,h4,h⟩:=jX h3 h
  refine⟨x,y,w,w',h,fun C k fn code b K=>rE (by rw[gK];exact hn) ?_⟩
  intro s hs
  simp only[List.mem_cons,List.not_mem_nil,or_false] at hs
  rcases hs with rfl|rfl|rfl|rfl<;>exact rP
 ·cases h
theorem OU{t:Ty}{own:List (List Nat)}{l:List SV}{b:Option aX}{F:El t->List SV->Option R}{z:R}(h:il t own l b F=some z):∃x r,l= .ptr 0 t []::r/\b=some ⟨t,x,own⟩/\F x r=some z:=by
 unfold il at h
 split at h
 ·rename_i u r B
  split at h
  ·rename_i hB
   split at h
   ·rename_i hu
    simp only[Bool.and_eq_true,beq_iff_eq] at hu
    obtain⟨h1,h2⟩:=hu
    obtain⟨Bt,Bx,Bo⟩:=B
    have:=Ty.aH hB
    have h3:=Ty.aH h1
    subst this
    subst h3
    subst h2
    exact⟨Bx,r,rfl,rfl,h⟩
   ·cases h
  ·cases h
 ·cases h
theorem QB{t:Ty}:(SV.ptr 0 t []).shut=SV.ptr 0 t []/\SV.ptr 0 t []≠ .bK:=⟨rfl,by simp⟩
theorem fU.ptr{t:Ty}{ts:List Ty}{q q':List SV}(gK:E.ps= .unit::ts)(hn:aI ts q=q')(hd:∀s∈q',s.shut=s/\s≠ .bK):fU E (.ptr 0 t []::q) (.ptr 0 t []::q'):=fun C k fn code b K=>
 rE (by rw[gK];simp [aI,SV.shut,hn]) (fun s hs=>by
  rcases List.mem_cons.1 hs with rfl|hs
  ·exact QB
  ·exact hd s hs)
theorem vH{t pt bt:Ty}{own:List (List Nat)}{l:List SV}{b:Option aX}{F:El t->El bt->Option R}{z:R}(gK:E.ps=[t,.unit])(h:fu t pt bt own (aI [t,.unit] l) b F=some z):
 ∃x y,b=some ⟨bt,y,own⟩/\F x y=some z/\fU E l [.af t x [],.ptr 0 pt []]:=by
 unfold fu at h
 split at h
 ·rename_i a u B hn
  split at h
  ·rename_i hB
   split at h
   ·rename_i hu
    simp only[Bool.and_eq_true,beq_iff_eq] at hu
    obtain⟨h1,h2⟩:=hu
    obtain⟨Bt,Bx,Bo⟩:=B
    have:=Ty.aH hB
    have h3:=Ty.aH h1
    subst this
    subst h3
    subst h2
    obtain⟨y,v,q,rfl,rfl,h4,h⟩:=jX hn h
    refine⟨y,Bx,rfl,h,fun C k fn code b K=>rE (by rw[gK];exact hn) ?_⟩
    intro s hs
    simp only[List.mem_cons,List.not_mem_nil,or_false] at hs
    rcases hs with rfl|rfl
    ·exact rP
    ·exact QB
   ·cases h
  ·cases h
 ·cases h
theorem Qm{t:Ty}{x:El t}:(SV.view t x).shut=SV.view t x/\SV.view t x≠ .bK:=⟨rfl,by simp⟩
theorem vG{t u v w:Ty}{l:List SV}{F:El t->El u->El v->El w->Option R}{z:R}(gK:E.ps=[t,u,.unit,.unit])(h:sD t u v w (aI [t,u,.unit,.unit] l) F=some z):
 ∃p q x y,F p q x y=some z/\fU E l [.af t p [],.af u q [],.view v x,.view w y]:=by
 unfold sD at h
 split at h
 ·rename_i a b v' x w' y hn
  split at h
  ·rename_i hv
   split at h
   ·rename_i hw
    have:=Ty.aH hv
    have h3:=Ty.aH hw
    subst this
    subst h3
    obtain⟨p,v1,q1,rfl,rfl,h4,h⟩:=jX hn h
    obtain⟨q,v2,q2,rfl,rfl,h5,h⟩:=jX h4 h
    refine⟨p,q,x,y,h,fun C k fn code b K=>rE (by rw[gK];exact hn) ?_⟩
    intro s hs
    simp only[List.mem_cons,List.not_mem_nil,or_false] at hs
    rcases hs with rfl|rfl|rfl|rfl
    ·exact rP
    ·exact rP
    ·exact Qm
    ·exact Qm
   ·cases h
  ·cases h
 ·cases h
end
end Go.Ref

namespace Go.Ref
open Go
variable {P:Program} {E:Env}
def ak.after(X:ak)(w:World):ak:=⟨w,fun g=>if g<X.w.heap.size then X.ow g else .ro 0,X.β⟩
theorem Oz{X:ak}{w:World}(h:RowKit.Below X.w.heap.size X.w w){a:Addr}{v:Value}(hs:X.au a v):(X.after w).au a v:=by
 have aK:=ak.dN hs
 refine⟨hs.1,?_,?_⟩
 ·have:=hs.2.1
  simp only[World.cell?] at this⊢
  rw[show(X.after w).w=w from rfl,h.block _ aK];exact this
 ·simp only[ak.after];rw[if_pos aK];exact hs.2.2
theorem Wo{X:ak}{w:World}(h:RowKit.Below X.w.heap.size X.w w):Ext X (X.after w) where
 au:=fun _ _=>Oz h
 size:=h.size
 os:=h.os
 tape:=h.tape
 output:=h.output
 β0:=rfl
 still:=fun g hg _=>⟨by simp only[ak.after];rw[if_pos hg],h.block g hg⟩
theorem YT{C:ae}(h0:∀f,bX P C f){n:FuncId}{g:Pure}(cJ:j5 P n)
 (h:∀(l:List SV) (b:Option aX) (r:List SV) (b':Option aX),g (List SV×Option aX) l b (fun r b=>some (r,b))=some (r,b')->b'=none/\(∀id t p,SV.ptr id t p∉r)/\
   ∀(X:ak) (args:Array Value),fp X l b args->Calls P n args X.w fun e w'=>∃v,e= .returned v/\RowKit.Below X.w.heap.size X.w w'/\∀Y:ak,Y.w=w'->(∀a v,X.au a v->Y.au a v)->bQ Y .r r v):∀f,bX P (C.add n [] g) f:=by
 intro f
 by_cases e:f=n
 ·subst e
  intro l b r b' hc
  unfold ae.add at hc
  have hb:Nat.beq f f=true:=by simp
  rw[hb] at hc
  have hc:g (List SV×Option aX) (aI [] l) b (fun r b=>some (r,b))=some (r,b'):=hc
  have hl:aI [] l=l:=by cases l<;>rfl
  rw[hl] at hc
  obtain⟨rfl,hp,qT⟩:=h l b r b' hc
  refine⟨cJ,fun X args dR=>(qT X args dR).mono fun e w' he=> ?_⟩
  obtain⟨v,rfl,hB,aJ⟩:=he
  refine⟨X.after w',rfl,Wo hB,0,aJ {X.after w' with β:=fun _=>some 0} rfl (fun a v hs=>(Oz hB hs:(X.after w').au a v)),fun B' dg=>(by cases dg),fun _=>hp⟩
 ·intro l b r b' hc
  unfold ae.add at hc
  have:Nat.beq f n=false:=by
   cases hh:Nat.beq f n with
   |false=>rfl
   |true=>exact absurd (Nat.eq_of_beq_eq_true hh) e
  rw[this] at hc
  exact h0 f l b r b' hc
theorem O3{X:ak}{l:List SV}{b:Option aX}{args:Array Value}(h:fp X l b args){i:Nat}{sv:SV}(hs:l[i]? =some sv){x:ByteArray}(hx:∀(X:ak) (pl:List Nat->Place) (v:Value),ar X pl sv v->∃cs,aN X .str x cs/\v=cq .str cs):args[i]? =some (.string x):=by
 have aK:i<args.size:=by rw[h.size];exact(List.getElem?_eq_some_iff.1 hs).1
 rw[Array.getElem?_eq_getElem aK]
 obtain⟨cs,h1,h2⟩:=hx X _ _ (h.rep i sv _ hs (Array.getElem?_eq_getElem aK))
 rw[h2,zz h1]
theorem WS{X:ak}{l:List SV}{b:Option aX}{args:Array Value}(h:fp X l b args){i:Nat}{sv:SV}(hs:l[i]? =some sv){k:IntKind}{n:Int}(hx:∀(X:ak) (pl:List Nat->Place) (v:Value),ar X pl sv v->∃cs,aN X (.int k) n cs/\v=cq (.int k) cs):args[i]? =some (.int k n):=by
 have aK:i<args.size:=by rw[h.size];exact(List.getElem?_eq_some_iff.1 hs).1
 rw[Array.getElem?_eq_getElem aK]
 obtain⟨cs,h1,h2⟩:=hx X _ _ (h.rep i sv _ hs (Array.getElem?_eq_getElem aK))
 rw[h2,zv h1]
theorem Yv{args:Array Value}{v:Value}(hs:args.size=1)(h:args[0]? =some v):args= #[v]:=by
 apply Array.ext'
 match hl:args.toList,(show args.toList.length=1 by simpa using hs) with
 | [x],_=>
   have:args.toList[0]? =some v:=by simpa using h
   rw[hl] at this
   simpa using this
theorem Pt{args:Array Value}{u v:Value}(hs:args.size=2)(h:args[0]? =some u)(h1:args[1]? =some v):args= #[u,v]:=by
 apply Array.ext'
 match hl:args.toList,(show args.toList.length=2 by simpa using hs) with
 | [x,y],_=>
   have a:args.toList[0]? =some u:=by simpa using h
   have b:args.toList[1]? =some v:=by simpa using h1
   rw[hl] at a b
   simp at a b
   rw[a,b]
theorem YU{C:ae}(h0:∀f,bX P C f){n:FuncId}(cJ:j5 P n)(F:ByteArray->Int->Option ByteArray)
 (h:∀(s:ByteArray) (k:Int) (r:ByteArray),F s k=some r->∀w:World,Calls P n #[.string s,.int .i64 k] w fun e w'=>e= .returned (.string r)/\RowKit.Below w.heap.size w w'):
 ∀f,bX P (C.add n [] fun R l b K=>de b (dG .str (.int .i64) l fun x0 x1=>(F x0 x1).bind fun r=>K [.af .str r []] none)) f:=by
 refine YT h0 cJ fun l b r b' hc=> ?_
 obtain⟨hb,Nr⟩:=rC hc
 clear hc
 subst hb
 have hc:=Nr
 clear Nr
 unfold dG at hc
 split at hc
 case h_2=>cases hc
 rename_i sa sb
 obtain⟨s,hc,hs⟩:=zi hc
 obtain⟨k,hc,hk⟩:=zi hc
 have hc:((F s k).bind fun r=>some (([SV.af .str r []]:List SV),(none:Option aX)))=some (r,b'):=hc
 cases hF:F s k with
 |none=>rw[hF] at hc;cases hc
 |some x=>
  rw[hF] at hc
  cases hc
  refine⟨rfl,fun id t p hm=>by simp at hm,fun X args dR=> ?_⟩
  have e:=Pt dR.size (O3 dR rfl hs) (WS dR rfl hk)
  rw[e]
  exact(h s k x hF X.w).mono fun e w' ⟨he,hB⟩=>⟨_,he,hB,fun Y _ _=>pA⟩
end Go.Ref
namespace bW
open Go Go.Ref
def strings_Repeat(s:ByteArray)(k:Int):Option ByteArray:=
 bif decide (0<=k) then bif decide (k<=9223372036854775807) then bif decide ((s.size:Int)*k<=140737488355328) then some ⟨(Go.Lib.repeatL s.data.toList k.toNat).toArray⟩ else none else none else none
theorem TX{P:Program}{ρ:Go.Shelf.Ren}(L:Go.Proofs.Lays.n105 P ρ)(B:Go.Proofs.Builder.Extra P ρ){n:FuncId}(hn:ρ.f 105=n)(s:ByteArray)(k:Int)(r:ByteArray)(h:strings_Repeat s k=some r)(w:World):
 Calls P n #[.string s,.int .i64 k] w fun e w'=>e= .returned (.string r)/\RowKit.Below w.heap.size w w':=by
 subst hn
 unfold strings_Repeat at h
 by_cases h0:0<=k
 ·by_cases h1:k<=9223372036854775807
  ·by_cases h2:(s.size:Int)*k<=140737488355328
   ·rw[decide_eq_true h0,decide_eq_true h1,decide_eq_true h2] at h
    cases h
    obtain⟨c,rfl⟩:∃c:Nat,k=(c:Int):=⟨k.toNat,by omega⟩
    exact Go.Proofs.Any.strings_Repeat L B s c w (by omega) (by rw[<-Int.natCast_mul] at h2;omega)
   ·rw[decide_eq_true h0,decide_eq_true h1,decide_eq_false h2] at h;cases h
  ·rw[decide_eq_true h0,decide_eq_false h1] at h;cases h
 ·rw[decide_eq_false h0] at h;cases h
end bW

namespace Go.Ref
open Go Go.Shelf Go.RowKit Go.Proofs
variable {P:Program} {E:Env} {ρ:Ren}
abbrev nQ(T e:TypeId):Ty:= .aP (.dk T e) .unit .unit
def Fy(x s:ByteArray):Option (Int×ByteArray):=bif decide (x.size+s.size<=140737488355328) then some ((s.size:Int),x++s) else none
def N8(x:ByteArray):Option (ByteArray×ByteArray):=some (x,x)
def wB(T e:TypeId):Pure:=fun R l b K=>il (nQ T e) [[]] l b fun x0 l=>dZ .str l fun x1=>(Fy x0 x1).bind fun r=>K [.af (.int .i64) r.1 [],.undef] (some ⟨nQ T e,r.2,[[]]⟩)
def wA(T e:TypeId):Pure:=fun R l b K=>il (nQ T e) [[]] l b fun x0 l=>dY l ((N8 x0).bind fun r=>K [.af .str r.1 []] (some ⟨nQ T e,r.2,[]⟩))
theorem z138(T e:TypeId):(wB T e).Nat:=fun R S l b F G K h=>Pr fun _ _=>OW fun _=>l7 fun _=>h _ _
theorem Fu(T e:TypeId):(wA T e).Nat:=fun R S l b F G K h=>Pr fun _ _=>OV (l7 fun _=>h _ _)
theorem Um(x s:ByteArray):Lib.strCells (x++s)=Lib.strCells x++Lib.strCells s:=by
 simp [Lib.strCells,ByteArray.data_append]
def ak.dk(X:ak)(w:World)(r:Nat)(g:Option Nat):ak:=⟨w,fun k=>if k=r then .box 0 else if g=some k then .row (.b 0 []) 0 else if k<X.w.heap.size then X.ow k else .ro 0,X.β⟩
theorem Qb{X:ak}{w:World}{r:Nat}{g0 g:Option Nat}(how:X.ow r= .box 0)(h0:∀k,g0=some k->X.ow k= .row (.b 0 []) 0)(h:dj r g0 X.w w)(hg:∀k,g=some k->g0=some k\/X.w.heap.size<=k):Ext X (X.dk w r g):=by
 have cj:∀k,k<X.w.heap.size->X.ow k≠ .box 0->X.ow k≠ .row (.b 0 []) 0->(X.dk w r g).ow k=X.ow k/\w.heap[k]? =X.w.heap[k]? :=fun k hk h1 h2=>by
  have hr:k≠r:=fun e=>h1 (by rw[e];exact how)
  have Re:g≠some k:=fun e=>by
   rcases hg k e with e2|e2
   ·exact h2 (h0 k e2)
   ·omega
  have Rf:some k≠g0:=fun e=>h2 (h0 k e.symm)
  refine⟨?_,h.block k hk hr Rf⟩
  simp only[ak.dk]
  rw[if_neg hr,if_neg Re,if_pos hk]
 refine⟨fun a v hs=> ?_,h.size,h.os,h.tape,h.output,rfl,fun k hk bL=> ?_⟩
 ·have aK:=ak.dN hs
  have hu:=hs.2.2
  obtain⟨k1,k2⟩:=cj a.block aK (fun e=>by rw[e] at hu;exact hu) (fun e=>by rw[e] at hu;exact Nat.not_lt_zero _ hu)
  refine⟨hs.1,?_,by rw[k1];exact hu⟩
  have:=hs.2.1
  simp only[World.cell?] at this⊢
  rw[show(X.dk w r g).w.heap=w.heap from rfl,k2];exact this
 ·exact cj k hk (fun e=>by rw[e] at bL;exact bL) (fun e=>by rw[e] at bL;exact bL)
theorem Pw(n:Nat):Nat.beq n n=true:=by simp
theorem Qx{f n:Nat}(e:f≠n):Nat.beq f n=false:=by
 cases hh:Nat.beq f n with
 |false=>rfl
 |true=>exact absurd (Nat.eq_of_beq_eq_true hh) e
theorem Ww{C:ae}(h0:∀f,bX P C f){n T e:TypeId}(cJ:j5 P n)(L:Lays.n166 P ρ)(X0:Builder.Extra P ρ)(hn:ρ.f 166=n)(hT:ρ.t 72=T)(he:ρ.t 5=e):∀f,bX P (C.add n [] (wB T e)) f:=by
 subst hT he
 intro f
 by_cases ef:f=n
 ·subst ef
  intro l b r b' hc
  unfold ae.add at hc
  rw[Pw] at hc
  have hc:wB (ρ.t 72) (ρ.t 5) (List SV×Option aX) (aI [] l) b (fun r b=>some (r,b))=some (r,b'):=hc
  have hl:aI [] l=l:=by cases l<;>rfl
  rw[hl] at hc
  unfold wB at hc
  obtain⟨x,q,rfl,rfl,uU⟩:=OU hc
  clear hc
  have hc:=uU
  clear uU
  unfold dZ at hc
  split at hc
  case h_2=>cases hc
  rename_i a
  obtain⟨s,hc,hs⟩:=zi hc
  unfold Fy at hc
  cases hd:decide (ByteArray.size x+s.size<=140737488355328) with
  |false=>rw[hd] at hc;cases hc
  |true=>
   rw[hd] at hc
   cases hc
   have hlen:=of_decide_eq_true hd
   refine⟨cJ,fun X args dR=> ?_⟩
   obtain⟨r0,hβ,how,⟨o,ho⟩,hb⟩:=dR.box _ rfl
   obtain⟨v,hB,hv⟩:=hb (by simp)
   have dq:args.size=2:=by rw[dR.size];rfl
   have a0:args[0]? =some (.pointer (some ⟨r0,0,none⟩)):=by
    rw[Array.getElem?_eq_getElem (by omega)]
    obtain⟨r1,g1,g2⟩:=dR.rep 0 _ _ rfl (Array.getElem?_eq_getElem (by omega))
    rw[hβ] at g1
    cases g1
    rw[((wi rfl).1 g2).1];rfl
   have a1:args[1]? =some (.string s):=O3 dR (i:=1) rfl hs
   rw[Pt dq a0 a1,<-hn]
   refine(Wy L X0 r0 v (Lib.strCells x) s X.w hB (by rw[Lib.strCells_length];exact hlen)).mono ?_
   rintro e w' ⟨rfl,v',dg,nx,fj⟩
   have hY:(X.dk w' r0 v'.ownBlock).ow r0= .box 0:=by simp [ak.dk]
   refine⟨X.dk w' r0 v'.ownBlock,rfl,Qb how hv nx fj,r0,⟨_,rfl,rfl,fun j sv u hj hu=> ?_⟩,fun B' b9=> ?_,fun _ id t p hm=>by simp at hm⟩
   ·match j with
    |0=>cases hj;cases hu;exact zk
    |1=>cases hj;trivial
    |j+2=>simp at hj
   ·cases b9
    refine⟨⟨hY,?_,fun _=>⟨v',by rw[Um];exact dg,fun g hg=> ?_⟩⟩,fun _=>hβ⟩
    ·rcases dg.hJ with h|h<;>exact⟨_,h⟩
    ·simp only[ak.dk]
     rw[if_neg (fun e=>dg.ne (by rw[hg,e])),if_pos hg]
 ·intro l b r b' hc
  unfold ae.add at hc
  rw[Qx ef] at hc
  exact h0 f l b r b' hc
theorem Wv{C:ae}(h0:∀f,bX P C f){n T e:TypeId}(cJ:j5 P n)(L:Lays.n169 P ρ)(X0:Builder.Extra P ρ)(hn:ρ.f 169=n)(hT:ρ.t 72=T)(he:ρ.t 5=e):∀f,bX P (C.add n [] (wA T e)) f:=by
 subst hT he
 intro f
 by_cases ef:f=n
 ·subst ef
  intro l b r b' hc
  unfold ae.add at hc
  rw[Pw] at hc
  have hc:wA (ρ.t 72) (ρ.t 5) (List SV×Option aX) (aI [] l) b (fun r b=>some (r,b))=some (r,b'):=hc
  have hl:aI [] l=l:=by cases l<;>rfl
  rw[hl] at hc
  unfold wA at hc
  obtain⟨x,q,rfl,rfl,uU⟩:=OU hc
  clear hc
  have hc:=uU
  clear uU
  unfold dY at hc
  split at hc
  case h_2=>cases hc
  cases hc
  refine⟨cJ,fun X args dR=> ?_⟩
  obtain⟨r0,hβ,how,⟨o,ho⟩,hb⟩:=dR.box _ rfl
  obtain⟨v,hB,hv⟩:=hb (by simp)
  have dq:args.size=1:=by rw[dR.size];rfl
  have a0:args[0]? =some (.pointer (some ⟨r0,0,none⟩)):=by
   rw[Array.getElem?_eq_getElem (by omega)]
   obtain⟨r1,g1,g2⟩:=dR.rep 0 _ _ rfl (Array.getElem?_eq_getElem (by omega))
   rw[hβ] at g1
   cases g1
   rw[((wi rfl).1 g2).1];rfl
  rw[Yv dq a0,<-hn]
  refine(Yz L X0 r0 v (x:ByteArray).data.toList X.w hB).mono ?_
  rintro e w' ⟨rfl,nx⟩
  have hY:(X.dk w' r0 none).ow r0= .box 0:=by simp [ak.dk]
  refine⟨X.dk w' r0 none,rfl,Qb how hv nx (fun k hk=>by cases hk),r0,?_,fun B' b9=> ?_,fun _ id t p hm=>by simp at hm⟩
  ·exact pA
  ·cases b9
   refine⟨⟨hY,⟨_,Array.getElem?_eq_getElem (Nat.lt_of_lt_of_le hB.lt nx.size)⟩,fun hm=>by cases hm⟩,fun _=>hβ⟩
 ·intro l b r b' hc
  unfold ae.add at hc
  rw[Qx ef] at hc
  exact h0 f l b r b' hc
end Go.Ref

namespace Go.Ref
open Go
variable {P:Program} {R S:Type}
structure aL(P:Program)(T:ae):Prop where
 mix:P.follows .mixedOrders=true
 nat:T.Nat
 lI:∀f,bX P T f
noncomputable abbrev cd (fn:Func):Code:=fn.body.getD .skip
noncomputable abbrev qM (E:Env) (T:ae) (R:Type) (k:Nat) (fn:Func) (l:List SV) (b:Option aX) (K:List SV->Option aX->Option R):Option R:=ew E (T R) k fn (cd fn) l b K
abbrev KF(R:Type):Type:=List SV->Option aX->Option R
abbrev KX(R:Type):Type:=Ex->State->Option R
abbrev hI(β:Type):Type 1:=(R:Type)->β->KF R->Option R
def hI.Nat{β:Type}(o:hI β):Prop:=∀(R S:Type) r (F:KF R) (G:KF S) (K:S->Option R),(∀r b,F r b=(G r b).bind K)->o R r F=(o S r G).bind K
def oH(fn:Func):Bool:= !(fn.name== "runtime.NumGoroutine")&&fn.body.isSome
def tI(x:Int):SV:= .af (.int .i64) x []
def tU(x:Int):SV:= .af (.int .u8) x []
def tB(x:Bool):SV:= .af .bool x []
def tS(x:ByteArray):SV:= .af .str x []
theorem aE:(∀{R S:Type} (c:Bool) (x y:Option S) (F:S->Option R),(bif c then x else y).bind F=bif c then x.bind F else y.bind F)/\(∀{R S:Type} (i:Int) (n:Nat) (x:Option S) (F:S->Option R),(za i n x).bind F=za i n (x.bind F))/\
 (∀{R S:Type} (F:S->Option R),(.none:Option S).bind F= .none)/\(∀{R S:Type} (x:S) (F:S->Option R),(some x).bind F=F x)/\(∀{R S α β:Type} (f:α->Option S) (g:β->Option S) (e:α⊕β) (F:S->Option R),(Sum.elim f g e).bind F=Sum.elim (fun x=>(f x).bind F) (fun x=>(g x).bind F) e)/\
 (∀{R S α:Type} (x:Option α) (f:α->Option S) (F:S->Option R),(x.bind f).bind F=x.bind fun y=>(f y).bind F)/\(∀{α β γ:Type} (f:α->γ) (g:β->γ) (x:α),Sum.elim f g (.inl x)=f x)/\(∀{α β γ:Type} (f:α->γ) (g:β->γ) (x:β),Sum.elim f g (.inr x)=g x):=
 ⟨G9,UA,W5,zq,Za,Wu,fun _ _ _=>rfl,fun _ _ _=>rfl⟩
theorem aL.none(hm:P.follows .mixedOrders=true):aL P ae.none:=⟨hm,YY,W6⟩
theorem aL.add{E:Env}{T:ae}(h:aL P T)(hE:ah P E){n:FuncId}{ps:List Ty}{g:Pure}{fn:Func}(fb:P.funcs[n]? =some fn)(hc:oH fn=true)(hg:g.Nat)
 (h1:∀(l:List SV) (b:Option aX) (r:List SV) (b':Option aX),g (List SV×Option aX) (aI ps l) b (fun r b=>some (r,b))=some (r,b')->∃k,ew E (T (List SV×Option aX)) k fn (cd fn) l b (fun r b=>some (r,b))=some (r,b')):aL P (T.add n ps g):=by
 obtain⟨h2,h3⟩:=Bool.and_eq_true_iff.1 hc
 refine⟨h.mix,zO h.nat hg,Yu hE h.mix h.nat h.lI fb (by simpa using h2) ?_ h1⟩
 cases e:fn.body with
 |none=>rw[e] at h3;cases h3
 |some c=>simp [cd,e]
def hM{β:Type}(f:Option β)(o:hI β):Pure:=fun R l b K=>de b (dY l (f.bind fun r=>o R r K))
theorem iC(E:Env){T:ae}{n:FuncId}(fn:Func){β:Type}{f:Option β}{o:hI β}(m:(R:Type)->Nat->KF R->Option R)(h0:aL P T)(hE:ah P E)(fb:P.funcs[n]? =some fn)(hc:oH fn=true)(hp:E.ps=[])(ho:o.Nat)
 (h1:∀(R:Type) k (K:KF R),qM E T R k fn [] .none K=m R k K) (h2:∀(R:Type) kk (e:kk=aq) (K:KF R),m R kk K=f.bind fun r=>o R r K):aL P (T.add n [] (hM f o)):=
 h0.add hE fb hc (fun R S l b F G K h=>z28 (OV (l7 fun _=>ho _ _ _ _ _ _ h))) fun l b r b' h=>by
  obtain⟨rfl,h5⟩:=rC h
  obtain⟨h3,h4⟩:=nN hp h5
  exact⟨aq,(h4 _ _ _ _ _ _).trans (((h1 _ _ _).trans (h2 _ _ rfl _)).trans h3)⟩
def cu(t:Ty){β:Type}(f:El t->Option β)(o:hI β):Pure:=fun R l b K=>de b (dZ t l (fun x=>(f x).bind fun r=>o R r K))
theorem cA(E:Env){T:ae}{n:FuncId}(fn:Func){t:Ty}{β:Type}{f:El t->Option β}{o:hI β}(m:(R:Type)->Nat->El t->KF R->Option R)(h0:aL P T)(hE:ah P E)(fb:P.funcs[n]? =some fn)(hc:oH fn=true)(hp:E.ps=[t])(ho:o.Nat)
 (h1:∀(R:Type) k x (K:KF R),qM E T R k fn [.af t x []] .none K=m R k x K) (h2:∀(R:Type) kk (e:kk=aq) x (K:KF R),m R kk x K=(f x).bind fun r=>o R r K):aL P (T.add n [t] (cu t f o)):=
 h0.add hE fb hc (fun R S l b F G K h=>z28 (OW fun _=>l7 fun _=>ho _ _ _ _ _ _ h)) fun l b r b' h=>by
  obtain⟨rfl,h5⟩:=rC h
  obtain⟨x,h3,h4⟩:=Dq hp h5
  exact⟨aq,(h4 _ _ _ _ _ _).trans (((h1 _ _ x _).trans (h2 _ _ rfl x _)).trans h3)⟩
def cE(t u:Ty){β:Type}(f:El t->El u->Option β)(o:hI β):Pure:=fun R l b K=>de b (dG t u l (fun x y=>(f x y).bind fun r=>o R r K))
theorem cF(E:Env){T:ae}{n:FuncId}(fn:Func){t u:Ty}{β:Type}{f:El t->El u->Option β}{o:hI β}(m:(R:Type)->Nat->El t->El u->KF R->Option R)(h0:aL P T)(hE:ah P E)(fb:P.funcs[n]? =some fn)(hc:oH fn=true)(hp:E.ps=[t,u])(ho:o.Nat)
 (h1:∀(R:Type) k x y (K:KF R),qM E T R k fn [.af t x [],.af u y []] .none K=m R k x y K) (h2:∀(R:Type) kk (e:kk=aq) x y (K:KF R),m R kk x y K=(f x y).bind fun r=>o R r K):aL P (T.add n [t,u] (cE t u f o)):=
 h0.add hE fb hc (fun R S l b F G K h=>z28 (OX fun _ _=>l7 fun _=>ho _ _ _ _ _ _ h)) fun l b r b' h=>by
  obtain⟨rfl,h5⟩:=rC h
  obtain⟨x,y,h3,h4⟩:=lJ hp h5
  exact⟨aq,(h4 _ _ _ _ _ _).trans (((h1 _ _ x y _).trans (h2 _ _ rfl x y _)).trans h3)⟩
def fI(t u v:Ty){β:Type}(f:El t->El u->El v->Option β)(o:hI β):Pure:=fun R l b K=>de b (fw t u v l (fun x y a=>(f x y a).bind fun r=>o R r K))
theorem gf(E:Env){T:ae}{n:FuncId}(fn:Func){t u v:Ty}{β:Type}{f:El t->El u->El v->Option β}{o:hI β}(m:(R:Type)->Nat->El t->El u->El v->KF R->Option R)(h0:aL P T)(hE:ah P E)(fb:P.funcs[n]? =some fn)(hc:oH fn=true)(hp:E.ps=[t,u,v])(ho:o.Nat)
 (h1:∀(R:Type) k x y a (K:KF R),qM E T R k fn [.af t x [],.af u y [],.af v a []] .none K=m R k x y a K) (h2:∀(R:Type) kk (e:kk=aq) x y a (K:KF R),m R kk x y a K=(f x y a).bind fun r=>o R r K):aL P (T.add n [t,u,v] (fI t u v f o)):=
 h0.add hE fb hc (fun R S l b F G K h=>z28 (Wr fun _ _ _=>l7 fun _=>ho _ _ _ _ _ _ h)) fun l b r b' h=>by
  obtain⟨rfl,h5⟩:=rC h
  obtain⟨x,y,a,h3,h4⟩:=Dr hp h5
  exact⟨aq,(h4 _ _ _ _ _ _).trans (((h1 _ _ x y a _).trans (h2 _ _ rfl x y a _)).trans h3)⟩
def xd(t u v w:Ty){β:Type}(f:El t->El u->El v->El w->Option β)(o:hI β):Pure:=fun R l b K=>de b (fx t u v w l (fun x y a b=>(f x y a b).bind fun r=>o R r K))
theorem DB(E:Env){T:ae}{n:FuncId}(fn:Func){t u v w:Ty}{β:Type}{f:El t->El u->El v->El w->Option β}{o:hI β}(m:(R:Type)->Nat->El t->El u->El v->El w->KF R->Option R)(h0:aL P T)(hE:ah P E)(fb:P.funcs[n]? =some fn)(hc:oH fn=true)(hp:E.ps=[t,u,v,w])(ho:o.Nat)
 (h1:∀(R:Type) k x y a b (K:KF R),qM E T R k fn [.af t x [],.af u y [],.af v a [],.af w b []] .none K=m R k x y a b K) (h2:∀(R:Type) kk (e:kk=aq) x y a b (K:KF R),m R kk x y a b K=(f x y a b).bind fun r=>o R r K):aL P (T.add n [t,u,v,w] (xd t u v w f o)):=
 h0.add hE fb hc (fun R S l b F G K h=>z28 (Ws fun _ _ _ _=>l7 fun _=>ho _ _ _ _ _ _ h)) fun l b r b' h=>by
  obtain⟨rfl,h5⟩:=rC h
  obtain⟨x,y,a,b,h3,h4⟩:=Ds hp h5
  exact⟨aq,(h4 _ _ _ _ _ _).trans (((h1 _ _ x y a b _).trans (h2 _ _ rfl x y a b _)).trans h3)⟩
def pz(t pt bt:Ty)(wn:List (List Nat)){β:Type}(f:El t->El bt->Option β)(o:hI β):Pure:=fun R l b K=>fu t pt bt wn l b fun x y=>(f x y).bind fun r=>o R r K
theorem sz(E:Env){T:ae}{n:FuncId}(fn:Func){t pt bt:Ty}{wn:List (List Nat)}{β:Type}{f:El t->El bt->Option β}{o:hI β}(m:(R:Type)->Nat->El t->El bt->KF R->Option R)(h0:aL P T)(hE:ah P E)(fb:P.funcs[n]? =some fn)(hc:oH fn=true)(hp:E.ps=[t,.unit])(ho:o.Nat)
 (h1:∀(R:Type) k x y (K:KF R),qM E T R k fn [.af t x [],.ptr 0 pt []] (some ⟨bt,y,wn⟩) K=m R k x y K) (h2:∀(R:Type) kk (e:kk=aq) x y (K:KF R),m R kk x y K=(f x y).bind fun r=>o R r K):aL P (T.add n [t,.unit] (pz t pt bt wn f o)):=
 h0.add hE fb hc (fun R S l b F G K h=>Wq fun _ _=>l7 fun _=>ho _ _ _ _ _ _ h) fun l b r b' h=>by
  obtain⟨x,y,rfl,h3,h4⟩:=vH hp h
  exact⟨aq,(h4 _ _ _ _ _ _).trans (((h1 _ _ x y _).trans (h2 _ _ rfl x y _)).trans h3)⟩
def pv(t u v w:Ty){β:Type}(f:El t->El u->El v->El w->Option β)(o:hI β):Pure:=fun R l b K=>de b (sD t u v w l (fun x y a b=>(f x y a b).bind fun r=>o R r K))
theorem sv(E:Env){T:ae}{n:FuncId}(fn:Func){t u v w:Ty}{β:Type}{f:El t->El u->El v->El w->Option β}{o:hI β}(m:(R:Type)->Nat->El t->El u->El v->El w->KF R->Option R)(h0:aL P T)(hE:ah P E)(fb:P.funcs[n]? =some fn)(hc:oH fn=true)(hp:E.ps=[t,u,.unit,.unit])(ho:o.Nat)
 (h1:∀(R:Type) k x y a b (K:KF R),qM E T R k fn [.af t x [],.af u y [],.view v a,.view w b] .none K=m R k x y a b K) (h2:∀(R:Type) kk (e:kk=aq) x y a b (K:KF R),m R kk x y a b K=(f x y a b).bind fun r=>o R r K):aL P (T.add n [t,u,.unit,.unit] (pv t u v w f o)):=
 h0.add hE fb hc (fun R S l b F G K h=>z28 (UF fun _ _ _ _=>l7 fun _=>ho _ _ _ _ _ _ h)) fun l b r b' h=>by
  unfold pv at h
  obtain⟨rfl,h5⟩:=rC h
  obtain⟨x,y,a,b,h3,h4⟩:=vG hp h5
  exact⟨aq,(h4 _ _ _ _ _ _).trans (((h1 _ _ x y a b _).trans (h2 _ _ rfl x y a b _)).trans h3)⟩
end Go.Ref

namespace bW
open Go.IntKind renaming wrap->zW,i64->zI,u8->zU
open Go Go.Ref
abbrev jk:Type:=(ByteArray×Nat)
abbrev ig:Type:=(Int×Int×Int)
abbrev BC:Type:=(ByteArray×Int)
abbrev np:Type:=(List (List Int))
abbrev M8:Type:=(Int×ByteArray)
abbrev gl:Type:=(ByteArray×Bool)
abbrev aB:Type:=(Int×Int×Unit)
abbrev qy:Type:=(List (Int×Bool))
abbrev BD:Type:=(ByteArray×Int×Int)
abbrev bM:Type:=(Int×ByteArray×Unit)
abbrev dF:Type:=(List gl)
abbrev bc:Type:=(ByteArray×ByteArray×Unit)
abbrev al:Type:=(List bM)
abbrev aA:Type:=(Int×Int×Int×Int×Int×Unit)
abbrev aw:Type:=(List bc)
abbrev dv:Type:=(List aA)
abbrev fg:Type:=(al×Int×Int)
abbrev ai:Type:=(ByteArray×al×Unit)
abbrev ag:Type:=(Int×Int×dv×Unit)
abbrev ii:Type:=(List ag)
abbrev aM:Type:=(Int×Int×Int×ByteArray×aw×Unit)
abbrev kR:Type:=(al×Int×Int×al)
abbrev aR:Type:=(List aM)
abbrev jF:Type:=(ai×aB×ai)
abbrev av:Type:=(aw×aR×Unit)
abbrev jG:Type:=(ByteArray×Int×ai×aB×ai)
abbrev ap:Type:=(ag×av×(List Int)×al×Unit)
abbrev gB:Type:=(List ap)
abbrev jH:Type:=(av×ag×ag)
abbrev aD:Type:=(gB×Int×Unit)
abbrev jI:Type:=(Int×Int×Int×av×ag×ag)
def KZ{R:Type}(a:ByteArray)(b:Int)(c:ByteArray->Int->Option R):Option R:=
 c a b
def K0{R:Type}(a:ByteArray)(b:Int)(c:ByteArray->Int->Option R)(d:ByteArray->Option R):Option R:=
 bif 0<(a.size:Int) then za (zW zI ((a.size:Int)-1)) a.size (bif zb a (zW zI ((a.size:Int)-(1:Int))).toNat=b then bif 0<=zW zI ((a.size:Int)-1) then bif zW zI ((a.size:Int)-1)<=(a.size:Int) then c (a.extract 0 (zW zI ((a.size:Int)-(1:Int))).toNat) b else none else none else d a) else d a
def K1{R:Type}(a:ByteArray)(b:ByteArray->Option R):Option R:=
 b a
def yR:Nat->ByteArray->Int->Option ByteArray
 |0,_,_=>none
 |k+1,v0,v1=>K0 v0 v1 (fun a0 a1=>yR k a0 a1) (fun a0=>some a0)
def ql(a:ByteArray)(b:Int):Option ByteArray:=
 KZ a b (fun a0 a1=>(yR aq a0 a1).bind fun e=>K1 e (fun a0=>some a0))
def KV{R:Type}(a:ByteArray)(b:Int)(c:ByteArray->Int->Option R):Option R:=
 c a b
def KW{R:Type}(a:ByteArray)(b:Int)(c:ByteArray->Int->Option R)(d:ByteArray->Option R):Option R:=
 bif 0<(a.size:Int) then za 0 a.size (bif zb a ((0:Int)).toNat=b then bif 1<=(a.size:Int) then c (a.extract ((1:Int)).toNat a.size) b else none else d a) else d a
def KY{R:Type}(a:ByteArray)(b:ByteArray->Option R):Option R:=
 b a
def yP:Nat->ByteArray->Int->Option ByteArray
 |0,_,_=>none
 |k+1,v0,v1=>KW v0 v1 (fun a0 a1=>yP k a0 a1) (fun a0=>some a0)
def qk(a:ByteArray)(b:Int):Option ByteArray:=
 KV a b (fun a0 a1=>(yP aq a0 a1).bind fun e=>KY e (fun a0=>some a0))
def KU{R:Type}(a b:ByteArray)(c:ByteArray->Option R):Option R:=
 bif a=bs [] then c a else bif b=bs [] then c a else bif(b.size:Int)=1 then za 0 b.size (bif zb b ((0:Int)).toNat<128 then za 0 b.size ((ql a (zb b ((0:Int)).toNat)).bind fun r1=>za 0 b.size ((qk r1 (zb b ((0:Int)).toNat)).bind fun r2=>c r2)) else none) else none
def qj(a b:ByteArray):Option ByteArray:=
 KU a b (fun a0=>some a0)
def Mr{R:Type}(a:ByteArray)(b:jk->Option R):Option R:=
 b (a,0)
def Ms{R:Type}(a:jk)(b:Bool->Option R)(c:jk->Option R)(d:Option R):Option R:=
 bif a.2<a.1.size then bif(((Utf8.decode a.1 a.2).1:Nat):Int)<48 then b false else bif 57<(((Utf8.decode a.1 a.2).1:Nat):Int) then b false else c (a.1,a.2+(Utf8.decode a.1 a.2).2) else d
def Mt{R:Type}(a:Bool)(b:Bool->Option R):Option R:=
 b a
def Mu{R:Type}(a:Bool->Option R):Option R:=
 a true
def AX:Nat->jk->Option (Sum Bool Unit)
 |0,_=>none
 |k+1,v0=>Ms v0 (fun a0=>some (.inl a0)) (fun a0=>AX k a0) (some (.inr ()))
def rR(a:ByteArray):Option Bool:=
 Mr a (fun a0=>(AX aq a0).bind fun e=>Sum.elim (fun(we:Bool)=>Mt we (fun a0=>some a0)) (fun(we:Unit)=>Mu (fun a0=>some a0)) e)
def Mv{R:Type}(a:ByteArray)(b:Int->Bool->Option R)(c:Int->jk->Option R):Option R:=
 bif a=bs [] then b 0 false else bif 18<(a.size:Int) then b 0 false else(rR a).bind fun r1=>bif !r1 then b 0 false else c 0 (a,0)
def Mw{R:Type}(a:Int)(b:jk)(c:Int->jk->Option R)(d:Int->Option R):Option R:=
 bif b.2<b.1.size then c (zW zI (zW zI (10*a)+zW zI (IntKind.i32.wrap ((((Utf8.decode b.1 b.2).1:Nat):Int)-48)))) (b.1,b.2+(Utf8.decode b.1 b.2).2) else d a
def Mx{R:Type}(a:Int)(b:Int->Bool->Option R):Option R:=
 b a true
def AZ:Nat->Int->jk->Option Int
 |0,_,_=>none
 |k+1,v0,v1=>Mw v0 v1 (fun a0 a1=>AZ k a0 a1) (fun a0=>some a0)
def rS(a:ByteArray):Option (Int×Bool):=
 Mv a (fun a0 a1=>some (a0,a1)) (fun a0 a1=>(AZ aq a0 a1).bind fun e=>Mx e (fun a0 a1=>some (a0,a1)))
def Mz{R:Type}(a b:Int)(c:ByteArray->Bool->Option R)(d:Int->Nat->Int->Nat->(List Int)->Option R):Option R:=
 bif a<0 then c (bs []) false else bif b<1 then c (bs []) false else bif 18<b then c (bs []) false else bif b=b then bif 0<=b then bif b*1<=140737488355328 then d a b.toNat (zW zI (b-1)) b.toNat (List.replicate b.toNat 0) else none else none else none
def MA{R:Type}(a:Int)(b:Nat)(c:Int)(d:Nat)(e:(List Int))(f:Int->Nat->Int->Nat->(List Int)->Option R)(g:Int->Nat->Nat->(List Int)->Option R):Option R:=
 bif 0<=c then za c b (bif Nat.ble (c.toNat+1) (List.length e) then f (zW zI (Int.tdiv a 10)) b (zW zI (c-1)) d (List.set e c.toNat (zW zU (zW zI (48+Int.tmod a 10)))) else none) else g a b d e
def MB{R:Type}(a:Int)(b c:Nat)(d:(List Int))(e:ByteArray->Bool->Option R):Option R:=
 bif 0<a then e (bs []) false else bif Nat.beq b (List.length d) then e (strOf d) true else none
def A3:Nat->Int->Nat->Int->Nat->(List Int)->Option (Int×Nat×Nat×(List Int))
 |0,_,_,_,_,_=>none
 |k+1,v0,v1,v2,v3,v4=>MA v0 v1 v2 v3 v4 (fun a0 a1 a2 a3 a4=>A3 k a0 a1 a2 a3 a4) (fun a0 a1 a2 a3=>some (a0,a1,a2,a3))
def Bp(a b:Int):Option gl:=
 Mz a b (fun a0 a1=>some (a0,a1)) (fun a0 a1 a2 a3 a4=>(A3 aq a0 a1 a2 a3 a4).bind fun e=>MB e.1 e.2.1 e.2.2.1 e.2.2.2 (fun a0 a1=>some (a0,a1)))
def My{R:Type}(a:ByteArray)(b:Int)(c:ByteArray->Bool->Option R):Option R:=
 bif a=bs [] then c (bs []) false else bif 999<(a.size:Int) then c (bs []) false else(rR a).bind fun r1=>bif !r1 then c (bs []) false else bif b<1 then c (bs []) false else bif 999<b then c (bs []) false else bif(a.size:Int)<=b then(strings_Repeat (bs [48]) (zW zI (b-(a.size:Int)))).bind fun r2=>bif r2.size+a.size<=9223372036854775807 then c (r2++a) true else none else bif 0<=zW zI ((a.size:Int)-b) then bif zW zI ((a.size:Int)-b)<=(a.size:Int) then(qj (a.extract 0 (zW zI ((a.size:Int)-b)).toNat) (bs [48])).bind fun r3=>bif !decide (r3=bs []) then c (bs []) false else bif 0<=zW zI ((a.size:Int)-b) then bif zW zI ((a.size:Int)-b)<=(a.size:Int) then c (a.extract (zW zI ((a.size:Int)-b)).toNat a.size) true else none else none else none else none
def Bn(a:ByteArray)(b:Int):Option gl:=
 My a b (fun a0 a1=>some (a0,a1))
def kD{R:Type}(a:Int)(b:Int->Option R):Option R:=
 bif a<1 then b 0 else b (zW zI (zW zI (Int.tdiv a 2)+Int.tmod a 2))
def Q2(a:Int):Option Int:=
 kD a (fun a0=>some a0)
def kh{R:Type}(a:ByteArray)(b:Int)(c:ByteArray->Int->Int->Option R)(d:ByteArray->Int->(List Int)->Int->Int->Option R):Option R:=
 bif b<0 then c (bs []) 1 0 else bif 999<b then c (bs []) 1 0 else(Q2 b).bind fun r1=>bif(a.size:Int)<r1 then c (bs []) 2 (a.size:Int) else bif 0<=zW zI (b+1) then bif zW zI (b+1)*1<=140737488355328 then(Q2 b).bind fun r2=>d a b [] r2 0 else none else none
def ki{R:Type}(a:ByteArray)(b:Int)(c:(List Int))(d e:Int)(f:Int->ByteArray->Int->Int->(List Int)->Option R)(g:ByteArray->Int->(List Int)->Int->Int->Option R)(h:Int->(List Int)->Option R):Option R:=
 bif e<d then za e a.size (za e a.size (bif e=0 then bif !decide (Int.tmod b 2=0) then bif !decide (Int.fdiv (zb a e.toNat) (2^min ((4:Int)).toNat 8)=0) then f b (bs []) 4 0 c else bif 9<Int.fdiv (zb a e.toNat) (2^min ((4:Int)).toNat 8) then f b (bs []) 3 e c else bif 9<aZ .and .u8 (zb a e.toNat) 15 then f b (bs []) 3 e c else bif(List.length c+List.length ([(zW zU ((48:Int)+Int.fdiv (zb a e.toNat) (2^min ((4:Int)).toNat 8))),(zW zU ((48:Int)+aZ .and .u8 (zb a e.toNat) (15:Int)))]:List Int))*1<=140737488355328 then g a b (c++([(zW zU (48+Int.fdiv (zb a e.toNat) (2^min ((4:Int)).toNat 8))),(zW zU (48+aZ .and .u8 (zb a e.toNat) 15))]:List Int)) d (zW zI (e+1)) else none else bif 9<Int.fdiv (zb a e.toNat) (2^min ((4:Int)).toNat 8) then f b (bs []) 3 e c else bif 9<aZ .and .u8 (zb a e.toNat) 15 then f b (bs []) 3 e c else bif(List.length c+List.length ([(zW zU ((48:Int)+Int.fdiv (zb a e.toNat) (2^min ((4:Int)).toNat 8))),(zW zU ((48:Int)+aZ .and .u8 (zb a e.toNat) (15:Int)))]:List Int))*1<=140737488355328 then g a b (c++([(zW zU (48+Int.fdiv (zb a e.toNat) (2^min ((4:Int)).toNat 8))),(zW zU (48+aZ .and .u8 (zb a e.toNat) 15))]:List Int)) d (zW zI (e+1)) else none else bif 9<Int.fdiv (zb a e.toNat) (2^min ((4:Int)).toNat 8) then f b (bs []) 3 e c else bif 9<aZ .and .u8 (zb a e.toNat) 15 then f b (bs []) 3 e c else bif(List.length c+List.length ([(zW zU ((48:Int)+Int.fdiv (zb a e.toNat) (2^min ((4:Int)).toNat 8))),(zW zU ((48:Int)+aZ .and .u8 (zb a e.toNat) (15:Int)))]:List Int))*1<=140737488355328 then g a b (c++([(zW zU (48+Int.fdiv (zb a e.toNat) (2^min ((4:Int)).toNat 8))),(zW zU (48+aZ .and .u8 (zb a e.toNat) 15))]:List Int)) d (zW zI (e+1)) else none)) else h b c
def kj{R:Type}(a:Int)(b:ByteArray)(c d:Int)(e:(List Int))(f:ByteArray->Int->Int->Option R):Option R:=
 f b c d
def kl{R:Type}(a:Int)(b:(List Int))(c:ByteArray->Int->Int->Option R):Option R:=
 bif 0<=Int.tmod a 2 then bif Int.tmod a 2<=(((List.length b):Nat):Int) then c (strOf (List.drop (Int.tmod a (2:Int)).toNat (List.take (List.length b) b))) 0 0 else none else none
def iF:Nat->ByteArray->Int->(List Int)->Int->Int->Option (Sum (Int×ByteArray×Int×Int×(List Int)) (Int×(List Int)))
 |0,_,_,_,_,_=>none
 |k+1,v0,v1,v2,v3,v4=>ki v0 v1 v2 v3 v4 (fun a0 a1 a2 a3 a4=>some (.inl (a0,a1,a2,a3,a4))) (fun a0 a1 a2 a3 a4=>iF k a0 a1 a2 a3 a4) (fun a0 a1=>some (.inr (a0,a1)))
def Q0(a:ByteArray)(b:Int):Option BD:=
 kh a b (fun a0 a1 a2=>some (a0,a1,a2)) (fun a0 a1 a2 a3 a4=>(iF aq a0 a1 a2 a3 a4).bind fun e=>Sum.elim (fun(we:(Int×ByteArray×Int×Int×(List Int)))=>kj we.1 we.2.1 we.2.2.1 we.2.2.2.1 we.2.2.2.2 (fun a0 a1 a2=>some (a0,a1,a2))) (fun(we:(Int×(List Int)))=>kl we.1 we.2 (fun a0 a1 a2=>some (a0,a1,a2))) e)
def gw{R:Type}(a:ByteArray)(b:ByteArray->Bool->Option R)(c:ByteArray->(List Int)->Int->Option R):Option R:=
 bif 999<(a.size:Int) then b (bs []) false else(rR a).bind fun r1=>bif !r1 then b (bs []) false else bif !decide (Int.tmod (a.size:Int) 2=0) then bif(bs [48]).size+a.size<=9223372036854775807 then bif 0<=zW zI (Int.tdiv ((bs [48]++a).size:Int) 2) then bif zW zI (Int.tdiv ((bs [48]++a).size:Int) 2)*1<=140737488355328 then c (bs [48]++a) [] 0 else none else none else none else bif 0<=zW zI (Int.tdiv (a.size:Int) 2) then bif zW zI (Int.tdiv (a.size:Int) 2)*1<=140737488355328 then c a [] 0 else none else none
theorem UB{R S:Type}(F:R->Option S)(a)(b)(c):(gw a b c).bind F=gw a (fun a0 a1=>(b a0 a1).bind F) (fun a0 a1 a2=>(c a0 a1 a2).bind F):=by
 simp only[gw,aE]
def kx{R:Type}(a:ByteArray)(b:(List Int))(c:Int)(d:ByteArray->(List Int)->Int->Option R)(e:(List Int)->Option R):Option R:=
 bif c<(a.size:Int) then za c a.size (za (zW zI (c+1)) a.size (bif(List.length b+List.length ([(aZ .or .u8 (zW zU (zW zU (zb a c.toNat-(48:Int))*2^min ((4:Int)).toNat 8)) (zW zU (zb a (zW zI (c+(1:Int))).toNat-(48:Int))))]:List Int))*1<=140737488355328 then d a (b++([(aZ .or .u8 (zW zU (zW zU (zb a c.toNat-48)*2^min ((4:Int)).toNat 8)) (zW zU (zb a (zW zI (c+(1:Int))).toNat-48)))]:List Int)) (zW zI (c+2)) else none)) else e b
def ky{R:Type}(a:(List Int))(b:ByteArray->Bool->Option R):Option R:=
 b (strOf a) true
def iI:Nat->ByteArray->(List Int)->Int->Option (List Int)
 |0,_,_,_=>none
 |k+1,v0,v1,v2=>kx v0 v1 v2 (fun a0 a1 a2=>iI k a0 a1 a2) (fun a0=>some a0)
def Q1(a:ByteArray):Option gl:=
 gw a (fun a0 a1=>some (a0,a1)) (fun a0 a1 a2=>(iI aq a0 a1 a2).bind fun e=>ky e (fun a0 a1=>some (a0,a1)))
def kG{R:Type}(a:Int)(b:Int->Option R):Option R:=
 bif a<0 then b 0 else bif 65535<a then b 0 else bif 255<a then b (zW zI (zW zI (zW zI (0+1)+1)+1)) else bif 127<a then b (zW zI (zW zI (0+1)+1)) else b (zW zI (0+1))
def Q4(a:Int):Option Int:=
 kG a (fun a0=>some a0)
def gy{R:Type}(a:ByteArray)(b:Int)(c:Int->Int->Int->Option R)(d:ByteArray->Int->Int->Int->Int->Int->Option R):Option R:=
 bif b<0 then c 0 0 1 else bif(a.size:Int)<b then c 0 0 1 else bif b=(a.size:Int) then c 0 0 2 else za b a.size (bif 127<zW zI (zb a b.toNat) then bif zW zI (zb a b.toNat)=128 then c 0 0 14 else bif 130<zW zI (zb a b.toNat) then c 0 0 14 else bif zW zI ((a.size:Int)-zW zI (b+1))<zW zI (zW zI (zb a b.toNat)-128) then c 0 0 2 else d a (zW zI (b+1)) 0 (zW zI (zW zI (zb a b.toNat)-128)) (zW zI (zW zI (zb a b.toNat)-128)) 0 else bif zW zI ((a.size:Int)-zW zI (b+1))<0 then c 0 0 2 else d a (zW zI (b+1)) (zW zI (zb a b.toNat)) 0 0 0)
theorem UC{R S:Type}(F:R->Option S)(a)(b)(c)(d):(gy a b c d).bind F=gy a b (fun a0 a1 a2=>(c a0 a1 a2).bind F) (fun a0 a1 a2 a3 a4 a5=>(d a0 a1 a2 a3 a4 a5).bind F):=by
 simp only[gy,aE]
def kE{R:Type}(a:ByteArray)(b c d e f:Int)(g:ByteArray->Int->Int->Int->Int->Int->Option R)(h:Int->Int->Int->Option R):Option R:=
 bif f<e then za (zW zI (b+f)) a.size (g a b (aZ .or .i64 (zW zI (c*2^min ((8:Int)).toNat 64)) (zW zI (zb a (zW zI (b+f)).toNat))) d e (zW zI (f+1))) else h b c d
def kF{R:Type}(a b c:Int)(d:Int->Int->Int->Option R):Option R:=
 (Q4 b).bind fun r1=>bif !decide (r1=zW zI (c+1)) then d 0 0 14 else d b (zW zI (a+c)) 0
def iR:Nat->ByteArray->Int->Int->Int->Int->Int->Option ig
 |0,_,_,_,_,_,_=>none
 |k+1,v0,v1,v2,v3,v4,v5=>kE v0 v1 v2 v3 v4 v5 (fun a0 a1 a2 a3 a4 a5=>iR k a0 a1 a2 a3 a4 a5) (fun a0 a1 a2=>some (a0,a1,a2))
def Q3(a:ByteArray)(b:Int):Option ig:=
 gy a b (fun a0 a1 a2=>some (a0,a1,a2)) (fun a0 a1 a2 a3 a4 a5=>(iR aq a0 a1 a2 a3 a4 a5).bind fun e=>kF e.1 e.2.1 e.2.2 (fun a0 a1 a2=>some (a0,a1,a2)))
def I1{R:Type}(a:Int)(b:Int->Option R):Option R:=
 bif 4294967296<=a then bif 65536<=Int.fdiv a (2^min ((32:Int)).toNat 64) then bif 256<=Int.fdiv (Int.fdiv a (2^min ((32:Int)).toNat 64)) (2^min ((16:Int)).toNat 64) then za (zW zU (Int.fdiv (Int.fdiv (Int.fdiv a (2^min ((32:Int)).toNat 64)) (2^min ((16:Int)).toNat 64)) (2^min ((8:Int)).toNat 64))) (bs [0,1,2,2,3,3,3,3,4,4,4,4,4,4,4,4,5,5,5,5,5,5,5,5,5,5,5,5,5,5,5,5,6,6,6,6,6,6,6,6,6,6,6,6,6,6,6,6,6,6,6,6,6,6,6,6,6,6,6,6,6,6,6,6,7,7,7,7,7,7,7,7,7,7,7,7,7,7,7,7,7,7,7,7,7,7,7,7,7,7,7,7,7,7,7,7,7,7,7,7,7,7,7,7,7,7,7,7,7,7,7,7,7,7,7,7,7,7,7,7,7,7,7,7,7,7,7,7,8,8,8,8,8,8,8,8,8,8,8,8,8,8,8,8,8,8,8,8,8,8,8,8,8,8,8,8,8,8,8,8,8,8,8,8,8,8,8,8,8,8,8,8,8,8,8,8,8,8,8,8,8,8,8,8,8,8,8,8,8,8,8,8,8,8,8,8,8,8,8,8,8,8,8,8,8,8,8,8,8,8,8,8,8,8,8,8,8,8,8,8,8,8,8,8,8,8,8,8,8,8,8,8,8,8,8,8,8,8,8,8,8,8,8,8,8,8,8,8,8,8,8,8,8,8,8,8]).size (b (zW zI (zW zI (zW zI (32+16)+8)+zW zI (zb (bs [0,1,2,2,3,3,3,3,4,4,4,4,4,4,4,4,5,5,5,5,5,5,5,5,5,5,5,5,5,5,5,5,6,6,6,6,6,6,6,6,6,6,6,6,6,6,6,6,6,6,6,6,6,6,6,6,6,6,6,6,6,6,6,6,7,7,7,7,7,7,7,7,7,7,7,7,7,7,7,7,7,7,7,7,7,7,7,7,7,7,7,7,7,7,7,7,7,7,7,7,7,7,7,7,7,7,7,7,7,7,7,7,7,7,7,7,7,7,7,7,7,7,7,7,7,7,7,7,8,8,8,8,8,8,8,8,8,8,8,8,8,8,8,8,8,8,8,8,8,8,8,8,8,8,8,8,8,8,8,8,8,8,8,8,8,8,8,8,8,8,8,8,8,8,8,8,8,8,8,8,8,8,8,8,8,8,8,8,8,8,8,8,8,8,8,8,8,8,8,8,8,8,8,8,8,8,8,8,8,8,8,8,8,8,8,8,8,8,8,8,8,8,8,8,8,8,8,8,8,8,8,8,8,8,8,8,8,8,8,8,8,8,8,8,8,8,8,8,8,8,8,8,8,8,8,8]) (zW zU (Int.fdiv (Int.fdiv (Int.fdiv a (2^min ((32:Int)).toNat 64)) (2^min ((16:Int)).toNat 64)) (2^min ((8:Int)).toNat 64))).toNat)))) else za (zW zU (Int.fdiv (Int.fdiv a (2^min ((32:Int)).toNat 64)) (2^min ((16:Int)).toNat 64))) (bs [0,1,2,2,3,3,3,3,4,4,4,4,4,4,4,4,5,5,5,5,5,5,5,5,5,5,5,5,5,5,5,5,6,6,6,6,6,6,6,6,6,6,6,6,6,6,6,6,6,6,6,6,6,6,6,6,6,6,6,6,6,6,6,6,7,7,7,7,7,7,7,7,7,7,7,7,7,7,7,7,7,7,7,7,7,7,7,7,7,7,7,7,7,7,7,7,7,7,7,7,7,7,7,7,7,7,7,7,7,7,7,7,7,7,7,7,7,7,7,7,7,7,7,7,7,7,7,7,8,8,8,8,8,8,8,8,8,8,8,8,8,8,8,8,8,8,8,8,8,8,8,8,8,8,8,8,8,8,8,8,8,8,8,8,8,8,8,8,8,8,8,8,8,8,8,8,8,8,8,8,8,8,8,8,8,8,8,8,8,8,8,8,8,8,8,8,8,8,8,8,8,8,8,8,8,8,8,8,8,8,8,8,8,8,8,8,8,8,8,8,8,8,8,8,8,8,8,8,8,8,8,8,8,8,8,8,8,8,8,8,8,8,8,8,8,8,8,8,8,8,8,8,8,8,8,8]).size (b (zW zI (zW zI (32+16)+zW zI (zb (bs [0,1,2,2,3,3,3,3,4,4,4,4,4,4,4,4,5,5,5,5,5,5,5,5,5,5,5,5,5,5,5,5,6,6,6,6,6,6,6,6,6,6,6,6,6,6,6,6,6,6,6,6,6,6,6,6,6,6,6,6,6,6,6,6,7,7,7,7,7,7,7,7,7,7,7,7,7,7,7,7,7,7,7,7,7,7,7,7,7,7,7,7,7,7,7,7,7,7,7,7,7,7,7,7,7,7,7,7,7,7,7,7,7,7,7,7,7,7,7,7,7,7,7,7,7,7,7,7,8,8,8,8,8,8,8,8,8,8,8,8,8,8,8,8,8,8,8,8,8,8,8,8,8,8,8,8,8,8,8,8,8,8,8,8,8,8,8,8,8,8,8,8,8,8,8,8,8,8,8,8,8,8,8,8,8,8,8,8,8,8,8,8,8,8,8,8,8,8,8,8,8,8,8,8,8,8,8,8,8,8,8,8,8,8,8,8,8,8,8,8,8,8,8,8,8,8,8,8,8,8,8,8,8,8,8,8,8,8,8,8,8,8,8,8,8,8,8,8,8,8,8,8,8,8,8,8]) (zW zU (Int.fdiv (Int.fdiv a (2^min ((32:Int)).toNat 64)) (2^min ((16:Int)).toNat 64))).toNat)))) else bif 256<=Int.fdiv a (2^min ((32:Int)).toNat 64) then za (zW zU (Int.fdiv (Int.fdiv a (2^min ((32:Int)).toNat 64)) (2^min ((8:Int)).toNat 64))) (bs [0,1,2,2,3,3,3,3,4,4,4,4,4,4,4,4,5,5,5,5,5,5,5,5,5,5,5,5,5,5,5,5,6,6,6,6,6,6,6,6,6,6,6,6,6,6,6,6,6,6,6,6,6,6,6,6,6,6,6,6,6,6,6,6,7,7,7,7,7,7,7,7,7,7,7,7,7,7,7,7,7,7,7,7,7,7,7,7,7,7,7,7,7,7,7,7,7,7,7,7,7,7,7,7,7,7,7,7,7,7,7,7,7,7,7,7,7,7,7,7,7,7,7,7,7,7,7,7,8,8,8,8,8,8,8,8,8,8,8,8,8,8,8,8,8,8,8,8,8,8,8,8,8,8,8,8,8,8,8,8,8,8,8,8,8,8,8,8,8,8,8,8,8,8,8,8,8,8,8,8,8,8,8,8,8,8,8,8,8,8,8,8,8,8,8,8,8,8,8,8,8,8,8,8,8,8,8,8,8,8,8,8,8,8,8,8,8,8,8,8,8,8,8,8,8,8,8,8,8,8,8,8,8,8,8,8,8,8,8,8,8,8,8,8,8,8,8,8,8,8,8,8,8,8,8,8]).size (b (zW zI (zW zI (32+8)+zW zI (zb (bs [0,1,2,2,3,3,3,3,4,4,4,4,4,4,4,4,5,5,5,5,5,5,5,5,5,5,5,5,5,5,5,5,6,6,6,6,6,6,6,6,6,6,6,6,6,6,6,6,6,6,6,6,6,6,6,6,6,6,6,6,6,6,6,6,7,7,7,7,7,7,7,7,7,7,7,7,7,7,7,7,7,7,7,7,7,7,7,7,7,7,7,7,7,7,7,7,7,7,7,7,7,7,7,7,7,7,7,7,7,7,7,7,7,7,7,7,7,7,7,7,7,7,7,7,7,7,7,7,8,8,8,8,8,8,8,8,8,8,8,8,8,8,8,8,8,8,8,8,8,8,8,8,8,8,8,8,8,8,8,8,8,8,8,8,8,8,8,8,8,8,8,8,8,8,8,8,8,8,8,8,8,8,8,8,8,8,8,8,8,8,8,8,8,8,8,8,8,8,8,8,8,8,8,8,8,8,8,8,8,8,8,8,8,8,8,8,8,8,8,8,8,8,8,8,8,8,8,8,8,8,8,8,8,8,8,8,8,8,8,8,8,8,8,8,8,8,8,8,8,8,8,8,8,8,8,8]) (zW zU (Int.fdiv (Int.fdiv a (2^min ((32:Int)).toNat 64)) (2^min ((8:Int)).toNat 64))).toNat)))) else za (zW zU (Int.fdiv a (2^min ((32:Int)).toNat 64))) (bs [0,1,2,2,3,3,3,3,4,4,4,4,4,4,4,4,5,5,5,5,5,5,5,5,5,5,5,5,5,5,5,5,6,6,6,6,6,6,6,6,6,6,6,6,6,6,6,6,6,6,6,6,6,6,6,6,6,6,6,6,6,6,6,6,7,7,7,7,7,7,7,7,7,7,7,7,7,7,7,7,7,7,7,7,7,7,7,7,7,7,7,7,7,7,7,7,7,7,7,7,7,7,7,7,7,7,7,7,7,7,7,7,7,7,7,7,7,7,7,7,7,7,7,7,7,7,7,7,8,8,8,8,8,8,8,8,8,8,8,8,8,8,8,8,8,8,8,8,8,8,8,8,8,8,8,8,8,8,8,8,8,8,8,8,8,8,8,8,8,8,8,8,8,8,8,8,8,8,8,8,8,8,8,8,8,8,8,8,8,8,8,8,8,8,8,8,8,8,8,8,8,8,8,8,8,8,8,8,8,8,8,8,8,8,8,8,8,8,8,8,8,8,8,8,8,8,8,8,8,8,8,8,8,8,8,8,8,8,8,8,8,8,8,8,8,8,8,8,8,8,8,8,8,8,8,8]).size (b (zW zI (32+zW zI (zb (bs [0,1,2,2,3,3,3,3,4,4,4,4,4,4,4,4,5,5,5,5,5,5,5,5,5,5,5,5,5,5,5,5,6,6,6,6,6,6,6,6,6,6,6,6,6,6,6,6,6,6,6,6,6,6,6,6,6,6,6,6,6,6,6,6,7,7,7,7,7,7,7,7,7,7,7,7,7,7,7,7,7,7,7,7,7,7,7,7,7,7,7,7,7,7,7,7,7,7,7,7,7,7,7,7,7,7,7,7,7,7,7,7,7,7,7,7,7,7,7,7,7,7,7,7,7,7,7,7,8,8,8,8,8,8,8,8,8,8,8,8,8,8,8,8,8,8,8,8,8,8,8,8,8,8,8,8,8,8,8,8,8,8,8,8,8,8,8,8,8,8,8,8,8,8,8,8,8,8,8,8,8,8,8,8,8,8,8,8,8,8,8,8,8,8,8,8,8,8,8,8,8,8,8,8,8,8,8,8,8,8,8,8,8,8,8,8,8,8,8,8,8,8,8,8,8,8,8,8,8,8,8,8,8,8,8,8,8,8,8,8,8,8,8,8,8,8,8,8,8,8,8,8,8,8,8,8]) (zW zU (Int.fdiv a (2^min ((32:Int)).toNat 64))).toNat)))) else bif 65536<=a then bif 256<=Int.fdiv a (2^min ((16:Int)).toNat 64) then za (zW zU (Int.fdiv (Int.fdiv a (2^min ((16:Int)).toNat 64)) (2^min ((8:Int)).toNat 64))) (bs [0,1,2,2,3,3,3,3,4,4,4,4,4,4,4,4,5,5,5,5,5,5,5,5,5,5,5,5,5,5,5,5,6,6,6,6,6,6,6,6,6,6,6,6,6,6,6,6,6,6,6,6,6,6,6,6,6,6,6,6,6,6,6,6,7,7,7,7,7,7,7,7,7,7,7,7,7,7,7,7,7,7,7,7,7,7,7,7,7,7,7,7,7,7,7,7,7,7,7,7,7,7,7,7,7,7,7,7,7,7,7,7,7,7,7,7,7,7,7,7,7,7,7,7,7,7,7,7,8,8,8,8,8,8,8,8,8,8,8,8,8,8,8,8,8,8,8,8,8,8,8,8,8,8,8,8,8,8,8,8,8,8,8,8,8,8,8,8,8,8,8,8,8,8,8,8,8,8,8,8,8,8,8,8,8,8,8,8,8,8,8,8,8,8,8,8,8,8,8,8,8,8,8,8,8,8,8,8,8,8,8,8,8,8,8,8,8,8,8,8,8,8,8,8,8,8,8,8,8,8,8,8,8,8,8,8,8,8,8,8,8,8,8,8,8,8,8,8,8,8,8,8,8,8,8,8]).size (b (zW zI (zW zI (zW zI (0+16)+8)+zW zI (zb (bs [0,1,2,2,3,3,3,3,4,4,4,4,4,4,4,4,5,5,5,5,5,5,5,5,5,5,5,5,5,5,5,5,6,6,6,6,6,6,6,6,6,6,6,6,6,6,6,6,6,6,6,6,6,6,6,6,6,6,6,6,6,6,6,6,7,7,7,7,7,7,7,7,7,7,7,7,7,7,7,7,7,7,7,7,7,7,7,7,7,7,7,7,7,7,7,7,7,7,7,7,7,7,7,7,7,7,7,7,7,7,7,7,7,7,7,7,7,7,7,7,7,7,7,7,7,7,7,7,8,8,8,8,8,8,8,8,8,8,8,8,8,8,8,8,8,8,8,8,8,8,8,8,8,8,8,8,8,8,8,8,8,8,8,8,8,8,8,8,8,8,8,8,8,8,8,8,8,8,8,8,8,8,8,8,8,8,8,8,8,8,8,8,8,8,8,8,8,8,8,8,8,8,8,8,8,8,8,8,8,8,8,8,8,8,8,8,8,8,8,8,8,8,8,8,8,8,8,8,8,8,8,8,8,8,8,8,8,8,8,8,8,8,8,8,8,8,8,8,8,8,8,8,8,8,8,8]) (zW zU (Int.fdiv (Int.fdiv a (2^min ((16:Int)).toNat 64)) (2^min ((8:Int)).toNat 64))).toNat)))) else za (zW zU (Int.fdiv a (2^min ((16:Int)).toNat 64))) (bs [0,1,2,2,3,3,3,3,4,4,4,4,4,4,4,4,5,5,5,5,5,5,5,5,5,5,5,5,5,5,5,5,6,6,6,6,6,6,6,6,6,6,6,6,6,6,6,6,6,6,6,6,6,6,6,6,6,6,6,6,6,6,6,6,7,7,7,7,7,7,7,7,7,7,7,7,7,7,7,7,7,7,7,7,7,7,7,7,7,7,7,7,7,7,7,7,7,7,7,7,7,7,7,7,7,7,7,7,7,7,7,7,7,7,7,7,7,7,7,7,7,7,7,7,7,7,7,7,8,8,8,8,8,8,8,8,8,8,8,8,8,8,8,8,8,8,8,8,8,8,8,8,8,8,8,8,8,8,8,8,8,8,8,8,8,8,8,8,8,8,8,8,8,8,8,8,8,8,8,8,8,8,8,8,8,8,8,8,8,8,8,8,8,8,8,8,8,8,8,8,8,8,8,8,8,8,8,8,8,8,8,8,8,8,8,8,8,8,8,8,8,8,8,8,8,8,8,8,8,8,8,8,8,8,8,8,8,8,8,8,8,8,8,8,8,8,8,8,8,8,8,8,8,8,8,8]).size (b (zW zI (zW zI (0+16)+zW zI (zb (bs [0,1,2,2,3,3,3,3,4,4,4,4,4,4,4,4,5,5,5,5,5,5,5,5,5,5,5,5,5,5,5,5,6,6,6,6,6,6,6,6,6,6,6,6,6,6,6,6,6,6,6,6,6,6,6,6,6,6,6,6,6,6,6,6,7,7,7,7,7,7,7,7,7,7,7,7,7,7,7,7,7,7,7,7,7,7,7,7,7,7,7,7,7,7,7,7,7,7,7,7,7,7,7,7,7,7,7,7,7,7,7,7,7,7,7,7,7,7,7,7,7,7,7,7,7,7,7,7,8,8,8,8,8,8,8,8,8,8,8,8,8,8,8,8,8,8,8,8,8,8,8,8,8,8,8,8,8,8,8,8,8,8,8,8,8,8,8,8,8,8,8,8,8,8,8,8,8,8,8,8,8,8,8,8,8,8,8,8,8,8,8,8,8,8,8,8,8,8,8,8,8,8,8,8,8,8,8,8,8,8,8,8,8,8,8,8,8,8,8,8,8,8,8,8,8,8,8,8,8,8,8,8,8,8,8,8,8,8,8,8,8,8,8,8,8,8,8,8,8,8,8,8,8,8,8,8]) (zW zU (Int.fdiv a (2^min ((16:Int)).toNat 64))).toNat)))) else bif 256<=a then za (zW zU (Int.fdiv a (2^min ((8:Int)).toNat 64))) (bs [0,1,2,2,3,3,3,3,4,4,4,4,4,4,4,4,5,5,5,5,5,5,5,5,5,5,5,5,5,5,5,5,6,6,6,6,6,6,6,6,6,6,6,6,6,6,6,6,6,6,6,6,6,6,6,6,6,6,6,6,6,6,6,6,7,7,7,7,7,7,7,7,7,7,7,7,7,7,7,7,7,7,7,7,7,7,7,7,7,7,7,7,7,7,7,7,7,7,7,7,7,7,7,7,7,7,7,7,7,7,7,7,7,7,7,7,7,7,7,7,7,7,7,7,7,7,7,7,8,8,8,8,8,8,8,8,8,8,8,8,8,8,8,8,8,8,8,8,8,8,8,8,8,8,8,8,8,8,8,8,8,8,8,8,8,8,8,8,8,8,8,8,8,8,8,8,8,8,8,8,8,8,8,8,8,8,8,8,8,8,8,8,8,8,8,8,8,8,8,8,8,8,8,8,8,8,8,8,8,8,8,8,8,8,8,8,8,8,8,8,8,8,8,8,8,8,8,8,8,8,8,8,8,8,8,8,8,8,8,8,8,8,8,8,8,8,8,8,8,8,8,8,8,8,8,8]).size (b (zW zI (zW zI (0+8)+zW zI (zb (bs [0,1,2,2,3,3,3,3,4,4,4,4,4,4,4,4,5,5,5,5,5,5,5,5,5,5,5,5,5,5,5,5,6,6,6,6,6,6,6,6,6,6,6,6,6,6,6,6,6,6,6,6,6,6,6,6,6,6,6,6,6,6,6,6,7,7,7,7,7,7,7,7,7,7,7,7,7,7,7,7,7,7,7,7,7,7,7,7,7,7,7,7,7,7,7,7,7,7,7,7,7,7,7,7,7,7,7,7,7,7,7,7,7,7,7,7,7,7,7,7,7,7,7,7,7,7,7,7,8,8,8,8,8,8,8,8,8,8,8,8,8,8,8,8,8,8,8,8,8,8,8,8,8,8,8,8,8,8,8,8,8,8,8,8,8,8,8,8,8,8,8,8,8,8,8,8,8,8,8,8,8,8,8,8,8,8,8,8,8,8,8,8,8,8,8,8,8,8,8,8,8,8,8,8,8,8,8,8,8,8,8,8,8,8,8,8,8,8,8,8,8,8,8,8,8,8,8,8,8,8,8,8,8,8,8,8,8,8,8,8,8,8,8,8,8,8,8,8,8,8,8,8,8,8,8,8]) (zW zU (Int.fdiv a (2^min ((8:Int)).toNat 64))).toNat)))) else za (zW zU a) (bs [0,1,2,2,3,3,3,3,4,4,4,4,4,4,4,4,5,5,5,5,5,5,5,5,5,5,5,5,5,5,5,5,6,6,6,6,6,6,6,6,6,6,6,6,6,6,6,6,6,6,6,6,6,6,6,6,6,6,6,6,6,6,6,6,7,7,7,7,7,7,7,7,7,7,7,7,7,7,7,7,7,7,7,7,7,7,7,7,7,7,7,7,7,7,7,7,7,7,7,7,7,7,7,7,7,7,7,7,7,7,7,7,7,7,7,7,7,7,7,7,7,7,7,7,7,7,7,7,8,8,8,8,8,8,8,8,8,8,8,8,8,8,8,8,8,8,8,8,8,8,8,8,8,8,8,8,8,8,8,8,8,8,8,8,8,8,8,8,8,8,8,8,8,8,8,8,8,8,8,8,8,8,8,8,8,8,8,8,8,8,8,8,8,8,8,8,8,8,8,8,8,8,8,8,8,8,8,8,8,8,8,8,8,8,8,8,8,8,8,8,8,8,8,8,8,8,8,8,8,8,8,8,8,8,8,8,8,8,8,8,8,8,8,8,8,8,8,8,8,8,8,8,8,8,8,8]).size (b (zW zI (0+zW zI (zb (bs [0,1,2,2,3,3,3,3,4,4,4,4,4,4,4,4,5,5,5,5,5,5,5,5,5,5,5,5,5,5,5,5,6,6,6,6,6,6,6,6,6,6,6,6,6,6,6,6,6,6,6,6,6,6,6,6,6,6,6,6,6,6,6,6,7,7,7,7,7,7,7,7,7,7,7,7,7,7,7,7,7,7,7,7,7,7,7,7,7,7,7,7,7,7,7,7,7,7,7,7,7,7,7,7,7,7,7,7,7,7,7,7,7,7,7,7,7,7,7,7,7,7,7,7,7,7,7,7,8,8,8,8,8,8,8,8,8,8,8,8,8,8,8,8,8,8,8,8,8,8,8,8,8,8,8,8,8,8,8,8,8,8,8,8,8,8,8,8,8,8,8,8,8,8,8,8,8,8,8,8,8,8,8,8,8,8,8,8,8,8,8,8,8,8,8,8,8,8,8,8,8,8,8,8,8,8,8,8,8,8,8,8,8,8,8,8,8,8,8,8,8,8,8,8,8,8,8,8,8,8,8,8,8,8,8,8,8,8,8,8,8,8,8,8,8,8,8,8,8,8,8,8,8,8,8,8]) (zW zU a).toNat))))
def pQ(a:Int):Option Int:=
 I1 a (fun a0=>some a0)
def I0{R:Type}(a:Int)(b:Int->Option R):Option R:=
 (pQ a).bind fun r1=>b (zW zI (64-r1))
def ko(a:Int):Option Int:=
 I0 a (fun a0=>some a0)
def MN{R:Type}(a:Int)(b:aB->Option R):Option R:=
 bif a<1 then b (0,0,()) else bif 128<a then b (0,0,()) else bif a<=64 then bif zW zI (64-a)<0 then none else b (IntKind.u64.wrap (1*2^min (zW zI (64-a)).toNat 64),0,()) else bif zW zI (128-a)<0 then none else b (0,IntKind.u64.wrap (1*2^min (zW zI (128-a)).toNat 64),())
def wN(a:Int):Option aB:=
 MN a (fun a0=>some a0)
def MH{R:Type}(a b:aB)(c:aB->Option R):Option R:=
 c (aZ .or .u64 a.1 b.1,aZ .or .u64 a.2.1 b.2.1,())
def te(a b:aB):Option aB:=
 MH a b (fun a0=>some a0)
def ML{R:Type}(a:aB)(b:Int)(c:aB->Option R):Option R:=
 (wN b).bind fun r1=>(te a r1).bind fun r2=>c r2
def wM(a:aB)(b:Int):Option aB:=
 ML a b (fun a0=>some a0)
def MD{R:Type}(a:(List Int))(b:(List Int)->Int->Int->aB->aB->Option R):Option R:=
 b a ((List.length a):Int) 0 (0,0,()) (0,0,())
def ME{R:Type}(a:(List Int))(b c:Int)(d e:aB)(f:(List Int)->Int->Int->aB->aB->Option R)(g:aB->aB->Option R):Option R:=
 bif c<b then za c (List.length a) ((wM e (List.getD a c.toNat (0:Int))).bind fun r1=>f a b (zW zI (c+1)) d r1) else g d e
def MF{R:Type}(a b:aB)(c:aB->Option R):Option R:=
 c b
def A5:Nat->(List Int)->Int->Int->aB->aB->Option (aB×aB)
 |0,_,_,_,_,_=>none
 |k+1,v0,v1,v2,v3,v4=>ME v0 v1 v2 v3 v4 (fun a0 a1 a2 a3 a4=>A5 k a0 a1 a2 a3 a4) (fun a0 a1=>some (a0,a1))
def s9(a:(List Int)):Option aB:=
 MD a (fun a0 a1 a2 a3 a4=>(A5 aq a0 a1 a2 a3 a4).bind fun e=>MF e.1 e.2 (fun a0=>some a0))
def MI{R:Type}(a:aB)(b:Int->Int->Option R):Option R:=
 b a.1 a.2.1
def Bq(a:aB):Option (Int×Int):=
 MI a (fun a0 a1=>some (a0,a1))
def MK{R:Type}(a:aB)(b:Int)(c:Int->Option R):Option R:=
 bif(if b<0 then 0 else b)<64 then bif(if b<0 then 0 else b)<0 then none else bif !decide (IntKind.u64.wrap (a.1*2^min (if b<0 then 0 else b).toNat 64)=0) then(ko (IntKind.u64.wrap (a.1*2^min (if b<0 then 0 else b).toNat 64))).bind fun r1=>c (zW zI (zW zI ((if b<0 then 0 else b)+r1)+1)) else bif(if 64<zW zI (64-64) then 64 else zW zI (64-64))<0 then none else bif !decide (IntKind.u64.wrap (a.2.1*2^min (if 64<zW zI (64-64) then 64 else zW zI (64-(64:Int))).toNat 64)=0) then(ko (IntKind.u64.wrap (a.2.1*2^min (if 64<zW zI (64-64) then 64 else zW zI (64-(64:Int))).toNat 64))).bind fun r2=>c (zW zI (zW zI (64+r2)+1)) else c 0 else bif(if 64<zW zI ((if b<0 then 0 else b)-64) then 64 else zW zI ((if b<0 then 0 else b)-64))<0 then none else bif !decide (IntKind.u64.wrap (a.2.1*2^min (if 64<zW zI ((if b<0 then 0 else b)-64) then 64 else zW zI ((if b<0 then 0 else b)-(64:Int))).toNat 64)=0) then(ko (IntKind.u64.wrap (a.2.1*2^min (if 64<zW zI ((if b<0 then 0 else b)-64) then 64 else zW zI ((if b<0 then 0 else b)-(64:Int))).toNat 64))).bind fun r3=>c (zW zI (zW zI ((if b<0 then 0 else b)+r3)+1)) else c 0
def qw(a:aB)(b:Int):Option Int:=
 MK a b (fun a0=>some a0)
def MG{R:Type}(a b:aB)(c:aB->Option R):Option R:=
 c (aZ .and .u64 a.1 b.1,aZ .and .u64 a.2.1 b.2.1,())
def tc(a b:aB):Option aB:=
 MG a b (fun a0=>some a0)
def MJ{R:Type}(a:aB)(b:Int)(c:Bool->Option R):Option R:=
 (wN b).bind fun r1=>(tc a r1).bind fun r2=>c (!(decide (r2.1=0)&&(decide (r2.2.1=0)&&true)))
def Br(a:aB)(b:Int):Option Bool:=
 MJ a b (fun a0=>some a0)
def MC{R:Type}(a b:Int)(c:aB->Option R):Option R:=
 c (a,b,())
def wL(a b:Int):Option aB:=
 MC a b (fun a0=>some a0)
def IC{R:Type}(a:Int)(b:Int->Bool->Option R):Option R:=
 bif 48<=a then bif a<=57 then b (zW zI (zW zU (a-48))) true else bif 65<=a then bif a<=70 then b (zW zI (zW zI (zW zU (a-65))+10)) true else b 0 false else b 0 false else bif 65<=a then bif a<=70 then b (zW zI (zW zI (zW zU (a-65))+10)) true else b 0 false else b 0 false
def pN(a:Int):Option (Int×Bool):=
 IC a (fun a0 a1=>some (a0,a1))
def IE{R:Type}(a:ByteArray)(b:ByteArray->(List Int)->Int->Int->Option R):Option R:=
 bif 0<=zW zI (Int.tdiv (a.size:Int) 2) then bif zW zI (Int.tdiv (a.size:Int) 2)*1<=140737488355328 then b a [] 0 0 else none else none
def IF{R:Type}(a:ByteArray)(b:(List Int))(c d:Int)(e:ByteArray->ByteArray->Int->Bool->(List Int)->Option R)(f:ByteArray->(List Int)->Int->Int->Option R)(g:ByteArray->(List Int)->Option R):Option R:=
 bif d<(a.size:Int) then za d a.size ((pN (zb a d.toNat)).bind fun r1=>bif !r1.2 then e a (bs []) d false b else bif Int.tmod d 2=0 then f a b r1.1 (zW zI (d+1)) else bif(List.length b+List.length ([(zW zU (aZ .or .i64 (zW zI (c*2^min ((4:Int)).toNat 64)) r1.1))]:List Int))*1<=140737488355328 then f a (b++([(zW zU (aZ .or .i64 (zW zI (c*2^min ((4:Int)).toNat 64)) r1.1))]:List Int)) c (zW zI (d+1)) else none) else g a b
def IG{R:Type}(a b:ByteArray)(c:Int)(d:Bool)(e:(List Int))(f:ByteArray->Int->Bool->Option R):Option R:=
 f b c d
def II{R:Type}(a:ByteArray)(b:(List Int))(c:ByteArray->Int->Bool->Option R):Option R:=
 bif !decide (Int.tmod (a.size:Int) 2=0) then c (bs []) (a.size:Int) false else c (strOf b) 0 true
def xY:Nat->ByteArray->(List Int)->Int->Int->Option (Sum (ByteArray×ByteArray×Int×Bool×(List Int)) (ByteArray×(List Int)))
 |0,_,_,_,_=>none
 |k+1,v0,v1,v2,v3=>IF v0 v1 v2 v3 (fun a0 a1 a2 a3 a4=>some (.inl (a0,a1,a2,a3,a4))) (fun a0 a1 a2 a3=>xY k a0 a1 a2 a3) (fun a0 a1=>some (.inr (a0,a1)))
def fe(a:ByteArray):Option (ByteArray×Int×Bool):=
 IE a (fun a0 a1 a2 a3=>(xY aq a0 a1 a2 a3).bind fun e=>Sum.elim (fun(we:(ByteArray×ByteArray×Int×Bool×(List Int)))=>IG we.1 we.2.1 we.2.2.1 we.2.2.2.1 we.2.2.2.2 (fun a0 a1 a2=>some (a0,a1,a2))) (fun(we:(ByteArray×(List Int)))=>II we.1 we.2 (fun a0 a1 a2=>some (a0,a1,a2))) e)
def IJ{R:Type}(a:ByteArray)(b:ByteArray->(List Int)->Int->Option R):Option R:=
 bif 0<=zW zI (2*(a.size:Int)) then bif zW zI (2*(a.size:Int))*1<=140737488355328 then b a [] 0 else none else none
def IK{R:Type}(a:ByteArray)(b:(List Int))(c:Int)(d:ByteArray->(List Int)->Int->Option R)(e:(List Int)->Option R):Option R:=
 bif c<(a.size:Int) then za c a.size (za (Int.fdiv (zb a c.toNat) (2^min ((4:Int)).toNat 8)) (bs [48,49,50,51,52,53,54,55,56,57,65,66,67,68,69,70]).size (za c a.size (za (aZ .and .u8 (zb a c.toNat) 15) (bs [48,49,50,51,52,53,54,55,56,57,65,66,67,68,69,70]).size (bif(List.length b+List.length ([(zb (bs [48,49,50,51,52,53,54,55,56,57,65,66,67,68,69,70]) (Int.fdiv (zb a c.toNat) (2^min ((4:Int)).toNat 8)).toNat),(zb (bs [48,49,50,51,52,53,54,55,56,57,65,66,67,68,69,70]) (aZ .and .u8 (zb a c.toNat) (15:Int)).toNat)]:List Int))*1<=140737488355328 then d a (b++([(zb (bs [48,49,50,51,52,53,54,55,56,57,65,66,67,68,69,70]) (Int.fdiv (zb a c.toNat) (2^min ((4:Int)).toNat 8)).toNat),(zb (bs [48,49,50,51,52,53,54,55,56,57,65,66,67,68,69,70]) (aZ .and .u8 (zb a c.toNat) (15:Int)).toNat)]:List Int)) (zW zI (c+1)) else none)))) else e b
def IL{R:Type}(a:(List Int))(b:ByteArray->Option R):Option R:=
 b (strOf a)
def x4:Nat->ByteArray->(List Int)->Int->Option (List Int)
 |0,_,_,_=>none
 |k+1,v0,v1,v2=>IK v0 v1 v2 (fun a0 a1 a2=>x4 k a0 a1 a2) (fun a0=>some a0)
def jx(a:ByteArray):Option ByteArray:=
 IJ a (fun a0 a1 a2=>(x4 aq a0 a1 a2).bind fun e=>IL e (fun a0=>some a0))
def kP{R:Type}(a:Int)(b:Bool->Option R):Option R:=
 bif a=1 then b true else b (decide (a=2))
def Q9(a:Int):Option Bool:=
 kP a (fun a0=>some a0)
def LW{R:Type}(a:Int)(b:ByteArray)(c:Int)(d:(List Int)->Int->Int->Option R):Option R:=
 bif a=1 then bif zW zI ((b.size:Int)-c)<zW zI (8*2) then d (List.replicate 8 0) 0 2 else bif 0<=zW zI (c+zW zI (8*2)) then bif zW zI (c+zW zI (8*2))<=(b.size:Int) then bif 0<=c then bif c<=(((zW zI (c+zW zI (8*(2:Int)))).toNat:Nat):Int) then bif a=1 then(fe (b.extract c.toNat (zW zI (c+zW zI (8*(2:Int)))).toNat)).bind fun r1=>bif !r1.2.2 then d (List.replicate 8 0) 0 3 else bif Nat.beq 8 (List.length (List.replicate 8 (0:Int))) then bif Nat.beq 8 (List.length (bJ (List.replicate 8 (0:Int)) (List.take 8 (ju r1.1)) 0)) then d (bJ (List.replicate 8 0) (List.take 8 (ju r1.1)) 0) (zW zI (c+zW zI (8*2))) 0 else none else none else bif Nat.beq 8 (List.length (List.replicate 8 (0:Int))) then bif Nat.beq 8 (List.length (bJ (List.replicate 8 (0:Int)) (List.take 8 (ju (b.extract c.toNat (zW zI (c+zW zI ((8:Int)*(2:Int)))).toNat))) 0)) then d (bJ (List.replicate 8 0) (List.take 8 (ju (b.extract c.toNat (zW zI (c+zW zI (8*(2:Int)))).toNat))) 0) (zW zI (c+zW zI (8*2))) 0 else none else none else none else none else none else none else bif zW zI ((b.size:Int)-c)<8 then d (List.replicate 8 0) 0 2 else bif 0<=zW zI (c+8) then bif zW zI (c+8)<=(b.size:Int) then bif 0<=c then bif c<=(((zW zI (c+(8:Int))).toNat:Nat):Int) then bif a=1 then(fe (b.extract c.toNat (zW zI (c+(8:Int))).toNat)).bind fun r2=>bif !r2.2.2 then d (List.replicate 8 0) 0 3 else bif Nat.beq 8 (List.length (List.replicate 8 (0:Int))) then bif Nat.beq 8 (List.length (bJ (List.replicate 8 (0:Int)) (List.take 8 (ju r2.1)) 0)) then d (bJ (List.replicate 8 0) (List.take 8 (ju r2.1)) 0) (zW zI (c+8)) 0 else none else none else bif Nat.beq 8 (List.length (List.replicate 8 (0:Int))) then bif Nat.beq 8 (List.length (bJ (List.replicate 8 (0:Int)) (List.take 8 (ju (b.extract c.toNat (zW zI (c+(8:Int))).toNat))) 0)) then d (bJ (List.replicate 8 0) (List.take 8 (ju (b.extract c.toNat (zW zI (c+(8:Int))).toNat))) 0) (zW zI (c+8)) 0 else none else none else none else none else none else none
def wI(a:Int)(b:ByteArray)(c:Int):Option ((List Int)×Int×Int):=
 LW a b c (fun a0 a1 a2=>some (a0,a1,a2))
def kJ{R:Type}(a:(List Int))(b:Int->(List Int)->Int->Option R):Option R:=
 b 0 a 0
def kK{R:Type}(a:Int)(b:(List Int))(c:Int)(d:Int->(List Int)->Int->Option R)(e:Int->Option R):Option R:=
 bif c<8 then za c 8 (d (aZ .or .u64 (IntKind.u64.wrap (a*2^min ((8:Int)).toNat 64)) (IntKind.u64.wrap (List.getD b c.toNat 0))) b (zW zI (c+1))) else e a
def kL{R:Type}(a:Int)(b:Int->Option R):Option R:=
 b a
def iT:Nat->Int->(List Int)->Int->Option Int
 |0,_,_,_=>none
 |k+1,v0,v1,v2=>kK v0 v1 v2 (fun a0 a1 a2=>iT k a0 a1 a2) (fun a0=>some a0)
def Q7(a:(List Int)):Option Int:=
 kJ a (fun a0 a1 a2=>(iT aq a0 a1 a2).bind fun e=>kL e (fun a0=>some a0))
def kH{R:Type}(a:Int)(b:ByteArray)(c:Int)(d:aB->Int->Int->Option R):Option R:=
 (Q9 a).bind fun r1=>bif !r1 then d (0,0,()) 0 1 else bif c<0 then d (0,0,()) 0 1 else bif(b.size:Int)<c then d (0,0,()) 0 1 else(wI a b c).bind fun r2=>bif !decide (r2.2.2=0) then d (0,0,()) 0 r2.2.2 else(Q7 r2.1).bind fun r3=>bif aZ .and .u64 r3 9223372036854775808=0 then(wL r3 (0:Int)).bind fun r4=>d r4 r2.2.1 0 else(wI a b r2.2.1).bind fun r5=>bif !decide (r5.2.2=0) then d (0,0,()) 0 r5.2.2 else bif r5.1=([0,0,0,0,0,0,0,0]:List Int) then d (0,0,()) 0 8 else(Q7 r5.1).bind fun r6=>(wL (aZ .andNot .u64 r3 9223372036854775808) r6).bind fun r7=>d r7 r5.2.1 0
def Q5(a:Int)(b:ByteArray)(c:Int):Option (aB×Int×Int):=
 kH a b c (fun a0 a1 a2=>some (a0,a1,a2))
def kM{R:Type}(a:Int)(b:Int->Int->(List Int)->(List Int)->Option R):Option R:=
 b a 0 (List.replicate 8 0) (List.replicate 8 0)
def kN{R:Type}(a b:Int)(c d:(List Int))(e:Int->Int->(List Int)->(List Int)->Option R)(f:(List Int)->(List Int)->Option R):Option R:=
 bif b<8 then bif zW zI (8*zW zI (7-b))<0 then none else za b 8 (e a (zW zI (b+1)) c (List.set d b.toNat (zW zU (Int.fdiv a (2^min (zW zI (8*zW zI (7-b))).toNat 64))))) else f c d
def kO{R:Type}(a b:(List Int))(c:(List Int)->Option R):Option R:=
 c b
def iV:Nat->Int->Int->(List Int)->(List Int)->Option ((List Int)×(List Int))
 |0,_,_,_,_=>none
 |k+1,v0,v1,v2,v3=>kN v0 v1 v2 v3 (fun a0 a1 a2 a3=>iV k a0 a1 a2 a3) (fun a0 a1=>some (a0,a1))
def Q8(a:Int):Option (List Int):=
 kM a (fun a0 a1 a2 a3=>(iV aq a0 a1 a2 a3).bind fun e=>kO e.1 e.2 (fun a0=>some a0))
def kI{R:Type}(a:Int)(b:aB)(c:ByteArray->Int->Option R):Option R:=
 (Q9 a).bind fun r1=>bif !r1 then c (bs []) 1 else(Br b (1:Int)).bind fun r2=>bif r2 then c (bs []) 1 else(Bq b).bind fun r3=>(Q8 r3.2).bind fun r4=>bif !decide (r4=([0,0,0,0,0,0,0,0]:List Int)) then bif Nat.beq 8 (List.length r4) then(Q8 (aZ .or .u64 r3.1 (9223372036854775808:Int))).bind fun r5=>bif Nat.beq 8 (List.length r5) then bif(strOf r5).size+(strOf r4).size<=9223372036854775807 then bif a=1 then(jx (strOf r5++strOf r4)).bind fun r6=>c r6 0 else c (strOf r5++strOf r4) 0 else none else none else none else(Q8 r3.1).bind fun r7=>bif Nat.beq 8 (List.length r7) then bif(strOf r7).size+(bs []).size<=9223372036854775807 then bif a=1 then(jx (strOf r7++bs [])).bind fun r8=>c r8 0 else c (strOf r7++bs []) 0 else none else none
def Q6(a:Int)(b:aB):Option BC:=
 kI a b (fun a0 a1=>some (a0,a1))
def Ju{R:Type}(a:Int)(b:Int->Option R):Option R:=
 bif a=2 then b 2 else bif a=3 then b 3 else b 0
def fR(a:Int):Option Int:=
 Ju a (fun a0=>some a0)
def Jp{R:Type}(a:Int)(b:Int->Int->Int->Option R):Option R:=
 (fR a).bind fun r1=>b 0 r1 0
def Jq{R:Type}(a b c:Int)(d:Int->Int->Int->Option R)(e:Int->Option R):Option R:=
 bif c<b then d (zW zI (zW zI (10*a)+9)) b (zW zI (c+1)) else e a
def Jr{R:Type}(a:Int)(b:Int->Option R):Option R:=
 b a
def yg:Nat->Int->Int->Int->Option Int
 |0,_,_,_=>none
 |k+1,v0,v1,v2=>Jq v0 v1 v2 (fun a0 a1 a2=>yg k a0 a1 a2) (fun a0=>some a0)
def jz(a:Int):Option Int:=
 Jp a (fun a0 a1 a2=>(yg aq a0 a1 a2).bind fun e=>Jr e (fun a0=>some a0))
def Jt{R:Type}(a b:Int)(c:Bool->Option R):Option R:=
 bif a=1 then(fR b).bind fun r1=>c (decide (0<r1)) else bif a=2 then(fR b).bind fun r2=>c (decide (0<r2)) else c false
def mA(a b:Int):Option Bool:=
 Jt a b (fun a0=>some a0)
def Jo{R:Type}(a b:Int)(c:ByteArray)(d:Int)(e:Int->Int->Int->Option R):Option R:=
 (mA a b).bind fun r1=>bif !r1 then e 0 0 1 else bif d<0 then e 0 0 1 else bif(c.size:Int)<d then e 0 0 1 else(fR b).bind fun r2=>bif a=2 then(Q2 r2).bind fun r3=>bif zW zI ((c.size:Int)-d)<r3 then e 0 0 2 else bif 0<=zW zI (d+r3) then bif zW zI (d+r3)<=(c.size:Int) then bif 0<=d then bif d<=(((zW zI (d+r3)).toNat:Nat):Int) then bif a=2 then(fR b).bind fun r4=>(Q0 (c.extract d.toNat (zW zI (d+r3)).toNat) r4).bind fun r5=>bif !decide (r5.2.1=0) then e 0 0 3 else(rS r5.1).bind fun r6=>bif !r6.2 then e 0 0 3 else e r6.1 (zW zI (d+r3)) 0 else(rS (c.extract d.toNat (zW zI (d+r3)).toNat)).bind fun r7=>bif !r7.2 then e 0 0 3 else e r7.1 (zW zI (d+r3)) 0 else none else none else none else none else bif zW zI ((c.size:Int)-d)<r2 then e 0 0 2 else bif 0<=zW zI (d+r2) then bif zW zI (d+r2)<=(c.size:Int) then bif 0<=d then bif d<=(((zW zI (d+r2)).toNat:Nat):Int) then bif a=2 then(fR b).bind fun r8=>(Q0 (c.extract d.toNat (zW zI (d+r2)).toNat) r8).bind fun r9=>bif !decide (r9.2.1=0) then e 0 0 3 else(rS r9.1).bind fun dW=>bif !dW.2 then e 0 0 3 else e dW.1 (zW zI (d+r2)) 0 else(rS (c.extract d.toNat (zW zI (d+r2)).toNat)).bind fun fJ=>bif !fJ.2 then e 0 0 3 else e fJ.1 (zW zI (d+r2)) 0 else none else none else none else none
def pW(a b:Int)(c:ByteArray)(d:Int):Option ig:=
 Jo a b c d (fun a0 a1 a2=>some (a0,a1,a2))
def Js{R:Type}(a b c:Int)(d:ByteArray->Int->Option R):Option R:=
 (mA a b).bind fun r1=>bif !r1 then d (bs []) 1 else(fR b).bind fun r2=>(Bp c r2).bind fun r3=>bif !r3.2 then d (bs []) 5 else bif a=2 then(Q1 r3.1).bind fun r4=>d r4.1 0 else d r3.1 0
def pX(a b c:Int):Option BC:=
 Js a b c (fun a0 a1=>some (a0,a1))
def Aw{R:Type}(a:Int)(b:Int->Option R):Option R:=
 bif a=1 then b 1 else bif a=2 then b 2 else bif a=3 then b 3 else bif a=4 then b 7 else bif a=5 then b 15 else bif a=6 then b 15 else b 0
def n9(a:Int):Option Int:=
 Aw a (fun a0=>some a0)
def Ao{R:Type}(a:Int)(b:Bool->Option R):Option R:=
 (n9 a).bind fun r1=>b (!decide (r1=0))
def pO(a:Int):Option Bool:=
 Ao a (fun a0=>some a0)
def L7{R:Type}(a:Int)(b:Int->Option R):Option R:=
 bif 48<=a then bif a<=57 then b 1 else bif 65<=a then bif a<=90 then b 2 else bif 97<=a then bif a<=122 then b 2 else bif 32<=a then bif a<=126 then b 4 else b 8 else b 8 else bif 32<=a then bif a<=126 then b 4 else b 8 else b 8 else bif 97<=a then bif a<=122 then b 2 else bif 32<=a then bif a<=126 then b 4 else b 8 else b 8 else bif 32<=a then bif a<=126 then b 4 else b 8 else b 8 else bif 65<=a then bif a<=90 then b 2 else bif 97<=a then bif a<=122 then b 2 else bif 32<=a then bif a<=126 then b 4 else b 8 else b 8 else bif 32<=a then bif a<=126 then b 4 else b 8 else b 8 else bif 97<=a then bif a<=122 then b 2 else bif 32<=a then bif a<=126 then b 4 else b 8 else b 8 else bif 32<=a then bif a<=126 then b 4 else b 8 else b 8
def Bi(a:Int):Option Int:=
 L7 a (fun a0=>some a0)
def L2{R:Type}(a:Int)(b:ByteArray)(c:ByteArray->Int->Int->Option R):Option R:=
 (n9 a).bind fun r1=>c b r1 0
def L3{R:Type}(a:ByteArray)(b c:Int)(d:Int->Option R)(e:ByteArray->Int->Int->Option R)(f:Option R):Option R:=
 bif c<(a.size:Int) then za c a.size ((Bi (zb a c.toNat)).bind fun r2=>bif aZ .and .i64 b r2=0 then d c else e a b (zW zI (c+1))) else f
def L4{R:Type}(a:Int)(b:Int->Option R):Option R:=
 b a
def L5{R:Type}(a:Int->Option R):Option R:=
 a (-1:Int)
def Aj:Nat->ByteArray->Int->Int->Option (Sum Int Unit)
 |0,_,_,_=>none
 |k+1,v0,v1,v2=>L3 v0 v1 v2 (fun a0=>some (.inl a0)) (fun a0 a1 a2=>Aj k a0 a1 a2) (some (.inr ()))
def Bg(a:Int)(b:ByteArray):Option Int:=
 L2 a b (fun a0 a1 a2=>(Aj aq a0 a1 a2).bind fun e=>Sum.elim (fun(we:Int)=>L4 we (fun a0=>some a0)) (fun(we:Unit)=>L5 (fun a0=>some a0)) e)
def L6{R:Type}(a b:Int)(c:Bool->Option R):Option R:=
 (pO a).bind fun r1=>bif r1 then(pO b).bind fun r2=>bif r2 then(n9 b).bind fun r3=>(n9 a).bind fun r4=>c (decide (aZ .andNot .i64 r3 r4=0)) else c false else c false
def Bh(a b:Int):Option Bool:=
 L6 a b (fun a0=>some a0)
def K4{R:Type}(a:Int)(b:Bool->Option R):Option R:=
 bif 0<a then bif a<=255 then b (decide (aZ .and .i64 a 32=0)) else b false else b false
def kA(a:Int):Option Bool:=
 K4 a (fun a0=>some a0)
def K3{R:Type}(a:Int)(b:Bool->Option R):Option R:=
 bif a<=255 then(kA a).bind fun r1=>bif r1 then b (!decide (aZ .and .i64 a 31=31)) else b false else bif a<=65535 then(kA (Int.fdiv a (2^min ((8:Int)).toNat 64))).bind fun r2=>bif r2 then bif aZ .and .i64 (Int.fdiv a (2^min ((8:Int)).toNat 64)) 31=31 then bif 1<=aZ .and .i64 a 255 then b (decide (aZ .and .i64 a 255<=127)) else b false else b false else b false else b false
def qo(a:Int):Option Bool:=
 K3 a (fun a0=>some a0)
def K2{R:Type}(a:ByteArray)(b:Int)(c:Int->Int->Int->Option R):Option R:=
 bif b<0 then c 0 0 1 else bif(a.size:Int)<b then c 0 0 1 else bif b=(a.size:Int) then c 0 0 2 else za b a.size ((kA (zW zI (zb a b.toNat))).bind fun r1=>bif !r1 then c 0 0 13 else bif !decide (aZ .and .i64 (zW zI (zb a b.toNat)) 31=31) then c (zW zI (zb a b.toNat)) (zW zI (b+1)) 0 else bif zW zI (b+1)=(a.size:Int) then c 0 0 2 else za (zW zI (b+1)) a.size ((qo (aZ .or .i64 (zW zI (zW zI (zb a b.toNat)*2^min ((8:Int)).toNat 64)) (zW zI (zb a (zW zI (b+(1:Int))).toNat)))).bind fun r2=>bif !r2 then c 0 0 13 else c (aZ .or .i64 (zW zI (zW zI (zb a b.toNat)*2^min ((8:Int)).toNat 64)) (zW zI (zb a (zW zI (b+(1:Int))).toNat))) (zW zI (b+2)) 0))
def qn(a:ByteArray)(b:Int):Option ig:=
 K2 a b (fun a0 a1 a2=>some (a0,a1,a2))
def K6{R:Type}(a:ByteArray)(b:ByteArray->al->Int->qy->Option R):Option R:=
 b a [] 0 []
def K7{R:Type}(a:ByteArray)(b:al)(c:Int)(d:qy)(e:al->Int->Int->al->Option R)(f:ByteArray->al->Int->qy->Option R)(g:al->Option R):Option R:=
 bif c<(a.size:Int) then(qn a c).bind fun r1=>bif !decide (r1.2.2=(0:Int)) then e ([]:List bM) r1.2.2 c b else(Q3 a r1.2.1).bind fun r2=>bif !decide (r2.2.2=(0:Int)) then e ([]:List bM) r2.2.2 r1.2.1 b else bif zW zI ((a.size:Int)-r2.2.1)<r2.1 then e ([]:List bM) (2:Int) (a.size:Int) b else bif dT (fh (.int .i64)) false d r1.1 then e ([]:List bM) (10:Int) c b else bif dU (fh (.int .i64)) d r1.1 then none else bif(0:Int)<=zW zI (r2.2.1+r2.1) then bif zW zI (r2.2.1+r2.1)<=((a.size:Nat):Int) then bif(0:Int)<=r2.2.1 then bif r2.2.1<=(((zW zI (r2.2.1+r2.1)).toNat:Nat):Int) then bif(List.length b+List.length ([(r1.1,a.extract r2.2.1.toNat (zW zI (r2.2.1+r2.1)).toNat,())]:List bM))*24<=140737488355328 then f a (b++([(r1.1,a.extract r2.2.1.toNat (zW zI (r2.2.1+r2.1)).toNat,())]:List bM)) (zW zI (r2.2.1+r2.1)) (d++ [(r1.1,true)]) else none else none else none else none else none else g b
def K8{R:Type}(a:al)(b c:Int)(d:al)(e:al->Int->Int->Option R):Option R:=
 e a b c
def K9{R:Type}(a:al)(b:al->Int->Int->Option R):Option R:=
 b a 0 0
def yT:Nat->ByteArray->al->Int->qy->Option (Sum kR al)
 |0,_,_,_,_=>none
 |k+1,v0,v1,v2,v3=>K7 v0 v1 v2 v3 (fun a0 a1 a2 a3=>some (.inl (a0,a1,a2,a3))) (fun a0 a1 a2 a3=>yT k a0 a1 a2 a3) (fun a0=>some (.inr a0))
def qp(a:ByteArray):Option (Sum fg fg):=
 K6 a (fun a0 a1 a2 a3=>(yT aq a0 a1 a2 a3).bind fun e=>Sum.elim (fun(we:kR)=>K8 we.1 we.2.1 we.2.2.1 we.2.2.2 (fun a0 a1 a2=>some (.inl (a0,a1,a2)))) (fun(we:al)=>K9 we (fun a0 a1 a2=>some (.inr (a0,a1,a2)))) e)
def yL{R:Type}(a:aA)(b:Int->Option R):Option R:=
 bif a.1<2 then b 1 else bif 128<a.1 then b 1 else(pO a.2.1).bind fun r1=>bif !r1 then b 6 else bif a.2.2.1<1 then b 3 else bif 3<a.2.2.1 then b 3 else bif a.2.2.2.1<1 then b 5 else bif a.2.2.2.2.1<a.2.2.2.1 then b 5 else bif 999<a.2.2.2.2.1 then b 5 else bif a.2.2.1=1 then bif !decide (a.2.2.2.1=a.2.2.2.2.1) then b 5 else bif !decide (a.2.2.1=1) then(jz a.2.2.1).bind fun r2=>bif r2<a.2.2.2.2.1 then b 5 else bif a.2.2.1=1 then bif a.2.1=6 then b 13 else b 0 else b 0 else bif a.2.2.1=1 then bif a.2.1=6 then b 13 else b 0 else b 0 else bif !decide (a.2.2.1=1) then(jz a.2.2.1).bind fun r3=>bif r3<a.2.2.2.2.1 then b 5 else bif a.2.2.1=1 then bif a.2.1=6 then b 13 else b 0 else b 0 else bif a.2.2.1=1 then bif a.2.1=6 then b 13 else b 0 else b 0
def fT(a:aA):Option Int:=
 yL a (fun a0=>some a0)
def KL{R:Type}(a:aA)(b:ByteArray)(c:Int->Option R):Option R:=
 (fT a).bind fun r1=>bif !decide (r1=0) then c 1 else bif(b.size:Int)<a.2.2.2.1 then c 5 else bif a.2.2.2.2.1<(b.size:Int) then c 5 else(Bg a.2.1 b).bind fun r2=>bif 0<=r2 then c 6 else bif a.2.1=6 then(qp b).bind fun r3=>Sum.elim (fun(rB:fg)=>bif !decide (rB.2.1=0) then c 13 else c 0) (fun(rB:fg)=>bif !decide (rB.2.1=0) then c 13 else c 0) r3 else c 0
def bU(a:aA)(b:ByteArray):Option Int:=
 KL a b (fun a0=>some a0)
def KN{R:Type}(a b:Int)(c:Bool->Option R):Option R:=
 bif a=5 then c true else bif a=6 then c (decide (a=b)) else bif b=6 then c (decide (a=b)) else(Bh a b).bind fun r1=>c r1
def qg(a b:Int):Option Bool:=
 KN a b (fun a0=>some a0)
def KM{R:Type}(a b:aA)(c:Bool->Option R):Option R:=
 (fT a).bind fun r1=>bif r1=0 then(fT b).bind fun r2=>bif r2=0 then bif a.2.2.2.1<=b.2.2.2.1 then bif b.2.2.2.2.1<=a.2.2.2.2.1 then(qg a.2.1 b.2.1).bind fun r3=>c r3 else c false else c false else c false else c false
def gx(a b:aA):Option Bool:=
 KM a b (fun a0=>some a0)
end bW

