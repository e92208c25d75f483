/- No condition. -/
import Derived.Test.YtkgpjibbdpikcaaGreatDoorK0
import Derived.Laws.CopyRow
import Derived.OpenShut
import Derived.Deep.Slices
import Derived.Shelf.Strings.Repeat
set_option linter.unusedVariables false
set_option linter.unusedSimpArgs false
set_option maxRecDepth 100000
namespace Go.Ref
open Go
variable {P:Program} {E:Env} {X:Cfg} {s:State} {a:Act} {o:Oper} {u:Out}
theorem z1da(hE:EnvOk P E)(hr:Rel X s a){ops:List Oper}{T:TypeId}{x:Operand}{lo hi:Option Operand}(ho:o.op= .slice T x lo hi none){C:FuncId→Fun' Out}(h:act E C ops o s some=some u):Done P X s a o u:=by
 unfold act at h
 simp only[ho] at h
 split at h
 ·rename_i id n ta tb hxe
  split at h
  case h_2=>cases h
  rename_i e t hT
  split at h
  case isFalse=>cases h
  rename_i heq
  have:=Ty.eqb_eq heq
  subst this
  unfold cutH at h
  split at h
  ·cases h
  rename_i hhi
  have hi0:hi=none:=by
   cases hi with
   |none=>rfl
   |some _=>cases hhi
  subst hi0
  obtain⟨l,h,h1,hl⟩:=z8r h
  cases h
  have hx:=hr.op1 x
  rw[hxe] at hx
  obtain⟨r0,hβ,cap,hv,hcap⟩:=hx
  have hu:=(hE.ty T _ hT).und
  have hbd:=zav (P:=P) (isS:=true) hr hl (hi:=none) (m:=n) (n:=n) (c:=cap) rfl h1 (Nat.le_refl _) hcap X.w
  rw[Option.map_none] at hbd
  refine Done.plain hr (v:= .slice (if cap=l then some ⟨r0,0,none⟩ else(some (⟨r0,0,none⟩:Addr)).map (·.add (l*ta.cells))) (n-l) (cap-l)) ?_ ⟨r0,hβ,?_⟩ (fun _ _ _ e=>by cases e;exact z59 hr hxe)
  ·simp only[execOp,ho,Sem.run_bind,Instr.sliceAt,run_underlying hu.1,Result.andThen_ok,Instr.slice,hv,Option.map_none,hbd,Sem.run_pure,z15 hE hu.2]
  ·show∃cap' off,_=Value.slice (some ⟨r0,off,none⟩) (n-l) cap'∧_
   by_cases e':cap=l
   ·rw[if_pos e']
    exact⟨_,_,rfl,by omega,h1,.inl ⟨by omega,rfl⟩⟩
   ·rw[if_neg e']
    refine⟨cap-l,l*ta.cells,?_,by omega,h1,.inr rfl⟩
    rw[Option.map_some,z1f,Nat.zero_add]
 ·rename_i id n t hxe
  have hx:=hr.op1 x
  rw[hxe] at hx
  obtain⟨r0,hβ,hv⟩:=hx
  unfold cutA at h
  split at h
  case h_2=>cases h
  rename_i u' hT hlo hhi
  have lo0:lo=none:=by
   cases lo with
   |none=>rfl
   |some _=>cases hlo
  have hi0:hi=none:=by
   cases hi with
   |none=>rfl
   |some _=>cases hhi
  subst lo0 hi0
  split at h
  case isFalse=>cases h
  rename_i heq
  have:=Ty.eqb_eq heq
  subst this
  split at h
  case h_2=>cases h
  rename_i B hB
  split at h
  case isFalse=>cases h
  rename_i hbt
  cases h
  have hb:=z2h hB
  obtain⟨r,h1,hBA⟩:=hr.boxes id B hb
  rw[hβ] at h1
  cases h1
  obtain⟨bt,bx,bo⟩:=B
  have e:=Ty.eqb_eq hbt
  simp only at e
  subst e
  obtain⟨cs,T',hheap,hrep,how,_⟩:=hBA.cells rfl
  have hv:a.eval x= .pointer (some ⟨r0,0,none⟩):=by rw[((z1j rfl).1 hv).1];rfl
  obtain⟨e,hu1,hu2,_⟩:=(hE.ty T _ hT).und
  have hlen:List.length (bx:List (El t))=n:=hrep.1
  have hbox:BoxAt X id r0 ⟨.spc .row t .unit,(bx:List (El t)),[]⟩:=⟨how,cs,T',hheap,by have:=hrep.2.1;rw[hlen];simpa using this,hrep.2.2⟩
  have hcast:(Ty.cast hbt bx:El (.arr n t))=bx:=rfl
  rw[hcast]
  refine⟨X,.slice (some ⟨r0,0,none⟩) n n,.inl ?_,Ext.refl X,(hr.setBox hb hβ hbox).fin ⟨r0,hβ,n,rfl,Nat.le_refl _⟩ (fun id' t' p' hm=> ?_)⟩
  ·simp only[execOp,ho,Sem.run_bind,Instr.sliceAt,run_underlying hu1,Result.andThen_ok,Option.map_none,hv,Instr.sureAddr,Sem.run_pure,z15 hE hu2]
   simp [Instr.sliceBounds]
   intro _
   rw[z1f]
  ·have hm':SV.ptr id' t' p'= .ptr id (.spc (.hdr n) t .unit) []:=by simpa using hm
   cases hm'
   exact⟨_,zbc hb⟩
 ·exact z189 hE hr ho h
theorem zx4(hr:Rel X s a){ops:List Oper}{fn:Fn}{fi ca:Array Operand}(ho:o.op= .makeFunc fn fi ca){C:FuncId→Fun' Out}(h:act E C ops o s some=some u):Done P X s a o u:=by
 unfold act at h
 cases fn with
 |func f=>
  simp only[ho] at h
  split at h
  case h_3=>cases h
  case h_2=>
   rename_i x y hfi hca
   have hfi:fi= #[]:=by rw[←Array.toArray_toList (xs:=fi),hfi]
   have hca:ca= #[x,y]:=by rw[←Array.toArray_toList (xs:=ca),hca]
   subst hfi hca
   unfold capV at h
   split at h
   case h_2=>cases h
   rename_i t x1 u' y1 hxe hye
   cases h
   have hx:=hr.op1 x
   have hy:=hr.op1 y
   rw[hxe] at hx
   rw[hye] at hy
   obtain⟨ad,cs,h1,h2,h3,h4⟩:=hx
   obtain⟨ad',cs',k1,k2,k3,k4⟩:=hy
   refine Done.plain hr (v:= .func (.func f) #[] #[.pointer (some ad),.pointer (some ad')]) ?_ ⟨ad,ad',cs,cs',rfl,⟨h2,h3,h4⟩,k2,k3,k4⟩ (fun _ _ _ e=>by cases e)
   simp [execOp,ho,Instr.makeFunc,h1,k1]
  rename_i x hfi hca
  have hfi:fi= #[]:=by rw[←Array.toArray_toList (xs:=fi),hfi]
  have hca:ca= #[x]:=by rw[←Array.toArray_toList (xs:=ca),hca]
  subst hfi hca
  unfold closV at h
  split at h
  case h_2=>cases h
  rename_i id u' hxe
  split at h
  case isTrue=>cases h
  rename_i hs
  cases h
  have hx:=hr.op1 x
  rw[hxe] at hx
  obtain⟨r0,hβ,hv⟩:=hx
  have hv:=((z83 (by simpa using hs)).1 hv).1
  refine Done.plain hr (v:= .func (.func f) #[] #[.pointer (some ⟨r0,0,none⟩)]) ?_ ⟨r0,hβ,rfl⟩ (fun _ _ _ e=>by cases e;exact z59 hr hxe)
  have hv:a.eval x= .pointer (some ⟨r0,0,none⟩):=by rw[hv];simp [Ty.off]
  simp [execOp,ho,Instr.makeFunc,hv]
 |_=>simp only[ho] at h;cases h
theorem zyf{t:Ty}{xs:List (El t)}{n l:Nat}{cs:List Value}(h:Rep X (.arr n t) xs cs)(hl:l≤n):Rep X (.arr l t) (xs.take l:List (El t)) (cs.take (l*t.cells)):=by
 obtain⟨h1,h2,h3⟩:=h
 have hm:=Nat.mul_le_mul_right t.cells hl
 refine⟨by rw[List.length_take];omega,by rw[List.length_take];omega,fun j y hj=> ?_⟩
 have hj:(xs.take l)[j]? =some y:=hj
 rw[List.getElem?_take] at hj
 split at hj
 case isFalse=>cases hj
 rename_i hjl
 have hk:(j+1)*t.cells≤l*t.cells:=Nat.mul_le_mul_right _ hjl
 rw[Nat.add_mul,Nat.one_mul] at hk
 have e:((cs.take (l*t.cells)).drop (j*t.cells)).take t.cells=(cs.drop (j*t.cells)).take t.cells:=by
  rw[List.drop_take,List.take_take,Nat.min_eq_left (by omega)]
 rw[e]
 exact h3 j y hj
theorem zye{t:Ty}{xs:List (El t)}{n l:Nat}{cs:List Value}(h:Rep X (.arr n t) xs cs)(hl:l≤n):Rep X (.arr (n-l) t) (xs.drop l:List (El t)) (cs.drop (l*t.cells)):=by
 obtain⟨h1,h2,h3⟩:=h
 refine⟨by rw[List.length_drop];omega,by rw[List.length_drop,Nat.sub_mul];omega,fun j y hj=> ?_⟩
 have hj:(xs.drop l)[j]? =some y:=hj
 rw[List.getElem?_drop] at hj
 rw[List.drop_drop,←Nat.add_mul]
 exact h3 (l+j) y hj
theorem zzu{α:Type}(xs ys:List α)(lo:Nat)(h:lo+ys.length≤xs.length):(putL xs ys lo).length=xs.length:=by
 unfold putL;simp;omega
theorem zor(hE:EnvOk P E)(hr:Rel X s a){d x:Operand}{T e:TypeId}{t:Ty}{ts:Array TypeId}(ho:o.op= .call ⟨.builtin .copy,#[d,x],ts⟩)(hts:ts[0]? =some T)(hT:E.ty T=some (.sl e t)){id n lo:Nat}{ta tb:Ty}{p:List Nat}
 (hxe:s.op1 d= .ptr id (.spc (.hdr n) ta tb) p) (hval:∀r,ptrV (.spc (.hdr n) ta tb) p r (a.eval d)→∃cap off,a.eval d= .slice (some ⟨r,off,none⟩) (n-lo) cap∧lo≤n∧((n=lo∧off=0)∨off=lo*ta.cells))
 (h:copyH t s id n lo ta tb (s.op1 x) e some=some u):Done P X s a o u:=by
 have hx:=hr.op1 d
 rw[hxe] at hx
 obtain⟨r0,hβ,hv⟩:=hx
 unfold copyH at h
 split at h
 case isFalse=>cases h
 rename_i heq
 have:=Ty.eqb_eq heq
 subst this
 obtain⟨ys,h,hys⟩:=zx h
 split at h
 case h_2=>cases h
 rename_i B hB
 split at h
 case isFalse=>cases h
 rename_i hbt
 obtain⟨hb,r,h1,how,cs,T',hheap,hsz,hel⟩:=z65 hr hB hbt
 rw[hβ] at h1
 cases h1
 generalize(Ty.cast hbt B.x:List (El ta))=xs at*
 cases hn:Nat.beq n (List.length xs)<;>rw[hn] at h
 ·cases h
 cases hlo:Nat.ble lo n<;>rw[hlo] at h
 ·cases h
 cases h
 have hn:=Nat.eq_of_beq_eq_true hn
 have hlo:=Nat.le_of_ble_eq_true hlo
 obtain⟨cap,off,hd,_,hoff⟩:=hval r0 hv
 obtain⟨cx,rys,ev⟩:=hys X _ _ (hr.op1 x)
 have rys0:=rys
 obtain⟨A,c,hcx,_⟩:=rys0
 have ev:a.eval x= .slice A ys.length c:=by rw[ev,hcx];rfl
 rw[hcx] at rys
 obtain⟨_,hc,cy,ry,ny,sy⟩:=z8x (X:=X) rys
 have hu:=(hE.ty T _ hT).und
 have hm:(ys.take (n-lo)).length=min ys.length (n-lo):=by rw[List.length_take,Nat.min_comm]
 generalize hmm:min ys.length (n-lo)=m at hm
 have hmy:m≤ys.length:=by omega
 have hmn:m≤n-lo:=by omega
 have htk:ys.take (n-lo)=ys.take m:=by
  rw[←hmm]
  rcases Nat.le_total ys.length (n-lo) with g|g
  ·rw[Nat.min_eq_left g,List.take_of_length_le g,List.take_of_length_le (Nat.le_refl _)]
  ·rw[Nat.min_eq_right g]
 have rz:=zyf ry hmy
 have hzl:(cy.take (m*ta.cells)).length=m*ta.cells:=rz.2.1
 have hcs:Rep X (.arr xs.length ta) xs cs.toList:=⟨rfl,by simpa using hsz,hel⟩
 have hload:(Builtin.firstCells ta.cells m (a.eval x)).run P X.w= .ok (cy.take (m*ta.cells)).toArray X.w:=by
  rw[ev]
  cases A with
  |none=>
   have:=ny rfl
   subst this
   have:m=0:=by simpa using hmy
   subst this
   simp [Builtin.firstCells]
  |some ad=>
   have:=run_loadCells_list (P:=P) X.w ad (cy.take (m*ta.cells)) (fun j v hj=>by
    rw[List.getElem?_take] at hj
    split at hj
    ·exact(sy ad rfl j v hj).2.1
    ·cases hj)
   rw[hzl] at this
   simpa [Builtin.firstCells] using this
 have hfit:off+0+(cy.take (m*ta.cells)).length≤cs.size:=by
  rw[hzl,hsz,←hn]
  rcases hoff with⟨g1,g2⟩|g
  ·have:m=0:=by omega
   subst this
   omega
  ·rw[g,Nat.add_zero,←Nat.add_mul]
   exact Nat.mul_le_mul_right _ (by omega)
 let new:=(cs.toList.take off++cy.take (m*ta.cells)++cs.toList.drop (off+(cy.take (m*ta.cells)).length)).toArray
 have hst:=run_storeCells_at P r0 off T' (cy.take (m*ta.cells)) 0 cs X.w hheap hfit rz.one
 simp only[Nat.add_zero] at hst hfit
 have hrun:(execOp a.eval o).run P X.w= .ok (.value (.int .i64 m)) (X.row r0 new).w:=by
  have hmm':Nat.min ys.length (n-lo)=m:=hmm
  simp only[execOp,ho,resolve,invoke,builtin,Sem.run_bind,Sem.run_pure,Result.andThen_ok,List.map_toArray,List.map_cons,List.map_nil,Builtin.copy_,hts,hd]
  have e1:(Builtin.lenOf (a.eval x)).run P X.w= .ok ys.length X.w:=by rw[ev];simp [Builtin.lenOf]
  simp [run_underlying hu.1,e1,hmm',hload,hst,goInt,z15 hE hu.2]
  show _=X.w.setRow r0 new
  congr 1
  simp [new]
 have hnl:new.toList=cs.toList.take off++cy.take (m*ta.cells)++cs.toList.drop (off+(cy.take (m*ta.cells)).length):=rfl
 have hrep:Rep X (.arr xs.length ta) (putL xs (ys.take m) lo:List (El ta)) new.toList:=by
  rw[hnl,hzl]
  by_cases m0:m=0
  ·subst m0
   have e1:putL xs (ys.take 0) lo=xs:=by unfold putL;simp
   rw[e1]
   simpa using hcs
  ·have g:off=lo*ta.cells:=by rcases hoff with⟨g1,_⟩|g<;>omega
   have h1:=zyf hcs (show lo≤xs.length by omega)
   have h3:=zye hcs (show lo+m≤xs.length by omega)
   have:=z4e h1 (z4e rz h3)
   rw[show lo+(m+(xs.length-(lo+m)))=xs.length by omega] at this
   unfold putL
   rw[show(ys.take m).length=m by rw[List.length_take];omega,g,←Nat.add_mul,List.append_assoc]
   exact this
 have hsize:new.size=cs.size:=by
  have h1:new.toList.length=xs.length*ta.cells:=hrep.2.1
  rw[hsz,←h1];simp
 have hbox:BoxAt (X.row r0 new) id r0 ⟨.spc .row ta tb,(putL xs (ys.take (n-lo)) lo:List (El ta)),[]⟩:=by
  rw[htk]
  refine⟨how,new,T',setRow_heap X.w r0 cs new T' (0,0) hheap,?_,fun j z hj=> ?_⟩
  ·rw[hsize,hsz]
   show _=List.length (putL xs (ys.take m) lo)*_
   rw[zzu _ _ _ (by rw[List.length_take];omega)]
  ·exact Rep.sees_mono (fun _ _=>z3e (cs:=new) how) (hrep.2.2 j z hj)
 refine⟨X.row r0 new,.int .i64 m,.inl hrun,zka how,?_⟩
 rw[hm]
 exact(hr.row hb hβ how hbox).fin zz (fun id t p hm=>by simp [i64] at hm)
theorem z17v{X:Cfg}(l:List UInt8):Rep X (.arr l.length (.int .u8)) (l.map fun c=>(c.toNat:Int):List Int) (l.map fun c=>Value.int .u8 c.toNat):=by
 refine⟨by show(l.map _).length=_;simp,by simp [Ty.cells],fun j y hj=> ?_⟩
 have hj:(l.map fun c=>(c.toNat:Int))[j]? =some y:=hj
 rw[List.getElem?_map] at hj
 obtain⟨c,hc,rfl⟩:=Option.map_eq_some_iff.1 hj
 have:((l.map fun c=>Value.int .u8 c.toNat).drop (j*(Ty.int IntKind.u8).cells)).take (Ty.int IntKind.u8).cells=[Value.int .u8 c.toNat]:=by
  rw[show(Ty.int IntKind.u8).cells=1 from rfl,Nat.mul_one]
  apply List.ext_getElem?
  intro i
  rw[List.getElem?_take]
  cases i with
  |zero=>simp [hc]
  |succ i=>simp
 rw[this]
 rfl
theorem z13f(hE:EnvOk P E)(hr:Rel X s a){d x:Operand}{T e:TypeId}{t:Ty}{ts:Array TypeId}(ho:o.op= .call ⟨.builtin .copy,#[d,x],ts⟩)(hts:ts[0]? =some T)(hT:E.ty T=some (.sl e t)){id n:Nat}{ta tb:Ty}
 (hxe:s.op1 d= .ptr id (.spc (.hdr n) ta tb) []) {y:ByteArray} {w:List (List Nat)} (hye:s.op1 x= .dat .str y w) (h:copyS t s id n ta tb y some=some u):Done P X s a o u:=by
 have hx:=hr.op1 d
 rw[hxe] at hx
 obtain⟨r0,hβ,cap,hd,hcap⟩:=hx
 unfold copyS at h
 split at h
 case isFalse=>cases h
 rename_i heq0
 have:=Ty.eqb_eq heq0
 subst this
 split at h
 case isFalse=>cases h
 rename_i heq
 have:=Ty.eqb_eq heq
 subst this
 split at h
 case h_2=>cases h
 rename_i B hB
 split at h
 case isFalse=>cases h
 rename_i hbt
 obtain⟨hb,r,h1,how,cs,T',hheap,hsz,hel⟩:=z65 hr hB hbt
 rw[hβ] at h1
 cases h1
 generalize(Ty.cast hbt B.x:List Int)=xs at*
 cases hn:Nat.beq n (List.length xs)<;>rw[hn] at h
 ·cases h
 cases h
 have hn:=Nat.eq_of_beq_eq_true hn
 have hy:=hr.op1 x
 rw[hye] at hy
 obtain⟨cy,ry,ev,_⟩:=hy
 have ev:a.eval x= .string y:=by rw[ev,z25 ry]
 have hu:=(hE.ty T _ hT).und
 have hc1:(Ty.int IntKind.u8).cells=1:=rfl
 rw[hc1,Nat.mul_one] at hsz
 let l:=y.data.toList.take n
 have hll:l.length=min n y.size:=by simp [l]
 have hbl:List.take n (z2k y)=l.map fun c=>(c.toNat:Int):=by simp [z2k,l]
 have hload:(Builtin.firstCells 1 (Nat.min y.size n) (.string y)).run P X.w= .ok (l.map fun c=>Value.int .u8 c.toNat).toArray X.w:=by
  have e1:((y.extract 0 (Nat.min y.size n)).data.map fun b=>Value.int .u8 b.toNat)=(l.map fun c=>Value.int .u8 c.toNat).toArray:=by
   apply Array.ext'
   have e0:(y.extract 0 (Nat.min y.size n)).data.toList=l:=by
    rw[ByteArray.data_extract,Array.toList_extract,List.extract_eq_take_drop]
    show List.take (Nat.min y.size n-0) (y.data.toList.drop 0)=y.data.toList.take n
    rw[Nat.sub_zero,List.drop_zero]
    show List.take (min y.data.toList.length n) y.data.toList=y.data.toList.take n
    rw[Nat.min_comm,←List.take_eq_take_min]
   rw[Array.toList_map,e0]
  simp only[Builtin.firstCells,Sem.run_pure,e1]
 have hfit:0+(l.map fun c=>Value.int .u8 c.toNat).length≤cs.size:=by
  rw[List.length_map,hsz,←hn,hll];omega
 let new:=((l.map fun c=>Value.int .u8 c.toNat)++cs.toList.drop l.length).toArray
 have rz:=z17v (X:=X) l
 have hst:=run_storeCells_at P r0 0 T' (l.map fun c=>Value.int .u8 c.toNat) 0 cs X.w hheap (by simpa using hfit) rz.one
 have hrun:(execOp a.eval o).run P X.w= .ok (.value (.int .i64 (l.length:Nat))) (X.row r0 new).w:=by
  have e1:(Builtin.lenOf (a.eval x)).run P X.w= .ok y.size X.w:=by rw[ev];simp [Builtin.lenOf]
  have e2:Nat.min y.size n=l.length:=by rw[hll];exact Nat.min_comm _ _
  have e3:=hload
  rw[e2] at e3
  simp only[execOp,ho,resolve,invoke,builtin,Sem.run_bind,Sem.run_pure,Result.andThen_ok,List.map_toArray,List.map_cons,List.map_nil,Builtin.copy_,hts,hd]
  rw[ev] at e1⊢
  simp [run_underlying hu.1,e1,e2,e3,hst,goInt,z15 hE hu.2,hc1]
  rfl
 have hcs:Rep X (.arr xs.length (.int .u8)) xs cs.toList:=⟨rfl,by simpa [hc1] using hsz,hel⟩
 have hrep:Rep X (.arr xs.length (.int .u8)) (putL xs (l.map fun c=>(c.toNat:Int)) 0:List Int) new.toList:=by
  have hle:l.length≤xs.length:=by rw[hll];omega
  have h3:=zye hcs hle
  have:=z4e rz h3
  rw[show l.length+(xs.length-l.length)=xs.length by omega] at this
  unfold putL
  simp only[List.take_zero,List.nil_append,Nat.zero_add,List.length_map]
  rw[hc1,Nat.mul_one] at this
  exact this
 have hsize:new.size=cs.size:=by
  have h1:new.toList.length=xs.length*1:=hrep.2.1
  rw[hsz];simpa using h1
 have hbox:BoxAt (X.row r0 new) id r0 ⟨.spc .row (.int .u8) tb,(putL xs (List.take n (z2k y)) 0:List Int),[]⟩:=by
  rw[hbl]
  refine⟨how,new,T',setRow_heap X.w r0 cs new T' (0,0) hheap,?_,fun j z hj=> ?_⟩
  ·rw[hsize,hsz]
   show _=List.length (putL xs (l.map fun c=>(c.toNat:Int)) 0)*_
   rw[zzu _ _ _ (by rw[List.length_map,hll];omega)]
   simp [hc1]
  ·exact Rep.sees_mono (fun _ _=>z3e (cs:=new) how) (hrep.2.2 j z hj)
 refine⟨X.row r0 new,.int .i64 (l.length:Nat),.inl hrun,zka how,?_⟩
 have hlen2:(List.take n (z2k y)).length=l.length:=by rw[hbl,List.length_map]
 rw[hlen2]
 exact(hr.row hb hβ how hbox).fin zz (fun id t p hm=>by simp [i64] at hm)
theorem z188(hE:EnvOk P E)(hr:Rel X s a){ops:List Oper}{asv:Array Operand}{ts:Array TypeId}(ho:o.op= .call ⟨.builtin .copy,asv,ts⟩){C:FuncId→Fun' Out}(h:act E C ops o s some=some u):Done P X s a o u:=by
 unfold act at h
 simp only[ho] at h
 split at h
 case h_2=>cases h
 rename_i d x T r hxs hTs
 have has:asv= #[d,x]:=by rw[←Array.toArray_toList (xs:=asv),hxs]
 have hts:ts[0]? =some T:=by rw[←Array.getElem?_toList,hTs];rfl
 subst has
 unfold copyV at h
 split at h
 ·rename_i e t id n ta tb hT hxe
  split at h
  ·rename_i y w hye
   exact z13f hE hr ho hts hT hxe hye h
  ·exact zor hE hr ho hts hT hxe (fun r hv=>by
    obtain⟨cap,h1,h2⟩:=hv
    exact⟨cap,0,h1,Nat.zero_le _,.inr (by simp)⟩) h
 ·rename_i e t id n ta tb l hT hxe
  exact zor hE hr ho hts hT hxe (fun r hv=>by
   obtain⟨cap,off,h1,h2,h3,h4⟩:=hv
   exact⟨cap,off,h1,h3,h4⟩) h
 ·cases h
end Go.Ref

namespace Go.Ref
open Go
variable {P:Program} {E:Env} {X:Cfg} {s:State} {a:Act} {o:Oper} {u:Out}
structure Enter(X:Cfg)(l:List SV)(b:Option Box)(args:Array Value):Prop where
 size:args.size=l.length
 rep:∀(i:Nat) sv v,l[i]? =some sv→args[i]? =some v→RepV X (.c i 0) sv v
 ptr:∀id t p,SV.ptr id t p∈l→id=0∧b.isSome=true
 box:∀B,b=some B→∃r,X.β 0=some r∧BoxAt X 0 r B
 rows:b=none→∀g pl n,X.ow g≠ .row pl n
def Leave(X Y:Cfg)(b:Option Box)(r:List SV)(b':Option Box)(v:Value):Prop:=
 ∃r0,RepL {Y with β:=fun _=>some r0} .r r v∧
  (∀B',b'=some B'→BoxAt Y 0 r0 B'∧(b.isSome=true→X.β 0=some r0))∧
  ((b'=none∨b.isSome=true)→∀id t p,SV.ptr id t p∉r)
def Ent(P:Program)(f:FuncId):Prop:=∃fn c,P.funcs[f]? =some fn∧(fn.name== "runtime.NumGoroutine")=false∧fn.body=some c
def Owes(P:Program)(C:Funs)(f:FuncId):Prop:=
 ∀(l:List SV) (b:Option Box) (r:List SV) (b':Option Box),C (List SV×Option Box) f l b (fun r b=>some (r,b))=some (r,b')→Ent P f∧
  ∀(X:Cfg) (args:Array Value),Enter X l b args→Calls P f args X.w fun e w'=>match e with
   | .returned v=>∃Y,Y.w=w'∧Ext X Y∧Leave X Y b r b' v
   |_=>False
def mine(k:Option Nat):Ow→Bool
 | .box id=>decide (k=some id)
 | .row (.b id _) _=>decide (k=some id)
 |_=>false
def inOw(k:Option Nat):Ow→Ow
 | .all=> .all
 | .ro n=> .ro n
 | .box id=>if k=some id then .box 0 else .ro 0
 | .row (.b id p) n=>if k=some id then .row (.b 0 p) n else .ro n
 | .row _ n=> .ro n
def outOw(k:Option Nat)(d:Nat):Ow→Ow
 | .all=> .all
 | .ro n=> .ro n
 | .box 0=>match k with
   |some id=> .box id
   |none=> .ro 0
 | .box _=> .ro 0
 | .row (.r j p) n=> .row (.c d j p) n
 | .row (.b 0 p) n=>match k with
   |some id=> .row (.b id p) n
   |none=> .ro n
 | .row _ n=> .ro n
theorem zw3{k:Option Nat}{w:Ow}{i:Nat}:(inOw k w).used i↔w.used i:=by
 cases w with
 |all=>rfl
 |ro n=>rfl
 |box id=>simp only[inOw];split<;>simp [Ow.used]
 |row pl n=>
  cases pl with
  |b id p=>simp only[inOw];split<;>simp [Ow.used]
  |_=>rfl
theorem z13v{k:Option Nat}{d:Nat}{w:Ow}{i:Nat}(h:w.used i):(outOw k d w).used i:=by
 cases w with
 |all=>exact h
 |ro n=>exact h
 |box id=>exact h.elim
 |row pl n=>
  cases pl with
  |b id p=>
   cases id with
   |zero=>simp only[outOw];split<;>exact h
   |succ id=>exact h
  |c i j p=>exact h
  |r j p=>exact h
theorem zp5{k:Option Nat}{w:Ow}(h:mine k w=false):(inOw k w).still:=by
 cases w with
 |all=>trivial
 |ro n=>trivial
 |box id=>simp only[mine,decide_eq_false_iff_not] at h;simp only[inOw];rw[if_neg h];trivial
 |row pl n=>
  cases pl with
  |b id p=>simp only[mine,decide_eq_false_iff_not] at h;simp only[inOw];rw[if_neg h];trivial
  |_=>trivial
def Cfg.into(X:Cfg)(k:Option Nat):Cfg:=⟨X.w,fun g=>inOw k (X.ow g),match k with
 |some id=>fun _=>X.β id
 |none=>X.β⟩
theorem z2p{k:Option Nat}{ad:Addr}{v:Value}:(X.into k).sees ad v↔X.sees ad v:=by
 simp only[Cfg.sees,Cfg.into,zw3]
def Cfg.back(X Y:Cfg)(k k':Option Nat)(d:Nat)(β:Nat→Option Nat):Cfg:=
 ⟨Y.w,fun g=>if g<X.w.heap.size∧mine k (X.ow g)=false then X.ow g else outOw k' d (Y.ow g),β⟩
section
variable {k k':Option Nat} {d:Nat} {β:Nat→Option Nat} {Y:Cfg}
theorem z61(h:Ext (X.into k) Y){g:Nat}(hg:g<X.w.heap.size)(hm:mine k (X.ow g)=false):(X.back Y k k' d β).ow g=X.ow g∧(X.back Y k k' d β).w.heap[g]? =X.w.heap[g]? ∧(Y.ow g).still∧Y.ow g=inOw k (X.ow g):=by
 obtain⟨h1,h2⟩:=h.still g hg (zp5 hm)
 refine⟨by simp only[Cfg.back];rw[if_pos ⟨hg,hm⟩],h2,?_,h1⟩
 rw[h1];exact zp5 hm
theorem zat(h:Ext (X.into k) Y){g:Nat}(hs:¬(Y.ow g).still):(X.back Y k k' d β).ow g=outOw k' d (Y.ow g):=by
 simp only[Cfg.back]
 rw[if_neg]
 rintro⟨hg,hm⟩
 exact hs (z61 (k':=k') (d:=d) (β:=β) h hg hm).2.2.1
theorem z2e(h:Ext (X.into k) Y){ad:Addr}{v:Value}(hs:Y.sees ad v):(X.back Y k k' d β).sees ad v:=by
 refine⟨hs.1,hs.2.1,?_⟩
 simp only[Cfg.back]
 split
 ·rename_i hc
  have:=(z61 (k':=k') (d:=d) (β:=β) h hc.1 hc.2).2.2.2
  have hu:=hs.2.2
  rw[this,zw3] at hu
  exact hu
 ·exact z13v hs.2.2
theorem zlg(h:Ext (X.into k) Y)(hβ:β 0=X.β 0):Ext X (X.back Y k k' d β) where
 sees:=fun ad v hs=>z2e h (h.sees ad v (z2p.2 hs))
 size:=h.size
 os:=h.os
 tape:=h.tape
 output:=h.output
 β0:=hβ
 still:=fun g hg hst=>by
  have hm:mine k (X.ow g)=false:=by cases hx:X.ow g<;>rw[hx] at hst<;>first|rfl|exact hst.elim
  obtain⟨h1,h2,_⟩:=z61 (k':=k') (d:=d) (β:=β) h hg hm
  exact⟨h1,h2⟩
theorem OwnAt.back(h:Ext (X.into k) Y){pl:Place}(hpl:∀n,mine k (.row pl n)=false){e:TypeId}{m n:Nat}{v:Value}(ho:OwnAt X pl e m n v):OwnAt (X.back Y k k' d β) pl e m n v:=by
 rcases ho with ho|⟨g,cap,cur,h1,h2,h3,h4,h5,h6⟩
 ·exact .inl ho
 ·obtain⟨k1,k2,_⟩:=z61 (k':=k') (d:=d) (β:=β) h (z7e h2) (by rw[h6];exact hpl _)
  exact .inr ⟨g,cap,cur,h1,k2.trans h2,h3,h4,h5,k1.trans h6⟩
theorem OwnP.back(h:Ext (X.into k) Y){pl:List Nat→Place}(hpl:∀p n,mine k (.row (pl p) n)=false){t:Ty}{x:El t}{cs:List Value}{own:List (List Nat)}(ho:OwnP X pl t x cs own):OwnP (X.back Y k k' d β) pl t x cs own:=fun p hp=>by
 obtain⟨e,t',xs,v,g0,g1,g2,g3⟩:=ho p hp
 exact⟨e,t',xs,v,g0,g1,g2,g3.back h (hpl p)⟩
theorem OwnP.out(h:Ext (X.into k) Y){pl pl':List Nat→Place}(hpl:∀p n,outOw k' d (.row (pl p) n)= .row (pl' p) n){t:Ty}{x:El t}{cs:List Value}{own:List (List Nat)}(ho:OwnP Y pl t x cs own):OwnP (X.back Y k k' d β) pl' t x cs own:=fun p hp=>by
 obtain⟨e,t',xs,v,g0,g1,g2,g3⟩:=ho p hp
 refine⟨e,t',xs,v,g0,g1,g2,?_⟩
 rcases g3 with ho|⟨g,cap,cur,h1,h2,h3,h4,h5,h6⟩
 ·exact .inl ho
 ·refine .inr ⟨g,cap,cur,h1,h2,h3,h4,h5,?_⟩
  rw[zat h (by rw[h6];exact fun e=>e),h6,hpl]
theorem RepV.back(h:Ext (X.into k) Y){i j:Nat}{sv:SV}{v:Value}(hβ:∀id t p,sv= .ptr id t p→β id=X.β id)(hr:RepV X (.c i j) sv v):RepV (X.back Y k k' d β) (.c i j) sv v:=by
 cases sv with
 |undef=>trivial
 |skip=>exact hr
 |nilS=>exact hr
 |nilP=>exact hr
 |over=>exact hr
 |dat t x own=>
  obtain⟨cs,h1,h2,h3⟩:=hr
  exact⟨cs,h1.sees_mono (fun _ _ hs=>z2e h (h.sees _ _ (z2p.2 hs))),h2,h3.back h (fun _ _=>rfl)⟩
 |ptr id t p=>
  obtain⟨r,h1,h2⟩:=hr
  exact⟨r,(hβ id t p rfl).trans h1,h2⟩
 |view t x=>
  obtain⟨ad,cs,h1,h2,h3,h4⟩:=hr
  exact⟨ad,cs,h1,h2,h3.sees_mono (fun _ _ hs=>z2e h (h.sees _ _ (z2p.2 hs))),fun i u hi=>z2e h (h.sees _ _ (z2p.2 (h4 i u hi)))⟩
 |cap f t x u y=>exact z38 (fun _ _ hs=>z2e h (h.sees _ _ (z2p.2 hs))) hr
theorem BoxAt.back(h:Ext (X.into k) Y){id r:Nat}{B:Box}(hk:k≠some id)(hb:BoxAt X id r B):BoxAt (X.back Y k k' d β) id r B:=by
 obtain⟨h3,h1⟩:=hb
 have hm:mine k (X.ow r)=false:=by rw[h3];simp [mine,hk]
 obtain⟨k1,k2,_⟩:=z61 (k':=k') (d:=d) (β:=β) h h1.lt hm
 exact⟨k1.trans h3,h1.move (fun _ _ hs=>z2e h (h.sees _ _ (z2p.2 hs))) k2 (fun cs h4=>h4.back h (fun _ _=>by simp [mine,hk])) fun _ g o ho hw=>by
  obtain⟨e1,e2,_⟩:=z61 (k':=k') (d:=d) (β:=β) h (z7e ho) (by rw[hw];simp [mine,hk])
  exact⟨e2.trans ho,e1.trans hw⟩⟩
theorem BoxAt.out(h:Ext (X.into k) Y){id r:Nat}{B:Box}(hk:k'=some id)(hb:BoxAt Y 0 r B):BoxAt (X.back Y k k' d β) id r B:=by
 obtain⟨h3,h1⟩:=hb
 refine⟨?_,h1.move (fun _ _ hs=>z2e h hs) rfl (fun cs h4=>h4.out h (fun p n=>by simp [outOw,hk])) fun _ g o ho hw=>⟨ho,by rw[zat h (by rw[hw];exact fun hh=>hh),hw];simp [outOw,hk]⟩⟩
 rw[zat h (by rw[h3];exact fun e=>e),h3]
 simp [outOw,hk]
theorem RepV.out(h:Ext (X.into k) Y){r0 id j:Nat}{sv:SV}{v:Value}(hβ:∀id' t p,sv= .ptr id' t p→β id=some r0)(hr:RepV {Y with β:=fun _=>some r0} (.r j) sv v):RepV (X.back Y k k' d β) (.c d j) (sv.reptr id) v:=by
 cases sv with
 |undef=>trivial
 |skip=>exact hr
 |nilS=>exact hr
 |nilP=>exact hr
 |over=>exact hr
 |dat t x own=>
  obtain⟨cs,h1,h2,h3⟩:=hr
  have h3:OwnP Y (.r j) t x cs own:=h3
  exact⟨cs,Rep.sees_mono (fun ad v (hs:({Y with β:=fun _=>some r0}:Cfg).sees ad v)=>z2e (Y:=Y) h hs) h1,h2,h3.out h (fun _ _=>rfl)⟩
 |ptr id' t p=>
  obtain⟨r,h1,h2⟩:=hr
  have h1:some r0=some r:=h1
  cases h1
  exact⟨r0,hβ id' t p rfl,h2⟩
 |view t x=>
  obtain⟨ad,cs,h1,h2,h3,h4⟩:=hr
  exact⟨ad,cs,h1,h2,Rep.sees_mono (fun ad v (hs:({Y with β:=fun _=>some r0}:Cfg).sees ad v)=>z2e (Y:=Y) h hs) h3,fun i u hi=>z2e h (show Y.sees _ _ from h4 i u hi)⟩
 |cap f t x u y=>exact z38 (X:={Y with β:=fun _=>some r0}) (fun ad v (hs:({Y with β:=fun _=>some r0}:Cfg).sees ad v)=>z2e (Y:=Y) h hs) hr
theorem Rel.back(h:Ext (X.into k) Y)(hr:Rel X s a)(hβ:∀(id:Nat) B,s.bs[id]? =some (some B)→β id=X.β id)(hk:∀(id:Nat) B,s.bs[id]? =some (some B)→k≠some id):Rel (X.back Y k k' d β) s a where
 size:=hr.size
 bsz:=hr.bsz
 slots:=fun i l v hl hv=>(hr.slots i l v hl hv).impF fun j sv u hm hsv=>hsv.back h (fun id t p e=>by
  obtain⟨B,hB⟩:=hr.live i l id t p hl (e▸List.mem_of_getElem? hm)
  exact hβ id B hB)
 boxes:=fun id B hB=>by
  obtain⟨r,h1,h2⟩:=hr.boxes id B hB
  exact⟨r,(hβ id B hB).trans h1,h2.back h (hk id B hB)⟩
 live:=hr.live
 defers:=hr.defers
theorem Rel.backBox(h:Ext (X.into k) Y)(hr:Rel X s a){id r:Nat}{B B':Box}(hb:s.bs[id]? =some (some B))(hk:k=some id)(hk':k'=some id)(hβ:X.β id=some r)(hB:BoxAt Y 0 r B'):Rel (X.back Y k k' d X.β) (s.putBox (some (id,B'))) a where
 size:=hr.size
 bsz:=by simpa [State.putBox] using hr.bsz
 slots:=fun i l v hl hv=>(hr.slots i l v hl hv).impF fun j sv u hm hsv=>hsv.back h (fun _ _ _ _=>rfl)
 boxes:=fun id' B2 hB2=>by
  have hlt:id<s.bs.length:=(List.getElem?_eq_some_iff.1 hb).1
  simp only[State.putBox,List.getElem?_set] at hB2
  by_cases e:id=id'
  ·subst e
   rw[if_pos rfl,if_pos hlt] at hB2
   cases hB2;exact⟨r,hβ,hB.out h hk'⟩
  ·rw[if_neg e] at hB2
   obtain⟨r',h1,h2⟩:=hr.boxes id' B2 hB2
   exact⟨r',h1,h2.back h (by rw[hk];intro e2;cases e2;exact e rfl)⟩
 live:=fun i l id' t p hi hm=>by
  have hlt:id<s.bs.length:=(List.getElem?_eq_some_iff.1 hb).1
  obtain⟨B2,hB2⟩:=hr.live i l id' t p hi hm
  simp only[State.putBox,List.getElem?_set]
  by_cases e:id=id'
  ·subst e;exact⟨B',by rw[if_pos rfl,if_pos hlt]⟩
  ·rw[if_neg e];exact⟨B2,hB2⟩
 defers:=hr.defers
end
theorem RepV.into{k:Option Nat}{pl pl':List Nat→Place}{t:Ty}{x:El t}{w:List (List Nat)}{v:Value}(hr:RepV X pl (.dat t x w) v):RepV (X.into k) pl' (.dat t x []) v:=by
 obtain⟨cs,h1,h2,_⟩:=hr
 exact⟨cs,h1.sees_mono (fun _ _=>z2p.2),h2,z1n⟩
theorem BoxAt.into{id r:Nat}{B:Box}(hb:BoxAt X id r B):BoxAt (X.into (some id)) 0 r B:=by
 obtain⟨h3,h1⟩:=hb
 refine⟨by simp [Cfg.into,h3,inOw],h1.move (fun _ _=>z2p.2) rfl (fun cs h4 p hp=> ?_) fun _ g o ho hw=>⟨ho,by simp [Cfg.into,hw,inOw]⟩⟩
 obtain⟨e,t',xs,v,g0,g1,g2,g3⟩:=h4 p hp
 refine⟨e,t',xs,v,g0,g1,g2,?_⟩
 rcases g3 with ho|⟨g,cap,cur,k1,k2,k3,k4,k5,k6⟩
 ·exact .inl ho
 ·exact .inr ⟨g,cap,cur,k1,k2,k3,k4,k5,by simp [Cfg.into,k6,inOw]⟩
theorem zyc(hr:Rel X s a):∀(vs:List (SV×Value)) (l:List SV) (b:Option (Nat×Box)),(∀x∈vs,∃q,RepV X q x.1 x.2)→z2d s (vs.map (·.1))=some (l,b)→l.length=vs.length∧
 (∀id B,b=some (id,B)→s.bs[id]? =some (some B))∧
 (∀id t p,SV.ptr id t p∈l→id=0∧b.isSome=true)∧
 ∀k,(∀id B,b=some (id,B)→k=some id)→∀(i:Nat) sv x,l[i]? =some sv→vs[i]? =some x→∀q,RepV (X.into k) q sv x.2:=by
 intro vs
 induction vs with
 |nil=>
  intro l b _ h
  simp only[List.map_nil,z2d,Option.some.injEq,Prod.mk.injEq] at h
  obtain⟨rfl,rfl⟩:=h
  refine⟨rfl,(fun id B e=>by cases e),(fun id t p hm=>by cases hm),fun k _ i sv x hl=>by simp at hl⟩
 |cons x r ih=>
  intro l b hps h
  simp only[List.map_cons,z2d] at h
  split at h
  ·cases h
  rename_i l1 b1 h1
  obtain⟨i1,i2,i3,i4⟩:=ih l1 b1 (fun y hy=>hps y (List.mem_cons_of_mem _ hy)) h1
  obtain⟨q0,hx⟩:=hps x List.mem_cons_self
  have fin:∀(sv:SV),l=sv::l1→(∀id B,b1=some (id,B)→b=b1)→(∀id B,b=some (id,B)→s.bs[id]? =some (some B))→(∀id t p,sv= .ptr id t p→id=0∧b.isSome=true)→
   (∀k,(∀id B,b=some (id,B)→k=some id)→∀q,RepV (X.into k) q sv x.2)→l.length=(x::r).length∧
   (∀id B,b=some (id,B)→s.bs[id]? =some (some B))∧
   (∀id t p,SV.ptr id t p∈l→id=0∧b.isSome=true)∧
   ∀k,(∀id B,b=some (id,B)→k=some id)→∀(i:Nat) sv y,l[i]? =some sv→(x::r)[i]? =some y→∀q,RepV (X.into k) q sv y.2:=by
   intro sv hl hb hbox hne hrep
   subst hl
   refine⟨by simp [i1],hbox,fun id t p hm=> ?_,fun k hk i sv' y hl hv=> ?_⟩
   ·rcases List.mem_cons.1 hm with e|hm
    ·exact hne id t p e.symm
    ·obtain⟨j1,j2⟩:=i3 id t p hm
     cases hb1:b1 with
     |none=>rw[hb1] at j2;cases j2
     |some bb=>rw[hb bb.1 bb.2 hb1];exact⟨j1,j2⟩
   ·cases i with
    |zero=>
     simp only[List.getElem?_cons_zero,Option.some.injEq] at hl hv
     subst hl hv
     exact hrep k hk
    |succ i=>
     simp only[List.getElem?_cons_succ] at hl hv
     exact i4 k (fun id B e=>hk id B (by rw[hb id B e];exact e)) i sv' y hl hv
  obtain⟨x1,x2⟩:=x
  simp only at h hx fin
  split at h
  ·cases h
   exact fin _ rfl (fun _ _ _=>rfl) i2 (fun _ _ _ e=>by cases e) (fun k _ q=>hx.into)
  ·cases h
   exact fin _ rfl (fun _ _ _=>rfl) i2 (fun _ _ _ e=>by cases e) (fun k _ q=>hx)
  ·cases h
   refine fin _ rfl (fun _ _ _=>rfl) i2 (fun _ _ _ e=>by cases e) (fun k _ q=> ?_)
   obtain⟨ad,cs,g1,g2,g3,g4⟩:=hx
   exact⟨ad,cs,g1,g2,g3.sees_mono (fun _ _=>z2p.2),fun i w hi=>z2p.2 (g4 i w hi)⟩
  ·rename_i id t
   split at h
   case h_2=>cases h
   rename_i B hB
   split at h
   case isFalse=>cases h
   cases h
   obtain⟨rr,g1,g2⟩:=hx
   refine fin _ rfl (fun _ _ e=>by cases e) (fun id B e=>by cases e;exact z2h hB) (fun _ _ _ e=>by cases e;exact⟨rfl,rfl⟩) (fun k hk q=> ?_)
   have:=hk id B rfl
   subst this
   exact⟨rr,g1,g2⟩
  ·cases h
def Does(P:Program)(X:Cfg)(s:State)(a:Act)(o:Oper)(u:Out):Prop:=
 ∀(next:Act→World→Prop) (Q:Exit→Act→World→Prop),(∀Y v,Ext X Y→Rel Y (s.apply o.dst u) (a.put o.dst v)→next (a.put o.dst v) Y.w)→o.wp P a X.w next Q
theorem Done.does(h:Done P X s a o u):Does P X s a o u:=fun next Q hn=>by
 obtain⟨Y,v,h1,h2,h3⟩:=h
 unfold Oper.wp
 rcases h1 with h1|⟨h1,rfl⟩
 ·rw[h1,Oper.upon_value];exact hn Y v h2 h3
 ·rw[h1,Oper.upon_skip];exact hn Y _ h2 h3
theorem z18h{f:FuncId}(h:Ent P f){asv:Array Operand}{ts:Array TypeId}(ho:o.op= .call ⟨.value (.func f),asv,ts⟩)(w:World):(execOp a.eval o).run P w= .ok (.enter f (asv.map a.eval)) w:=by
 obtain⟨fn,c,h1,h2,h3⟩:=h
 simp [execOp,ho,resolve,Deferred.ofValue,Act.eval,invoke,callFunc,h1,h3]
 simpa using h2
theorem zpm{l:List SV}{id:Nat}(h:∀id t p,SV.ptr id t p∉l):l.map (SV.reptr id)=l:=by
 induction l with
 |nil=>rfl
 |cons v r ih=>
  rw[List.map_cons,ih (fun id t p hm=>h id t p (List.mem_cons_of_mem _ hm))]
  congr 1
  cases v<;>first|rfl|skip
  exact absurd (List.mem_cons_self) (h _ _ _)
theorem zm3{k k':Option Nat}{d:Nat}{β:Nat→Option Nat}{Y:Cfg}(h:Ext (X.into k) Y){r0 id:Nat}{r:List SV}{v:Value}(hβ:∀id' t p,SV.ptr id' t p∈r→β id=some r0)(hr:RepL {Y with β:=fun _=>some r0} .r r v):RepL (X.back Y k k' d β) (.c d) (r.map (SV.reptr id)) v:=by
 match r,hr with
 | [sv],hr=>exact RepV.out h (fun id' t p e=>hβ id' t p (by simp [e])) hr
 | [],⟨vs,h1,h2,h3⟩=>exact⟨vs,h1,h2,fun j s u hs=>by simp at hs⟩
 |x::y::r,⟨vs,h1,h2,h3⟩=>
  refine⟨vs,h1,by simpa using h2,fun j sv u hs hu=> ?_⟩
  have hs:((x::y::r).map (SV.reptr id))[j]? =some sv:=hs
  rw[List.getElem?_map] at hs
  obtain⟨s0,hs0,rfl⟩:=Option.map_eq_some_iff.1 hs
  exact RepV.out h (fun id' t p e=>hβ id' t p (e▸List.mem_of_getElem? hs0)) (h3 j s0 u hs0 hu)
theorem z13r:∀g pl n,(X.into none).ow g≠ .row pl n:=fun g pl n=>by
 show inOw none (X.ow g)≠_
 cases X.ow g with
 |row q m=>cases q<;>simp [inOw]
 |_=>simp [inOw]
theorem zb3(hr:Rel X s a){C:Funs}(hC:C.Nat){f:FuncId}(hf:Owes P C f){vs:List (SV×Value)}(hvs:∀x∈vs,∃q,RepV X q x.1 x.2)(hent:Ent P f→(execOp a.eval o).run P X.w= .ok (.enter f (vs.map (·.2)).toArray) X.w)(h:callV (C Out) s o.dst f (vs.map (·.1)) some=some u):Does P X s a o u:=by
 have hrun:=hent
 clear hent
 unfold callV at h
 have enter:∀(l:List SV) (b:Option (Nat×Box)) (k:Option Nat),z2d s (vs.map (·.1))=some (l,b)→(∀id B,b=some (id,B)→k=some id)→(b=none→k=none)→Enter (X.into k) l (b.map (·.2)) (vs.map (·.2)).toArray:=by
  intro l b k hargs hk hk0
  obtain⟨i1,i2,i3,i4⟩:=zyc hr vs l b hvs hargs
  refine⟨by simpa using i1.symm,fun i sv v hl hv=> ?_,fun id t p hm=> ?_,fun B hB=> ?_,fun hb=> ?_⟩
  ·rw[List.getElem?_toArray,List.getElem?_map] at hv
   obtain⟨x,hx,rfl⟩:=Option.map_eq_some_iff.1 hv
   exact i4 k hk i sv x hl hx _
  ·obtain⟨j1,j2⟩:=i3 id t p hm
   exact⟨j1,by simpa using j2⟩
  ·obtain⟨bb,hbb,rfl⟩:=Option.map_eq_some_iff.1 hB
   obtain⟨id,B⟩:=bb
   obtain⟨r,h1,h2⟩:=hr.boxes id B (i2 id B hbb)
   have:=hk id B hbb
   subst this
   exact⟨r,h1,h2.into⟩
  ·have hb:b=none:=by cases b<;>simp at hb⊢
   rw[hk0 hb]
   exact z13r
 split at h
 ·rename_i l hargs
  obtain⟨⟨r,b'⟩,hcall,h⟩:=z1g (hC Out _ f l none _ (fun r b=>some (r,b)) (fun z=>match z.2 with
   |none=>some {v:=z.1}
   |some B=>match o.dst with
    |some d=>match s.bs[d+1]? with
     |some none=>some {v:=z.1.map (SV.reptr (d+1)),bx:=some (d+1,B)}
     |_=>none
    |none=>none) (fun r b=>rfl)) h
  obtain⟨hent,howes⟩:=hf l none r b' hcall
  have hen:=enter l none none hargs (fun id B e=>by cases e) (fun _=>rfl)
  intro next Q hn
  unfold Oper.wp
  rw[hrun hent,Oper.upon_enter]
  refine(howes (X.into none) _ hen).mono fun e w' he=> ?_
  cases e with
  |returned v=>
   obtain⟨Y,rfl,hext,r0,hrep,hbox,hptr⟩:=he
   simp only at h
   cases b' with
   |none=>
    cases h
    have hp:=hptr (.inl rfl)
    have hext2:=zlg (k':=none) (d:=o.dst.getD 0) (β:=X.β) hext rfl
    refine hn (X.back Y none none (o.dst.getD 0) X.β) v hext2 ?_
    refine(Rel.back (k':=none) hext hr (fun _ _ _=>rfl) (fun _ _ _=>by simp)).fin ?_ (fun id t p hm=>absurd hm (hp id t p))
    have:=zm3 (k':=none) (d:=o.dst.getD 0) (β:=X.β) (id:=0) hext (fun id' t p hm=>absurd hm (hp id' t p)) hrep
    rw[zpm hp] at this
    exact this
   |some B=>
    simp only at h
    split at h
    case h_2=>cases h
    rename_i d hd
    split at h
    case h_2=>cases h
    rename_i hbs
    cases h
    have hlt:d+1<s.bs.length:=(List.getElem?_eq_some_iff.1 hbs).1
    obtain⟨hB,_⟩:=hbox B rfl
    let β:Nat→Option Nat:=fun id=>if id=d+1 then some r0 else X.β id
    have hβd:β (d+1)=some r0:=by simp [β]
    have hext2:=zlg (k':=some (d+1)) (d:=d) (β:=β) hext (by simp [β])
    refine hn (X.back Y none (some (d+1)) d β) v hext2 ?_
    have hrel:=(Rel.back (k':=some (d+1)) (d:=d) (β:=β) hext hr (fun id B2 hB2=>by
     show(if _ then _ else _)=_
     rw[if_neg (fun e=>by rw[e,hbs] at hB2;cases hB2)]) (fun _ _ _=>by simp)).newBox hlt hbs hβd (hB.out hext rfl)
    rw[hd]
    refine hrel.put (fun d' e=> ?_) (fun id t p hm=> ?_)
    ·cases e
     exact zm3 hext (fun _ _ _ _=>hβd) hrep
    ·obtain⟨s0,_,he0⟩:=List.mem_map.1 hm
     have:id=d+1:=by
      cases s0<;>simp [SV.reptr] at he0
      exact he0.1.symm
     subst this
     exact⟨B,by simp [State.close,State.putBox,List.getElem?_set,hlt]⟩
  |panicked c=>exact he.elim
  |outgrown=>exact he.elim
 ·rename_i l id B hargs
  obtain⟨⟨r,b'⟩,hcall,h⟩:=z1g (hC Out _ f l (some B) _ (fun r b=>some (r,b)) (fun z=>match z.2 with
   |some B'=>if B'.t.eqb B.t=true then some {v:=z.1,bx:=some (id,B')} else none
   |none=>none) (fun r b=>rfl)) h
  obtain⟨hent,howes⟩:=hf l (some B) r b' hcall
  have hen:=enter l (some (id,B)) (some id) hargs (fun id B e=>by cases e;rfl) (fun e=>by cases e)
  obtain⟨_,i2,_,_⟩:=zyc hr vs l _ hvs hargs
  have hb:=i2 id B rfl
  intro next Q hn
  unfold Oper.wp
  rw[hrun hent,Oper.upon_enter]
  refine(howes (X.into (some id)) _ hen).mono fun e w' he=> ?_
  cases e with
  |returned v=>
   obtain⟨Y,rfl,hext,r0,hrep,hbox,hptr⟩:=he
   simp only at h
   cases b' with
   |none=>cases h
   |some B'=>
    simp only at h
    split at h
    case isFalse=>cases h
    cases h
    have hp:=hptr (.inr rfl)
    obtain⟨hB,hβ⟩:=hbox B' rfl
    have hβ:=hβ rfl
    have hext2:=zlg (k':=some id) (d:=o.dst.getD 0) (β:=X.β) hext rfl
    refine hn (X.back Y (some id) (some id) (o.dst.getD 0) X.β) v hext2 ?_
    refine(Rel.backBox (k:=some id) (k':=some id) hext hr hb rfl rfl hβ hB).fin ?_ (fun id t p hm=>absurd hm (hp id t p))
    have:=zm3 (k':=some id) (d:=o.dst.getD 0) (β:=X.β) (id:=0) hext (fun id' t p hm=>absurd hm (hp id' t p)) hrep
    rw[zpm hp] at this
    exact this
  |panicked c=>exact he.elim
  |outgrown=>exact he.elim
 ·cases h
theorem zas(hr:Rel X s a)(asv:Array Operand):∀x∈asv.toList.map (fun x=>(s.op1 x,a.eval x)),∃q,RepV X q x.1 x.2:=fun x hx=>by
 obtain⟨y,_,rfl⟩:=List.mem_map.1 hx
 exact⟨_,hr.op1 y⟩
theorem zwo{X:Cfg}{pl:List Nat→Place}{sv:SV}{v:Value}(h:RepV X pl sv v):RepV X pl sv.shut v:=by
 cases sv with
 |dat t x own=>
  obtain⟨cs,h1,h2,_⟩:=h
  exact⟨cs,h1,h2,z1n⟩
 |_=>exact h
theorem z19v{X:Cfg}{pl:Nat→List Nat→Place}{l:List SV}{v:Value}(h:RepL X pl l v):RepL X pl (l.map SV.shut) v:=by
 match l,h with
 | [sv],h=>exact zwo (sv:=sv) h
 | [],h=>exact h
 |x::y::r,⟨vs,g1,g2,g3⟩=>
  refine⟨vs,g1,by simpa using g2,fun j sv u hs' hu=> ?_⟩
  have hs':((x::y::r).map SV.shut)[j]? =some sv:=hs'
  rw[List.getElem?_map] at hs'
  obtain⟨s0,hs0,rfl⟩:=Option.map_eq_some_iff.1 hs'
  exact zwo (g3 j s0 u hs0 hu)
theorem z19u{l:List SV}{j:Nat}{t:Ty}{p:List Nat}(h:SV.ptr j t p∈l.map SV.shut):SV.ptr j t p∈l:=by
 obtain⟨s0,hs0,he⟩:=List.mem_map.1 h
 cases s0<;>first|(cases he;done)|(rw[←he];exact hs0)|skip
theorem Rel.shutAt(hr:Rel X s a){d:Nat}{l:List SV}:Rel X {s with sl:=s.sl.set d l} a→Rel X {s with sl:=s.sl.set d (l.map SV.shut)} a:=fun h=>{
 size:=by simpa using hr.size
 bsz:=by simpa using hr.bsz
 slots:=fun i l' v hl hv=>by
  replace hl:(s.sl.set d (l.map SV.shut))[i]? =some l':=hl
  rw[List.getElem?_set] at hl
  split at hl
  ·rename_i hdi
   split at hl
   ·cases hl
    rename_i hlt
    exact z19v (h.slots i l v (by show(s.sl.set d l)[i]? =_;rw[List.getElem?_set,if_pos hdi,if_pos hlt]) hv)
   ·cases hl
  ·rename_i hdi
   exact h.slots i l' v (by show(s.sl.set d l)[i]? =_;rw[List.getElem?_set,if_neg hdi];exact hl) hv
 boxes:=h.boxes
 live:=fun i l' id t p hl hm=>by
  replace hl:(s.sl.set d (l.map SV.shut))[i]? =some l':=hl
  rw[List.getElem?_set] at hl
  split at hl
  ·rename_i hdi
   split at hl
   ·cases hl
    rename_i hlt
    exact h.live i l id t p (by show(s.sl.set d l)[i]? =_;rw[List.getElem?_set,if_pos hdi,if_pos hlt]) (z19u hm)
   ·cases hl
  ·rename_i hdi
   exact h.live i l' id t p (by show(s.sl.set d l)[i]? =_;rw[List.getElem?_set,if_neg hdi];exact hl) hm
 defers:=h.defers}
theorem Does.shut(h:Does P X s a o u):Does P X s a o u.shut:=fun next Q hn=>h next Q fun Y v hext hrel=>hn Y v hext (by
 unfold State.apply at hrel⊢
 show Rel Y (((s.close u.cl).putBox u.bx).putSlot o.dst (u.v.map SV.shut)) _
 generalize(s.close u.cl).putBox u.bx=s1 at*
 cases hd:o.dst with
 |none=>rw[hd] at hrel;exact hrel
 |some d=>
  rw[hd] at hrel
  have e:=Rel.shutAt (X:=Y) (s:={s1 with sl:=s1.sl.set d u.v}) (a:=a.put (some d) v) (d:=d) (l:=u.v) hrel (by
   show Rel Y {s1 with sl:=(s1.sl.set d u.v).set d u.v} _
   rw[List.set_set];exact hrel)
  show Rel Y {s1 with sl:=s1.sl.set d (u.v.map SV.shut)} _
  have e2:Rel Y {s1 with sl:=(s1.sl.set d u.v).set d (u.v.map SV.shut)} (a.put (some d) v):=e
  rw[List.set_set] at e2
  exact e2)
theorem z186(hr:Rel X s a){C:Funs}(hC:C.Nat){f:FuncId}(hf:Owes P C f){ops:List Oper}{asv:Array Operand}{ts:Array TypeId}(ho:o.op= .call ⟨.value (.func f),asv,ts⟩)(h:act E (C Out) ops o s some=some u):Does P X s a o u:=by
 unfold act at h
 simp only[ho] at h
 obtain⟨u0,h0,h1⟩:=z1g (z8a hC (F:=fun u=>some (bif shuts E o.dst then u.shut else u)) (G:=some) (K:=fun u=>some (bif shuts E o.dst then u.shut else u)) (fun _=>rfl)) h
 have hd:Does P X s a o u0:=by
  refine zb3 hr hC hf (zas hr asv) (fun hent=> ?_) (by rw[List.map_map];exact h0)
  rw[z18h hent ho]
  congr 2
  apply Array.toList_inj.1
  simp [Function.comp_def]
 cases hs:shuts E o.dst with
 |false=>rw[hs] at h1;cases h1;exact hd
 |true=>rw[hs] at h1;cases h1;exact hd.shut
theorem z1h9{f:FuncId}(h:Ent P f){x:Operand}{v:Value}{asv:Array Operand}{ts:Array TypeId}(ho:o.op= .call ⟨.value x,asv,ts⟩)(hx:a.eval x= .func (.func f) #[] #[v])(w:World):(execOp a.eval o).run P w= .ok (.enter f (asv.map a.eval++ #[v])) w:=by
 obtain⟨fn,c,h1,h2,h3⟩:=h
 simp [execOp,ho,resolve,Deferred.ofValue,hx,invoke,callFunc,h1,h3]
 simpa using h2
theorem z1cx{f:FuncId}(h:Ent P f){x:Operand}{v v2:Value}{asv:Array Operand}{ts:Array TypeId}(ho:o.op= .call ⟨.value x,asv,ts⟩)(hx:a.eval x= .func (.func f) #[] #[v,v2])(w:World):(execOp a.eval o).run P w= .ok (.enter f (asv.map a.eval++ #[v,v2])) w:=by
 obtain⟨fn,c,h1,h2,h3⟩:=h
 simp [execOp,ho,resolve,Deferred.ofValue,hx,invoke,callFunc,h1,h3]
 simpa using h2
theorem z13c(hr:Rel X s a){C:Funs}(hC:C.Nat)(hf:∀f,Owes P C f){ops:List Oper}{y:Nat}{asv:Array Operand}{ts:Array TypeId}(ho:o.op= .call ⟨.value (.tmp y),asv,ts⟩)(h:act E (C Out) ops o s some=some u):Does P X s a o u:=by
 unfold act at h
 simp only[ho] at h
 split at h
 case h_3=>cases h
 case h_2=>
  rename_i f t x1 u' y1 hxe
  have hx:=hr.op1 (.tmp y)
  rw[hxe] at hx
  obtain⟨ad,ad',cs,cs',hv,⟨g2,g3,g4⟩,k2,k3,k4⟩:=hx
  refine zb3 hr hC (hf f) (vs:=asv.toList.map (fun x=>(s.op1 x,a.eval x))++ [(.view t x1,.pointer (some ad)),(.view u' y1,.pointer (some ad'))]) (fun x hx=> ?_) (fun hent=> ?_) (by rw[List.map_append,List.map_map];exact h)
  ·rcases List.mem_append.1 hx with hx|hx
   ·exact zas hr asv x hx
   ·rcases List.mem_cons.1 hx with rfl|hx
    ·exact⟨.r 0,ad,cs,rfl,g2,g3,g4⟩
    ·rw[List.mem_singleton.1 hx]
     exact⟨.r 0,ad',cs',rfl,k2,k3,k4⟩
  ·rw[z1cx hent ho hv]
   congr 2
   apply Array.toList_inj.1
   simp [Function.comp_def]
 rename_i id f t b hxe
 have hx:=hr.op1 (.tmp y)
 rw[hxe] at hx
 obtain⟨r0,hβ,hv⟩:=hx
 have hv:a.eval (.tmp y)= .func (.func f) #[] #[.pointer (some ⟨r0,0,none⟩)]:=hv
 split at h
 case isTrue=>cases h
 rename_i hs
 refine zb3 hr hC (hf f) (vs:=asv.toList.map (fun x=>(s.op1 x,a.eval x))++ [(.ptr id t [],.pointer (some ⟨r0,0,none⟩))]) (fun x hx=> ?_) (fun hent=> ?_) (by rw[List.map_append,List.map_map];exact h)
 ·rcases List.mem_append.1 hx with hx|hx
  ·exact zas hr asv x hx
  ·rw[List.mem_singleton.1 hx]
   exact⟨.r 0,r0,hβ,(z83 (by simpa using hs)).2 ⟨by simp [Ty.off],by simp [Ty.inb]⟩⟩
 ·rw[z1h9 hent ho hv]
  congr 2
  apply Array.toList_inj.1
  simp [Function.comp_def]
end Go.Ref

namespace Go.Ref
open Go
variable {P:Program} {E:Env} {X:Cfg} {s:State} {a:Act} {o:Oper} {u:Out}
theorem z1ch(hE:EnvOk P E)(hr:Rel X s a){C:Funs}(hC:C.Nat)(hf:∀f,Owes P C f){ops:List Oper}(h:act E (C Out) ops o s some=some u):Does P X s a o u:=by
 cases ho:o.op with
 |move x=>exact(z18b hr ho h).does
 |assign x=>exact(z10z hr ho h).does
 |pick c x y=>exact(z18d hr ho h).does
 |binOp op T x y T'=>exact(z1d8 hE hr ho h).does
 |unOp op T x=>exact(z1hd hr ho h).does
 |convert S T x=>exact(z187 hE hr ho h).does
 |load T x=>exact(z18a hE hr ho h).does
 |store T x y=>exact(z13j hE hr ho h).does
 |nilCheck x=>exact(zx5 hr ho h).does
 |fieldAddr T x j=>exact(zu6 hE hr ho h).does
 |indexAddr T x i=>exact(zu7 hE hr ho h).does
 |index T x i=>exact(z13h hE hr ho h).does
 |field T x j=>exact(z13g hE hr ho h).does
 |slice T x lo hi mx=>
  cases mx with
  |none=>exact(z1da hE hr ho h).does
  |some m=>unfold act at h;simp only[ho] at h;cases h
 |alloc T=>exact(z13a hE hr ho h).does
 |box T x=>exact(z1d9 hE hr ho h).does
 |build T parts=>exact(z13b hE hr ho h).does
 |buildSlice T n parts=>exact(zoq hE hr ho h).does
 |extract x j=>exact(zyr hr ho h).does
 |makeMap T r=>exact(zyu hE hr ho h).does
 |lookup T x i ok=>exact(z110 hE hr ho h).does
 |mapUpdate T m k x=>exact(zab hE hr (.inl ho) h).does
 |insert T m k x=>exact(zab hE hr (.inr ho) h).does
 |range T x=>exact(z13i hE hr ho h).does
 |next x str=>exact(z18c hr ho h).does
 |makeSlice T l c=>exact(zu8 hE hr ho h).does
 |makeFunc fn fi ca=>exact(zx4 hr ho h).does
 |call c=>
  obtain⟨callee,args,ts⟩:=c
  cases callee with
  |value x=>
   cases x with
   |func f=>exact z186 hr hC (hf f) ho h
   |tmp y=>exact z13c hr hC hf ho h
   |_=>unfold act at h;simp only[ho] at h;cases h
  |builtin b=>
   cases b with
   |len=>exact(z1db (x:= .const Go.undef) (T:=0) hE hr ho h).does
   |append=>exact(z10y hE hr ho h).does
   |copy=>exact(z188 hE hr ho h).does
   |max=>exact(zvj (g:=true) hr ho h).does
   |min=>exact(zvj (g:=false) hr ho h).does
   |_=>unfold act at h;simp only[ho] at h;cases h
  |_=>unfold act at h;simp only[ho] at h;cases h
 |_=>unfold act at h;simp only[ho] at h;cases h
theorem Rel.know(hr:Rel X s a){d:Nat}{p:Bool}{o:List (List Nat)}(h:s.slot d=[.dat .bool p o]):Rel X (s.putSlot (some d) (bl p)) a∧a.tmps[d]? =some (.bool p):=by
 have hd:d<s.sl.length:=by
  rcases Nat.lt_or_ge d s.sl.length with h1|h1
  ·exact h1
  ·simp [State.slot,List.getElem?_eq_none h1] at h
 have hd2:d<a.tmps.size:=by rw[←hr.size];exact hd
 have hv:a.tmps[d]? =some (a.tmps.getD d Go.undef):=by simp [Array.getElem?_eq_getElem hd2]
 have hs:=hr.slot d
 rw[h] at hs
 have hb:=z3t (X:=X) hs
 rw[hb] at hv
 refine⟨?_,hv⟩
 have hput:a.put (some d) (.bool p)=a:=by
  cases a with
  |mk tmps defers=>
   simp only[Act.put,Act.mk.injEq,and_true]
   apply Array.ext_getElem?
   intro i
   rw[Array.getElem?_setIfInBounds]
   split
   ·rename_i e
    subst e
    first
     |exact hv.symm
     |(rw[if_pos hd2];exact hv.symm)
   ·rfl
 have:=hr.put (d:=some d) (l:=bl p) (v:= .bool p) (fun _ _=>z1e) (fun id t q hm=>by simp [bl] at hm)
 rw[hput] at this
 exact this
theorem zul(hE:EnvOk P E)(hr:Rel X s a){C:Funs}(hC:C.Nat)(hf:∀f,Owes P C f){ops:Array Oper}{i:Nat}(hi:ops[i]? =some o){s':State}(h:step E (C State) ops.toList o s some=some s'){Q:Exit→Act→World→Prop}{K:Act→World→Prop}
 (hK:∀Y a',Ext X Y→Rel Y s' a'→K a' Y.w):wpOp P ops Q i K a X.w:=by
 unfold wpOp
 simp only[hi]
 have hgo:∀{s1:State},Rel X s1 a→(act E (C State) ops.toList o s1 fun u=>some (s1.apply o.dst u))=some s'→o.wp P a X.w K Q:=by
  intro s1 hr1 h1
  obtain⟨u,hu,h2⟩:=z1g (z4d hC (F:=fun u=>some (s1.apply o.dst u)) (G:=some) (K:=fun u=>some (s1.apply o.dst u)) (fun _=>rfl)) h1
  cases h2
  exact z1ch hE hr1 hC hf hu K Q (fun Y v hext hrel=>hK Y _ hext hrel)
 have hpass:∀{s1:State},Rel X s1 a→some (s1.putSlot o.dst [.skip])=some s'→K (a.put o.dst Go.undef) X.w:=by
  intro s1 hr1 h1
  cases h1
  exact hK X _ (Ext.refl X) (hr1.skip o.dst)
 unfold step at h
 simp only at h
 split at h
 ·rename_i hg
  have hw:Region.wanted o (yielded ops a.tmps)=true:=by simp [Region.wanted,hg]
  rw[if_pos hw]
  exact .inl (hgo hr h)
 ·rename_i g want hg
  split at h
  ·cases h
  rename_i d hd
  have hd':(ops[g]?).bind (·.dst)=some d:=by simpa [zai] using hd
  split at h
  ·rename_i p hs
   obtain⟨hr1,hv⟩:=hr.know hs
   have hy:yielded ops a.tmps g=some p:=by simp [yielded,hd',hv]
   have hw:Region.wanted o (yielded ops a.tmps)=(p==want):=by simp [Region.wanted,hg,hy]
   cases p<;>cases want<;>simp only[cond_true,cond_false] at h<;>rw[hw]
   ·exact .inl (hgo hr1 h)
   ·exact hpass hr1 h
   ·exact hpass hr1 h
   ·exact .inl (hgo hr1 h)
  ·rename_i hs
   have hsl:=hr.slot d
   rw[hs] at hsl
   have hval:a.tmps.getD d Go.undef=Go.undef:=hsl
   have hy:yielded ops a.tmps g=none:=by
    simp only[yielded,hd',Option.bind_some]
    cases ht:a.tmps[d]? with
    |none=>rfl
    |some v=>
     have:v=Go.undef:=by
      rw[←hval]
      simp [Array.getD_eq_getD_getElem?,ht]
     subst this
     rfl
   have hw:Region.wanted o (yielded ops a.tmps)=false:=by simp [Region.wanted,hg,hy]
   rw[hw]
   exact hpass hr h
  ·cases h
theorem z104(hE:EnvOk P E){C:Funs}(hC:C.Nat)(hf:∀f,Owes P C f){ops:Array Oper}{s':State}{Q:Exit→Act→World→Prop}:∀(l:List Nat) (X:Cfg) (s:State) (a:Act),Rel X s a→(∀i∈l,i<ops.size)→
 steps E (C State) ops.toList (l.map fun i=>ops.getD i default) s some=some s'→(∀Y a',Ext X Y→Rel Y s' a'→Q .normal a' Y.w)→wpOps P ops Q l a X.w
 | [],X,s,a,hr,_,h,hQ=>by
   cases h
   exact hQ X a (Ext.refl X) hr
 |i::r,X,s,a,hr,hl,h,hQ=>by
  simp only[List.map_cons,steps] at h
  obtain⟨s1,h1,h2⟩:=z1g (zm5 hC (F:=fun s=>steps E (C State) ops.toList (r.map fun i=>ops.getD i default) s some) (G:=some) (K:=fun s=>steps E (C State) ops.toList (r.map fun i=>ops.getD i default) s some) (fun _=>rfl)) h
  have hi:ops[i]? =some (ops.getD i default):=by
   have:=hl i (by simp)
   simp [this]
  rw[wpOps_cons]
  refine zul hE hr hC hf hi h1 fun Y a' hext hrel=> ?_
  exact z104 hE hC hf r Y s1 a' hrel (fun j hj=>hl j (List.mem_cons_of_mem _ hj)) h2 fun Z a2 hext2 hrel2=>hQ Z a2 (hext.trans hext2) hrel2
end Go.Ref

namespace Go.Ref
open Go
variable {P:Program} {E:Env} {X:Cfg} {s:State} {a:Act} {o:Oper} {u:Out}
theorem zlp(i j:Nat):(bit i).testBit j=decide (i=j):=by
 simp [bit,Nat.shiftLeft_eq,Nat.testBit_two_pow]
theorem z32:∀(l:List Nat) (j:Nat),(maskL l).testBit j=decide (j∈l)
 | [],j=>by simp [maskL]
 |i::r,j=>by
  rw[maskL,Nat.testBit_or,zlp,z32 r j]
  by_cases h:i=j
  ·subst h;simp
  ·have h':¬j=i:=fun e=>h e.symm
   simp [h,h']
theorem zar{a b:Nat}(h:Nat.beq (a&&&b) 0=true)(j:Nat):a.testBit j=true→b.testBit j=false:=by
 intro ha
 have h0:=Nat.eq_of_beq_eq_true h
 have:=congrArg (fun n=>Nat.testBit n j) h0
 simp only[Nat.testBit_and,Nat.zero_testBit,ha,Bool.true_and] at this
 exact this
theorem zaq:∀(l:List Edge) (j:Nat),(z1b l).testBit j=true→∃e∈l,Region.binds .any e=true∧e.on=j
 | [],j,h=>by simp [z1b] at h
 |e::r,j,h=>by
  simp only[z1b] at h
  cases hb:Region.binds .any e with
  |false=>
   rw[hb] at h
   obtain⟨e',h1,h2⟩:=zaq r j h
   exact⟨e',List.mem_cons_of_mem _ h1,h2⟩
  |true=>
   rw[hb] at h
   simp only[cond_true,Nat.testBit_or,zlp,Bool.or_eq_true,decide_eq_true_eq] at h
   rcases h with h|h
   ·exact⟨e,by simp,hb,h⟩
   ·obtain⟨e',h1,h2⟩:=zaq r j h
    exact⟨e',List.mem_cons_of_mem _ h1,h2⟩
theorem zuu:∀(l:List Edge) (e:Edge),e∈l→Region.binds .any e=true→(z1b l).testBit e.on=true
 |e'::r,e,h,hb=>by
  simp only[z1b]
  rcases List.mem_cons.1 h with rfl|h
  ·rw[hb];simp [Nat.testBit_or,zlp]
  ·have:=zuu r e h hb
   cases Region.binds .any e'<;>simp [Nat.testBit_or,this]
theorem z17f{m i j:Nat}(h:Nat.ble (m+1) (bit i)=true)(hj:m.testBit j=true):j<i:=by
 have h1:m<2^i:=by
  have:=Nat.le_of_ble_eq_true h
  simp only[bit,Nat.shiftLeft_eq,Nat.one_mul] at this
  omega
 rcases Nat.lt_or_ge j i with h2|h2
 ·exact h2
 ·have h3:m<2^j:=Nat.lt_of_lt_of_le h1 (Nat.pow_le_pow_right (by omega) h2)
  rw[Nat.testBit_lt_two_pow h3] at hj
  cases hj
def outOf(E:Env)(C:Funs)(ops:List Oper)(o:Oper)(s:State):Option Out:=
 match o.guard with
 |none=>act E (C Out) ops o s some
 |some (g,want)=>match zai ops g with
  |none=>none
  |some d=>match s.slot d with
   | [.dat .bool p []]=>if p=want then act E (C Out) ops o s some else some {v:=[.skip]}
   | [.skip]=>some {v:=[.skip]}
   |_=>none
theorem z63{d:Nat}{l:List SV}(h:s.slot d=l):s.putSlot (some d) l=s:=by
 cases s with
 |mk sl bs=>
  simp only[State.putSlot,State.mk.injEq,and_true]
  simp only[State.slot] at h
  apply List.ext_getElem?
  intro i
  rw[List.getElem?_set]
  split
  ·rename_i e
   subst e
   split
   ·rename_i hlt
    rw[List.getD_eq_getElem?_getD,List.getElem?_eq_getElem hlt] at h
    rw[List.getElem?_eq_getElem hlt]
    simpa using h.symm
   ·rename_i hlt
    rw[List.getElem?_eq_none (by omega)]
  ·rfl
theorem z1a0{C:Funs}(hC:C.Nat){R:Type}{ops:List Oper}{i:Nat}{tr:List Foot}{K:State→List Foot→Option R}{z:R}(h:stepD E (C R) ops o i s tr K=some z):
 ∃u,outOf E C ops o s=some u∧fits (z1b o.after.toList) (zy ops o i s u) tr=true∧K (s.apply o.dst u) (zy ops o i s u::tr)=some z:=by
 have hgo:(act E (C R) ops o s fun u=>bif fits (z1b o.after.toList) (zy ops o i s u) tr then K (s.apply o.dst u) (zy ops o i s u::tr) else none)=some z→
  ∃u,act E (C Out) ops o s some=some u∧fits (z1b o.after.toList) (zy ops o i s u) tr=true∧K (s.apply o.dst u) (zy ops o i s u::tr)=some z:=by
  intro h
  obtain⟨u,h1,h2⟩:=z1g (z4d hC (F:=fun u=>bif fits (z1b o.after.toList) (zy ops o i s u) tr then K (s.apply o.dst u) (zy ops o i s u::tr) else none) (G:=some) (K:=fun u=>bif fits (z1b o.after.toList) (zy ops o i s u) tr then K (s.apply o.dst u) (zy ops o i s u::tr) else none) (fun _=>rfl)) h
  cases hf:fits (z1b o.after.toList) (zy ops o i s u) tr with
  |false=>rw[hf] at h2;cases h2
  |true=>rw[hf] at h2;exact⟨u,h1,hf,h2⟩
 have hpass:(bif fits (z1b o.after.toList) (zy ops o i s {v:=[.skip]}) tr then K (s.apply o.dst {v:=[.skip]}) (zy ops o i s {v:=[.skip]}::tr) else none)=some z→
  fits (z1b o.after.toList) (zy ops o i s {v:=[.skip]}) tr=true∧K (s.apply o.dst {v:=[.skip]}) (zy ops o i s {v:=[.skip]}::tr)=some z:=by
  intro h
  cases hf:fits (z1b o.after.toList) (zy ops o i s {v:=[.skip]}) tr with
  |false=>rw[hf] at h;cases h
  |true=>rw[hf] at h;exact⟨rfl,h⟩
 unfold stepD at h
 unfold outOf
 simp only at h
 split at h
 ·rename_i hg
  try simp only[hg]
  exact hgo h
 ·rename_i g want hg
  try simp only[hg]
  split at h
  ·cases h
  rename_i d hd
  try simp only[hd]
  split at h
  ·rename_i p hs
   have hs':s.slot d=bl p:=hs
   try simp only[hs]
   cases p<;>cases want<;>simp only[cond_true,cond_false] at h
   ·rw[z63 hs'] at h;rw[if_pos rfl];exact hgo h
   ·rw[z63 hs'] at h;rw[if_neg (by simp)];exact⟨_,rfl,hpass h⟩
   ·rw[z63 hs'] at h;rw[if_neg (by simp)];exact⟨_,rfl,hpass h⟩
   ·rw[z63 hs'] at h;rw[if_pos rfl];exact hgo h
  ·rename_i hs
   try simp only[hs]
   exact⟨_,rfl,hpass h⟩
  ·cases h
theorem z11b{C:Funs}(hC:C.Nat){ops:List Oper}(h:outOf E C ops o s=some u):step E (C State) ops o s some=some (s.apply o.dst u):=by
 have hgo:act E (C Out) ops o s some=some u→(act E (C State) ops o s fun u=>some (s.apply o.dst u))=some (s.apply o.dst u):=by
  intro h
  rw[z4d hC (F:=fun u=>some (s.apply o.dst u)) (G:=some) (K:=fun u=>some (s.apply o.dst u)) (fun _=>rfl),h]
  rfl
 unfold outOf at h
 unfold step
 simp only
 split at h
 ·rename_i hg
  try simp only[hg]
  exact hgo h
 ·rename_i g want hg
  try simp only[hg]
  split at h
  ·cases h
  rename_i d hd
  try simp only[hd]
  split at h
  ·rename_i p hs
   have hs':s.slot d=bl p:=hs
   try simp only[hs]
   split at h
   ·rename_i e
    subst e
    cases p<;>simp only[cond_true,cond_false]<;>rw[z63 hs']<;>exact hgo h
   ·rename_i e
    cases h
    cases p<;>cases want<;>simp only[cond_true,cond_false]<;>first|exact absurd rfl e|(rw[z63 hs'];rfl)
  ·rename_i hs
   try simp only[hs]
   cases h
   rfl
  ·cases h
structure Agree(ts bs:List Nat)(s s':State):Prop where
 sl:∀t∈ts,s.slot t=s'.slot t
 bs:∀id∈bs,s.bs[id]? =s'.bs[id]?
theorem z1er{l:List Operand}{t:Nat}:Operand.tmp t∈l→t∈z3k l:=by
 induction l with
 |nil=>intro h;cases h
 |cons x r ih=>
  intro h
  rcases List.mem_cons.1 h with e|h
  ·subst e;simp [z3k]
  ·have:=ih h
   cases x<;>simp [z3k,this]
theorem zfc{s s':State}{ts:List Nat}(h:∀t∈ts,s.slot t=s'.slot t){l:List Operand}(hl:∀t∈z3k l,t∈ts){x:Operand}(hx:x∈l):s.op1 x=s'.op1 x:=by
 cases x with
 |tmp t=>simp only[State.op1,State.opd,h t (hl t (z1er hx))]
 |_=>rfl
theorem z13z(j:Nat):shutAt [SV.undef] j=[SV.undef]:=by
 cases j<;>rfl
theorem z8o{s:State}{i j t:Nat}:(s.close1 i j).slot t=if t=i then shutAt (s.slot t) j else s.slot t:=by
 simp only[State.close1,State.slot,List.getD_eq_getElem?_getD,List.getElem?_set]
 by_cases e:t=i
 ·subst e
  rw[if_pos rfl,if_pos rfl]
  by_cases hlt:t<s.sl.length
  ·rw[if_pos hlt];rfl
  ·rw[if_neg hlt,List.getElem?_eq_none (by omega)]
   simp [z13z]
 ·rw[if_neg e,if_neg (fun h=>e h.symm)]
theorem zkh{t:Nat}:∀{c:List (Nat×Nat)} {s s':State},s.slot t=s'.slot t→(s.close c).slot t=(s'.close c).slot t
 | [],s,s',h=>h
 |(i,j)::r,s,s',h=>by
  rw[z4h,z4h]
  refine zkh (c:=r) ?_
  rw[z8o,z8o,h]
theorem zku{ts:List Nat}:∀{l:List (Nat×Operand)} {s s':State},(∀t∈ts,s.slot t=s'.slot t)→(∀t∈z3k (l.map (·.2)),t∈ts)→z1u s l=z1u s' l
 | [],s,s',h,hl=>rfl
 |(i,x)::r,s,s',h,hl=>by
  have hx:s.op1 x=s'.op1 x:=zfc h hl (by simp)
  have hr:∀c:List (Nat×Nat),z1u (s.close c) r=z1u (s'.close c) r:=fun c=>zku (fun t ht=>zkh (h t ht)) (fun t ht=>hl t (by
   cases x<;>simp [z3k,ht]))
  simp only[z1u,hx,hr]
theorem z6s{s s':State}:∀{l:List SV},(∀id∈l.flatMap ptrOf,s.box id=s'.box id)→z2d s l=z2d s' l
 | [],h=>rfl
 |v::r,h=>by
  have hr:z2d s r=z2d s' r:=z6s fun id hid=>h id (by simp only[List.flatMap_cons,List.mem_append];exact .inr hid)
  simp only[z2d,hr]
  split
  ·rfl
  ·rename_i l b _
   cases v with
   |ptr id t p=>
    have hb:s.box id=s'.box id:=h id (by simp [ptrOf])
    cases p with
    |nil=>cases b<;>simp only[hb]
    |cons _ _=>rfl
   |_=>rfl
theorem z174{C:FuncId→Fun' Out}{ops:List Oper}{s s':State}(h:Agree (looks ops o) (zv s o) s s'):act E C ops o s some=act E C ops o s' some:=by
 have hsl:∀t∈z3k o.op.operands.toList,s.slot t=s'.slot t:=fun t ht=>h.sl t (by simp only[looks,List.mem_append];exact .inl ht)
 have hop:∀x∈o.op.operands.toList,s.op1 x=s'.op1 x:=fun x hx=>zfc hsl (fun _ ht=>ht) hx
 have hbox:∀id∈zv s o,s.box id=s'.box id:=fun id hid=>by
  simp only[State.box,List.getD_eq_getElem?_getD,h.bs id hid]
 unfold act
 cases ho:o.op with
 |move x=>
  have ht:tupOf s x=tupOf s' x:=by
   cases x with
   |tmp t=>
    have:s.slot t=s'.slot t:=hsl t (by simp [ho,Op.operands,z3k])
    simp only[tupOf,this]
   |_=>rfl
  simp only;rw[hop x (by simp [ho,Op.operands]),ht]
 |assign x=>simp only;rw[hop x (by simp [ho,Op.operands])]
 |pick c x y=>simp only;rw[hop c (by simp [ho,Op.operands]),hop x (by simp [ho,Op.operands]),hop y (by simp [ho,Op.operands])]
 |binOp op T x y T'=>simp only;rw[hop x (by simp [ho,Op.operands]),hop y (by simp [ho,Op.operands])]
 |unOp op T x=>simp only;rw[hop x (by simp [ho,Op.operands])]
 |convert S T x=>
  have hx:=hop x (by simp [ho,Op.operands])
  simp only
  rw[←hx]
  split
  ·rename_i id n ta tb e
   simp only[convH,hbox id (by simp [zv,ho,e,ptrOf])]
  ·rfl
 |makeMap T r=>
  cases r with
  |some r=>rfl
  |none=>
   simp only
   cases hd:o.dst with
   |none=>rfl
   |some d=>
    have:=h.bs (d+1) (by simp [zv,ho,hd])
    simp only[newV,this]
 |lookup T x i ok=>
  cases ok with
  |true=>rfl
  |false=>
   simp only
   rw[←hop x (by simp [ho,Op.operands]),←hop i (by simp [ho,Op.operands])]
   unfold lookV z4s
   split
   ·split
    ·rename_i e
     simp only[hbox _ (by simp only[zv,ho,e,ptrOf];exact List.mem_singleton.2 rfl)]
    ·rfl
   ·rfl
 |mapUpdate T m k x=>
  simp only
  rw[←hop m (by simp [ho,Op.operands]),←hop k (by simp [ho,Op.operands]),←hop x (by simp [ho,Op.operands])]
  unfold updV z4s
  split
  ·split
   ·rename_i e
    simp only[hbox _ (by simp only[zv,ho,e,ptrOf];exact List.mem_singleton.2 rfl)]
   ·rfl
  ·rfl
 |insert T m k x=>
  simp only
  rw[←hop m (by simp [ho,Op.operands]),←hop k (by simp [ho,Op.operands]),←hop x (by simp [ho,Op.operands])]
  unfold updV z4s
  split
  ·split
   ·rename_i e
    simp only[hbox _ (by simp only[zv,ho,e,ptrOf];exact List.mem_singleton.2 rfl)]
   ·rfl
  ·rfl
 |range T x=>
  simp only
  rw[←hop x (by simp [ho,Op.operands])]
  cases hd:o.dst with
  |none=>rfl
  |some d=>
   have:=h.bs (d+1) (by simp [zv,ho,hd])
   simp only[newV,this]
 |next x str=>
  cases str with
  |false=>rfl
  |true=>
   simp only
   rw[←hop x (by simp [ho,Op.operands])]
   unfold nextV
   split
   ·rename_i e
    simp only[hbox _ (by simp only[zv,ho,e,ptrOf];exact List.mem_singleton.2 rfl)]
   ·rfl
 |makeSlice T l c=>
  simp only
  rw[←hop l (by simp [ho,Op.operands]),←hop c (by simp [ho,Op.operands])]
  cases hd:o.dst with
  |none=>rfl
  |some d=>
   have:=h.bs (d+1) (by simp [zv,ho,hd])
   simp only[makeV,newV,this]
 |load T x=>
  have hx:=hop x (by simp [ho,Op.operands])
  simp only
  rw[←hx]
  unfold load
  split
  ·split
   ·rfl
   ·rename_i id t p e
    simp only[z62,hbox id (by simp [zv,ho,e,ptrOf])]
   ·rfl
  ·rfl
 |store T x y=>
  have hx:=hop x (by simp [ho,Op.operands])
  have hy:=hop y (by simp [ho,Op.operands])
  simp only
  rw[←hx]
  unfold store
  rw[←hy]
  split
  ·split
   ·rename_i id t p e
    simp only[z4y,hbox id (by simp [zv,ho,e,ptrOf])]
   ·rfl
  ·rfl
 |nilCheck x=>simp only;rw[hop x (by simp [ho,Op.operands])]
 |fieldAddr T x j=>simp only;rw[hop x (by simp [ho,Op.operands])]
 |indexAddr T x i=>simp only;rw[hop x (by simp [ho,Op.operands]),hop i (by simp [ho,Op.operands])]
 |index T x i=>simp only;rw[hop x (by simp [ho,Op.operands]),hop i (by simp [ho,Op.operands])]
 |field T x j=>simp only;rw[hop x (by simp [ho,Op.operands])]
 |slice T x lo hi mx=>
  cases mx with
  |none=>
   simp only
   have hlo:lo.map s.op1=lo.map s'.op1:=by
    cases lo with
    |none=>rfl
    |some l=>simp only[Option.map_some,hop l (by simp [ho,Op.operands])]
   have hhi:hi.map s.op1=hi.map s'.op1:=by
    cases hi with
    |none=>rfl
    |some l=>simp only[Option.map_some,hop l (by simp [ho,Op.operands])]
   rw[←hop x (by simp [ho,Op.operands]),hlo,hhi]
   split
   ·rfl
   ·rename_i id n t e
    simp only[cutA,hbox id (by simp [zv,ho,e,ptrOf])]
   ·rfl
  |some m=>rfl
 |makeFunc fn fi ca=>
  cases fn with
  |func f=>
   simp only
   split
   ·rename_i x e1 e2
    have hm:x∈o.op.operands.toList:=by
     simp only[ho,Op.operands,Array.toList_append,List.mem_append,e2]
     exact .inr (by simp)
    rw[hop x hm]
   ·rename_i x y e1 e2
    have hm:∀z∈ [x,y],z∈o.op.operands.toList:=fun z hz=>by
     simp only[ho,Op.operands,Array.toList_append,List.mem_append,e2]
     exact .inr hz
    rw[hop x (hm x (by simp)),hop y (hm y (by simp))]
   ·rfl
  |_=>rfl
 |alloc T=>
  simp only
  cases hd:o.dst with
  |none=>split<;>simp_all
  |some d=>
   have:=h.bs (d+1) (by simp [zv,ho,hd])
   cases E.ty T<;>simp only[this]
 |box T x=>
  have hx:=hop x (by simp [ho,Op.operands])
  simp only
  cases hd:o.dst with
  |none=>split<;>simp_all
  |some d=>
   have:=h.bs (d+1) (by simp [zv,ho,hd])
   cases E.ty T<;>simp only[this,hx]
 |build T parts=>
  have hp:z1u s parts.toList=z1u s' parts.toList:=zku hsl (fun t ht=>by simpa [ho,Op.operands] using ht)
  simp only[hp]
 |buildSlice T n parts=>
  have hp:(parts.toList.map fun p=>(p.1,s.op1 p.2))=parts.toList.map fun p=>(p.1,s'.op1 p.2):=List.map_congr_left fun p hp=>by
   rw[hop p.2 (by
    simp only[ho,Op.operands]
    exact List.mem_map.2 ⟨p,hp,rfl⟩)]
  simp only[hp]
 |extract x j=>
  cases x with
  |tmp t=>
   have:s.slot t=s'.slot t:=hsl t (by simp [ho,Op.operands,z3k])
   simp only[this]
  |_=>rfl
 |call c=>
  obtain⟨callee,args,ts⟩:=c
  cases callee with
  |value x=>
   cases x with
   |func f=>
    have hargs:args.toList.map s.op1=args.toList.map s'.op1:=List.map_congr_left fun x hx=>hop x (by
     simp only[ho,Op.operands,Call.operands,Array.toList_append,List.mem_append]
     exact .inr hx)
    have hbs:z2d s (args.toList.map s'.op1)=z2d s' (args.toList.map s'.op1):=z6s fun id hid=>hbox id (by
     simp only[zv,ho,List.mem_append]
     refine .inl ?_
     rw[←hargs,List.flatMap_map] at hid
     exact hid)
    simp only[callV,hargs,hbs]
    cases hd:o.dst with
    |none=>rfl
    |some d=>
     have:=h.bs (d+1) (by simp [zv,ho,hd])
     simp only[this]
   |tmp y=>
    have hy:s.op1 (.tmp y)=s'.op1 (.tmp y):=hop (.tmp y) (by
     simp only[ho,Op.operands,Call.operands,Array.toList_append,List.mem_append]
     exact .inl (by simp))
    have hargs:args.toList.map s.op1=args.toList.map s'.op1:=List.map_congr_left fun x hx=>hop x (by
     simp only[ho,Op.operands,Call.operands,Array.toList_append,List.mem_append]
     exact .inr hx)
    simp only
    rw[←hy]
    split
    ·rename_i id f t b e
     have hbs:z2d s (args.toList.map s'.op1++ [.ptr id t []])=z2d s' (args.toList.map s'.op1++ [.ptr id t []]):=z6s fun id' hid=>hbox id' (by
      simp only[zv,ho,List.mem_append,e]
      rw[List.flatMap_append,List.mem_append] at hid
      rcases hid with hid|hid
      ·refine .inl ?_
       rw[←hargs,List.flatMap_map] at hid
       exact hid
      ·exact .inr (.inl (by simpa [ptrOf] using hid)))
     simp only[callV,hargs,hbs]
     cases hd:o.dst with
     |none=>rfl
     |some d=>
      have:=h.bs (d+1) (by simp [zv,ho,hd])
      simp only[this]
    ·rename_i f t x u y e
     have hbs:z2d s (args.toList.map s'.op1++ [.view t x,.view u y])=z2d s' (args.toList.map s'.op1++ [.view t x,.view u y]):=z6s fun id' hid=>hbox id' (by
      simp only[zv,ho,List.mem_append]
      rw[List.flatMap_append,List.mem_append] at hid
      rcases hid with hid|hid
      ·refine .inl ?_
       rw[←hargs,List.flatMap_map] at hid
       exact hid
      ·simp [ptrOf] at hid)
     simp only[callV,hargs,hbs]
     cases hd:o.dst with
     |none=>rfl
     |some d=>
      have:=h.bs (d+1) (by simp [zv,ho,hd])
      simp only[this]
    ·rfl
   |_=>rfl
  |builtin b=>
   have hargs:∀x∈args.toList,s.op1 x=s'.op1 x:=fun x hx=>hop x (by
    simp only[ho,Op.operands,Call.operands,Array.toList_append,List.mem_append]
    exact .inr hx)
   cases b with
   |copy=>
    simp only
    split
    ·rename_i d x T r e1 e2
     rw[hargs x (by rw[e1];simp),←hargs d (by rw[e1];simp)]
     unfold copyV
     split
     ·rename_i e0 t0 id n ta tb hT e
      have hb:s.box id=s'.box id:=hbox id (by simp only[zv,ho,e1,List.flatMap_cons,e,ptrOf];exact List.mem_append_left _ (List.mem_singleton.2 rfl))
      simp only[copyH,copyS,hb]
     ·rename_i e0 t0 id n ta tb l hT e
      have hb:s.box id=s'.box id:=hbox id (by simp only[zv,ho,e1,List.flatMap_cons,e,ptrOf];exact List.mem_append_left _ (List.mem_singleton.2 rfl))
      simp only[copyH,hb]
     ·rfl
    ·rfl
   |len=>
    simp only
    split
    ·rename_i x T e1 e2
     rw[hargs x (by rw[e1];simp)]
    ·rfl
   |append=>
    simp only
    split
    ·rename_i x y T U e1 e2
     rw[hargs x (by rw[e1];simp),hargs y (by rw[e1];simp)]
    ·rfl
   |max=>
    simp only
    split
    ·rename_i x y e1
     rw[hargs x (by rw[e1];simp),hargs y (by rw[e1];simp)]
    ·rfl
   |min=>
    simp only
    split
    ·rename_i x y e1
     rw[hargs x (by rw[e1];simp),hargs y (by rw[e1];simp)]
    ·rfl
   |_=>rfl
  |_=>rfl
 |_=>rfl
end Go.Ref

namespace Go.Ref
open Go
variable {P:Program} {E:Env} {X:Cfg} {s:State} {a:Act} {o:Oper} {u:Out}
def zfk:List (Nat×Nat)→Nat→List SV→List SV
 | [],_,l=>l
 |(i,j)::r,t,l=>zfk r t (if t=i then shutAt l j else l)
theorem z6u{t:Nat}:∀{c:List (Nat×Nat)} {s:State},(s.close c).slot t=zfk c t (s.slot t)
 | [],s=>rfl
 |(i,j)::r,s=>by rw[z4h,z6u (c:=r),z8o];rfl
theorem z1h{t:Nat}:∀{c:List (Nat×Nat)} {l:List SV},t∉c.map (·.1)→zfk c t l=l
 | [],l,h=>rfl
 |(i,j)::r,l,h=>by
  simp only[List.map_cons,List.mem_cons,not_or] at h
  simp only[zfk]
  rw[if_neg h.1]
  exact z1h h.2
theorem z55{d:Option Nat}:(s.apply d u).sl.length=s.sl.length:=by
 cases d with
 |none=>simp only[State.apply,State.putSlot];cases u.bx<;>simp [State.putBox,z6f]
 |some d=>simp only[State.apply,State.putSlot,List.length_set];cases u.bx<;>simp [State.putBox,z6f]
theorem z5d{d:Option Nat}{t:Nat}:(s.apply d u).slot t=if d=some t∧t<s.sl.length then u.v else zfk u.cl t (s.slot t):=by
 have hb:∀(s:State) b,(s.putBox b).slot t=s.slot t:=fun s b=>by cases b<;>rfl
 cases d with
 |none=>
  simp only[State.apply,State.putSlot,hb,z6u]
  rw[if_neg (by simp)]
 |some d=>
  simp only[State.apply]
  by_cases e:d=t
  ·subst e
   by_cases hlt:d<s.sl.length
   ·rw[if_pos ⟨rfl,hlt⟩]
    have:d<((s.close u.cl).putBox u.bx).sl.length:=by
     have:((s.close u.cl).putBox u.bx).sl.length=s.sl.length:=by cases u.bx<;>simp [State.putBox,z6f]
     omega
    simp only[State.putSlot,State.slot,List.getD_eq_getElem?_getD,List.getElem?_set_self this,Option.getD_some]
   ·rw[if_neg (fun h=>hlt h.2)]
    have:((s.close u.cl).putBox u.bx).sl.length≤d:=by
     have:((s.close u.cl).putBox u.bx).sl.length=s.sl.length:=by cases u.bx<;>simp [State.putBox,z6f]
     omega
    have h2:(((s.close u.cl).putBox u.bx).putSlot (some d) u.v).slot d=((s.close u.cl).putBox u.bx).slot d:=by
     simp only[State.putSlot,State.slot]
     rw[List.set_eq_of_length_le this]
    rw[h2,hb,z6u]
  ·rw[if_neg (fun h=>e (by injection h.1))]
   have h2:(((s.close u.cl).putBox u.bx).putSlot (some d) u.v).slot t=((s.close u.cl).putBox u.bx).slot t:=by
    simp only[State.putSlot,State.slot,List.getD_eq_getElem?_getD,List.getElem?_set_ne e]
   rw[h2,hb,z6u]
theorem z7s{d:Option Nat}{id:Nat}:(s.apply d u).bs[id]? =match u.bx with
 |some (id',B)=>if id'=id then(s.bs[id]?).map (fun _=>some B) else s.bs[id]?
 |none=>s.bs[id]? :=by
 have hs:∀(s:State) d l,(s.putSlot d l).bs=s.bs:=fun s d l=>by cases d<;>rfl
 simp only[State.apply,hs]
 cases hb:u.bx with
 |none=>simp only[State.putBox,z3o]
 |some b=>
  obtain⟨id',B⟩:=b
  simp only[State.putBox,z3o]
  rw[List.getElem?_set]
  by_cases e:id'=id
  ·subst e
   rw[if_pos rfl,if_pos rfl]
   by_cases hlt:id'<s.bs.length
   ·rw[if_pos hlt,List.getElem?_eq_getElem hlt];rfl
   ·rw[if_neg hlt,List.getElem?_eq_none (by omega)];rfl
  ·rw[if_neg e,if_neg e]
theorem z19y{s s':State}(h1:s.sl.length=s'.sl.length)(h2:∀t,s.slot t=s'.slot t)(h3:∀id:Nat,s.bs[id]? =s'.bs[id]?):s=s':=by
 cases s with
 |mk sl bs=>
  cases s' with
  |mk sl' bs'=>
   simp only[State.mk.injEq]
   refine⟨List.ext_getElem? fun i=> ?_,List.ext_getElem? h3⟩
   have:=h2 i
   simp only[State.slot,List.getD_eq_getElem?_getD] at this h1
   by_cases hlt:i<sl.length
   ·rw[List.getElem?_eq_getElem hlt,List.getElem?_eq_getElem (by omega)] at this⊢
    simpa using this
   ·rw[List.getElem?_eq_none (by omega),List.getElem?_eq_none (by omega)]
structure Parted(R1 W1 b1 c1 R2 W2 b2 c2:List Nat):Prop where
 h1:∀t∈W1,t∉R2∧t∉W2
 h2:∀t∈W2,t∉R1
 h3:∀id∈c1,id∉b2∧id∉c2
 h4:∀id∈c2,id∉b1
theorem zya{o1 o2:Oper}{ops:List Oper}{i1 i2:Nat}{s1 s2:State}{u1 u2:Out}(h:(zy ops o1 i1 s1 u1).apart (zy ops o2 i2 s2 u2)=true):
 Parted (looks ops o1) (o1.dst.toList++u1.cl.map (·.1)) (zv s1 o1) (u1.bx.toList.map (·.1)) (looks ops o2) (o2.dst.toList++u2.cl.map (·.1)) (zv s2 o2) (u2.bx.toList.map (·.1)):=by
 simp only[Foot.apart,zy,Bool.and_eq_true] at h
 obtain⟨g1,g2,g3,g4⟩:=h
 refine⟨fun t ht=> ?_,fun t ht=> ?_,fun t ht=> ?_,fun t ht=> ?_⟩
 ·have:=zar g1 t (by rw[z32];exact decide_eq_true ht)
  simp only[Nat.testBit_or,z32,Bool.or_eq_false_iff,decide_eq_false_iff_not] at this
  exact this
 ·have:=zar g2 t (by rw[z32];exact decide_eq_true ht)
  simpa only[z32,decide_eq_false_iff_not] using this
 ·have:=zar g3 t (by rw[z32];exact decide_eq_true ht)
  simp only[Nat.testBit_or,z32,Bool.or_eq_false_iff,decide_eq_false_iff_not] at this
  exact this
 ·have:=zar g4 t (by rw[z32];exact decide_eq_true ht)
  simpa only[z32,decide_eq_false_iff_not] using this
theorem zke{d:Option Nat}{ts bs:List Nat}(h1:∀t∈ts,t∉d.toList++u.cl.map (·.1))(h2:∀id∈bs,id∉u.bx.toList.map (·.1)):Agree ts bs (s.apply d u) s where
 sl:=fun t ht=>by
  have h:=h1 t ht
  simp only[List.mem_append,not_or] at h
  rw[z5d,if_neg (fun hc=>h.1 (by rw[hc.1];simp)),z1h h.2]
 bs:=fun id hid=>by
  have h:=h2 id hid
  rw[z7s]
  cases hb:u.bx with
  |none=>rfl
  |some b=>
   obtain⟨id',B⟩:=b
   rw[hb] at h
   simp only
   rw[if_neg (fun e=>h (by simp [e]))]
theorem z135{d1 d2:Option Nat}{u1 u2:Out}(h1:∀t∈d1.toList++u1.cl.map (·.1),t∉d2.toList++u2.cl.map (·.1))(h2:∀id∈u1.bx.toList.map (·.1),id∉u2.bx.toList.map (·.1)):
 (s.apply d1 u1).apply d2 u2=(s.apply d2 u2).apply d1 u1:=by
 refine z19y (by rw[z55,z55,z55,z55]) (fun t=> ?_) (fun id=> ?_)
 ·rw[z5d,z5d,z5d,z5d,z55,z55]
  by_cases hd1:d1=some t
  ·have hm:t∈d1.toList++u1.cl.map (·.1):=by rw[hd1];simp
   have hn:=h1 t hm
   simp only[List.mem_append,not_or] at hn
   have hd2:¬d2=some t:=fun e=>hn.1 (by rw[e];simp)
   by_cases hlt:t<s.sl.length
   ·rw[if_neg (fun h=>hd2 h.1),if_pos ⟨hd1,hlt⟩,z1h hn.2,if_pos ⟨hd1,hlt⟩]
   ·rw[if_neg (fun h=>hd2 h.1),if_neg (fun h=>hlt h.2),if_neg (fun h=>hlt h.2),if_neg (fun h=>hlt h.2),z1h hn.2,z1h hn.2]
  ·by_cases hd2:d2=some t
   ·have hn:t∉d1.toList++u1.cl.map (·.1):=fun hm=>h1 t hm (by rw[hd2];simp)
    simp only[List.mem_append,not_or] at hn
    by_cases hlt:t<s.sl.length
    ·rw[if_pos ⟨hd2,hlt⟩,if_neg (fun h=>hd1 h.1),if_pos ⟨hd2,hlt⟩,z1h hn.2]
    ·rw[if_neg (fun h=>hlt h.2),if_neg (fun h=>hlt h.2),if_neg (fun h=>hlt h.2),if_neg (fun h=>hlt h.2),z1h hn.2,z1h hn.2]
   ·rw[if_neg (fun h=>hd2 h.1),if_neg (fun h=>hd1 h.1),if_neg (fun h=>hd1 h.1),if_neg (fun h=>hd2 h.1)]
    by_cases hm:t∈u1.cl.map (·.1)
    ·have hn:=h1 t (by simp only[List.mem_append];exact .inr hm)
     simp only[List.mem_append,not_or] at hn
     rw[z1h hn.2,z1h hn.2]
    ·rw[z1h hm,z1h hm]
 ·rw[z7s,z7s,z7s,z7s]
  cases hb1:u1.bx with
  |none=>rfl
  |some b1=>
   obtain⟨id1,B1⟩:=b1
   cases hb2:u2.bx with
   |none=>rfl
   |some b2=>
    obtain⟨id2,B2⟩:=b2
    rw[hb1,hb2] at h2
    have hne:id1≠id2:=fun e=>h2 id1 (by simp) (by simp [e])
    simp only
    by_cases e1:id1=id
    ·subst e1
     rw[if_neg (fun e=>hne e.symm),if_pos rfl,if_pos rfl,if_neg (fun e=>hne e.symm)]
    ·by_cases e2:id2=id
     ·subst e2
      rw[if_pos rfl,if_neg e1,if_neg e1,if_pos rfl]
     ·rw[if_neg e2,if_neg e1,if_neg e1,if_neg e2]
theorem zkw{ops:List Oper}{s s':State}(h:∀t∈looks ops o,s.slot t=s'.slot t):zv s o=zv s' o:=by
 have hop:∀x∈o.op.operands.toList,s.op1 x=s'.op1 x:=fun x hx=>zfc (ts:=z3k o.op.operands.toList) (fun t ht=>h t (by simp only[looks,List.mem_append];exact .inl ht)) (fun _ ht=>ht) hx
 unfold zv
 cases ho:o.op with
 |load T x=>simp only;rw[hop x (by simp [ho,Op.operands])]
 |store T x y=>simp only;rw[hop x (by simp [ho,Op.operands])]
 |convert S T x=>simp only;rw[hop x (by simp [ho,Op.operands])]
 |slice T x lo hi mx=>simp only;rw[hop x (by simp [ho,Op.operands])]
 |lookup T x i ok=>simp only;rw[hop x (by simp [ho,Op.operands])]
 |mapUpdate T m k x=>simp only;rw[hop m (by simp [ho,Op.operands])]
 |insert T m k x=>simp only;rw[hop m (by simp [ho,Op.operands])]
 |next x str=>simp only;rw[hop x (by simp [ho,Op.operands])]
 |call c=>
  obtain⟨callee,args,ts⟩:=c
  have:(args.toList.map fun x=>ptrOf (s.op1 x))=args.toList.map fun x=>ptrOf (s'.op1 x):=List.map_congr_left fun x hx=>by
   rw[hop x (by
    simp only[ho,Op.operands,Call.operands,Array.toList_append,List.mem_append]
    exact .inr hx)]
  cases callee with
  |value f=>
   simp only
   have hf:s.op1 f=s'.op1 f:=hop f (by
    simp only[ho,Op.operands,Call.operands,Array.toList_append,List.mem_append]
    exact .inl (by simp))
   rw[hf,List.flatMap_def,List.flatMap_def,this]
  |builtin b=>
   cases b with
   |copy=>simp only;rw[List.flatMap_def,List.flatMap_def,this]
   |_=>rfl
  |_=>rfl
 |_=>rfl
theorem zwf{C:Funs}{ops:List Oper}{s s':State}(h:Agree (looks ops o) (zv s o) s s'):outOf E C ops o s=outOf E C ops o s':=by
 unfold outOf
 rw[z174 h]
 split
 ·rfl
 ·rename_i g want hg
  split
  ·rfl
  ·rename_i d hd
   rw[h.sl d (by simp [looks,hg,hd])]
theorem swap{C:Funs}{ops:List Oper}{o1 o2:Oper}{i1 i2:Nat}{u1 u2:Out}(h1:outOf E C ops o1 s=some u1)(h2:outOf E C ops o2 (s.apply o1.dst u1)=some u2)(h:(zy ops o1 i1 s u1).apart (zy ops o2 i2 (s.apply o1.dst u1) u2)=true):
 outOf E C ops o2 s=some u2∧zy ops o2 i2 s u2=zy ops o2 i2 (s.apply o1.dst u1) u2∧outOf E C ops o1 (s.apply o2.dst u2)=some u1∧zy ops o1 i1 (s.apply o2.dst u2) u1=zy ops o1 i1 s u1∧
  (s.apply o2.dst u2).apply o1.dst u1=(s.apply o1.dst u1).apply o2.dst u2:=by
 have hp:=zya h
 have ag1:Agree (looks ops o2) (zv (s.apply o1.dst u1) o2) (s.apply o1.dst u1) s:=zke (fun t ht hm=>(hp.h1 t hm).1 ht) (fun id hid hm=>(hp.h3 id hm).1 hid)
 have hr1:=zkw (ops:=ops) (o:=o2) ag1.sl
 have ag2:Agree (looks ops o1) (zv s o1) (s.apply o2.dst u2) s:=zke (fun t ht hm=>hp.h2 t hm ht) (fun id hid hm=>hp.h4 id hm hid)
 have hr2:=zkw (ops:=ops) (o:=o1) ag2.sl
 refine⟨by rw[←zwf ag1];exact h2,by simp only[zy,hr1],?_,by simp only[zy,hr2],(z135 (fun t ht=>(hp.h1 t ht).2) (fun id hid=>(hp.h3 id hid).2)).symm⟩
 rw[zwf (s:=s.apply o2.dst u2) (s':=s) ⟨ag2.sl,fun id hid=>ag2.bs id (by rw[←hr2];exact hid)⟩]
 exact h1
end Go.Ref

namespace Go.Ref
open Go
variable {P:Program} {E:Env} {X:Cfg} {s:State} {a:Act} {o:Oper} {u:Out}
def Runs(E:Env)(C:Funs)(ops:Array Oper):List Nat→State→List Foot→State→Prop
 | [],s,tr,z=>s=z∧tr=[]
 |i::r,s,f::tr,z=>∃u,outOf E C ops.toList (ops.getD i default) s=some u∧f=zy ops.toList (ops.getD i default) i s u∧Runs E C ops r (s.apply (ops.getD i default).dst u) tr z
 |_::_,_,[],_=>False
def aft(ops:Array Oper)(i:Nat):Nat:=z1b (ops.getD i default).after.toList
def Free(ops:Array Oper)(a b:Foot):Prop:=(aft ops b.i).testBit a.i=true∨a.apart b=true
theorem z19t{C:Funs}{ops:Array Oper}:∀{l:List Nat} {s z:State} {tr:List Foot},Runs E C ops l s tr z→tr.map (·.i)=l
 | [],s,z,tr,h=>by rw[h.2];rfl
 |i::r,s,z,f::tr,h=>by
  obtain⟨u,_,rfl,h3⟩:=h
  simp only[List.map_cons,z19t h3]
  rfl
 |_::_,s,z,[],h=>h.elim
theorem zkz{C:Funs}(hC:C.Nat){ops:Array Oper}{z:State}:∀(l:List Nat) (i:Nat) (s:State) (tr:List Foot),(∀(j:Nat) k,l[j]? =some k→k=i+j)→
 z6m E (C State) ops.toList (l.map fun k=>ops.getD k default) i s tr some=some z→∃trf,Runs E C ops l s trf z∧(∀a∈tr,∀b∈trf,Free ops a b)∧trf.Pairwise (Free ops)∧∀k∈l,Nat.ble (aft ops k+1) (bit k)=true
 | [],i,s,tr,hl,h=>by
   cases h
   exact⟨[],⟨rfl,rfl⟩,(fun a _ b hb=>by cases hb),List.Pairwise.nil,fun k hk=>by cases hk⟩
 |k::r,i,s,tr,hl,h=>by
  have hk:k=i:=by simpa using hl 0 k rfl
  subst hk
  simp only[List.map_cons,z6m] at h
  obtain⟨u,h1,h2,h3⟩:=z1a0 hC h
  obtain⟨trf,r1,r2,r3,r4⟩:=zkz hC r (k+1) _ _ (fun j k' hj=>by
   have:=hl (j+1) k' hj
   omega) h3
  simp only[fits,Bool.and_eq_true] at h2
  obtain⟨h2a,h2b⟩:=h2
  have h2b:=List.all_eq_true.1 h2b
  refine⟨zy ops.toList (ops.getD k default) k s u::trf,⟨u,h1,rfl,r1⟩,fun a ha b hb=> ?_,?_,fun k' hk'=> ?_⟩
  ·rcases List.mem_cons.1 hb with rfl|hb
   ·have:=h2b a ha
    simp only[Bool.or_eq_true] at this
    exact this
   ·exact r2 a (List.mem_cons_of_mem _ ha) b hb
  ·exact List.pairwise_cons.2 ⟨fun b hb=>r2 _ (by simp) b hb,r3⟩
  ·rcases List.mem_cons.1 hk' with rfl|hk'
   ·exact h2a
   ·exact r4 k' hk'
theorem z10e{C:Funs}{ops:Array Oper}{z:State}{i:Nat}{q:List Nat}:∀(p:List Nat) (s:State) (tr:List Foot),Runs E C ops (p++i::q) s tr z→(∀(tp:List Foot) f tq,tr=tp++f::tq→tp.length=p.length→∀a∈tp,a.apart f=true)→
 ∃tp f tq u,tr=tp++f::tq∧tp.length=p.length∧outOf E C ops.toList (ops.getD i default) s=some u∧f=zy ops.toList (ops.getD i default) i s u∧Runs E C ops (p++q) (s.apply (ops.getD i default).dst u) (tp++tq) z
 | [],s,[],h,hap=>h.elim
 | [],s,f::tr,h,hap=>by
   obtain⟨u,h1,h2,h3⟩:=h
   exact⟨[],f,tr,u,rfl,rfl,h1,h2,h3⟩
 |j::p,s,[],h,hap=>h.elim
 |j::p,s,g::tr,h,hap=>by
  obtain⟨uj,h1,h2,h3⟩:=h
  obtain⟨tp,f,tq,u,e1,e2,k1,k2,k3⟩:=z10e p _ tr h3 (fun tp f tq e hl a ha=>hap (g::tp) f tq (by rw[e];rfl) (by simp [hl]) a (List.mem_cons_of_mem _ ha))
  have hg:=hap (g::tp) f tq (by rw[e1];rfl) (by simp [e2]) g (by simp)
  rw[h2,k2] at hg
  obtain⟨w1,w2,w3,w4,w5⟩:=swap h1 k1 hg
  refine⟨g::tp,f,tq,u,by rw[e1];rfl,by simp [e2],w1,by rw[k2,w2],uj,w3,by rw[h2,w4],?_⟩
  rw[w5]
  exact k3
theorem z1el{l:List Nat}{i:Nat}(h:i∈l):∃p q,l=p++i::q:=List.append_of_mem h
theorem z13l{p q:List Nat}{i:Nat}(h:(p++i::q).Nodup):(p++i::q).filter (fun j=> !(Nat.beq j i))=p++q:=by
 have h':=List.nodup_append.1 h
 have hp:∀j∈p,j≠i:=fun j hj=>h'.2.2 j hj i (by simp)
 have hq:∀j∈q,j≠i:=fun j hj e=>by
  have:=(List.nodup_cons.1 h'.2.1).1
  rw[e] at hj;exact this hj
 rw[List.filter_append,List.filter_cons]
 have hb:∀j,j≠i→(!(Nat.beq j i))=true:=fun j hj=>by
  cases hh:Nat.beq j i with
  |false=>rfl
  |true=>exact absurd (Nat.eq_of_beq_eq_true hh) hj
 rw[List.filter_eq_self.2 (fun j hj=>hb j (hp j hj)),List.filter_eq_self.2 (fun j hj=>hb j (hq j hj))]
 have:(!(Nat.beq i i))=false:=by simp
 rw[this]
 simp
def rest(n:Nat)(listed:Array Bool):List Nat:=(List.range n).filter fun i=> !listed.getD i true
theorem z1eh{n:Nat}{listed:Array Bool}(hs:listed.size=n){i:Nat}{p q:List Nat}(h:rest n listed=p++i::q):rest n (listed.setIfInBounds i true)=p++q:=by
 have hnd:(rest n listed).Nodup:=List.nodup_range.filter _
 rw[h] at hnd
 rw[←z13l hnd,←h]
 simp only[rest,List.filter_filter]
 refine List.filter_congr fun j hj=> ?_
 have hjn:=List.mem_range.1 hj
 by_cases e:j=i
 ·subst e
  have:(listed.setIfInBounds j true).getD j true=true:=by simp [Array.getD_eq_getD_getElem?,hs,hjn]
  rw[this];simp
 ·have h1:(listed.setIfInBounds i true).getD j true=listed.getD j true:=by
   simp only[Array.getD_eq_getD_getElem?]
   rw[Array.getElem?_setIfInBounds_ne (fun h=>e h.symm)]
  have h2:Nat.beq j i=false:=by
   cases hh:Nat.beq j i with
   |false=>rfl
   |true=>exact absurd (Nat.eq_of_beq_eq_true hh) e
  rw[h1,h2];simp
theorem zwj{ops:Array Oper}{listed:Array Bool}{i:Nat}(h:i∈Region.ready .any ops listed):i∈rest ops.size listed∧∀e∈(ops.getD i default).after.toList,Region.binds .any e=true→listed.getD e.on false=true:=by
 unfold Region.ready at h
 obtain⟨h1,h2⟩:=List.mem_filter.1 h
 have hi:=List.mem_range.1 h1
 rw[Bool.and_eq_true] at h2
 refine⟨List.mem_filter.2 ⟨h1,h2.1⟩,fun e he hb=> ?_⟩
 have h3:=h2.2
 rw[Array.getElem?_eq_getElem hi] at h3
 simp only[Option.map_some,Option.getD_some] at h3
 have hget:ops.getD i default=ops[i]:=by simp [hi]
 rw[hget] at he
 have h4:=Array.all_eq_true_iff_forall_mem.1 h3 e (by simpa using he)
 rw[hb] at h4
 simpa using h4
theorem z1eg{ops:Array Oper}{listed:Array Bool}{i:Nat}(h:i∈rest ops.size listed)(ha:∀e∈(ops.getD i default).after.toList,Region.binds .any e=true→listed.getD e.on false=true):i∈Region.ready .any ops listed:=by
 obtain⟨h1,h2⟩:=List.mem_filter.1 h
 have hi:=List.mem_range.1 h1
 refine List.mem_filter.2 ⟨h1,?_⟩
 rw[Bool.and_eq_true]
 refine⟨h2,?_⟩
 have hget:ops.getD i default=ops[i]:=by simp [hi]
 rw[Array.getElem?_eq_getElem hi]
 simp only[Option.map_some,Option.getD_some]
 refine Array.all_eq_true_iff_forall_mem.2 fun e he=> ?_
 cases hb:Region.binds .any e with
 |false=>rfl
 |true=>
  rw[ha e (by rw[hget];simpa using he) hb]
  simp
theorem z1dc(hE:EnvOk P E){C:Funs}(hC:C.Nat)(hf:∀f,Owes P C f){ops:Array Oper}{z:State}{Q:Exit→Act→World→Prop}(hlow:∀k,k<ops.size→Nat.ble (aft ops k+1) (bit k)=true):
 ∀(fuel:Nat) (listed:Array Bool) (X:Cfg) (s:State) (a:Act) (tr:List Foot),Rel X s a→listed.size=ops.size→fuel=(rest ops.size listed).length→Runs E C ops (rest ops.size listed) s tr z→tr.Pairwise (Free ops)→
  (∀Y a',Ext X Y→Rel Y z a'→Q .normal a' Y.w)→wpAny P .any ops Q fuel listed a X.w:=by
 intro fuel
 have done:∀(listed:Array Bool),listed.size=ops.size→Region.ready .any ops listed=[]→rest ops.size listed=[]:=by
  intro listed hs hr
  rcases hl:rest ops.size listed with _|⟨i,r⟩
  ·rfl
  have hmem:i∈rest ops.size listed:=by rw[hl];simp
  have hin:=List.mem_range.1 (List.mem_filter.1 hmem).1
  have hready:i∈Region.ready .any ops listed:=by
   refine z1eg hmem fun e he hb=> ?_
   have hlt:e.on<i:=z17f (hlow i hin) (zuu _ e he hb)
   cases hx:listed.getD e.on false with
   |true=>rfl
   |false=>
    exfalso
    have hlt2:e.on<listed.size:=by omega
    have hx2:listed.getD e.on true=false:=by
     simp only[Array.getD_eq_getD_getElem?,Array.getElem?_eq_getElem hlt2,Option.getD_some] at hx⊢
     exact hx
    have hm:e.on∈rest ops.size listed:=List.mem_filter.2 ⟨List.mem_range.2 (by omega),by rw[hx2];rfl⟩
    have hsorted:(rest ops.size listed).Pairwise (· < ·):=List.pairwise_lt_range.filter _
    rw[hl] at hsorted hm
    rcases List.mem_cons.1 hm with e1|hm
    ·omega
    ·have:=(List.pairwise_cons.1 hsorted).1 _ hm
     omega
  rw[hr] at hready
  cases hready
 induction fuel with
 |zero=>
  intro listed X s a tr hr hs hfu hruns hpw hQ
  have hnil:rest ops.size listed=[]:=List.eq_nil_of_length_eq_zero hfu.symm
  rw[hnil] at hruns
  obtain⟨rfl,_⟩:=hruns
  refine⟨?_,hQ X a (Ext.refl X) hr⟩
  rcases hrd:Region.ready .any ops listed with _|⟨i,r⟩
  ·rfl
  ·have:=(zwj (i:=i) (by rw[hrd];simp)).1
   rw[hnil] at this
   cases this
 |succ fuel ih=>
  intro listed X s a tr hr hs hfu hruns hpw hQ
  refine⟨fun hnone=> ?_,fun i hi=> ?_⟩
  ·rw[done listed hs hnone] at hfu
   cases hfu
  ·obtain⟨hmem,haft⟩:=zwj hi
   obtain⟨p,q,hpq⟩:=z1el hmem
   have hin:=List.mem_range.1 (List.mem_filter.1 hmem).1
   rw[hpq] at hruns
   have htri:=z19t hruns
   obtain⟨tp,f,tq,u,e1,e2,k1,k2,k3⟩:=z10e p s tr hruns (fun tp f tq e hl a' ha'=>by
    have hfi:f.i=i:=by
     rw[e,List.map_append,List.map_cons] at htri
     have:=List.append_inj htri (by simp [hl])
     injection this.2
    have haj:a'.i∈p:=by
     rw[e,List.map_append,List.map_cons] at htri
     have:=List.append_inj htri (by simp [hl])
     rw[←this.1]
     exact List.mem_map.2 ⟨a',ha',rfl⟩
    rw[e] at hpw
    have hfree:=(List.pairwise_append.1 hpw).2.2 a' ha' f (by simp)
    rcases hfree with hb|hb
    ·exfalso
     rw[hfi] at hb
     obtain⟨ed,he1,he2,he3⟩:=zaq _ _ hb
     have hlist:=haft ed he1 he2
     have hrest:a'.i∈rest ops.size listed:=by rw[hpq];exact List.mem_append_left _ haj
     have hnl:=(List.mem_filter.1 hrest).2
     have hlt:=List.mem_range.1 (List.mem_filter.1 hrest).1
     have hlt2:a'.i<listed.size:=by omega
     rw[he3] at hlist
     simp only[Array.getD_eq_getD_getElem?,Array.getElem?_eq_getElem hlt2,Option.getD_some] at hlist hnl
     rw[hlist] at hnl
     cases hnl
    ·exact hb)
   have hrest:=z1eh hs hpq
   have hio:ops[i]? =some (ops.getD i default):=by simp [hin]
   refine zul hE hr hC hf hio (z11b hC k1) fun Y a' hext hrel=> ?_
   refine ih (listed.setIfInBounds i true) Y _ a' (tp++tq) hrel (by simp [hs]) ?_ (by rw[hrest];exact k3) ?_ (fun Z a2 hext2 hrel2=>hQ Z a2 (hext.trans hext2) hrel2)
   ·rw[hrest]
    rw[hpq] at hfu
    simp only[List.length_append,List.length_cons] at hfu⊢
    omega
   ·rw[e1] at hpw
    obtain⟨a1,a2,a3⟩:=List.pairwise_append.1 hpw
    exact List.pairwise_append.2 ⟨a1,(List.pairwise_cons.1 a2).2,fun x hx y hy=>a3 x hx y (List.mem_cons_of_mem _ hy)⟩
theorem z18e(hE:EnvOk P E)(hm:P.follows .mixedOrders=true){C:Funs}(hC:C.Nat)(hf:∀f,Owes P C f){id:Nat}{ops:Array Oper}{z:State}{Q:Exit→Act→World→Prop}(hr:Rel X s a)(h:z6m E (C State) ops.toList ops.toList 0 s [] some=some z)
 (hQ:∀Y a',Ext X Y→Rel Y z a'→Q .normal a' Y.w):(Code.region id ops true).wp P Q a X.w:=by
 have hrange:(List.range ops.size).map (fun i=>ops.getD i default)=ops.toList:=by
  apply List.ext_getElem?
  intro i
  rw[List.getElem?_map]
  by_cases hi:i<ops.size
  ·simp [hi]
  ·simp [hi]
 have hrest:rest ops.size (Array.replicate ops.size false)=List.range ops.size:=by
  refine List.filter_eq_self.2 fun i hi=> ?_
  have:=List.mem_range.1 hi
  simp [this]
 obtain⟨trf,r1,_,r3,r4⟩:=zkz hC (List.range ops.size) 0 s [] (fun j k hj=>by
  have:=(List.getElem?_eq_some_iff.1 hj)
  obtain⟨h1,h2⟩:=this
  simp at h2
  omega) (by rw[hrange];exact h)
 have hk:Keep s X {X with w:={X.w with drawn:=X.w.drawn+1}}:=⟨Nat.le_refl _,rfl,rfl,rfl,fun g _=>⟨rfl,rfl⟩,rfl,fun _ _ _=>rfl⟩
 refine wp_region_any hm ?_
 exact z1dc hE hC hf (fun k hk=>r4 k (List.mem_range.2 hk)) ops.size (Array.replicate ops.size false) _ s a trf (hr.keep hk) (by simp) (by rw[hrest];simp) (by rw[hrest];exact r1) r3 (fun Y a' hext hrel=>hQ Y a' (hk.ext.trans hext) hrel)
end Go.Ref

namespace Go.Ref
open Go
variable {P:Program} {E:Env} {X:Cfg} {s:State} {a:Act}
theorem Rep.flat{X Y:Cfg}:∀{t:Ty} {x:El t} {cs:List Value},t.flat=true→Rep X t x cs→Rep Y t x cs
 | .bool,_,_,_,hr=>hr
 | .int _,_,_,_,hr=>hr
 | .str,_,_,_,hr=>hr
 | .unit,_,_,_,hr=>hr
 | .sl _ _,_,_,hf,_=>by cases hf
 | .spc _ _ _,_,_,hf,_=>by cases hf
 | .arr n t,xs,cs,hf,⟨h1,h2,h3⟩=>⟨h1,h2,fun j x hj=>Rep.flat (t:=t) hf (h3 j x hj)⟩
 | .pair a b,x,cs,hf,⟨c1,c2,h1,h2,h3⟩=>by
   have hf:(a.flat&&b.flat)=true:=hf
   rw[Bool.and_eq_true] at hf
   exact⟨c1,c2,h1,Rep.flat hf.1 h2,Rep.flat hf.2 h3⟩
theorem RepV.flat{X Y:Cfg}{pl:List Nat→Place}{sv:SV}{v:Value}(hf:sv.flat=true)(hr:RepV X pl sv v):RepV Y pl sv v:=by
 cases sv with
 |dat t x own=>
  have hf:(t.flat&&own.isEmpty)=true:=hf
  rw[Bool.and_eq_true] at hf
  obtain⟨cs,h1,h2,_⟩:=hr
  have:own=[]:=List.isEmpty_iff.1 hf.2
  subst this
  exact⟨cs,h1.flat hf.1,h2,z1n⟩
 |undef=>trivial
 |skip=>exact hr
 |nilS=>exact hr
 |nilP=>exact hr
 |over=>exact hr
 |_=>cases hf
theorem zf0{o:Nat}:∀{sl:List (List SV)} {i:Nat},flatB o i sl=true→∀(j:Nat) l,sl[j]? =some l→i+j≠o→∀sv∈l,SV.flat sv=true
 | [],i,_,j,l,h,_=>by simp at h
 |l0::r,i,h,j,l,hl,hne=>by
  rw[flatB,Bool.and_eq_true,Bool.or_eq_true] at h
  cases j with
  |zero=>
   cases hl
   rcases h.1 with h1|h1
   ·exact absurd (Nat.eq_of_beq_eq_true h1) hne
   ·exact fun sv hm=>List.all_eq_true.1 h1 sv hm
  |succ j=>exact zf0 h.2 j l hl (by omega)
structure OwnRow(X:Cfg)(a:Act)(o:Nat)(e:TypeId)(xs:List Int)(own:List (List Nat))(g c:Nat)(cur:Array Value):Prop where
 val:a.tmps.getD o Go.undef= .slice (some ⟨g,0,none⟩) xs.length c
 heap:X.w.heap[g]? =some (.cells cur e (0,0))
 cell:∀(j:Nat) x,xs[j]? =some x→X.w.cell? ⟨g,j,none⟩=some (.int .u8 x)
 le:xs.length≤c
 most:c≤maxLen
 size:cur.size=c
 ow:X.ow g= .row (.c o 0 []) (xs.length*1)
 own:∀p∈own,p=[]
theorem z1hs{o:Nat}{e:TypeId}{xs:List Int}{own:List (List Nat)}(hr:Rel X s a)(hs:s.slot o=[.dat (.sl e (.int .u8)) xs own])(hown:z2l own []=true){i:Nat}(hi:i<xs.length):∃g c cur,OwnRow X a o e xs own g c cur:=by
 have hsl:=hr.slot o
 rw[hs] at hsl
 obtain⟨cs,hrep,hv,hO⟩:=(show RepV X (.c o 0) (.dat (.sl e (.int .u8)) xs own) (a.tmps.getD o Go.undef) from hsl)
 have hmem:([]:List Nat)∈own:=by
  unfold z2l at hown
  obtain⟨q,h1,h2⟩:=List.any_eq_true.1 hown
  have:q=[]:=by simpa using h2
  rw[←this];exact h1
 have hall:∀p∈own,p=[]:=fun p hp=>by
  obtain⟨e2,t2,xs2,v2,g1,g2,g3,g4⟩:=hO p hp
  cases p with
  |cons q r=>simp [El.get] at g2
  |nil=>rfl
 obtain⟨e1,t1,xs1,v1,_,hg,hc,hat⟩:=hO [] hmem
 simp only[El.get,Option.some.injEq] at hg
 cases hg
 obtain⟨A,c,hcs,hle,hel⟩:=hrep
 subst hcs
 have hv:a.tmps.getD o Go.undef= .slice A xs.length c:=hv
 have hv1:v1= .slice A xs.length c:=by
  have:([Value.slice A xs.length c]:List Value)[0]? =some v1:=hc
  simpa using this.symm
 subst hv1
 rcases hat with⟨_,h0⟩|⟨g,cap,cur,h1,h2,h3,h4,h5,h6⟩
 ·have h0:List.length xs=0:=h0
  omega
 injection h1 with k1 k2 k3
 subst k1 k3
 have h5:cur.size=c*1:=h5
 have h6:X.ow g= .row (.c o 0 []) (List.length xs*1):=h6
 have hcell:∀(j:Nat) x,xs[j]? =some x→X.w.cell? ⟨g,j,none⟩=some (.int .u8 x):=fun j x hj=>by
  obtain⟨ad,cs',e1,_,e2,e3⟩:=hel j x hj
  cases e1
  have e2:cs'=[.int .u8 x]:=e2
  subst e2
  have:=(e3 0 (.int .u8 x) rfl).2.1
  rw[z1f] at this
  simpa [Ty.cells] using this
 exact⟨g,c,cur,hv,h2,hcell,hle,h4,by omega,h6,hall⟩
theorem z1ec{o:Nat}{e:TypeId}{xs:List Int}{own:List (List Nat)}{X0:Cfg}(hF:∀g pl n,X0.ow g≠ .row pl n)(hx:Ext X0 X)(hr:Rel X s a)(ho:o<s.sl.length)(hfl:flatB o 0 s.sl=true)(hbs:s.bs.all Option.isNone=true)
 {g c:Nat} {cur:Array Value} (hR:OwnRow X a o e xs own g c cur) {i:Nat} (hi:i<xs.length) (z:Int):
   Ext X0 (X.row g (cur.toList.take i++ [Value.int .u8 z]++cur.toList.drop (i+1)).toArray)∧Rel (X.row g (cur.toList.take i++ [Value.int .u8 z]++cur.toList.drop (i+1)).toArray) ⟨s.sl.set o [.dat (.sl e (.int .u8)) (xs.set i z:List Int) own],s.bs⟩ a:=by
 obtain⟨hv,h2,hcell,hle,h4,h5,h6,hall⟩:=hR
 refine⟨?_,?_⟩
 ·
  have hother:∀b,b≠g→(X.row g (cur.toList.take i++ [Value.int .u8 z]++cur.toList.drop (i+1)).toArray).w.heap[b]? =X.w.heap[b]? :=fun b hb=>setRow_other X.w g b _ hb
  have hno:∀ad v,X0.sees ad v→ad.block≠g:=fun ad v hsee e0=>by
   have hlt:=Cfg.sees_lt hsee
   have hu:=hsee.2.2
   cases hw:X0.ow ad.block with
   |all=>have:=(hx.still ad.block hlt (by rw[hw];trivial)).1;rw[e0,h6] at this;rw[←e0,hw] at this;cases this
   |ro n=>have:=(hx.still ad.block hlt (by rw[hw];trivial)).1;rw[e0,h6] at this;rw[←e0,hw] at this;cases this
   |box id=>rw[hw] at hu;exact hu
   |row pl n=>exact hF _ _ _ hw
  refine⟨fun ad v hsee=> ?_,?_,hx.os,hx.tape,hx.output,hx.β0,fun b hb hst=> ?_⟩
  ·have h7:=hx.sees ad v hsee
   refine⟨h7.1,?_,h7.2.2⟩
   have:=h7.2.1
   simp only[World.cell?] at this⊢
   rw[hother _ (hno ad v hsee)];exact this
  ·have:=hx.size
   simpa [Cfg.row] using this
  ·have h7:=hx.still b hb hst
   have hne:b≠g:=fun e0=>by
    have h8:=h7.1
    rw[e0,h6] at h8
    rw[e0,←h8] at hst
    exact hst
   exact⟨h7.1,(hother b hne).trans h7.2⟩
 ·generalize hnew:(cur.toList.take i++ [Value.int .u8 z]++cur.toList.drop (i+1)).toArray=new
  have hnl:new.toList=cur.toList.take i++ [Value.int .u8 z]++cur.toList.drop (i+1):=by rw[←hnew]
  have hns:new.size=cur.size:=by
   have:new.toList.length=cur.toList.length:=by rw[hnl];simp;omega
   simpa using this
  have hheap:(X.row g new).w.heap[g]? =some (.cells new e (0,0)):=setRow_heap X.w g cur new e (0,0) h2
  refine⟨by simpa using hr.size,by simpa using hr.bsz,fun j l v hl hv'=> ?_,fun id B hB=> ?_,fun j l id t p hl hm=> ?_,hr.defers⟩
  ·rw[List.getElem?_set] at hl
   by_cases hoj:o=j
   ·subst hoj
    rw[if_pos rfl,if_pos ho] at hl
    cases hl
    have hvv:a.tmps.getD o Go.undef=v:=by rw[Array.getD_eq_getD_getElem?,hv'];rfl
    rw[hvv] at hv
    subst hv
    refine⟨[.slice (some ⟨g,0,none⟩) xs.length c],?_,rfl,fun p hp=> ?_⟩
    ·refine Rep.slmk (t:= .int .u8) (List.length_set ..) hle fun j x hj=>⟨⟨g,0,none⟩,[.int .u8 x],rfl,rfl,rfl,fun k w hk=> ?_⟩
     have hjl:j<xs.length:=by have:=(List.getElem?_eq_some_iff.1 hj).1;rw[List.length_set] at this;exact this
     cases k with
     |succ k=>simp at hk
     |zero=>
      have hk:Value.int .u8 x=w:=by simpa using hk
      subst hk
      refine⟨z40 rfl _,?_,?_⟩
      ·rw[z1f]
       show(X.row g new).w.cell? _=_
       simp only[World.cell?,hheap,Ty.cells]
       rw[show 0+(j*1+0)=j by omega,←Array.getElem?_toList,hnl]
       have hj:(xs.set i z)[j]? =some x:=hj
       rw[List.getElem?_set] at hj
       have hicur:i<cur.toList.length:=by simp;omega
       by_cases hij:i=j
       ·subst hij
        rw[if_pos rfl,if_pos hi] at hj
        cases hj
        rw[List.append_assoc,List.getElem?_append_right (by simp;omega)]
        have:i-(cur.toList.take i).length=0:=by simp;omega
        rw[this];rfl
       ·rw[if_neg hij] at hj
        have hc1:=hcell j x hj
        simp only[World.cell?,h2] at hc1
        rw[←Array.getElem?_toList] at hc1
        rcases Nat.lt_or_ge j i with hlt|hge
        ·rw[List.append_assoc,List.getElem?_append_left (by simp;omega),List.getElem?_take,if_pos hlt]
         exact hc1
        ·have hgt:i<j:=by omega
         rw[List.getElem?_append_right (by simp;omega),List.getElem?_drop]
         have:i+1+(j-(cur.toList.take i++ [Value.int .u8 z]).length)=j:=by simp;omega
         rw[this]
         exact hc1
      ·rw[z1f]
       show Ow.used (X.ow g) _
       rw[h6]
       show _<_
       simp only[Ty.cells]
       omega
    ·have:=hall p hp
     subst this
     refine⟨e,.int .u8,(xs.set i z:List Int),_,by simp [Ty.inb],rfl,rfl,?_⟩
     have hls:List.length (xs.set i z)=xs.length:=List.length_set ..
     rw[hls]
     exact .inr ⟨g,c,new,rfl,hheap,hle,h4,by rw[hns,h5];simp [Ty.cells],h6⟩
   ·rw[if_neg hoj] at hl
    have:=zf0 hfl j l hl (by omega)
    exact(hr.slots j l v hl hv').impF fun k sv u hk hu=>hu.flat (this sv (List.mem_of_getElem? hk))
  ·have:=List.all_eq_true.1 hbs (some B) (List.mem_of_getElem? hB)
   cases this
  ·rw[List.getElem?_set] at hl
   by_cases hoj:o=j
   ·subst hoj
    rw[if_pos rfl,if_pos ho] at hl
    cases hl
    simp at hm
   ·rw[if_neg hoj] at hl
    have:=zf0 hfl j l hl (by omega) _ hm
    cases this
theorem z35{a:Act}{d i:Nat}{v:Value}(hd:d<a.tmps.size):(a.put (some d) v).tmps.getD i Go.undef=if d=i then v else a.tmps.getD i Go.undef:=by
 simp only[Act.put,Array.getD_eq_getD_getElem?,Array.getElem?_setIfInBounds]
 split
 ·first|rfl|(rw[if_pos hd];rfl)
 ·rfl
theorem z2j{a:Act}{d:Nat}{v:Value}:(a.put (some d) v).tmps.size=a.tmps.size:=by simp [Act.put]
theorem raw{ops:Array Oper}{Q:Exit→Act→World→Prop}{i d:Nat}{rest:List Nat}{a:Act}{w:World}{o:Oper}{v:Value}(hi:ops[i]? =some o)(hd:isDst o d=true)(hrun:(execOp a.eval o).run P w= .ok (.value v) w)(K:wpOps P ops Q rest (a.put (some d) v) w):wpOps P ops Q (i::rest) a w:=by
 have hdg:o.dst=some d∧o.guard=none:=by
  unfold isDst at hd
  split at hd
  ·rename_i d' h1 h2
   exact⟨by rw[h1,Nat.eq_of_beq_eq_true hd],h2⟩
  ·cases hd
 rw[wpOps_cons]
 unfold wpOp
 simp only[hi]
 have hw:Region.wanted o (yielded ops a.tmps)=true:=by simp [Region.wanted,hdg.2]
 rw[if_pos hw]
 refine .inl ?_
 unfold Oper.wp
 rw[hrun,Oper.upon_value,hdg.1]
 exact K
theorem z3b{x:Operand}{i:Nat}(h:isTmp x i=true):x= .tmp i:=by
 unfold isTmp at h
 split at h
 ·rw[Nat.eq_of_beq_eq_true h]
 ·cases h
theorem z12c{T:TypeId}(h:isU8 E T=true):E.ty T=some (.int .u8):=by
 unfold isU8 at h
 split at h
 ·assumption
 ·cases h
theorem zp9{T:TypeId}(h:zk6 E T=true):∃e,E.ty T=some (.sl e (.int .u8)):=by
 unfold zk6 at h
 split at h
 ·exact⟨_,by assumption⟩
 ·cases h
theorem z3c{o:Oper}{d x:Nat}(h:z80 o d x=true):isDst o d=true∧∀(a:Act) (w:World),(execOp a.eval o).run P w= .ok (.value (a.tmps.getD x Go.undef)) w:=by
 unfold z80 at h
 rw[Bool.and_eq_true] at h
 refine⟨h.1,fun a w=> ?_⟩
 have h:=h.2
 split at h
 ·rename_i y ho
  have:=z3b h
  subst this
  simp only[execOp,ho]
  rfl
 ·cases h
theorem zk8(hE:EnvOk P E){o:Oper}{d x:Nat}(h:isLen E o d x=true):isDst o d=true∧∀(a:Act) (w:World) A n c,a.tmps.getD x Go.undef= .slice A n c→(execOp a.eval o).run P w= .ok (.value (.int .i64 n)) w:=by
 unfold isLen at h
 rw[Bool.and_eq_true] at h
 refine⟨h.1,fun a w A n c hv=> ?_⟩
 have h:=h.2
 split at h
 ·rename_i asv ts ho
  split at h
  ·rename_i y T hxs hTs
   have has:asv= #[y]:=by rw[←Array.toArray_toList (xs:=asv),hxs]
   have hts:ts= #[T]:=by rw[←Array.toArray_toList (xs:=ts),hTs]
   subst has hts
   rw[Bool.and_eq_true] at h
   have:=z3b h.1
   subst this
   obtain⟨e,hT⟩:=zp9 h.2
   have hu:=(hE.ty T _ hT).und
   have ev:a.eval (.tmp x)= .slice A n c:=hv
   simp [execOp,ho,resolve,invoke,builtin,Builtin.len_,ev,run_underlying hu.1,goInt]
  ·cases h
 ·cases h
theorem zba{o:Oper}{d x:Nat}(h:zpa o d x=true):isDst o d=true∧∀(a:Act) (w:World) (n:Int),a.tmps.getD x Go.undef= .int .i64 n→(execOp a.eval o).run P w= .ok (.value (.int .i64 (IntKind.i64.wrap (n-1)))) w:=by
 unfold zpa at h
 rw[Bool.and_eq_true] at h
 refine⟨h.1,fun a w n hv=> ?_⟩
 have h:=h.2
 split at h
 ·rename_i T y c T' ho
  rw[Bool.and_eq_true] at h
  have:=z3b h.1
  subst this
  have hc:=of_decide_eq_true h.2
  subst hc
  have ev:a.eval (.tmp x)= .int .i64 n:=hv
  have ec:a.eval (.const (.int .i64 1))= .int .i64 1:=rfl
  obtain⟨sv,v,hl,hv2,_,hr,_⟩:=zln (P:=P) (op:= .sub) (T:=T) (k:= .i64) (k':= .i64) (m:=n) (n:=1) w rfl
  cases hl
  have:=z2f (hr ⟨w,fun _=> .all,fun _=>none⟩ (fun _=> .r 0 []))
  subst this
  simp only[execOp,ho,Sem.run_bind,ev,ec,z3x,Result.andThen_ok,hv2,Sem.run_pure]
 ·cases h
theorem z12r{o:Oper}{d x y:Nat}(h:isSum o d x y=true):isDst o d=true∧∀(a:Act) (w:World) (n m:Int),a.tmps.getD x Go.undef= .int .u8 n→a.tmps.getD y Go.undef= .int .u8 m→(execOp a.eval o).run P w= .ok (.value (.int .u8 (IntKind.u8.wrap (n+m)))) w:=by
 unfold isSum at h
 rw[Bool.and_eq_true] at h
 refine⟨h.1,fun a w n m hv hu=> ?_⟩
 have h:=h.2
 split at h
 ·rename_i T u v T' ho
  rw[Bool.and_eq_true] at h
  have:=z3b h.1
  subst this
  have:=z3b h.2
  subst this
  have ev:a.eval (.tmp x)= .int .u8 n:=hv
  have eu:a.eval (.tmp y)= .int .u8 m:=hu
  obtain⟨sv,v,hl,hv2,_,hr,_⟩:=zln (P:=P) (op:= .add) (T:=T) (k:= .u8) (k':= .u8) (m:=n) (n:=m) w rfl
  cases hl
  have:=z2f (hr ⟨w,fun _=> .all,fun _=>none⟩ (fun _=> .r 0 []))
  subst this
  simp only[execOp,ho,Sem.run_bind,ev,eu,z3x,Result.andThen_ok,hv2,Sem.run_pure]
 ·cases h
theorem zoh(hE:EnvOk P E){o:Oper}{d x i:Nat}(h:isAt E o d x i=true):isDst o d=true∧∀(a:Act) (w:World) (g n c:Nat) (j:Int),a.tmps.getD x Go.undef= .slice (some ⟨g,0,none⟩) n c→a.tmps.getD i Go.undef= .int .i64 j→0≤j→j<n→(execOp a.eval o).run P w= .ok (.value (.pointer (some ⟨g,j.toNat,none⟩))) w:=by
 unfold isAt at h
 rw[Bool.and_eq_true] at h
 refine⟨h.1,fun a w g n c j hv hj h0 h1=> ?_⟩
 have h:=h.2
 split at h
 ·rename_i T y z ho
  rw[Bool.and_eq_true,Bool.and_eq_true] at h
  have:=z3b h.1
  subst this
  have:=z3b h.2.1
  subst this
  obtain⟨e,hT⟩:=zp9 h.2.2
  have hu:=(hE.ty T _ hT).und
  have ev:a.eval (.tmp x)= .slice (some ⟨g,0,none⟩) n c:=hv
  have ei:a.eval (.tmp i)= .int .i64 j:=hj
  simp only[execOp,ho,Sem.run_bind,Instr.indexAt,ei,ev,asIntOf,Sem.run_pure,Result.andThen_ok,run_underlying hu.1,Sem.run_ite,h0,h1,and_self,if_true,z15 hE hu.2]
  simp [Ty.cells,z1f]
 ·cases h
theorem zzj(hE:EnvOk P E){o:Oper}{d x:Nat}(h:zzg E o d x=true):isDst o d=true∧∀(a:Act) (w:World) (g j:Nat) (y:Int),a.tmps.getD x Go.undef= .pointer (some ⟨g,j,none⟩)→w.cell? ⟨g,j,none⟩=some (.int .u8 y)→(execOp a.eval o).run P w= .ok (.value (.int .u8 y)) w:=by
 unfold zzg at h
 rw[Bool.and_eq_true] at h
 refine⟨h.1,fun a w g j y hv hc=> ?_⟩
 have h:=h.2
 split at h
 ·rename_i T z ho
  rw[Bool.and_eq_true] at h
  have:=z3b h.1
  subst this
  have hT:=z12c h.2
  have ev:a.eval (.tmp x)= .pointer (some ⟨g,j,none⟩):=hv
  have hl:=z3w (P:=P) hE hT (X:=⟨w,fun _=> .all,fun _=>none⟩) (x:=y) (cs:=[.int .u8 y]) rfl (ad:=⟨g,j,none⟩) (w:=w) (fun k v hk=>by
   cases k with
   |zero=>rw[z1f];have hk:Value.int .u8 y=v:=by simpa using hk
          rw[←hk];exact hc
   |succ k=>simp at hk)
  simp only[execOp,ho,Sem.run_bind,Instr.loadAt,ev,Instr.sureAddr,Sem.run_pure,Result.andThen_ok,hl]
  rfl
 ·cases h
theorem z1hu(hE:EnvOk P E){ops:Array Oper}{Q:Exit→Act→World→Prop}{o:Oper}{x y:Nat}(h:isPut E o x y=true){k:Nat}{rest:List Nat}(hi:ops[k]? =some o){a:Act}{X:Cfg}{g j:Nat}{z:Int}{cur:Array Value}{T':TypeId}(hv:a.tmps.getD x Go.undef= .pointer (some ⟨g,j,none⟩))(hz:a.tmps.getD y Go.undef= .int .u8 z)(hg:X.w.heap[g]? =some (.cells cur T' (0,0)))(hj:j+1≤cur.size)
 (K:wpOps P ops Q rest (a.put none Go.undef) (X.row g (cur.toList.take j++ [Value.int .u8 z]++cur.toList.drop (j+1)).toArray).w):wpOps P ops Q (k::rest) a X.w:=by
 unfold isPut at h
 rw[Bool.and_eq_true] at h
 have hdg:o.dst=none∧o.guard=none:=by
  have h:=h.1
  split at h
  ·exact⟨by assumption,by assumption⟩
  ·cases h
 have h:=h.2
 rw[wpOps_cons]
 unfold wpOp
 simp only[hi]
 have hw:Region.wanted o (yielded ops a.tmps)=true:=by simp [Region.wanted,hdg.2]
 rw[if_pos hw]
 refine .inl ?_
 unfold Oper.wp
 split at h
 ·rename_i T u v ho
  rw[Bool.and_eq_true,Bool.and_eq_true] at h
  have:=z3b h.1
  subst this
  have:=z3b h.2.1
  subst this
  have hT:=z12c h.2.2
  have ev:a.eval (.tmp x)= .pointer (some ⟨g,j,none⟩):=hv
  have ez:a.eval (.tmp y)= .int .u8 z:=hz
  have hst:=z5n (P:=P) hE hT (X:=X) (x:=z) (cs:=[.int .u8 z]) rfl (off:=j) (w:=X.w) (r:=g) (cur:=cur) (T':=T') hg hj
  have hmk:mkv (.int .u8) [.int .u8 z]= .int .u8 z:=rfl
  rw[hmk] at hst
  have hrun:(execOp a.eval o).run P X.w= .ok .skip (X.row g (cur.toList.take j++ [Value.int .u8 z]++cur.toList.drop (j+1)).toArray).w:=by
   simp only[execOp,ho,Sem.run_bind,Instr.storeAt,ev,Instr.sureAddr,Sem.run_pure,Result.andThen_ok,ez,hst]
   rfl
  rw[hrun,Oper.upon_skip,hdg.1]
  exact K
 ·cases h
theorem zw8:∀(n m:Nat) (sl:List (List SV)),(killN n m sl).length=sl.length
 |0,m,sl=>rfl
 |n+1,m,sl=>by rw[killN,zw8 n (m+1),List.length_set]
def dead(s:State)(d:Nat):State:=s.putSlot (some d) [.undef]
theorem Rel.dead(hr:Rel X s a)(d:Nat)(v:Value):Rel X (Ref.dead s d) (a.put (some d) v):=hr.put (fun _ _=>trivial) (fun id t p hm=>by simp at hm)
theorem z1a4(hE:EnvOk P E){X0:Cfg}(hF:∀g pl n,X0.ow g≠ .row pl n)(hx:Ext X0 X)(hr:Rel X s a){q:Nat×Nat×Nat}{id:Nat}{ops:Array Oper}{s':State}(h:tailV E q ops.toList s some=some s'){Q:Exit→Act→World→Prop}(hQ:∀Y a',Ext X0 Y→Rel Y s' a'→Q .normal a' Y.w):(Code.region id ops false).wp P Q a X.w:=by
 obtain⟨o,x,m⟩:=q
 unfold tailV at h
 simp only at h
 cases hok:z10a E o x m ops.toList with
 |false=>rw[hok] at h;cases h
 |true=>
 rw[hok,cond_true] at h
 cases hb:(Nat.ble (o+1) m&&(Nat.ble (x+1) m&&(!(Nat.beq o x)&&Nat.ble (m+13) s.sl.length))) with
 |false=>rw[hb] at h;cases h
 |true=>
 rw[hb,cond_true] at h
 simp only[Bool.and_eq_true,Bool.not_eq_true',Nat.ble_eq] at hb
 obtain⟨hom,hxm,hox,hml⟩:=hb
 split at h
 case h_2=>cases h
 rename_i et xs own y ow2 hso hsx
 cases hown:z2l own [] with
 |false=>rw[hown] at h;cases h
 |true=>
 rw[hown,cond_true] at h
 cases hfl:(flatB o 0 (killN 13 m s.sl)&&s.bs.all Option.isNone) with
 |false=>rw[hfl] at h;cases h
 |true=>
 rw[hfl,cond_true] at h
 rw[Bool.and_eq_true] at hfl
 obtain⟨h0,h1,h⟩:=z2r h
 cases h
 generalize hj:IntKind.i64.wrap ((List.length xs:Int)-1)=j at h0 h1
 have hi:j.toNat<xs.length:=by omega
 obtain⟨g,c,cur,hR⟩:=z1hs hr hso hown hi
 have hsz:m+13≤a.tmps.size:=by rw[←hr.size];exact hml
 have hy:a.tmps.getD x Go.undef= .int .u8 y:=by
  have hsl:=hr.slot x
  rw[hsx] at hsl
  exact z2f (show RepV X (.c x 0) (.dat (.int .u8) y ow2) _ from hsl)
 have hgx:xs[j.toNat]? =some (xs.getD j.toNat 0):=by rw[List.getD_eq_getElem?_getD,List.getElem?_eq_getElem hi];rfl
 have hcx:=hR.cell _ _ hgx
 unfold z10a at hok
 split at hok
 case h_2=>cases hok
 rename_i o0 o1 o2 o3 o4 o5 o6 o7 o8 o9 o10 o11 o12 o13 hops
 simp only[Bool.and_eq_true] at hok
 obtain⟨k0,k1,k2,k3,k4,k5,k6,k7,k8,k9,k10,k11,k12,k13⟩:=hok
 have hget:∀i,ops[i]? =([o0,o1,o2,o3,o4,o5,o6,o7,o8,o9,o10,o11,o12,o13]:List Oper)[i]? :=fun i=>by rw[←Array.getElem?_toList,hops]
 have hsize:ops.size=14:=by rw[←Array.length_toList,hops];rfl
 refine wp_region ?_
 rw[hsize,show List.range 14=[0,1,2,3,4,5,6,7,8,9,10,11,12,13] from rfl]
 have vo:=hR.val
 generalize hvs:(Value.slice (some ⟨g,0,none⟩) xs.length c)=vs at vo
 refine raw (hget 0) (z3c (P:=P) k0).1 ((z3c k0).2 a X.w) ?_
 rw[vo]
 have e1:=fun i=>z35 (i:=i) (v:=vs) (show m<a.tmps.size by omega)
 have r1:=hr.dead m vs
 generalize hp1:a.put (some m) vs=a1 at e1 r1
 have z1:a1.tmps.size=a.tmps.size:=by rw[←hp1,z2j]
 refine raw (hget 1) (z3c (P:=P) k1).1 ((z3c k1).2 a1 X.w) ?_
 rw[e1,if_neg (by omega),vo]
 have e2:=fun i=>z35 (a:=a1) (i:=i) (v:=vs) (show m+1<a1.tmps.size by omega)
 have r2:=r1.dead (m+1) vs
 generalize hp2:a1.put (some (m+1)) vs=a2 at e2 r2
 have z2:a2.tmps.size=a.tmps.size:=by rw[←hp2,z2j,z1]
 refine raw (hget 2) (zk8 hE k2).1 ((zk8 hE k2).2 a2 X.w _ _ _ (by rw[e2,if_pos rfl];exact hvs.symm)) ?_
 have e3:=fun i=>z35 (a:=a2) (i:=i) (v:= .int .i64 (xs.length:Nat)) (show m+2<a2.tmps.size by omega)
 have r3:=r2.dead (m+2) (.int .i64 (xs.length:Nat))
 generalize hp3:a2.put (some (m+2)) (.int .i64 (xs.length:Nat))=a3 at e3 r3⊢
 have z3:a3.tmps.size=a.tmps.size:=by rw[←hp3,z2j,z2]
 refine raw (hget 3) (zba (P:=P) k3).1 ((zba k3).2 a3 X.w _ (by rw[e3,if_pos rfl])) ?_
 rw[hj]
 have e4:=fun i=>z35 (a:=a3) (i:=i) (v:= .int .i64 j) (show m+3<a3.tmps.size by omega)
 have r4:=r3.dead (m+3) (.int .i64 j)
 generalize hp4:a3.put (some (m+3)) (.int .i64 j)=a4 at e4 r4⊢
 have z4:a4.tmps.size=a.tmps.size:=by rw[←hp4,z2j,z3]
 have q4:∀i,i<m→a4.tmps.getD i Go.undef=a.tmps.getD i Go.undef:=fun i hi=>by rw[e4,if_neg (by omega),e3,if_neg (by omega),e2,if_neg (by omega),e1,if_neg (by omega)]
 have qm:a4.tmps.getD m Go.undef=vs:=by rw[e4,if_neg (by omega),e3,if_neg (by omega),e2,if_neg (by omega),e1,if_pos rfl]
 refine raw (hget 4) (z3c (P:=P) k4).1 ((z3c k4).2 a4 X.w) ?_
 rw[q4 o (by omega),vo]
 have e5:=fun i=>z35 (a:=a4) (i:=i) (v:=vs) (show m+4<a4.tmps.size by omega)
 have r5:=r4.dead (m+4) vs
 generalize hp5:a4.put (some (m+4)) vs=a5 at e5 r5⊢
 have z5:a5.tmps.size=a.tmps.size:=by rw[←hp5,z2j,z4]
 refine raw (hget 5) (z3c (P:=P) k5).1 ((z3c k5).2 a5 X.w) ?_
 rw[e5,if_neg (by omega),q4 o (by omega),vo]
 have e6:=fun i=>z35 (a:=a5) (i:=i) (v:=vs) (show m+5<a5.tmps.size by omega)
 have r6:=r5.dead (m+5) vs
 generalize hp6:a5.put (some (m+5)) vs=a6 at e6 r6⊢
 have z6:a6.tmps.size=a.tmps.size:=by rw[←hp6,z2j,z5]
 refine raw (hget 6) (zk8 hE k6).1 ((zk8 hE k6).2 a6 X.w _ _ _ (by rw[e6,if_pos rfl];exact hvs.symm)) ?_
 have e7:=fun i=>z35 (a:=a6) (i:=i) (v:= .int .i64 (xs.length:Nat)) (show m+6<a6.tmps.size by omega)
 have r7:=r6.dead (m+6) (.int .i64 (xs.length:Nat))
 generalize hp7:a6.put (some (m+6)) (.int .i64 (xs.length:Nat))=a7 at e7 r7⊢
 have z7:a7.tmps.size=a.tmps.size:=by rw[←hp7,z2j,z6]
 refine raw (hget 7) (zba (P:=P) k7).1 ((zba k7).2 a7 X.w _ (by rw[e7,if_pos rfl])) ?_
 rw[hj]
 have e8:=fun i=>z35 (a:=a7) (i:=i) (v:= .int .i64 j) (show m+7<a7.tmps.size by omega)
 have r8:=r7.dead (m+7) (.int .i64 j)
 generalize hp8:a7.put (some (m+7)) (.int .i64 j)=a8 at e8 r8⊢
 have z8:a8.tmps.size=a.tmps.size:=by rw[←hp8,z2j,z7]
 have q8:∀i,i≤m+3→a8.tmps.getD i Go.undef=a4.tmps.getD i Go.undef:=fun i hi=>by rw[e8,if_neg (by omega),e7,if_neg (by omega),e6,if_neg (by omega),e5,if_neg (by omega)]
 refine raw (hget 8) (zoh hE k8).1 ((zoh hE k8).2 a8 X.w g xs.length c j (by rw[e8,if_neg (by omega),e7,if_neg (by omega),e6,if_neg (by omega),e5,if_pos rfl];exact hvs.symm) (by rw[e8,if_pos rfl]) h0 h1) ?_
 have e9:=fun i=>z35 (a:=a8) (i:=i) (v:= .pointer (some ⟨g,j.toNat,none⟩)) (show m+8<a8.tmps.size by omega)
 have r9:=r8.dead (m+8) (.pointer (some ⟨g,j.toNat,none⟩))
 generalize hp9:a8.put (some (m+8)) (.pointer (some ⟨g,j.toNat,none⟩))=a9 at e9 r9⊢
 have z9:a9.tmps.size=a.tmps.size:=by rw[←hp9,z2j,z8]
 refine raw (hget 9) (zzj hE k9).1 ((zzj hE k9).2 a9 X.w g j.toNat _ (by rw[e9,if_pos rfl]) hcx) ?_
 generalize hwx:xs.getD j.toNat 0=wx
 have e10:=fun i=>z35 (a:=a9) (i:=i) (v:= .int .u8 wx) (show m+9<a9.tmps.size by omega)
 have r10:=r9.dead (m+9) (.int .u8 wx)
 generalize hp10:a9.put (some (m+9)) (.int .u8 wx)=a10 at e10 r10⊢
 have z10:a10.tmps.size=a.tmps.size:=by rw[←hp10,z2j,z9]
 refine raw (hget 10) (z3c (P:=P) k10).1 ((z3c k10).2 a10 X.w) ?_
 rw[e10,if_neg (by omega),e9,if_neg (by omega),q8 x (by omega),q4 x (by omega),hy]
 have e11:=fun i=>z35 (a:=a10) (i:=i) (v:= .int .u8 y) (show m+10<a10.tmps.size by omega)
 have r11:=r10.dead (m+10) (.int .u8 y)
 generalize hp11:a10.put (some (m+10)) (.int .u8 y)=a11 at e11 r11⊢
 have z11:a11.tmps.size=a.tmps.size:=by rw[←hp11,z2j,z10]
 refine raw (hget 11) (z12r (P:=P) k11).1 ((z12r k11).2 a11 X.w wx y (by rw[e11,if_neg (by omega),e10,if_pos rfl]) (by rw[e11,if_pos rfl])) ?_
 generalize hwz:IntKind.u8.wrap (wx+y)=wz
 have e12:=fun i=>z35 (a:=a11) (i:=i) (v:= .int .u8 wz) (show m+11<a11.tmps.size by omega)
 have r12:=r11.dead (m+11) (.int .u8 wz)
 generalize hp12:a11.put (some (m+11)) (.int .u8 wz)=a12 at e12 r12⊢
 have z12:a12.tmps.size=a.tmps.size:=by rw[←hp12,z2j,z11]
 have q12:∀i,i≤m+3→a12.tmps.getD i Go.undef=a4.tmps.getD i Go.undef:=fun i hi=>by rw[e12,if_neg (by omega),e11,if_neg (by omega),e10,if_neg (by omega),e9,if_neg (by omega),q8 i hi]
 refine raw (hget 12) (zoh hE k12).1 ((zoh hE k12).2 a12 X.w g xs.length c j (by rw[q12 m (by omega),qm];exact hvs.symm) (by rw[q12 (m+3) (by omega),e4,if_pos rfl]) h0 h1) ?_
 have e13:=fun i=>z35 (a:=a12) (i:=i) (v:= .pointer (some ⟨g,j.toNat,none⟩)) (show m+12<a12.tmps.size by omega)
 have r13:=r12.dead (m+12) (.pointer (some ⟨g,j.toNat,none⟩))
 generalize hp13:a12.put (some (m+12)) (.pointer (some ⟨g,j.toNat,none⟩))=a13 at e13 r13⊢
 have hR13:OwnRow X a13 o et xs own g c cur:=⟨by rw[e13,if_neg (by omega),q12 o (by omega),q4 o (by omega),hR.val],hR.heap,hR.cell,hR.le,hR.most,hR.size,hR.ow,hR.own⟩
 refine z1hu hE k13 (hget 13) (by rw[e13,if_pos rfl]) (by rw[e13,if_neg (by omega),e12,if_pos rfl]) hR.heap (by rw[hR.size];have:=hR.le;omega) ?_
 have hs13:Rel X ⟨killN 13 m s.sl,s.bs⟩ a13:=r13
 obtain⟨hX,hrel⟩:=z1ec hF hx hs13 (by rw[zw8];omega) hfl.1 hfl.2 hR13 hi wz
 have hfin:=hQ _ a13 hX (by
  unfold tailS
  rw[hj,hwx,hwz]
  exact hrel)
 exact hfin
end Go.Ref

namespace Go.Ref
open Go
variable {P:Program} {E:Env} {X:Cfg} {s:State} {a:Act}
structure Sole(X Y:Cfg)(g0:Nat):Prop where
 heap:∀b,b≠g0→Y.w.heap[b]? =X.w.heap[b]?
 ow:Y.ow=X.ow
 β:Y.β=X.β
theorem Sole.sees{Y:Cfg}{g0:Nat}(h:Sole X Y g0){ad:Addr}{v:Value}(hne:ad.block≠g0)(hs:X.sees ad v):Y.sees ad v:=by
 refine⟨hs.1,?_,?_⟩
 ·have:=hs.2.1
  simp only[World.cell?] at this⊢
  rw[h.heap _ hne];exact this
 ·rw[h.ow];exact hs.2.2
theorem z126{own:List (List Nat)}{p:List Nat}(h:z2l own p=true):p∈own:=by
 unfold z2l at h
 obtain⟨q,h1,h2⟩:=List.any_eq_true.1 h
 have:q=p:=by simpa using h2
 rw[←this];exact h1
def plS(pl:List Nat→Place):List Nat→Place
 |j::p=>pl ((j+1)::p)
 | []=>pl []
theorem z1e7{pl:List Nat→Place}{a b:Ty}{x:El (.pair a b)}{c1 c2:List Value}{own:List (List Nat)}(hr:Rep X a x.1 c1)(h:OwnP X pl (.pair a b) x (c1++c2) own):OwnP X (fun p=>pl (0::p)) a x.1 c1 (zfq own [0]):=fun p hp=>by
 unfold zfq at hp
 obtain⟨q,hq,rfl⟩:=List.mem_map.1 hp
 obtain⟨hq,hpre⟩:=List.mem_filter.1 hq
 match q,hpre with
 |0::q,_=>
  obtain⟨e,t',xs,v,g0,g1,g2,g3⟩:=h (0::q) hq
  have g2:(c1++c2)[a.off q]? =some v:=g2
  refine⟨e,t',xs,v,g0,g1,?_,g3⟩
  show c1[a.off q]? =some v
  rw[←g2,List.getElem?_append_left]
  obtain⟨_,k2,_⟩:=zag hr (show a.inb q from g0) (show El.get a q x.1=_ from g1)
  have k2:a.off q+1≤a.cells:=k2
  have:=hr.len
  omega
 | [],hpre=>simp at hpre
 |(j+1)::q,hpre=>simp at hpre
theorem z1e8{pl:List Nat→Place}{a b:Ty}{x:El (.pair a b)}{c1 c2:List Value}{own:List (List Nat)}(hl:c1.length=a.cells)(h:OwnP X pl (.pair a b) x (c1++c2) own):OwnP X (plS pl) b x.2 c2 (decO own):=fun p hp=>by
 unfold decO at hp
 obtain⟨q,hq,he⟩:=List.mem_filterMap.1 hp
 match q,he with
 |(j+1)::q,he=>
  cases he
  obtain⟨e,t',xs,v,g0,g1,g2,g3⟩:=h ((j+1)::q) hq
  refine⟨e,t',xs,v,g0,g1,?_,g3⟩
  have g2:(c1++c2)[a.cells+b.off (j::q)]? =some v:=g2
  rw[List.getElem?_append_right (by omega)] at g2
  rw[←g2]
  congr 1
  omega
 | [],he=>cases he
 |0::q,he=>cases he
theorem OwnP.sole{Y:Cfg}{g0:Nat}(h:Sole X Y g0){pl:List Nat→Place}(hpl:∀p n,X.ow g0≠ .row (pl p) n){t:Ty}{x:El t}{cs:List Value}{own:List (List Nat)}(ho:OwnP X pl t x cs own):OwnP Y pl t x cs own:=fun p hp=>by
 obtain⟨e,t',xs,v,k0,k1,k2,k3⟩:=ho p hp
 refine⟨e,t',xs,v,k0,k1,k2,?_⟩
 rcases k3 with ho|⟨g,cap,cur,h1,h2,h3,h4,h5,h6⟩
 ·exact .inl ho
 ·have hne:g≠g0:=fun e=>hpl p _ (e▸h6)
  exact .inr ⟨g,cap,cur,h1,(h.heap g hne).trans h2,h3,h4,h5,by rw[h.ow];exact h6⟩
theorem Rep.firm{Y:Cfg}{g0:Nat}(h:Sole X Y g0):∀{t:Ty} {x:El t} {cs:List Value} {own:List (List Nat)} {pl:List Nat→Place},(∀p n,X.ow g0≠ .row (pl p) n)→t.firm own=true→Rep X t x cs→OwnP X pl t x cs own→Rep Y t x cs
 | .bool,_,_,_,_,_,_,hr,_=>hr
 | .int _,_,_,_,_,_,_,hr,_=>hr
 | .str,_,_,_,_,_,_,hr,_=>hr
 | .unit,_,_,_,_,_,_,hr,_=>hr
 | .spc _ _ _,_,_,_,_,_,hs,_,_=>by cases hs
 | .arr n t,xs,cs,own,pl,_,hs,hr,_=>Rep.flat (t:= .arr n t) (show t.flat=true from hs) hr
 | .pair a b,x,cs,own,pl,hpl,hs,hr,ho=>by
   have hs:(a.firm (zfq own [0])&&b.firm (decO own))=true:=hs
   rw[Bool.and_eq_true] at hs
   obtain⟨c1,c2,h1,h2,h3⟩:=hr
   subst h1
   exact⟨c1,c2,rfl,Rep.firm h (pl:=fun p=>pl (0::p)) (fun p n=>hpl _ n) hs.1 h2 (z1e7 h2 ho),Rep.firm h (pl:=plS pl) (fun p n=>by cases p<;>exact hpl _ n) hs.2 h3 (z1e8 h2.len ho)⟩
 | .sl e t,xs,cs,own,pl,hpl,hs,hr,ho=>by
   have hs:(t.flat&&z2l own [])=true:=hs
   rw[Bool.and_eq_true] at hs
   obtain⟨A,c,hcs,hle,hel⟩:=hr
   subst hcs
   refine⟨A,c,rfl,hle,fun j x hj=> ?_⟩
   obtain⟨ad,cs',e1,e2,e3,e4⟩:=hel j x hj
   subst e1
   refine⟨ad,cs',rfl,e2,e3.flat hs.1,fun i v hi=>h.sees ?_ (e4 i v hi)⟩
   obtain⟨e1,t1,xs1,v1,_,hg,hc,hat⟩:=ho [] (z126 hs.2)
   simp only[El.get,Option.some.injEq] at hg
   cases hg
   have hv1:v1= .slice (some ad) xs.length c:=by
    have:([Value.slice (some ad) xs.length c]:List Value)[0]? =some v1:=hc
    simpa using this.symm
   subst hv1
   rcases hat with⟨h0,_⟩|⟨g,cap,cur,h1,h2,h3,h4,h5,h6⟩
   ·cases h0
   ·injection h1 with k1 k2 k3
    cases k1
    rw[z1f]
    intro e
    have e:g=g0:=e
    exact hpl [] _ (e▸h6)
theorem RepV.firm{Y:Cfg}{g0:Nat}(h:Sole X Y g0){pl:List Nat→Place}(hpl:∀p n,X.ow g0≠ .row (pl p) n){bs:List (Option Box)}{sv:SV}{v:Value}(hs:sv.firm bs=true)(hr:RepV X pl sv v):RepV Y pl sv v:=by
 cases sv with
 |dat t x own=>
  obtain⟨cs,h1,h2,h3⟩:=hr
  exact⟨cs,h1.firm h hpl hs h3,h2,h3.sole h hpl⟩
 |undef=>trivial
 |skip=>exact hr
 |nilS=>exact hr
 |nilP=>exact hr
 |over=>exact hr
 |ptr id t p=>
  obtain⟨r,h1,h2⟩:=hr
  exact⟨r,by rw[h.β];exact h1,h2⟩
 |_=>cases hs
theorem z140{bs:List (Option Box)}{id:Nat}{B:Box}(h:(bs.map zpp)[id]? =some (some B)):bs[id]? =some (some B)∧B.firm=true:=by
 rw[List.getElem?_map] at h
 obtain⟨b0,h0,h1⟩:=Option.map_eq_some_iff.1 h
 cases b0 with
 |none=>cases h1
 |some B0=>
  unfold zpp at h1
  simp only at h1
  cases hb:B0.firm with
  |false=>rw[hb] at h1;cases h1
  |true=>rw[hb] at h1;cases h1;exact⟨h0,hb⟩
structure OwnR(X:Cfg)(o:Nat)(e:TypeId)(k n:Nat)(v:Value)(g c:Nat)(cur:Array Value):Prop where
 val:v= .slice (some ⟨g,0,none⟩) n c
 heap:X.w.heap[g]? =some (.cells cur e (0,0))
 le:n≤c
 size:cur.size=c*k
 ow:X.ow g= .row (.c o 0 []) (n*k)
theorem own_r{o:Nat}{e:TypeId}{t:Ty}{xs:List (El t)}{own:List (List Nat)}(hr:Rel X s a)(hs:s.slot o=[.dat (.sl e t) xs own])(hown:z2l own []=true){i:Nat}(hi:i<xs.length):∃g c cur,OwnR X o e t.cells xs.length (a.tmps.getD o Go.undef) g c cur:=by
 have hsl:=hr.slot o
 rw[hs] at hsl
 obtain⟨cs,hrep,hv,hO⟩:=(show RepV X (.c o 0) (.dat (.sl e t) xs own) (a.tmps.getD o Go.undef) from hsl)
 obtain⟨e1,t1,xs1,v1,_,hg,hc,hat⟩:=hO [] (z126 hown)
 simp only[El.get,Option.some.injEq] at hg
 cases hg
 obtain⟨A,c,hcs,hle,hel⟩:=hrep
 subst hcs
 have hv:a.tmps.getD o Go.undef= .slice A xs.length c:=hv
 have hv1:v1= .slice A xs.length c:=by
  have:([Value.slice A xs.length c]:List Value)[0]? =some v1:=hc
  simpa using this.symm
 subst hv1
 rcases hat with⟨_,h0⟩|⟨g,cap,cur,h1,h2,h3,h4,h5,h6⟩
 ·have h0:List.length xs=0:=h0
  omega
 injection h1 with k1 k2 k3
 subst k1 k3
 exact⟨g,c,cur,hv,h2,hle,h5,h6⟩
theorem zzx{g:Nat}{new:Array Value}:Sole X (X.row g new) g:=⟨fun b hb=>setRow_other X.w g b _ hb,rfl,rfl⟩
theorem z1ei{X0:Cfg}(hF:∀g pl n,X0.ow g≠ .row pl n)(hx:Ext X0 X){g m:Nat}{pl:Place}{new:Array Value}(how:X.ow g= .row pl m):Ext X0 (X.row g new):=by
 have hother:∀b,b≠g→(X.row g new).w.heap[b]? =X.w.heap[b]? :=fun b hb=>setRow_other X.w g b _ hb
 have hno:∀ad v,X0.sees ad v→ad.block≠g:=fun ad v hsee e0=>by
  have hlt:=Cfg.sees_lt hsee
  have hu:=hsee.2.2
  cases hw:X0.ow ad.block with
  |all=>have:=(hx.still ad.block hlt (by rw[hw];trivial)).1;rw[e0,how] at this;rw[←e0,hw] at this;cases this
  |ro n=>have:=(hx.still ad.block hlt (by rw[hw];trivial)).1;rw[e0,how] at this;rw[←e0,hw] at this;cases this
  |box id=>rw[hw] at hu;exact hu
  |row pl n=>exact hF _ _ _ hw
 refine⟨fun ad v hsee=>zzx.sees (hno ad v hsee) (hx.sees ad v hsee),?_,hx.os,hx.tape,hx.output,hx.β0,fun b hb hst=> ?_⟩
 ·have:=hx.size
  simpa [Cfg.row] using this
 ·have h7:=hx.still b hb hst
  have hne:b≠g:=fun e0=>by
   have h8:=h7.1
   rw[e0,how] at h8
   rw[e0,←h8] at hst
   exact hst
  exact⟨h7.1,(hother b hne).trans h7.2⟩
theorem z19w(hr:Rel X s a){x g m:Nat}{new:Array Value}(how:X.ow g= .row (.c x 0 []) m):Rel (X.row g new) (s.firm x) a:=by
 have hB:Sole X (X.row g new) g:=zzx
 refine⟨by simpa [State.firm] using hr.size,by simpa [State.firm] using hr.bsz,fun j l v hl hv=> ?_,fun id B hb=> ?_,fun j l id t p hl hm=> ?_,hr.defers⟩
 ·simp only[State.firm,List.getElem?_map] at hl
  obtain⟨l0,h0,rfl⟩:=Option.map_eq_some_iff.1 hl
  unfold hold
  cases hall:l0.all (SV.firm s.bs) with
  |false=>trivial
  |true=>
   rw[cond_true]
   rw[List.getElem?_set] at h0
   by_cases hxj:x=j
   ·subst hxj
    rw[if_pos rfl] at h0
    split at h0
    ·cases h0;trivial
    ·cases h0
   ·rw[if_neg hxj] at h0
    exact(hr.slots j l0 v h0 hv).impF fun k sv u hk hu=>hu.firm hB (fun p n e=>by rw[how] at e;injection e with e _;injection e with e _;exact hxj e) (List.all_eq_true.1 hall sv (List.mem_of_getElem? hk))
 ·obtain⟨h1,h2⟩:=z140 hb
  obtain⟨r,k1,k2⟩:=hr.boxes id B h1
  unfold Box.firm at h2
  rw[Bool.and_eq_true] at h2
  have hns:B.t.isSpc=false:=by simpa using h2.1
  obtain⟨cs,T,hheap,hrep,how2,hown⟩:=k2.cells hns
  have hne:r≠g:=fun e=>by rw[e,how] at how2;cases how2
  have hpl:∀p n,X.ow g≠ .row (.b id p) n:=fun p n e=>by rw[how] at e;injection e with e _;cases e
  exact⟨r,k1,by rw[hB.ow];exact how2,Held.of hns ((hB.heap r hne).trans hheap) (hrep.firm hB hpl h2.2 hown) (hown.sole hB hpl)⟩
 ·simp only[State.firm,List.getElem?_map] at hl
  obtain⟨l0,h0,rfl⟩:=Option.map_eq_some_iff.1 hl
  unfold hold at hm
  cases hall:l0.all (SV.firm s.bs) with
  |false=>rw[hall] at hm;simp at hm
  |true=>
   rw[hall,cond_true] at hm
   have h1:=List.all_eq_true.1 hall _ hm
   unfold SV.firm at h1
   simp only at h1
   split at h1
   case h_2=>cases h1
   rename_i B hB
   have hb:=z2h (s:=s) hB
   exact⟨B,by simp only[State.firm,List.getElem?_map,hb,Option.map_some,zpp,h1,cond_true]⟩
theorem zpb{α:Type}:∀{l r:List α} {x y:α},zk7 l=some (r,x,y)→l=r++ [x,y]
 | [],_,_,_,h=>by cases h
 | [_],_,_,_,h=>by cases h
 | [a,b],_,_,_,h=>by cases h;rfl
 |a::b::c::r,_,_,_,h=>by
  simp only[zk7] at h
  split at h
  case h_2=>cases h
  rename_i l x y hl
  cases h
  have:=zpb (l:=b::c::r) hl
  rw[this];rfl
theorem z103(hE:EnvOk P E){C:Funs}(hC:C.Nat)(hf:∀f,Owes P C f){ops:Array Oper}{s':State}{Q:Exit→Act→World→Prop}{rest:List Nat}:∀(l:List Nat) (X:Cfg) (s:State) (a:Act),Rel X s a→(∀i∈l,i<ops.size)→
 steps E (C State) ops.toList (l.map fun i=>ops.getD i default) s some=some s'→(∀Y a',Ext X Y→Rel Y s' a'→wpOps P ops Q rest a' Y.w)→wpOps P ops Q (l++rest) a X.w
 | [],X,s,a,hr,_,h,hQ=>by
   cases h
   exact hQ X a (Ext.refl X) hr
 |i::r,X,s,a,hr,hl,h,hQ=>by
  simp only[List.map_cons,steps] at h
  obtain⟨s1,h1,h2⟩:=z1g (zm5 hC (F:=fun s=>steps E (C State) ops.toList (r.map fun i=>ops.getD i default) s some) (G:=some) (K:=fun s=>steps E (C State) ops.toList (r.map fun i=>ops.getD i default) s some) (fun _=>rfl)) h
  have hi:ops[i]? =some (ops.getD i default):=by
   have:=hl i (by simp)
   simp [this]
  rw[List.cons_append,wpOps_cons]
  refine zul hE hr hC hf hi h1 fun Y a' hext hrel=> ?_
  exact z103 hE hC hf r Y s1 a' hrel (fun j hj=>hl j (List.mem_cons_of_mem _ hj)) h2 fun Z a2 hext2 hrel2=>hQ Z a2 (hext.trans hext2) hrel2
theorem z1eb(hE:EnvOk P E){X0:Cfg}(hF:∀g pl n,X0.ow g≠ .row pl n)(hx:Ext X0 X)(hr:Rel X s a){ops:Array Oper}{k l:Nat}{oA oS:Oper}(hA:ops[k]? =some oA)(hS:ops[l]? =some oS){s':State}(h:pokeL E oA oS s some=some s'){Q:Exit→Act→World→Prop}(hQ:∀Y a',Ext X0 Y→Rel Y s' a'→Q .normal a' Y.w):wpOps P ops Q [k,l] a X.w:=by
 unfold pokeL at h
 split at h
 case h_2=>cases h
 rename_i T x i T' d vo hoA hoS
 cases hok:(isDst oA d&&(!(Nat.beq x d)&&noDst oS)) with
 |false=>rw[hok] at h;cases h
 |true=>
 rw[hok,cond_true] at h
 rw[Bool.and_eq_true,Bool.and_eq_true] at hok
 obtain⟨hd,hxd,hdg⟩:=hok
 have hdg:oS.dst=none∧oS.guard=none:=by
  unfold noDst at hdg
  split at hdg
  ·exact⟨by assumption,by assumption⟩
  ·cases hdg
 have hxd:x≠d:=fun e=>by rw[e] at hxd;simp at hxd
 unfold pokeE at h
 split at h
 case h_2=>cases h
 rename_i e t xs own hsx
 cases hb:(z2l own []&&t.flat) with
 |false=>rw[hb] at h;cases h
 |true=>
 rw[hb,cond_true] at h
 rw[Bool.and_eq_true] at hb
 split at h
 case h_2=>cases h
 rename_i u w hT hT'
 cases hu:(u.eqb (.sl e t)&&(w.eqb t&&Nat.ble (d+1) s.sl.length)) with
 |false=>rw[hu] at h;cases h
 |true=>
 rw[hu,cond_true] at h
 rw[Bool.and_eq_true,Bool.and_eq_true] at hu
 have:=Ty.eqb_eq hu.1
 subst this
 have:=Ty.eqb_eq hu.2.1
 subst this
 have hds:d<a.tmps.size:=by rw[←hr.size];exact Nat.le_of_ble_eq_true hu.2.2
 obtain⟨n,kk,h,hn⟩:=zlz h
 obtain⟨y,h,hy⟩:=zx h
 obtain⟨h0,h1,h⟩:=z2r h
 cases h
 have hi:n.toNat<xs.length:=by omega
 obtain⟨g,c,cur,hR⟩:=own_r hr hsx hb.1 hi
 have hin:=hn X _ _ (hr.op1 i)
 have hU:=hE.ty T _ hT
 have ev:a.eval (.tmp x)= .slice (some ⟨g,0,none⟩) xs.length c:=hR.val
 have hrunA:(execOp a.eval oA).run P X.w= .ok (.value (.pointer (some ⟨g,n.toNat*w.cells,none⟩))) X.w:=by
  have hlt:n<(xs.length:Int):=h1
  simp only[execOp,hoA,Sem.run_bind,Instr.indexAt,hin,ev,asIntOf,Sem.run_pure,Result.andThen_ok,run_underlying hU.und.1,Sem.run_ite,h0,hlt,and_self,if_true,z15 hE hU.und.2]
  simp [z1f]
 refine raw hA hd hrunA ?_
 have hr1:Rel X (s.putSlot (some d) [.undef]) (a.put (some d) (.pointer (some ⟨g,n.toNat*w.cells,none⟩))):=hr.put (fun _ _=>trivial) (fun id t p hm=>by simp at hm)
 have evd:(a.put (some d) (.pointer (some ⟨g,n.toNat*w.cells,none⟩))).eval (.tmp d)= .pointer (some ⟨g,n.toNat*w.cells,none⟩):=by
  show(a.put (some d) _).tmps.getD d Go.undef=_
  rw[z35 hds,if_pos rfl]
 generalize a.put (some d) (.pointer (some ⟨g,n.toNat*w.cells,none⟩))=a1 at hr1 evd⊢
 obtain⟨cs,rys,evy⟩:=hy X _ _ (hr1.op1 vo)
 have hle:(n.toNat+1)*w.cells≤c*w.cells:=Nat.mul_le_mul_right _ (by have:=hR.le;omega)
 rw[Nat.add_mul,Nat.one_mul] at hle
 have hst:=z5n (P:=P) hE hT' rys (r:=g) (off:=n.toNat*w.cells) (w:=X.w) hR.heap (by rw[hR.size];exact hle)
 rw[wpOps_cons]
 unfold wpOp
 simp only[hS]
 have hw:Region.wanted oS (yielded ops a1.tmps)=true:=by simp [Region.wanted,hdg.2]
 rw[if_pos hw]
 refine .inl ?_
 unfold Oper.wp
 generalize hnew:(cur.toList.take (n.toNat*w.cells)++cs++cur.toList.drop (n.toNat*w.cells+cs.length)).toArray=new at hst
 have hrun:(execOp a1.eval oS).run P X.w= .ok .skip (X.row g new).w:=by
  simp only[execOp,hoS,Sem.run_bind,Instr.storeAt,evd,Instr.sureAddr,Sem.run_pure,Result.andThen_ok,evy,hst]
  rfl
 rw[hrun,Oper.upon_skip,hdg.1]
 exact hQ _ a1 (z1ei hF hx hR.ow) (z19w hr1 hR.ow)
theorem z19g(hE:EnvOk P E){C:Funs}(hC:C.Nat)(hf:∀f,Owes P C f){X0:Cfg}(hF:∀g pl n,X0.ow g≠ .row pl n)(hx:Ext X0 X)(hr:Rel X s a){id:Nat}{ops:Array Oper}{s':State}(h:pokeR E (C State) ops.toList s some=some s'){Q:Exit→Act→World→Prop}(hQ:∀Y a',Ext X0 Y→Rel Y s' a'→Q .normal a' Y.w):(Code.region id ops false).wp P Q a X.w:=by
 unfold pokeR at h
 split at h
 case h_2=>cases h
 rename_i l oA oS hl
 obtain⟨s1,h1,h2⟩:=z1g (z6n hC (F:=fun s=>pokeL E oA oS s some) (G:=some) (K:=fun s=>pokeL E oA oS s some) (fun _=>rfl) l s) h
 have hops:=zpb hl
 have hsize:ops.size=l.length+2:=by rw[←Array.length_toList,hops];simp
 refine wp_region ?_
 have hrange:List.range ops.size=List.range l.length++ [l.length,l.length+1]:=by
  rw[hsize,List.range_succ,List.range_succ,List.append_assoc];rfl
 rw[hrange]
 have hA:ops[l.length]? =some oA:=by rw[←Array.getElem?_toList,hops,List.getElem?_append_right (Nat.le_refl _),Nat.sub_self];rfl
 have hS:ops[l.length+1]? =some oS:=by rw[←Array.getElem?_toList,hops,List.getElem?_append_right (by omega),Nat.add_sub_cancel_left];rfl
 have hmap:(List.range l.length).map (fun i=>ops.getD i default)=l:=by
  apply List.ext_getElem?
  intro i
  rw[List.getElem?_map]
  by_cases hi:i<l.length
  ·have h3:ops[i]? =l[i]? :=by rw[←Array.getElem?_toList,hops,List.getElem?_append_left hi]
   have h4:i<ops.size:=by omega
   rw[List.getElem?_range hi,←h3]
   simp [h4]
  ·rw[List.getElem?_eq_none (by simpa using hi),List.getElem?_eq_none (by omega)];rfl
 refine z103 hE hC hf (List.range l.length) X s a hr (fun i hi=>by have:=List.mem_range.1 hi;omega) (by rw[hmap];exact h1) fun Y a' hext hrel=> ?_
 exact z1eb hE hF (hx.trans hext) hrel hA hS h2 hQ
end Go.Ref

namespace Go.Ref
open Go
variable {P:Program} {E:Env} {X:Cfg} {s:State} {a:Act}
def Ex.exit':Ex→Exit
 | .normal=> .normal
 | .exit id=> .exit id
 | .ret=> .ret
theorem z1aj{Q:Exit→Act→World→Prop}{c:Code}(I:Nat→Act→World→Prop)(round:∀n a w,I n a w→∃m,n=m+1∧c.wp P (Exit.then (I m) Q) a w){n:Nat}{a:Act}{w:World}(h₀:I n a w):(Code.loop c).wp P Q a w:=by
 intro b k cs
 have key:∀n a w,I n a w→∃e a' w',Q e a' w'∧Arrives P (lone (b.at a (.code c:: .inLoop c::k)) cs w) b k cs e a' w':=by
  intro n
  induction n with
  |zero=>intro a w h;obtain⟨m,hm,_⟩:=round 0 a w h;cases hm
  |succ n ih=>
   intro a w h
   obtain⟨m,hm,hr⟩:=round (n+1) a w h
   cases hm
   obtain⟨e,a₁,w₁,hq,harr⟩:=hr b (.inLoop c::k) cs
   cases e with
   |normal=>
    obtain⟨e₂,a₂,w₂,hq₂,harr₂⟩:=ih a₁ w₁ hq
    exact⟨e₂,a₂,w₂,hq₂,.of_steps (Steps.trans harr (.one step_inLoop)) harr₂⟩
   |exit id=>exact⟨_,a₁,w₁,hq,.pass (x:= .inLoop c) rfl (fun _ _=> .inl (by simp)) harr⟩
   |goto l=>exact⟨_,a₁,w₁,hq,.pass (x:= .inLoop c) rfl (fun _ _=> .inl (by simp)) harr⟩
   |ret=>exact⟨_,a₁,w₁,hq,.pass (x:= .inLoop c) rfl (fun _ _=> .inl (by simp)) harr⟩
   |panic ch=>exact⟨_,a₁,w₁,hq,.pass (x:= .inLoop c) rfl (fun _ _=> .inl (by simp)) harr⟩
   |outgrown=>exact⟨_,a₁,w₁,hq,.pass (x:= .inLoop c) rfl (fun _ _=> .inl (by simp)) harr⟩
 obtain⟨e,a',w',hq,harr⟩:=key n a w h₀
 exact⟨e,a',w',hq,.of_steps (.one step_loop) harr⟩
theorem z6i{α:Type}(z:α)(l:List Nat):∀(xs:List α) (i j:Nat),(keepL z l i xs)[j]? =(xs[j]?).map fun x=>bif l.any (Nat.beq (i+j)) then x else z
 | [],i,j=>by simp [keepL]
 |x::r,i,0=>by simp [keepL]
 |x::r,i,j+1=>by
  simp only[keepL,List.getElem?_cons_succ]
  rw[z6i z l r (i+1) j,show i+1+j=i+(j+1) by omega]
theorem zf7{α:Type}(z:α)(l:List Nat):∀(xs:List α) (i:Nat),(keepL z l i xs).length=xs.length
 | [],i=>rfl
 |x::r,i=>by simp [keepL,zf7 z l r]
theorem zzm{p q:List Nat}:∀{l:List (List Nat)},q∈insL p l→q=p∨q∈l
 | [],h=>by simp [insL] at h;exact .inl h
 |r::l,h=>by
  simp only[insL] at h
  cases hl:ltL r p with
  |false=>rw[hl] at h;simpa using h
  |true=>
   rw[hl] at h
   rcases List.mem_cons.1 h with h|h
   ·exact .inr (by simp [h])
   ·rcases zzm h with h|h
    ·exact .inl h
    ·exact .inr (List.mem_cons_of_mem _ h)
theorem zf8{q:List Nat}:∀{l:List (List Nat)},q∈normL l→q∈l
 | [],h=>h
 |p::l,h=>by
  rcases zzm h with h|h
  ·simp [h]
  ·exact List.mem_cons_of_mem _ (zf8 h)
theorem z1e5{v:SV}{id:Nat}{t:Ty}{p:List Nat}(h:v.norm= .ptr id t p):v= .ptr id t p:=by
 cases v<;>simp [SV.norm] at h
 obtain⟨h1,h2,h3⟩:=h
 rw[h1,h2,h3]
theorem RepV.norm{pl:List Nat→Place}{sv:SV}{v:Value}(hr:RepV X pl sv v):RepV X pl sv.norm v:=by
 cases sv with
 |dat t x own=>
  obtain⟨cs,h1,h2,h3⟩:=hr
  exact⟨cs,h1,h2,fun p hp=>h3 p (zf8 hp)⟩
 |_=>exact hr
theorem RepL.norm{pl:Nat→List Nat→Place}{l:List SV}{v:Value}(hr:RepL X pl l v):RepL X pl (l.map SV.norm) v:=by
 match l,hr with
 | [s],hr=>exact RepV.norm hr
 | [],hr=>exact hr
 |x::y::r,⟨vs,h1,h2,h3⟩=>
  refine⟨vs,h1,by simpa using h2,fun j s u hs hu=> ?_⟩
  have hs:((x::y::r).map SV.norm)[j]? =some s:=hs
  rw[List.getElem?_map] at hs
  obtain⟨s0,hs0,rfl⟩:=Option.map_eq_some_iff.1 hs
  exact RepV.norm (h3 j s0 u hs0 hu)
theorem Held.less{r:Nat}{pl:List Nat→Place}{t:Ty}{x:El t}{own own':List (List Nat)}(ho:∀p∈own',p∈own)(h:Held X r pl t x own):Held X r pl t x own':=by
 unfold Held at h⊢
 split at h
 ·exact h
 ·exact h
 ·exact h
 ·exact⟨h.1,fun hm=>h.2 (ho [] hm)⟩
 ·exact h.elim
 ·obtain⟨cs,T,h1,h2,h3⟩:=h
  exact⟨cs,T,h1,h2,fun p hp=>h3 p (ho p hp)⟩
theorem Rel.norm(hr:Rel X s a):Rel X s.norm a where
 size:=by simpa [State.norm] using hr.size
 bsz:=by simpa [State.norm] using hr.bsz
 slots:=fun i l v hl hv=>by
  simp only[State.norm,List.getElem?_map] at hl
  obtain⟨l0,h0,rfl⟩:=Option.map_eq_some_iff.1 hl
  exact RepL.norm (hr.slots i l0 v h0 hv)
 boxes:=fun id B hB=>by
  simp only[State.norm,List.getElem?_map] at hB
  obtain⟨b0,h0,h1⟩:=Option.map_eq_some_iff.1 hB
  obtain⟨B0,rfl,rfl⟩:=Option.map_eq_some_iff.1 h1
  obtain⟨r,g1,g2,g3⟩:=hr.boxes id B0 h0
  exact⟨r,g1,g2,g3.less fun p hp=>zf8 hp⟩
 live:=fun i l id t p hl hm=>by
  simp only[State.norm,List.getElem?_map] at hl
  obtain⟨l0,h0,rfl⟩:=Option.map_eq_some_iff.1 hl
  obtain⟨v0,hv0,he⟩:=List.mem_map.1 hm
  rw[z1e5 he] at hv0
  obtain⟨B,hB⟩:=hr.live i l0 id t p h0 hv0
  exact⟨B.norm,by simp [State.norm,hB]⟩
 defers:=hr.defers
theorem z5l(hr:Rel X s a){l:List Nat}{R:Type}{K:State→Option R}{z:R}(h:z3h l s K=some z):∃s',K s'=some z∧Rel X s' a:=by
 unfold z3h at h
 simp only at h
 cases hb:(keepL [.undef] l 0 s.sl).all (fun v=>v.all (SV.roots l)) with
 |false=>rw[hb] at h;cases h
 |true=>
  rw[hb] at h
  refine⟨_,h,Rel.norm ?_⟩
  have hbs:s.bs=s.bs.headD none::s.bs.tail:=by
   have:=hr.bsz
   cases hs:s.bs with
   |nil=>rw[hs] at this;simp at this
   |cons b r=>rfl
  have hget:∀(id:Nat) B,(s.bs.headD none::keepL none l 0 s.bs.tail)[id]? =some (some B)→s.bs[id]? =some (some B):=by
   intro id B hB
   rw[hbs]
   cases id with
   |zero=>exact hB
   |succ id=>
    simp only[List.getElem?_cons_succ] at hB⊢
    rw[z6i] at hB
    obtain⟨x,hx,he⟩:=Option.map_eq_some_iff.1 hB
    rw[hx]
    cases hl:l.any (Nat.beq (0+id))<;>rw[hl] at he
    ·cases he
    ·rw[←he];rfl
  refine⟨by rw[zf7];exact hr.size,?_,fun i v x hv hx=> ?_,fun id B hB=>hr.boxes id B (hget id B hB),fun i v id t p hv hm=> ?_,hr.defers⟩
  ·simp only[List.length_cons,zf7,List.length_tail]
   have:=hr.bsz
   omega
  ·rw[z6i] at hv
   obtain⟨y,hy,rfl⟩:=Option.map_eq_some_iff.1 hv
   cases hl:l.any (Nat.beq (0+i)) with
   |false=>trivial
   |true=>exact hr.slots i y x hy hx
  ·have hroot:SV.roots l (.ptr id t p)=true:=by
    have:=List.all_eq_true.1 hb v (List.mem_of_getElem? hv)
    exact List.all_eq_true.1 this _ hm
   rw[z6i] at hv
   obtain⟨y,hy,he⟩:=Option.map_eq_some_iff.1 hv
   have hm':SV.ptr id t p∈y:=by
    cases hl:l.any (Nat.beq (0+i)) with
    |false=>rw[hl] at he;subst he;simp at hm
    |true=>rw[hl] at he;subst he;exact hm
   obtain⟨B,hB⟩:=hr.live i y id t p hy hm'
   refine⟨B,?_⟩
   rw[hbs] at hB
   cases id with
   |zero=>exact hB
   |succ id=>
    simp only[List.getElem?_cons_succ] at hB⊢
    rw[z6i,hB]
    have:l.any (Nat.beq id)=true:=hroot
    have h2:l.any (Nat.beq (0+id))=true:=by rw[Nat.zero_add];exact this
    simp [this]
theorem z1cy{Y:Cfg}{id:Nat}{pl:Nat→List Nat→Place}{l:List SV}{v:Value}(hr:RepL Y pl l v):RepL Y pl (clr id l) v:=by
 have key:∀(sv:SV) (q:List Nat→Place) (w:Value),RepV Y q sv w→RepV Y q (match sv with
  | .ptr j _ _=>bif Nat.beq j id then .undef else sv
  |v=>v) w:=by
  intro sv q w h
  cases sv with
  |ptr j t p=>
   simp only
   cases Nat.beq j id with
   |true=>trivial
   |false=>exact h
  |_=>exact h
 match l,hr with
 | [sv],hr=>exact key sv _ _ hr
 | [],hr=>exact hr
 |x::y::r,⟨vs,h1,h2,h3⟩=>
  refine⟨vs,h1,by simpa [clr] using h2,fun j s u hs hu=> ?_⟩
  have hs:(clr id (x::y::r))[j]? =some s:=hs
  unfold clr at hs
  rw[List.getElem?_map] at hs
  obtain⟨s0,hs0,rfl⟩:=Option.map_eq_some_iff.1 hs
  exact key s0 _ _ (h3 j s0 u hs0 hu)
theorem z1ha{id:Nat}{l:List SV}{j:Nat}{t:Ty}{p:List Nat}(h:SV.ptr j t p∈clr id l):SV.ptr j t p∈l∧j≠id:=by
 unfold clr at h
 obtain⟨s0,hs0,he⟩:=List.mem_map.1 h
 cases s0 with
 |ptr j' t' p'=>
  simp only at he
  cases hb:Nat.beq j' id with
  |true=>rw[hb] at he;cases he
  |false=>
   rw[hb] at he
   cases he
   exact⟨hs0,fun e=>Nat.ne_of_beq_eq_false hb e⟩
 |_=>simp only at he;cases he
def Cfg.still(X:Cfg)(r n:Nat):Cfg:={X with ow:=fun g=>if g=r then .ro n else X.ow g}
theorem z2m{r n id:Nat}(h:X.ow r= .box id){ad:Addr}{v:Value}(hs:X.sees ad v):(X.still r n).sees ad v:=by
 have hne:ad.block≠r:=fun e=>by
  have:=hs.2.2
  rw[e,h] at this
  exact this
 refine⟨hs.1,hs.2.1,?_⟩
 simp only[Cfg.still]
 rw[if_neg hne]
 exact hs.2.2
theorem zwp{r n id:Nat}(h:X.ow r= .box id):Ext X (X.still r n) where
 sees:=fun _ _=>z2m h
 size:=Nat.le_refl _
 os:=rfl
 tape:=rfl
 output:=rfl
 β0:=rfl
 still:=fun g _ hst=>by
  have hne:g≠r:=fun e=>by rw[e,h] at hst;exact hst
  exact⟨by simp only[Cfg.still];rw[if_neg hne],rfl⟩
theorem OwnAt.stilled{r n id:Nat}(h:X.ow r= .box id){pl:Place}{e:TypeId}{k m:Nat}{v:Value}(ho:OwnAt X pl e k m v):OwnAt (X.still r n) pl e k m v:=by
 rcases ho with ho|⟨g,cap,cur,h1,h2,h3,h4,h5,h6⟩
 ·exact .inl ho
 ·have hne:g≠r:=fun e=>by rw[e,h] at h6;cases h6
  exact .inr ⟨g,cap,cur,h1,h2,h3,h4,h5,by simp only[Cfg.still];rw[if_neg hne];exact h6⟩
theorem OwnP.stilled{r n id:Nat}(h:X.ow r= .box id){pl:List Nat→Place}{t:Ty}{x:El t}{c:List Value}{own:List (List Nat)}(ho:OwnP X pl t x c own):OwnP (X.still r n) pl t x c own:=fun p hp=>by
 obtain⟨e,t',xs,v,g0,g1,g2,g3⟩:=ho p hp
 exact⟨e,t',xs,v,g0,g1,g2,g3.stilled h⟩
theorem RepV.stilled{r n id:Nat}(h:X.ow r= .box id){pl:List Nat→Place}{sv:SV}{v:Value}(hr:RepV X pl sv v):RepV (X.still r n) pl sv v:=by
 cases sv with
 |dat t x own=>
  obtain⟨c,h1,h2,h3⟩:=hr
  exact⟨c,h1.sees_mono (fun _ _=>z2m h),h2,h3.stilled h⟩
 |view t x=>
  obtain⟨ad,c,h1,h2,h3,h4⟩:=hr
  exact⟨ad,c,h1,h2,h3.sees_mono (fun _ _=>z2m h),fun i u hi=>z2m h (h4 i u hi)⟩
 |cap f t x u y=>exact z38 (fun _ _=>z2m h) hr
 |_=>exact hr
theorem zep(l:List Nat):∀(xs:List (Option Box)) (i j:Nat),(dropB l i xs)[j]? =(xs[j]?).map fun b=>bif l.any (Nat.beq (i+j)) then b.map (fun B=>{B with own:=[]}) else b
 | [],i,j=>by simp [dropB]
 |x::r,i,0=>by simp [dropB]
 |x::r,i,j+1=>by
  simp only[dropB,List.getElem?_cons_succ]
  rw[zep l r (i+1) j,show i+1+j=i+(j+1) by omega]
theorem zvk(l:List Nat):∀(xs:List (Option Box)) (i:Nat),(dropB l i xs).length=xs.length
 | [],i=>rfl
 |x::r,i=>by simp [dropB,zvk l r]
theorem Rel.drop(hr:Rel X s a)(l:List Nat):Rel X (s.drop l) a where
 size:=hr.size
 bsz:=by simp only[State.drop,zvk];exact hr.bsz
 slots:=hr.slots
 boxes:=fun id B hB=>by
  simp only[State.drop,zep] at hB
  obtain⟨b0,h0,h1⟩:=Option.map_eq_some_iff.1 hB
  cases hl:l.any (Nat.beq (0+id)) with
  |false=>rw[hl] at h1;simp only[cond_false] at h1;subst h1;exact hr.boxes id B h0
  |true=>
   rw[hl] at h1
   simp only[cond_true] at h1
   obtain⟨B0,rfl,rfl⟩:=Option.map_eq_some_iff.1 h1
   obtain⟨r,g1,g2,g3⟩:=hr.boxes id B0 h0
   exact⟨r,g1,g2,g3.less fun p hp=>by cases hp⟩
 live:=fun i v id t p hv hm=>by
  obtain⟨B,hB⟩:=hr.live i v id t p hv hm
  simp only[State.drop,zep,hB,Option.map_some]
  cases l.any (Nat.beq (0+id))<;>exact⟨_,rfl⟩
 defers:=hr.defers
theorem z1eq(hr:Rel X s a){r:Nat}{R:Type}{K:State→Option R}{z:R}(h:thaw E r s K=some z):∃Y s',Y.w=X.w∧Ext X Y∧K s'=some z∧Rel Y s' a:=by
 unfold thaw at h
 split at h
 ·exact⟨X,s,rfl,Ext.refl X,h,hr⟩
 rename_i d T hfz
 split at h
 case h_2=>cases h
 rename_i id n ta tb e t hsl hT
 split at h
 case isFalse=>cases h
 rename_i heq
 have:=Ty.eqb_eq heq
 subst this
 split at h
 case h_2=>cases h
 rename_i B hB
 split at h
 case isFalse=>cases h
 rename_i hbt
 obtain⟨hb,rr,h1,how,cs,T',hheap,hsz,hel⟩:=z65 hr hB hbt
 generalize(Ty.cast hbt B.x:List (El ta))=xs at*
 cases hn:Nat.beq n (List.length xs) with
 |false=>rw[hn] at h;cases h
 |true=>
  rw[hn] at h
  have hn:=Nat.eq_of_beq_eq_true hn
  have hd:d<s.sl.length:=by
   rcases Nat.lt_or_ge d s.sl.length with h1|h1
   ·exact h1
   ·simp [State.slot,List.getElem?_eq_none h1] at hsl
  have hslot:=hr.slot d
  rw[hsl] at hslot
  obtain⟨r0,hβ,cap,hv,hcap⟩:=(show RepV X (.c d 0) (.ptr id (.spc (.hdr n) ta tb) []) _ from hslot)
  rw[h1] at hβ
  cases hβ
  have hlt:id<s.bs.length:=(List.getElem?_eq_some_iff.1 hb).1
  refine⟨X.still rr (xs.length*ta.cells),_,rfl,zwp how,h,?_,?_,fun i l v hl hx=> ?_,fun id' B' hB'=> ?_,fun i l j t p hl hm=> ?_,hr.defers⟩
  ·simpa using hr.size
  ·simpa using hr.bsz
  ·replace hl:((s.sl.map (clr id)).set d [.dat (.sl e ta) xs []])[i]? =some l:=hl
   rw[List.getElem?_set] at hl
   split at hl
   ·rename_i hdi
    subst hdi
    rw[if_pos (by simpa using hd)] at hl
    cases hl
    have hx':a.tmps.getD d Go.undef=v:=by
     rw[Array.getD_eq_getD_getElem?,hx];rfl
    rw[hx'] at hv
    refine⟨[v],?_,rfl,z1n⟩
    rw[hv,hn]
    refine Rep.slmk rfl (by omega) (fun j y hj=>⟨⟨rr,0,none⟩,_,rfl,rfl,(hel j y hj).sees_mono (fun _ _=>z2m how),fun i u hi=> ?_⟩)
    have hjl:=(List.getElem?_eq_some_iff.1 hj).1
    have hle:(j+1)*ta.cells≤xs.length*ta.cells:=Nat.mul_le_mul_right _ hjl
    rw[Nat.add_mul,Nat.one_mul] at hle
    rw[List.getElem?_take] at hi
    split at hi
    case isFalse=>cases hi
    rename_i hik
    rw[List.getElem?_drop] at hi
    refine⟨z40 rfl _,?_,?_⟩
    ·rw[z1f,Nat.zero_add]
     show X.w.cell? _=_
     simp only[World.cell?,hheap]
     simpa using hi
    ·rw[z1f,Nat.zero_add]
     show Ow.used (if rr=rr then .ro (xs.length*ta.cells) else X.ow rr) _
     rw[if_pos rfl]
     show j*ta.cells+i<_
     omega
   ·rw[List.getElem?_map] at hl
    obtain⟨l0,h0,rfl⟩:=Option.map_eq_some_iff.1 hl
    exact z1cy ((hr.slots i l0 v h0 hx).impF fun j sv u hm hsv=>hsv.stilled how)
  ·replace hB':(s.bs.set id none)[id']? =some (some B'):=hB'
   rw[List.getElem?_set] at hB'
   split at hB'
   ·rename_i hii
    cases hB'
   ·rename_i hii
    obtain⟨r',g1,g2,g3⟩:=hr.boxes id' B' hB'
    have hne:r'≠rr:=fun e2=>by rw[e2,how] at g2;cases g2;exact hii rfl
    exact⟨r',g1,by simp only[Cfg.still];rw[if_neg hne];exact g2,g3.move (fun _ _=>z2m how) rfl (fun cs h5=>h5.stilled how) fun _ g o ho hw=>⟨ho,by simp only[Cfg.still];rw[if_neg (fun e3=>by rw[e3,how] at hw;cases hw)];exact hw⟩⟩
  ·replace hl:((s.sl.map (clr id)).set d [.dat (.sl e ta) xs []])[i]? =some l:=hl
   rw[List.getElem?_set] at hl
   split at hl
   ·rw[if_pos (by simpa using hd)] at hl
    cases hl
    simp at hm
   ·rw[List.getElem?_map] at hl
    obtain⟨l0,h0,rfl⟩:=Option.map_eq_some_iff.1 hl
    obtain⟨hm,hne⟩:=z1ha hm
    obtain⟨B2,hB2⟩:=hr.live i l0 j t p h0 hm
    exact⟨B2,by show(s.bs.set id none)[j]? =_;rw[List.getElem?_set,if_neg (fun e=>hne e.symm)];exact hB2⟩
theorem zwz(hr:Rel X s a){id rr:Nat}{B:Box}(hb:s.bs[id]? =some (some B))(hs:B.t.isSpc=false)(h1:X.β id=some rr)(how:X.ow rr= .box id){cs:Array Value}{T:TypeId}(hheap:X.w.heap[rr]? =some (.cells cs T (0,0)))(hrep:Rep X B.t B.x cs.toList){pl:List Nat→Place}{sv:SV}{v:Value}(h:RepV X pl sv v):RepV (X.still rr cs.size) pl (z5o id B sv) v:=by
 have keep:=h.stilled (n:=cs.size) how
 cases sv with
 |ptr j t p=>
  unfold z5o
  simp only
  cases hj:Nat.beq j id with
  |false=>exact keep
  |true=>
   have:=Nat.eq_of_beq_eq_true hj
   subst this
   simp only[cond_true]
   split
   case isFalse=>trivial
   rename_i heq
   have:=Ty.eqb_eq heq
   subst this
   split
   case h_2=>trivial
   rename_i u y hget
   obtain⟨r0,hβ,hv⟩:=h
   rw[h1] at hβ
   cases hβ
   obtain⟨hv,hin⟩:=(z1j hs).1 hv
   obtain⟨k1,k2,k3⟩:=zag hrep hin hget
   refine⟨_,_,hv,rfl,k3.sees_mono (fun _ _=>z2m how),fun i w hi=>⟨z40 rfl _,?_,?_⟩⟩
   ·exact zaw hheap hi
   ·rw[z1f]
    show Ow.used (if rr=rr then .ro cs.size else X.ow rr) _
    rw[if_pos rfl]
    rw[List.getElem?_take] at hi
    split at hi
    case isFalse=>cases hi
    rw[List.getElem?_drop] at hi
    have:=(List.getElem?_eq_some_iff.1 hi).1
    show _<cs.size
    simpa using this
 |_=>exact keep
theorem z1af(hr:Rel X s a){id rr:Nat}{B:Box}(hb:s.bs[id]? =some (some B))(hs:B.t.isSpc=false)(h1:X.β id=some rr)(how:X.ow rr= .box id){cs:Array Value}{T:TypeId}(hheap:X.w.heap[rr]? =some (.cells cs T (0,0)))(hrep:Rep X B.t B.x cs.toList){pl:Nat→List Nat→Place}{l:List SV}{v:Value}(h:RepL X pl l v):RepL (X.still rr cs.size) pl (l.map (z5o id B)) v:=by
 match l,h with
 | [sv],h=>exact zwz hr hb hs h1 how hheap hrep h
 | [],⟨vs,g1,g2,g3⟩=>exact⟨vs,g1,g2,fun j sv u hs'=>by simp at hs'⟩
 |x::y::r,⟨vs,g1,g2,g3⟩=>
  refine⟨vs,g1,by simpa using g2,fun j sv u hs' hu=> ?_⟩
  have hs':((x::y::r).map (z5o id B))[j]? =some sv:=hs'
  rw[List.getElem?_map] at hs'
  obtain⟨s0,hs0,rfl⟩:=Option.map_eq_some_iff.1 hs'
  exact zwz hr hb hs h1 how hheap hrep (g3 j s0 u hs0 hu)
theorem z1ew{id:Nat}{B:Box}{l:List SV}{j:Nat}{t:Ty}{p:List Nat}(h:SV.ptr j t p∈l.map (z5o id B)):SV.ptr j t p∈l∧j≠id:=by
 obtain⟨s0,hs0,he⟩:=List.mem_map.1 h
 unfold z5o at he
 cases s0 with
 |ptr j' t' p'=>
  simp only at he
  cases hb:Nat.beq j' id with
  |true=>
   rw[hb] at he
   simp only[cond_true] at he
   split at he
   ·split at he<;>cases he
   ·cases he
  |false=>
   rw[hb] at he
   cases he
   exact⟨hs0,fun e=>Nat.ne_of_beq_eq_false hb e⟩
 |_=>simp only at he;cases he
theorem z112(hr:Rel X s a){id:Nat}{R:Type}{K:State→Option R}{z:R}(h:zk5 id s K=some z):∃Y s',Y.w=X.w∧Ext X Y∧K s'=some z∧Rel Y s' a:=by
 unfold zk5 at h
 split at h
 case h_2=>cases h
 rename_i B hB
 split at h
 case isTrue=>cases h
 rename_i hs
 have hs:B.t.isSpc=false:=by simpa using hs
 have hb:=z2h hB
 obtain⟨rr,h1,hBA⟩:=hr.boxes id B hb
 obtain⟨cs,T,hheap,hrep,how,_⟩:=hBA.cells hs
 refine⟨X.still rr cs.size,_,rfl,zwp how,h,by simpa using hr.size,by simpa using hr.bsz,fun i l v hl hx=> ?_,fun id' B' hB'=> ?_,fun i l j t p hl hm=> ?_,hr.defers⟩
 ·replace hl:(s.sl.map fun l=>l.map (z5o id B))[i]? =some l:=hl
  rw[List.getElem?_map] at hl
  obtain⟨l0,h0,rfl⟩:=Option.map_eq_some_iff.1 hl
  exact z1af hr hb hs h1 how hheap hrep (hr.slots i l0 v h0 hx)
 ·replace hB':(s.bs.set id none)[id']? =some (some B'):=hB'
  rw[List.getElem?_set] at hB'
  split at hB'
  ·split at hB'<;>cases hB'
  ·rename_i hii
   obtain⟨r',g1,g2,g3⟩:=hr.boxes id' B' hB'
   have hne:r'≠rr:=fun e2=>by rw[e2,how] at g2;cases g2;exact hii rfl
   exact⟨r',g1,by simp only[Cfg.still];rw[if_neg hne];exact g2,g3.move (fun _ _=>z2m how) rfl (fun cs h5=>h5.stilled how) fun _ g o ho hw=>⟨ho,by simp only[Cfg.still];rw[if_neg (fun e3=>by rw[e3,how] at hw;cases hw)];exact hw⟩⟩
 ·replace hl:(s.sl.map fun l=>l.map (z5o id B))[i]? =some l:=hl
  rw[List.getElem?_map] at hl
  obtain⟨l0,h0,rfl⟩:=Option.map_eq_some_iff.1 hl
  obtain⟨hm,hne⟩:=z1ew hm
  obtain⟨B2,hB2⟩:=hr.live i l0 j t p h0 hm
  exact⟨B2,by show(s.bs.set id none)[j]? =_;rw[List.getElem?_set,if_neg (fun e=>hne e.symm)];exact hB2⟩
theorem zkn{R:Type}{K:State→Option R}{z:R}:∀(l:List Nat) (X:Cfg) (s:State),Rel X s a→z7d l s K=some z→∃Y s',Y.w=X.w∧Ext X Y∧K s'=some z∧Rel Y s' a
 | [],X,s,hr,h=>⟨X,s,rfl,Ext.refl X,h,hr⟩
 |id::r,X,s,hr,h=>by
  obtain⟨Y,s1,h1,h2,h3,h4⟩:=z112 hr h
  obtain⟨Z,s2,k1,k2,k3,k4⟩:=zkn r Y s1 h4 h3
  exact⟨Z,s2,k1.trans h1,h2.trans k2,k3,k4⟩
def Fr(E:Env)(X0:Cfg):Prop:=E.sp≠none→∀g pl n,X0.ow g≠ .row pl n
def zxc(P:Program)(E:Env)(C:Funs)(k:Nat)(c:Code):Prop:=
 ∀(X0 X:Cfg) (s:State) (a:Act) (e:Ex) (s':State),Fr E X0→Ext X0 X→Rel X s a→ev E (C (Ex×State)) k c s (fun e s=>some (e,s))=some (e,s')→
  ∀(Q:Exit→Act→World→Prop),(∀Y a',Ext X0 Y→Rel Y s' a'→Q e.exit' a' Y.w)→c.wp P Q a X.w
theorem z1dz(hr:Rel X s a){k r:Nat}{R:Type}{K:State→Option R}{z:R}(h:meet E k r s K=some z):∃s',K s'=some z∧Rel X s' a:=by
 unfold meet at h
 split at h
 ·exact⟨s,h,hr⟩
 ·obtain⟨s',h1,h2⟩:=z5l hr h
  refine⟨s',?_,h2⟩
  unfold joinK at h1
  split at h1
  ·cases h1
  ·exact h1
theorem z191{C:Funs}(hC:C.Nat){k:Nat}{b:Code}(hb:zxc P E C k b){l lx:List Nat}{Q:Exit→Act→World→Prop}{e':Ex}{s':State}{X0:Cfg}(hF:Fr E X0)(hQ:∀Y a',Ext X0 Y→Rel Y s' a'→Q e'.exit' a' Y.w):
 ∀(n:Nat) (a:Act) (w:World),(∃X s,X.w=w∧Ext X0 X∧Rel X s a∧loopR (ev E (C (Ex×State)) k b) l lx n s (fun e s=>some (e,s))=some (e',s'))→
  ∃m,n=m+1∧b.wp P (Exit.then (fun a w=>∃X s,X.w=w∧Ext X0 X∧Rel X s a∧loopR (ev E (C (Ex×State)) k b) l lx m s (fun e s=>some (e,s))=some (e',s')) Q) a w:=by
 rintro n a w ⟨X,s,rfl,hext,hr,h⟩
 cases n with
 |zero=>cases h
 |succ m=>
  refine⟨m,rfl,?_⟩
  simp only[loopR] at h
  obtain⟨⟨e1,s2⟩,h1,h2⟩:=z1g (z4p hC b _ (fun e s=>some (e,s)) (K:=fun z=>match z.1 with
   | .normal=>z3h l z.2 fun s=>loopR (ev E (C (Ex×State)) k b) l lx m s (fun e s=>some (e,s))
   |e=>z3h lx z.2 fun s=>some (e,s)) (fun e s=>by cases e<;>rfl) s) h
  refine hb X0 X s a e1 s2 hF hext hr h1 _ fun Y a' hext2 hrel=> ?_
  cases e1 with
  |normal=>
   obtain⟨s3,h3,hr3⟩:=z5l hrel h2
   exact⟨Y,s3,rfl,hext2,hr3,h3⟩
  |exit id=>
   obtain⟨s3,h3,hr3⟩:=z5l hrel h2
   cases h3
   exact hQ Y a' hext2 hr3
  |ret=>
   obtain⟨s3,h3,hr3⟩:=z5l hrel h2
   cases h3
   exact hQ Y a' hext2 hr3
theorem zff(hE:EnvOk P E)(hm:P.follows .mixedOrders=true){C:Funs}(hC:C.Nat)(hf:∀f,Owes P C f){id:Nat}{ops:Array Oper}{d:Bool}{X00 X0:Cfg}{s0:State}{a:Act}{e:Ex}{s':State}(hx:Ext X00 X0)(hr0:Rel X0 s0 a)(h0:z7h E (C (Ex×State)) id ops d s0 ((fun e s=>some (e,s)) Ex.normal)=some (e,s')){Q:Exit→Act→World→Prop}(hQ0:∀Y a',Ext X00 Y→Rel Y s' a'→Q e.exit' a' Y.w):(Code.region id ops d).wp P Q a X0.w:=by
 unfold z7h at h0
 obtain⟨X1,s1,hw1,hext1,h01,hr1⟩:=z1eq hr0 h0
 obtain⟨X,s,hw2,hext2,h,hr⟩:=zkn _ X1 s1 hr1 h01
 have hw:X.w=X0.w:=hw2.trans hw1
 have hext0:Ext X0 X:=hext1.trans hext2
 clear h01 hr1 hw1 hw2 hext1 hext2
 have hQ:∀Y a',Ext X Y→Rel Y s' a'→Q e.exit' a' Y.w:=fun Y a' hext hrel=>hQ0 Y a' (hx.trans (hext0.trans hext)) hrel
 rw[←hw]
 clear h0 hr0 hQ0 hext0 hw
 cases d with
 |true=>
  simp only[cond_true] at h
  obtain⟨s1,h1,h2⟩:=z1g (zbh hC (F:=fun s=>some (Ex.normal,s)) (G:=some) (K:=fun s=>some (Ex.normal,s)) (fun _=>rfl) ops.toList 0 s []) h
  cases h2
  exact z18e hE hm hC hf hr h1 hQ
 |false=>
  simp only[cond_false] at h
  obtain⟨s1,h1,h2⟩:=z1g (z6n hC (F:=fun s=>some (Ex.normal,s)) (G:=some) (K:=fun s=>some (Ex.normal,s)) (fun _=>rfl) ops.toList s) h
  cases h2
  refine wp_region (z104 hE hC hf (List.range ops.size) X s a hr (fun i hi=>List.mem_range.1 hi) ?_ hQ)
  have:(List.range ops.size).map (fun i=>ops.getD i default)=ops.toList:=by
   apply List.ext_getElem?
   intro i
   rw[List.getElem?_map]
   by_cases hi:i<ops.size
   ·simp [hi]
   ·simp [hi]
  rw[this];exact h1
theorem z42(hE:EnvOk P E)(hm:P.follows .mixedOrders=true){C:Funs}(hC:C.Nat)(hf:∀f,Owes P C f)(k:Nat):∀c:Code,zxc P E C k c
 | .skip=>fun X0 X s a e s' hF hx hr h Q hQ=>by
   simp only[ev,Option.some.injEq,Prod.mk.injEq] at h
   obtain⟨rfl,rfl⟩:=h
   exact wp_skip (hQ X a hx hr)
 | .region id ops d=>fun X0 X s a e s' hF hx hr h Q hQ=>by
   simp only[ev] at h
   split at h
   ·rename_i j q hsp
    cases hj:Nat.beq id j with
    |true=>
     rw[hj,cond_true] at h
     cases d with
     |true=>cases h
     |false=>
      cases hq:Nat.beq q.2.2 0 with
      |true=>
       simp only[hq,cond_true] at h
       obtain⟨s1,h1,h2⟩:=z1g (zzt hC (F:=fun s=>some (Ex.normal,s)) (G:=some) (K:=fun s=>some (Ex.normal,s)) (fun _=>rfl)) h
       cases h2
       exact z19g hE hC hf (hF (by rw[hsp];exact fun e=>by cases e)) hx hr h1 hQ
      |false=>
      simp only[hq,cond_false] at h
      obtain⟨s1,h1,h2⟩:=z1g (z10b (F:=fun s=>some (Ex.normal,s)) (G:=some) (K:=fun s=>some (Ex.normal,s)) (fun _=>rfl)) h
      cases h2
      exact z1a4 hE (hF (by rw[hsp];exact fun e=>by cases e)) hx hr h1 hQ
    |false=>
     rw[hj,cond_false] at h
     exact zff hE hm hC hf hx hr h hQ
   ·exact zff hE hm hC hf hx hr h hQ
 | .seq x y=>fun X0 X s a e s' hF hx hr h Q hQ=>by
   simp only[ev] at h
   obtain⟨⟨e1,s1⟩,h1,h2⟩:=z1g (z4p hC x _ (fun e s=>some (e,s)) (K:=fun z=>match z.1 with
    | .normal=>meet E k (z1x y) z.2 fun s=>ev E (C (Ex×State)) k y s (fun e s=>some (e,s))
    |e=>some (e,z.2)) (fun e s=>by cases e<;>rfl) s) h
   refine wp_seq (z42 hE hm hC hf k x X0 X s a e1 s1 hF hx hr h1 _ fun Y a' hext hrel=> ?_)
   cases e1 with
   |normal=>
    obtain⟨s2,h2,hrel⟩:=z1dz hrel h2
    exact z42 hE hm hC hf k y X0 Y s2 a' e s' hF hext hrel h2 Q hQ
   |exit id=>cases h2;exact hQ Y a' hext hrel
   |ret=>cases h2;exact hQ Y a' hext hrel
 | .cond c x y=>fun X0 X s a e s' hF hx hr h Q hQ=>by
   simp only[ev] at h
   have hc:=hr.op1 c
   split at h
   case h_2=>cases h
   rename_i p w hs
   rw[hs] at hc
   have hv:=z3t hc
   have hr1:Rel X (s.putSlot (tmpOf c) (bl p)) a:=by
    cases c with
    |tmp i=>
     have hsl:s.slot i=[.dat .bool p w]:=by
      have hh:one (s.slot i)= .dat .bool p w:=hs
      match hm:s.slot i,hh with
      | [sv],hh=>have hh':sv= .dat .bool p w:=hh;rw[hh']
      | [],hh=>cases hh
      |_::_::_,hh=>cases hh
     exact(hr.know hsl).1
    |_=>exact hr
   refine wp_cond_split hv (fun hp=> ?_) (fun hp=> ?_)
   ·subst hp
    exact z42 hE hm hC hf k x X0 X _ a e s' hF hx hr1 h Q hQ
   ·subst hp
    exact z42 hE hm hC hf k y X0 X _ a e s' hF hx hr1 h Q hQ
 | .block id b=>fun X0 X s a e s' hF hx hr h Q hQ=>by
   simp only[ev] at h
   obtain⟨⟨e1,s1⟩,h1,h2⟩:=z1g (z4p hC b _ (fun e s=>some (e,s)) (K:=fun z=>match z.1 with
    | .exit j=>bif Nat.beq j id then some (.normal,z.2) else some (.exit j,z.2)
    |e=>some (e,z.2)) (fun e s=>by cases e<;>rfl) s) h
   refine wp_block (z42 hE hm hC hf k b X0 X s a e1 s1 hF hx hr h1 _ fun Y a' hext hrel=> ?_)
   cases e1 with
   |normal=>cases h2;exact hQ Y a' hext hrel
   |ret=>cases h2;exact hQ Y a' hext hrel
   |exit j=>
    simp only at h2
    show(if j=id then Q .normal a' Y.w else Q (.exit j) a' Y.w)
    cases hj:Nat.beq j id with
    |true=>
     rw[hj] at h2;cases h2
     rw[if_pos (Nat.eq_of_beq_eq_true hj)]
     exact hQ Y a' hext hrel
    |false=>
     rw[hj] at h2;cases h2
     rw[if_neg (Nat.ne_of_beq_eq_false hj)]
     exact hQ Y a' hext hrel
 | .loop b=>fun X0 X s a e s' hF hx hr h Q hQ=>by
   simp only[ev] at h
   obtain⟨s1,h,hr1⟩:=z5l (hr.drop _) h
   exact z1aj _ (z191 hC (z42 hE hm hC hf k b) hF (Q:=Q) hQ) ⟨X,s1,rfl,hx,hr1,h⟩
 | .exit id=>fun X0 X s a e s' hF hx hr h Q hQ=>by
   simp only[ev,Option.some.injEq,Prod.mk.injEq] at h
   obtain⟨rfl,rfl⟩:=h
   exact wp_exit (hQ X a hx hr)
 | .ret=>fun X0 X s a e s' hF hx hr h Q hQ=>by
   simp only[ev,Option.some.injEq,Prod.mk.injEq] at h
   obtain⟨rfl,rfl⟩:=h
   exact wp_ret (hQ X a hx hr)
 | .rangeFunc .. =>fun X0 X s a e s' hF hx hr h Q hQ=>by simp only[ev] at h;cases h
 | .scope _=>fun X0 X s a e s' hF hx hr h Q hQ=>by simp only[ev] at h;cases h
 | .label _=>fun X0 X s a e s' hF hx hr h Q hQ=>by simp only[ev] at h;cases h
 | .goto _=>fun X0 X s a e s' hF hx hr h Q hQ=>by simp only[ev] at h;cases h
 | .refuse _=>fun X0 X s a e s' hF hx hr h Q hQ=>by simp only[ev] at h;cases h
end Go.Ref

namespace Go.Ref
open Go
variable {P:Program} {E:Env} {X:Cfg} {s:State} {a:Act}
def StayR(X Y:Cfg):Prop:=Y.w=X.w∧∀g j p n,X.ow g= .row (.r j p) n→Y.ow g= .row (.r j p) n
theorem StayR.refl(X:Cfg):StayR X X:=⟨rfl,fun _ _ _ _ h=>h⟩
theorem StayR.trans{X Y Z:Cfg}(h:StayR X Y)(k:StayR Y Z):StayR X Z:=⟨k.1.trans h.1,fun g j p n e=>k.2 g j p n (h.2 g j p n e)⟩
theorem RepV.stayR{X Y:Cfg}(h:StayR X Y)(hx:Ext X Y)(hβ:Y.β=X.β){j:Nat}{sv:SV}{v:Value}(hr:RepV X (.r j) sv v):RepV Y (.r j) sv v:=by
 cases sv with
 |undef=>trivial
 |skip=>exact hr
 |nilS=>exact hr
 |nilP=>exact hr
 |over=>exact hr
 |dat t x own=>
  obtain⟨cs,h1,h2,h3⟩:=hr
  refine⟨cs,h1.mono hx,h2,fun p hp=> ?_⟩
  obtain⟨e,t',xs,v,g0,g1,g2,g3⟩:=h3 p hp
  refine⟨e,t',xs,v,g0,g1,g2,?_⟩
  rcases g3 with ho|⟨g,cap,cur,k1,k2,k3,k4,k5,k6⟩
  ·exact .inl ho
  ·exact .inr ⟨g,cap,cur,k1,by rw[h.1];exact k2,k3,k4,k5,h.2 _ _ _ _ k6⟩
 |ptr id t p=>obtain⟨r,h1,h2⟩:=hr;exact⟨r,by rw[hβ];exact h1,h2⟩
 |view t x=>
  obtain⟨ad,cs,h1,h2,h3,h4⟩:=hr
  exact⟨ad,cs,h1,h2,h3.mono hx,fun i u hi=>hx.sees _ _ (h4 i u hi)⟩
 |cap f t x u y=>exact z38 hx.sees hr
theorem z142{X:Cfg}{i j:Nat}{q:List Nat→Place}:StayR X (X.turn i j q):=⟨rfl,fun g j p n h=>by simp only[Cfg.turn,h]⟩
theorem z11c{X:Cfg}{id:Nat}{p:List Nat}{q:List Nat→Place}:StayR X (X.turnb id p q):=⟨rfl,fun g j p n h=>by simp only[Cfg.turnb,h]⟩
theorem zui(hE:EnvOk P E):∀(rs:List ResultVar) (X:Cfg) (s s':State) (l:List SV) (j0:Nat),Rel X s a→resOf E s rs=some (l,s')→
 ∃Y vs,Y.w=X.w∧Ext X Y∧StayR X Y∧Y.β=X.β∧Rel Y s' a∧vs.length=l.length∧(∀(j:Nat) sv v,l[j]? =some sv→vs[j]? =some v→RepV Y (.r (j0+j)) sv v)∧
  (rs.mapM (m:=Sem) fun x=>match x with
    | .tmp t=>pure (a.tmps.getD t Go.undef)
    | .cell ad t=>do loadVar t (←asAddr (a.tmps.getD ad Go.undef))).run P X.w= .ok vs X.w
 | [],X,s,s',l,j0,hr,h=>by
   simp only[resOf,Option.some.injEq,Prod.mk.injEq] at h
   obtain⟨rfl,rfl⟩:=h
   exact⟨X,[],rfl,Ext.refl X,StayR.refl X,rfl,hr,rfl,fun j sv v hl=>by simp at hl,by simp⟩
 | .tmp t::r,X,s,s',l,j0,hr,h=>by
   simp only[resOf] at h
   split at h
   case h_2=>cases h
   rename_i l1 s1 h1
   cases h
   have key:∃Y,Y.w=X.w∧Ext X Y∧StayR X Y∧Y.β=X.β∧Rel Y (s.close [(t,0)]) a∧RepV Y (.r j0) (one (s.slot t)) (a.tmps.getD t Go.undef):=by
    have hop:=hr.op1 (.tmp t)
    cases hs:one (s.slot t) with
    |dat ty x w=>
     have hop:RepV X (.c t 0) (one (s.slot t)) (a.tmps.getD t Go.undef):=hop
     rw[hs] at hop
     obtain⟨cs,g1,g2,g3⟩:=hop
     have hT:Turn (s.close [(t,0)]) X (X.turn t 0 (.r j0)):=zwu fun p=>Flag.close
     exact⟨X.turn t 0 (.r j0),rfl,hT.ext,z142,rfl,(hr.close _).mod hT.mod,cs,g1.sees_mono (fun _ _=>hT.sees.1),g2,g3.turned⟩
    |_=>
     refine⟨X,rfl,Ext.refl X,StayR.refl X,rfl,hr.close _,?_⟩
     have hop:RepV X (.c t 0) (one (s.slot t)) (a.tmps.getD t Go.undef):=hop
     rw[hs] at hop
     exact hop
   obtain⟨Y,hw,hext,hst,hβ,hrel,hrep⟩:=key
   obtain⟨Z,vs,hw2,hext2,hst2,hβ2,hrel2,hlen,hreps,hrun⟩:=zui hE r Y _ s' l1 (j0+1) hrel h1
   refine⟨Z,a.tmps.getD t Go.undef::vs,hw2.trans hw,hext.trans hext2,hst.trans hst2,hβ2.trans hβ,hrel2,by simp [hlen],fun j sv v hl hv=> ?_,?_⟩
   ·cases j with
    |zero=>
     simp only[List.getElem?_cons_zero,Option.some.injEq] at hl hv
     subst hl hv
     exact hrep.stayR hst2 hext2 hβ2
    |succ j=>
     simp only[List.getElem?_cons_succ] at hl hv
     rw[show j0+(j+1)=j0+1+j by omega]
     exact hreps j sv v hl hv
   ·rw[hw] at hrun
    simp only[List.mapM_cons,Sem.run_bind,Sem.run_pure,Result.andThen_ok,hrun]
 | .cell p T::r,X,s,s',l,j0,hr,h=>by
   simp only[resOf] at h
   split at h
   case h_2=>cases h
   rename_i id tt t hsl hT
   split at h
   case h_2=>cases h
   rename_i B hB
   split at h
   case isFalse=>cases h
   rename_i heq
   rw[Bool.and_eq_true] at heq
   have hns:tt.isSpc=false:=by simpa using heq.2
   have hte:=Ty.eqb_eq heq.1
   have hnB:B.t.isSpc=false:=hte▸hE.notSpc hT
   split at h
   case h_2=>cases h
   rename_i l1 s1 h1
   cases h
   have hb:=z2h hB
   obtain⟨r0,hβ,hBA⟩:=hr.boxes id B hb
   obtain⟨cs,T',hheap,hrep,how,hown⟩:=hBA.cells hnB
   have hslot:=hr.slot p
   rw[hsl] at hslot
   obtain⟨r1,hβ1,hvp⟩:RepV X (.c p 0) (.ptr id tt []) (a.tmps.getD p Go.undef):=hslot
   obtain⟨hv,_⟩:=(z1j hns).1 hvp
   rw[hβ] at hβ1
   cases hβ1
   have hr1:Rel X (s.putBox (some (id,{B with own:=[]}))) a:=hr.setBox hb hβ ⟨how,Held.of hnB hheap hrep z1n⟩
   have hnf:∀q,¬Flag (s.putBox (some (id,{B with own:=[]}))) (.b id ([]++q)):=by
    rintro q ⟨B2,hB2,hp⟩
    rw[zbc hb] at hB2
    cases hB2
    cases hp
   have hT2:=zpu (X:=X) (q:= .r j0) hnf
   have hrepY:RepV (X.turnb id [] (.r j0)) (.r j0) (.dat B.t B.x B.own) (mkv B.t cs.toList):=by
    refine⟨cs.toList,hrep.sees_mono (fun _ _=>hT2.sees.1),rfl,fun q hq=> ?_⟩
    obtain⟨e,t',xs,v,g0,g1,g2,g3⟩:=hown q hq
    exact⟨e,t',xs,v,g0,g1,g2,OwnAt.turnedb (p:=[]) g3⟩
   obtain⟨Z,vs,hw2,hext2,hst2,hβ2,hrel2,hlen,hreps,hrun⟩:=zui hE r (X.turnb id [] (.r j0)) _ s' l1 (j0+1) (hr1.mod hT2.mod) h1
   refine⟨Z,mkv B.t cs.toList::vs,hw2,hT2.ext.trans hext2,z11c.trans hst2,hβ2,hrel2,by simp [hlen],fun j sv v hl hv=> ?_,?_⟩
   ·cases j with
    |zero=>
     simp only[List.getElem?_cons_zero,Option.some.injEq] at hl hv
     subst hl hv
     exact hrepY.stayR hst2 hext2 hβ2
    |succ j=>
     simp only[List.getElem?_cons_succ] at hl hv
     rw[show j0+(j+1)=j0+1+j by omega]
     exact hreps j sv v hl hv
   ·have hl:=z3w (P:=P) hE (hte▸hT:E.ty T=some B.t) hrep (ad:=⟨r0,0,none⟩) (w:=X.w) (fun i v hi=>by
     rw[z1f,Nat.zero_add]
     simp only[World.cell?,hheap]
     simpa using hi)
    have hw3:(X.turnb id [] (.r j0)).w=X.w:=rfl
    rw[hw3] at hrun
    have hv':a.tmps.getD p Go.undef= .pointer (some ⟨r0,0,none⟩):=by simpa [Ty.off] using hv
    have ha:(asAddr (.pointer (some ⟨r0,0,none⟩))).run P X.w= .ok ⟨r0,0,none⟩ X.w:=by simp [asAddr]
    simp only[List.mapM_cons,Sem.run_bind,Sem.run_pure,Result.andThen_ok,hrun,hv',ha,hl]
def Cfg.zero(X:Cfg)(id:Nat):Cfg:=
 {X with ow:=fun g=>match X.ow g with
  | .box id'=>if id'=id then .box 0 else .box id'
  | .row (.b id' p) n=>if id'=id then .row (.b 0 p) n else .row (.b id' p) n
  |w=>w}
theorem z5b{id:Nat}{ad:Addr}{v:Value}(h:X.sees ad v):(X.zero id).sees ad v:=by
 refine⟨h.1,h.2.1,?_⟩
 have:=h.2.2
 simp only[Cfg.zero]
 cases hx:X.ow ad.block with
 |box i=>rw[hx] at this;exact this.elim
 |row pl n=>
  rw[hx] at this
  cases pl with
  |b i p=>simp only;split<;>exact this
  |_=>exact this
 |_=>rw[hx] at this;exact this
theorem z1ez{id:Nat}:Ext X (X.zero id) where
 sees:=fun _ _=>z5b
 size:=Nat.le_refl _
 os:=rfl
 tape:=rfl
 output:=rfl
 β0:=rfl
 still:=fun g _ hst=>by
  refine⟨?_,rfl⟩
  simp only[Cfg.zero]
  cases hx:X.ow g with
  |box i=>rw[hx] at hst;exact hst.elim
  |row pl n=>rw[hx] at hst;exact hst.elim
  |_=>rfl
theorem BoxAt.zero{id r:Nat}{B:Box}(h:BoxAt X id r B):BoxAt (X.zero id) 0 r B:=by
 obtain⟨h3,h1⟩:=h
 refine⟨by simp [Cfg.zero,h3],h1.move (fun _ _=>z5b) rfl (fun cs h4 p hp=> ?_) fun _ g o ho hw=>⟨ho,by simp [Cfg.zero,hw]⟩⟩
 obtain⟨e,t',xs,v,g0,g1,g2,g3⟩:=h4 p hp
 refine⟨e,t',xs,v,g0,g1,g2,?_⟩
 rcases g3 with ho|⟨g,cap,cur,k1,k2,k3,k4,k5,k6⟩
 ·exact .inl ho
 ·exact .inr ⟨g,cap,cur,k1,k2,k3,k4,k5,by simp [Cfg.zero,k6]⟩
theorem RepV.zero{id j r0:Nat}{sv:SV}{v:Value}(hp:∀id' t p,sv= .ptr id' t p→X.β id'=some r0)(h:RepV X (.r j) sv v):RepV {X.zero id with β:=fun _=>some r0} (.r j) (sv.reptr 0) v:=by
 cases sv with
 |undef=>trivial
 |skip=>exact h
 |nilS=>exact h
 |nilP=>exact h
 |over=>exact h
 |dat t x own=>
  obtain⟨cs,h1,h2,h3⟩:=h
  refine⟨cs,Rep.sees_mono (Y:={X.zero id with β:=fun _=>some r0}) (fun ad v hs=>(z5b hs:(X.zero id).sees ad v)) h1,h2,fun p hp=> ?_⟩
  obtain⟨e,t',xs,v,g0,g1,g2,g3⟩:=h3 p hp
  refine⟨e,t',xs,v,g0,g1,g2,?_⟩
  rcases g3 with ho|⟨g,cap,cur,k1,k2,k3,k4,k5,k6⟩
  ·exact .inl ho
  ·exact .inr ⟨g,cap,cur,k1,k2,k3,k4,k5,by simp [Cfg.zero,k6]⟩
 |ptr id' t p=>
  obtain⟨r,h1,h2⟩:=h
  have:=hp id' t p rfl
  rw[h1] at this
  cases this
  exact⟨r0,rfl,h2⟩
 |view t x=>
  obtain⟨ad,cs,h1,h2,h3,h4⟩:=h
  exact⟨ad,cs,h1,h2,Rep.sees_mono (Y:={X.zero id with β:=fun _=>some r0}) (fun ad v hs=>(z5b hs:(X.zero id).sees ad v)) h3,fun i u hi=>(z5b (h4 i u hi):(X.zero id).sees _ _)⟩
 |cap f t x u y=>exact z38 (Y:={X.zero id with β:=fun _=>some r0}) (fun ad v hs=>(z5b hs:(X.zero id).sees ad v)) h
theorem RepV.anyβ{j r0:Nat}{sv:SV}{v:Value}(hp:∀id' t p,sv≠ .ptr id' t p)(h:RepV X (.r j) sv v):RepV {X with β:=fun _=>some r0} (.r j) sv v:=by
 cases sv with
 |undef=>trivial
 |skip=>exact h
 |nilS=>exact h
 |nilP=>exact h
 |over=>exact h
 |dat t x own=>
  obtain⟨cs,h1,h2,h3⟩:=h
  exact⟨cs,Rep.sees_mono (X:=X) (Y:={X with β:=fun _=>some r0}) (fun ad v (hs:X.sees ad v)=>(hs:({X with β:=fun _=>some r0}:Cfg).sees ad v)) h1,h2,h3⟩
 |ptr id' t p=>exact absurd rfl (hp id' t p)
 |view t x=>
  obtain⟨ad,cs,h1,h2,h3,h4⟩:=h
  exact⟨ad,cs,h1,h2,Rep.sees_mono (X:=X) (Y:={X with β:=fun _=>some r0}) (fun ad v (hs:X.sees ad v)=>(hs:({X with β:=fun _=>some r0}:Cfg).sees ad v)) h3,h4⟩
 |cap f t x u y=>exact z38 (X:=X) (Y:={X with β:=fun _=>some r0}) (fun ad v (hs:X.sees ad v)=>(hs:({X with β:=fun _=>some r0}:Cfg).sees ad v)) h
theorem zbb:∀{l:List SV} {id:Nat} {t:Ty} {p:List Nat},SV.ptr id t p∈l→id∈z6l l
 |v::r,id,t,p,h=>by
  rcases List.mem_cons.1 h with e|h
  ·subst e;simp [z6l]
  ·have:=zbb h
   cases v<;>simp [z6l,this]
theorem zuh{l:List SV}{vs:List Value}(hlen:vs.length=l.length)(h:∀(j:Nat) sv v,l[j]? =some sv→vs[j]? =some v→RepV X (.r j) sv v):RepL X .r l (if h:vs.toArray.size=1 then vs.toArray[0] else .tuple vs.toArray):=by
 match l,vs,hlen with
 | [sv],[v],_=>exact h 0 sv v rfl rfl
 | [],[],_=>exact⟨#[],rfl,rfl,fun j s u hs=>by simp at hs⟩
 |x::y::r,u::v::w,hlen=>
  refine⟨(u::v::w).toArray,by simp,by simpa using hlen,fun j s z hs hz=>h j s z hs (by simpa using hz)⟩
theorem zz1{Z:Cfg}{s':State}{b:Option Box}{l' r:List SV}{b':Option Box}{vs:List Value}(hX:Ext X Z)(hrel2:Rel Z s' a)(hlen:vs.length=l'.length)(hreps':∀(j:Nat) sv v,l'[j]? =some sv→vs[j]? =some v→RepV Z (.r j) sv v)
 (hr2:zae s' b l' (fun r b=>some (r,b))=some (r,b')):∃Y',Y'.w=Z.w∧Ext X Y'∧Leave X Y' b r b' (if h:vs.toArray.size=1 then vs.toArray[0] else .tuple vs.toArray):=by
 unfold zae at hr2
 cases b with
 |some B=>
  cases hp:z6l l' with
  |cons _ _=>rw[hp] at hr2;cases hr2
  |nil=>
   rw[hp] at hr2
   have hno:∀id t p,SV.ptr id t p∉l':=fun id t p hm=>by
    have:=zbb hm
    rw[hp] at this;cases this
   cases hB':s'.box 0 with
   |none=>simp only[hB'] at hr2;cases hr2
   |some B'=>
    simp only[hB'] at hr2
    cases hr2
    obtain⟨r0,h3,h4⟩:=hrel2.boxes 0 B' (z2h hB')
    refine⟨Z,rfl,hX,r0,zuh hlen fun j sv v h1 h2=>(hreps' j sv v h1 h2).anyβ (fun id t p e=>hno id t p (e▸List.mem_of_getElem? h1)),fun B2 hB2=> ?_,fun _=>hno⟩
    cases hB2
    exact⟨h4,fun _=>by rw[←hX.β0];exact h3⟩
 |none=>
  cases hp:z6l l' with
  |nil=>
   rw[hp] at hr2
   have hno:∀id t p,SV.ptr id t p∉l':=fun id t p hm=>by
    have:=zbb hm
    rw[hp] at this;cases this
   cases hr2
   exact⟨Z,rfl,hX,0,zuh hlen fun j sv v h1 h2=>(hreps' j sv v h1 h2).anyβ (fun id t p e=>hno id t p (e▸List.mem_of_getElem? h1)),(fun B2 hB2=>by cases hB2),fun _=>hno⟩
  |cons id rest=>
   rw[hp] at hr2
   cases rest with
   |cons _ _=>cases hr2
   |nil=>
    cases hB:s'.box id with
    |none=>simp only[hB] at hr2;cases hr2
    |some B=>
     simp only[hB] at hr2
     cases hr2
     obtain⟨r0,h3,h4⟩:=hrel2.boxes id B (z2h hB)
     refine⟨Z.zero id,rfl,hX.trans z1ez,r0,?_,fun B2 hB2=> ?_,fun hh=> ?_⟩
     ·refine zuh (by simpa using hlen) fun j sv v h1 h2=> ?_
      rw[List.getElem?_map] at h1
      obtain⟨s0,hs0,rfl⟩:=Option.map_eq_some_iff.1 h1
      refine(hreps' j s0 v hs0 h2).zero fun id' t p e=> ?_
      have:=zbb (e▸List.mem_of_getElem? hs0)
      rw[hp] at this
      simp only[List.mem_singleton] at this
      subst this
      exact h3
     ·cases hB2
      exact⟨h4.zero,fun hh=>by cases hh⟩
     ·rcases hh with hh|hh<;>cases hh
theorem z8f:∀(ts:List Ty) (l:List SV),(normA ts l).length=l.length
 | [],l=>by simp [normA]
 |t::r,[]=>by simp [normA]
 |t::r,v::q=>by
  cases t<;>cases v<;>simp [normA,z8f r q]
theorem zwc{X:Cfg}:∀(ts:List Ty) (l:List SV) (i:Nat) (sv:SV) (v:Value),(normA ts l)[i]? =some sv→(∀sv,l[i]? =some sv→∃pl,RepV X pl sv v)→∀q,(∃sv0,l[i]? =some sv0∧(sv=sv0∨sv=sv0.shut∨sv0= .nilS))∧((∀sv0,l[i]? =some sv0→RepV X q sv0 v)→RepV X q sv v)
 | [],l,i,sv,v,h,_,q=>by
   have h:l[i]? =some sv:=by simpa [normA] using h
   exact⟨⟨sv,h,.inl rfl⟩,fun hh=>hh sv h⟩
 |t::r,[],i,sv,v,h,_,q=>by simp [normA] at h
 |t::r,x::y,i,sv,v,h,hx,q=>by
  cases i with
  |zero=>
   have key:(normA (t::r) (x::y))[0]? =some sv→(sv=x.shut)∨(x= .nilS∧∃e u,sv= .dat (.sl e u) ([]:List (El u)) []):=by
    intro h
    cases t<;>cases x<;>simp only[normA,List.getElem?_cons_zero,Option.some.injEq] at h<;>first|exact .inl h.symm|exact .inr ⟨rfl,_,_,h.symm⟩
   rcases key h with rfl|⟨rfl,e,u,rfl⟩
   ·exact⟨⟨x,rfl,.inr (.inl rfl)⟩,fun hh=>(hh x rfl).shut⟩
   ·refine⟨⟨_,rfl,.inr (.inr rfl)⟩,fun hh=> ?_⟩
    have:=hh _ rfl
    exact⟨[.slice none 0 0],⟨none,0,rfl,Nat.le_refl _,fun j x hj=>by simp at hj⟩,this,z1n⟩
  |succ i=>
   have h':(normA r y)[i]? =some sv:=by
    cases t<;>cases x<;>simpa [normA] using h
   have:=zwc r y i sv v h' (fun sv hs=>hx sv (by simpa using hs)) q
   simpa using this
theorem z198{ts:List Ty}{l:List SV}{id:Nat}{t:Ty}{p:List Nat}(h:SV.ptr id t p∈normA ts l):SV.ptr id t p∈l:=by
 induction ts generalizing l with
 |nil=>simpa [normA] using h
 |cons u r ih=>
  cases l with
  |nil=>simp [normA] at h
  |cons v q=>
   have key:SV.ptr id t p=v.shut∨SV.ptr id t p∈normA r q:=by
    cases u<;>cases v<;>simp [normA,SV.shut] at h⊢ <;>first|exact h|exact .inr h|skip
   rcases key with e|hm
   ·rw[zbf e.symm];simp
   ·exact List.mem_cons_of_mem _ (ih hm)
theorem z1hl(hE:EnvOk P E)(hm:P.follows .mixedOrders=true){C C0:Funs}(hC0:C0.Nat)(hf0:∀f,Owes P C0 f){f:FuncId}{fn:Func}{code:Code}(hfn:P.funcs[f]? =some fn)(hname:(fn.name== "runtime.NumGoroutine")=false)(hbody:fn.body=some code)
 (hC:∀(l:List SV) (b:Option Box) (r:List SV) (b':Option Box),C (List SV×Option Box) f l b (fun r b=>some (r,b))=some (r,b')→∃k,evFn E (C0 (List SV×Option Box)) k fn code l b (fun r b=>some (r,b))=some (r,b')):Owes P C f:=by
 intro l b r b' h
 refine⟨⟨fn,code,hfn,hname,hbody⟩,fun X args hen=> ?_⟩
 obtain⟨k,h⟩:=hC l b r b' h
 unfold evFn at h
 cases hg:(E.sp.isSome&&b.isSome) with
 |true=>rw[hg] at h;cases h
 |false=>
 rw[hg,cond_false] at h
 have hF:Fr E X:=fun hne=>hen.rows (by
  cases hE2:E.sp with
  |none=>exact absurd hE2 hne
  |some z=>
   cases b with
   |none=>rfl
   |some B=>rw[hE2] at hg;cases hg)
 simp only at h
 obtain⟨⟨e,s⟩,h1,h2⟩:=z1g (z4p hC0 code _ (fun e s=>some (e,s)) (K:=fun z=>match z.1 with
  | .exit _=>none
  |_=>match resOf E z.2 fn.results.toList with
   |some (l,s')=>zae s' b (outs' E l) (fun r b=>some (r,b))
   |none=>none) (fun e s=>by cases e<;>rfl) _) h
 refine calls_of_wp hfn hbody ?_
 have hsz:=hen.size
 refine z42 hE hm hC0 hf0 k code X X _ _ e s hF (Ext.refl X) (?_:Rel X _ _) h1 _ fun Y a' hext hrel=> ?_
 ·have hnl:=z8f E.ps l
  refine⟨by simp [hsz,hnl],by simp [hnl],fun i sl v hs hv=> ?_,fun id B hB=> ?_,fun i sl id t p hs hm=> ?_,rfl⟩
  ·by_cases hi:i<l.length
   ·rw[List.getElem?_append_left (by simpa [hnl] using hi),List.getElem?_map] at hs
    obtain⟨sv,hsv,rfl⟩:=Option.map_eq_some_iff.1 hs
    rw[Array.getElem?_append_left (by omega)] at hv
    exact(zwc E.ps l i sv v hsv (fun sv h0=>⟨_,hen.rep i sv v h0 hv⟩) (.c i 0)).2 fun sv0 h0=>hen.rep i sv0 v h0 hv
   ·rw[List.getElem?_append_right (by simp [hnl];omega),List.getElem?_replicate] at hs
    split at hs
    ·cases hs;trivial
    ·cases hs
  ·cases id with
   |zero=>
    simp only[List.getElem?_cons_zero,Option.some.injEq] at hB
    exact hen.box B hB
   |succ id=>
    simp only[List.getElem?_cons_succ,List.getElem?_replicate] at hB
    split at hB<;>cases hB
  ·by_cases hi:i<l.length
   ·rw[List.getElem?_append_left (by simpa [hnl] using hi),List.getElem?_map] at hs
    obtain⟨sv,hsv,rfl⟩:=Option.map_eq_some_iff.1 hs
    simp only[List.mem_singleton] at hm
    subst hm
    obtain⟨rfl,hb⟩:=hen.ptr id t p (z198 (List.mem_of_getElem? hsv))
    cases b with
    |none=>cases hb
    |some B=>exact⟨B,rfl⟩
   ·rw[List.getElem?_append_right (by simp [hnl];omega),List.getElem?_replicate] at hs
    split at hs
    ·cases hs;simp at hm
    ·cases hs
 ·
  have hres:∃l s',resOf E s fn.results.toList=some (l,s')∧zae s' b (outs' E l) (fun r b=>some (r,b))=some (r,b')∧(e= .normal∨e= .ret):=by
   cases e with
   |exit id=>cases h2
   |normal=>
    simp only at h2
    split at h2
    ·exact⟨_,_,by assumption,h2,.inl rfl⟩
    ·cases h2
   |ret=>
    simp only at h2
    split at h2
    ·exact⟨_,_,by assumption,h2,.inr rfl⟩
    ·cases h2
  obtain⟨l',s',hr1,hr2,he⟩:=hres
  obtain⟨Z,vs,hw,hext2,hst,hβ,hrel2,hlen,hreps,hrun⟩:=zui hE fn.results.toList Y s s' l' 0 hrel hr1
  have hrun2:(results fn a'.tmps).run P Y.w= .ok (if h:vs.toArray.size=1 then vs.toArray[0] else .tuple vs.toArray) Y.w:=by
   unfold results
   simp only[Array.mapM_eq_mapM_toList,Sem.run_bind,Sem.run_map,Sem.run_pure,Result.andThen_ok]
   exact congrArg (fun r:Result (List Value)=>(r.andThen fun a w'=>Result.ok a.toArray w').andThen fun a w'=>Result.ok (if h:a.size=1 then a[0] else Value.tuple a) w') hrun
  have hX:Ext X Z:=hext.trans hext2
  have hreps':∀(j:Nat) sv v,l'[j]? =some sv→vs[j]? =some v→RepV Z (.r j) sv v:=fun j sv v h1 h2=>by
   have:=hreps j sv v h1 h2
   rwa [Nat.zero_add] at this
  have hlen':vs.length=(outs' E l').length:=by
   unfold outs'
   cases E.ro<;>simpa using hlen
  have hreps2:∀(j:Nat) sv v,(outs' E l')[j]? =some sv→vs[j]? =some v→RepV Z (.r j) sv v:=fun j sv v h1 h2=>by
   unfold outs' at h1
   cases hro:E.ro with
   |false=>rw[hro] at h1;exact hreps' j sv v h1 h2
   |true=>
    rw[hro,cond_true,List.getElem?_map] at h1
    obtain⟨s0,hs0,rfl⟩:=Option.map_eq_some_iff.1 h1
    exact RepV.shuts (hreps' j s0 v hs0 h2)
  have fin:=zz1 (b:=b) hX hrel2 hlen' hreps2 hr2
  obtain⟨Y',hw',hX',hL⟩:=fin
  have hw':=hw'.trans hw
  rcases he with rfl|rfl
  ·exact⟨hrel.defers,_,hrun2,Y',hw',hX',hL⟩
  ·exact⟨hrel.defers,_,hrun2,Y',hw',hX',hL⟩
end Go.Ref

namespace Go.Ref
open Go
variable {P:Program} {E:Env}
def Wf:(t:Ty)→El t→Prop
 | .bool,_=>True
 | .int k,n=>(Lit.int k n).wf=true
 | .str,s=>s.size≤maxLen
 | .sl _ t,xs=>List.length xs≤maxLen∧∀x∈(xs:List (El t)),Wf t x
 | .arr n t,xs=>List.length xs=n∧∀x∈(xs:List (El t)),Wf t x
 | .unit,_=>True
 | .pair a b,x=>Wf a x.1∧Wf b x.2
 | .spc _ _ _,_=>False
theorem z4f(hE:EnvOk P E){T:TypeId}{t:Ty}(ht:E.ty T=some t):P.cellsOf T=t.cells:=by
 obtain⟨i,h1,h2,_⟩:=(hE.ty T t ht).info
 simp [Program.cellsOf,h1,h2]
def Ty.solid:Ty→Bool
 | .sl _ t=> !(Nat.beq t.cells 0)&&t.solid
 | .arr _ t=>t.solid
 | .pair a b=>a.solid&&b.solid
 |_=>true
def z3j(w:World)(β:Nat→Option Nat):Cfg:=⟨w,fun _=> .all,β⟩
theorem z19c{w:World}{β:Nat→Option Nat}{a:Addr}{v:Value}(h:w.cell? a=some v):(z3j w β).sees a v:=⟨World.cell?_spot h,h,trivial⟩
theorem zkg{α:Type}{n:Nat}{p:Nat→α→Prop}(h:∀i,i<n→∃x,p i x):∃xs:List α,xs.length=n∧∀(i:Nat) x,xs[i]? =some x→p i x:=by
 induction n with
 |zero=>exact⟨[],rfl,fun i x hi=>by simp at hi⟩
 |succ n ih=>
  obtain⟨xs,h1,h2⟩:=ih fun i hi=>h i (by omega)
  obtain⟨y,hy⟩:=h n (by omega)
  refine⟨xs++ [y],by simp [h1],fun i x hi=> ?_⟩
  rw[List.getElem?_append] at hi
  split at hi
  ·exact h2 i x hi
  ·rename_i hlt
   have hi2:i-xs.length=0:=by
    have:=(List.getElem?_eq_some_iff.1 hi).1
    simp at this
    omega
   rw[hi2] at hi
   simp only[List.getElem?_cons_zero,Option.some.injEq] at hi
   subst hi
   have:i=n:=by omega
   subst this
   exact hy
section
variable {H:Type} {enc:TypeId×Value→H} {w:World} {base:Nat} {spare:Nat→Bool} {held:Bool} {β:Nat→Option Nat}
theorem z1hr(hE:EnvOk P E):∀t:Ty,
 (∀(T:TypeId) (fuel:Nat) (cs:List Value) (x:DataW H×List MemPlace),E.ty T=some t→t.solid=true→DataW.trod enc P w base spare held fuel T cs=some x→∃y:El t,Rep (z3j w β) t y cs∧Wf t y)∧
 (∀(fl:List Field) (off fuel:Nat) (cs:List Value),z1d E fl t off→t.solid=true→off+t.cells≤cs.length→(∀f∈fl,∃x,DataW.trod enc P w base spare held fuel f.type ((cs.drop f.offset).take (P.cellsOf f.type))=some x)→
   ∃y:El t,Rep (z3j w β) t y ((cs.drop off).take t.cells)∧Wf t y):=by
 intro t
 have noFld:∀{t:Ty},t.isPair=false→t≠ .unit→∀(fl:List Field) (off:Nat),¬z1d E fl t off:=by
  intro t h1 h2 fl off h
  cases t<;>cases fl<;>simp_all [z1d,Ty.isPair]
 induction t with
 |spc k a b _ _=>exact⟨fun T fuel cs x hT hso h=>absurd (hE.notSpc hT) (by simp [Ty.isSpc]),fun fl off fuel cs hf=>absurd hf (noFld rfl (by simp) fl off)⟩
 |bool=>
  refine⟨fun T fuel cs x hT hso h=> ?_,fun fl off fuel cs hf=>absurd hf (noFld rfl (by simp) fl off)⟩
  have hu:=(hE.ty T _ hT).und
  cases fuel with
  |zero=>simp [DataW.trod] at h
  |succ m=>
   unfold DataW.trod at h
   rw[hu] at h
   split at h<;>try(first|cases h;done|(simp_all;done))
   rename_i b _
   exact⟨b,rfl,trivial⟩
 |int k=>
  refine⟨fun T fuel cs x hT hso h=> ?_,fun fl off fuel cs hf=>absurd hf (noFld rfl (by simp) fl off)⟩
  have hu:=(hE.ty T _ hT).und
  cases fuel with
  |zero=>simp [DataW.trod] at h
  |succ m=>
   unfold DataW.trod at h
   rw[hu] at h
   split at h<;>simp_all
   rename_i k1 k2 n hk
   subst hk
   exact⟨n,rfl,h.1.2⟩
 |str=>
  refine⟨fun T fuel cs x hT hso h=> ?_,fun fl off fuel cs hf=>absurd hf (noFld rfl (by simp) fl off)⟩
  have hu:=(hE.ty T _ hT).und
  cases fuel with
  |zero=>simp [DataW.trod] at h
  |succ m=>
   unfold DataW.trod at h
   rw[hu] at h
   split at h<;>simp_all
   rename_i s
   exact⟨s,rfl,h.1⟩
 |sl e t ih=>
  refine⟨fun T fuel cs x hT hso h=> ?_,fun fl off fuel cs hf=>absurd hf (noFld rfl (by simp) fl off)⟩
  obtain⟨hu,he⟩:=(hE.ty T _ hT).und
  have hc:=z4f hE he
  rcases Go.Deep.open_slice hu h with⟨rfl,_⟩|⟨a,len,cap,m,n,D,Pl,rfl,hb,hl,hm,hmm,_,hel⟩
  ·exact⟨[],⟨none,0,rfl,Nat.le_refl _,fun j x hj=>by simp at hj⟩,by simp [maxLen],fun x hx=>by cases hx⟩
  ·have hlm:len≤m:=by rw[hmm];split<;>omega
   have hk:0<t.cells∧t.solid=true:=by
    simp only[Ty.solid,Bool.and_eq_true,Bool.not_eq_true'] at hso
    refine⟨?_,hso.2⟩
    rcases Nat.eq_zero_or_pos t.cells with h0|h0
    ·rw[h0] at hso;simp at hso
    ·exact h0
   obtain⟨ys,h1,h2⟩:=zkg (n:=len) (p:=fun i (y:El t)=>∃cs',w.cells? base (a.add (i*t.cells)) t.cells=some cs'∧Rep (z3j w β) t y cs'∧Wf t y) (fun i hi=>by
    obtain⟨cs',g1,g2⟩:=hel i (by omega)
    rw[hc] at g1
    obtain⟨y,k1,k2⟩:=ih.1 e n cs' _ he hk.2 g2
    exact⟨y,cs',g1,k1,k2⟩)
   refine⟨ys,Rep.slmk h1 hl (fun j y hj=> ?_),by show ys.length≤_;omega,fun y hy=> ?_⟩
   ·obtain⟨cs',g1,g2,g3⟩:=h2 j y hj
    obtain⟨_,hlen,hcell⟩:=World.cells?_some g1
    have hj0:=(List.getElem?_eq_some_iff.1 hj).1
    obtain⟨c0,e1,_⟩:=h2 0 _ (List.getElem?_eq_getElem (by omega))
    obtain⟨_,hlen0,hcell0⟩:=World.cells?_some e1
    have hspot:a.spot=none:=by
     have:=hcell0 0 (by omega)
     rw[List.getElem?_eq_getElem (by omega)] at this
     have h3:=World.cell?_spot this
     simpa [Addr.add] using h3
    refine⟨a,cs',rfl,hspot,g2,fun i v hi=>z19c ?_⟩
    have hil:=(List.getElem?_eq_some_iff.1 hi).1
    have:=hcell i (by omega)
    rw[za5 a hspot,hi] at this
    exact this
   ·obtain⟨i,hi⟩:=List.mem_iff_getElem?.1 hy
    obtain⟨cs',_,_,g3⟩:=h2 i y hi
    exact g3
 |arr n t ih=>
  refine⟨fun T fuel cs x hT hso h=> ?_,fun fl off fuel cs hf=>absurd hf (noFld rfl (by simp) fl off)⟩
  obtain⟨e,hu,he,_⟩:=(hE.ty T _ hT).und
  have hc:=z4f hE he
  have hcT:=z4f hE hT
  obtain⟨xs,m,rfl,_,hl,hxl,hel⟩:=DataW.trod_array hu h
  obtain⟨ys,h1,h2⟩:=zkg (n:=n) (p:=fun i (y:El t)=>Rep (z3j w β) t y ((cs.drop (i*t.cells)).take t.cells)∧Wf t y) (fun i hi=>by
   have g:=hel i hi
   rw[hc,List.getElem?_eq_getElem (by omega)] at g
   exact ih.1 e m _ _ he hso g)
  refine⟨ys,⟨h1,by rw[hl,hcT];rfl,fun j y hj=>(h2 j y hj).1⟩,h1,fun y hy=> ?_⟩
  obtain⟨i,hi⟩:=List.mem_iff_getElem?.1 hy
  exact(h2 i y hi).2
 |unit=>
  refine⟨fun T fuel cs x hT hso h=> ?_,fun fl off fuel cs hf hso hle hall=>⟨(),by simp [Ty.cells,Rep],trivial⟩⟩
  obtain⟨fs,hu,hfit,_⟩:=(hE.ty T _ hT).und
  have hcT:=z4f hE hT
  obtain⟨xs,m,rfl,_,hl,_⟩:=DataW.trod_struct hu h
  rw[hcT] at hl
  refine⟨(),?_,trivial⟩
  exact List.eq_nil_of_length_eq_zero hl
 |pair ta tb iha ihb=>
  have step:∀(fl:List Field) (off fuel:Nat) (cs:List Value),z1d E fl (.pair ta tb) off→(Ty.pair ta tb).solid=true→off+(Ty.pair ta tb).cells≤cs.length→(∀f∈fl,∃x,DataW.trod enc P w base spare held fuel f.type ((cs.drop f.offset).take (P.cellsOf f.type))=some x)→
   ∃y:El (.pair ta tb),Rep (z3j w β) (.pair ta tb) y ((cs.drop off).take (Ty.pair ta tb).cells)∧Wf (.pair ta tb) y:=by
   intro fl off fuel cs hf hso hle hall
   cases fl with
   |nil=>simp [z1d] at hf
   |cons f fl=>
    obtain⟨f1,f2,f3,f4⟩:=hf
    simp only[Ty.solid,Bool.and_eq_true] at hso
    simp only[Ty.cells] at hle
    obtain⟨x,hx⟩:=hall f (by simp)
    rw[z4f hE f2,f1] at hx
    obtain⟨y1,r1,w1⟩:=iha.1 f.type fuel _ x f2 hso.1 hx
    obtain⟨y2,r2,w2⟩:=ihb.2 fl (off+ta.cells) fuel cs f4 hso.2 (by omega) (fun g hg=>hall g (List.mem_cons_of_mem _ hg))
    refine⟨(y1,y2),⟨_,_,?_,r1,r2⟩,w1,w2⟩
    simp only[Ty.cells]
    rw[←List.drop_drop]
    exact List.take_add
  refine⟨fun T fuel cs x hT hso h=> ?_,step⟩
  obtain⟨fs,hu,hfit,_⟩:=(hE.ty T _ hT).und
  have hcT:=z4f hE hT
  obtain⟨xs,m,rfl,_,hl,hxl,hel⟩:=DataW.trod_struct hu h
  rw[hcT] at hl
  obtain⟨y,r,wf⟩:=step fs.toList 0 m cs hfit hso (by omega) (fun f hf=>by
   obtain⟨i,hi⟩:=List.mem_iff_getElem?.1 hf
   have hi':fs[i]? =some f:=by simpa using hi
   have:=hel i f hi'
   have hlt:=(List.getElem?_eq_some_iff.1 hi).1
   rw[List.getElem?_eq_getElem (by simp at hlt;omega)] at this
   exact⟨_,this⟩)
  refine⟨y,?_,wf⟩
  rw[List.drop_zero,←hl,List.take_length] at r
  exact r
end
end Go.Ref

namespace Go.Ref
open Go
variable {P:Program} {E:Env}
def zyo:Value→Value→Bool
 | .bool a,.bool b=>a==b
 | .int k a,.int j b=>decide (k=j)&&decide (a=b)
 | .string a,.string b=>Nat.beq a.size 0&&Nat.beq b.size 0
 | .slice none 0 0,.slice none 0 0=>true
 |_,_=>false
theorem zkj{a:ByteArray}(h:a.size=0):a=⟨#[]⟩:=by
 cases a with
 |mk d=>
  have:d.size=0:=h
  have:=Array.eq_empty_of_size_eq_zero this
  rw[this]
theorem z17w{a b:Value}(h:zyo a b=true):a=b:=by
 unfold zyo at h
 split at h
 ·simp at h;rw[h]
 ·simp at h;rw[h.1,h.2]
 ·simp only[Bool.and_eq_true] at h
  rw[zkj (Nat.eq_of_beq_eq_true h.1),zkj (Nat.eq_of_beq_eq_true h.2)]
 ·rfl
 ·cases h
def za9:List Value→List Value→Bool
 | [],[]=>true
 |a::r,b::q=>zyo a b&&za9 r q
 |_,_=>false
theorem zb0:∀{a b:List Value},za9 a b=true→a=b
 | [],[],_=>rfl
 |a::r,b::q,h=>by
  simp only[za9,Bool.and_eq_true] at h
  rw[z17w h.1,zb0 h.2]
def z10n(t:Ty)(v:Value):Bool:=
 match v with
 | .agg cs=>t.agg&&za9 cs.toList (zq t)
 |v=> !t.agg&&za9 [v] (zq t)
theorem z1ak{t:Ty}{v:Value}(h:z10n t v=true):v=mkv t (zq t):=by
 unfold z10n at h
 split at h
 ·simp only[Bool.and_eq_true] at h
  rw[z19 h.1,←zb0 h.2]
 ·simp only[Bool.and_eq_true,Bool.not_eq_true'] at h
  rw[←zb0 h.2,zaj h.1]
def fldB(E:Env):List Field→Ty→Nat→Bool
 | [],.unit,_=>true
 |f::r,.pair a b,off=>Nat.beq f.offset off&&((match E.ty f.type with
  |some t=>t.eqb a
  |none=>false)&&(!(f.name== "_")&&fldB E r b (off+a.cells)))
 |_,_,_=>false
theorem zlv:∀{fl:List Field} {t:Ty} {off:Nat},fldB E fl t off=true→z1d E fl t off
 | [],t,off,h=>by cases t<;>simp_all [fldB,z1d]
 |f::r,t,off,h=>by
  cases t<;>simp only[fldB,Bool.and_eq_true] at h<;>try(cases h;done)
  obtain⟨h1,h2,h3,h4⟩:=h
  refine⟨Nat.eq_of_beq_eq_true h1,?_,?_,zlv h4⟩
  ·cases hf:E.ty f.type with
   |none=>rw[hf] at h2;cases h2
   |some u=>rw[hf] at h2;rw[Ty.eqb_eq h2]
  ·simpa using h3
def tyIs(E:Env)(T:TypeId)(t:Ty):Bool:=
 match E.ty T with
 |some u=>u.eqb t
 |none=>false
theorem z12t{T:TypeId}{t:Ty}(h:tyIs E T t=true):E.ty T=some t:=by
 unfold tyIs at h
 split at h
 ·rename_i u hu;rw[hu,Ty.eqb_eq h]
 ·cases h
def undB(P:Program)(E:Env)(T:TypeId)(t:Ty):Bool:=
 match P.underlying T,t with
 |some .bool,.bool=>true
 |some (.int k),.int j=>decide (k=j)
 |some .string,.str=>true
 |some (.slice e),.sl e' u=>Nat.beq e e'&&tyIs E e u
 |some (.array n e),.arr m u=>Nat.beq n m&&(tyIs E e u&& !P.eqGuardType P.depth T)
 |some (.struct fs),.unit=>fldB E fs.toList .unit 0&&(!P.stoodInHeld T&& !P.eqGuardType P.depth T)
 |some (.struct fs),.pair a b=>fldB E fs.toList (.pair a b) 0&&(!P.stoodInHeld T&& !P.eqGuardType P.depth T)
 |_,_=>false
theorem z1ev{T:TypeId}{t:Ty}(h:undB P E T t=true):z173 P E T t:=by
 unfold undB at h
 split at h
 ·assumption
 ·rename_i k j hu;rw[←of_decide_eq_true h];exact hu
 ·assumption
 ·rename_i e e' u hu
  simp only[Bool.and_eq_true] at h
  have:=Nat.eq_of_beq_eq_true h.1
  subst this
  exact⟨hu,z12t h.2⟩
 ·rename_i n e m u hu
  simp only[Bool.and_eq_true] at h
  have:=Nat.eq_of_beq_eq_true h.1
  subst this
  exact⟨e,hu,z12t h.2.1,by simpa using h.2.2⟩
 ·rename_i fs hu
  simp only[Bool.and_eq_true,Bool.not_eq_true'] at h
  exact⟨fs,hu,zlv h.1,h.2.1,h.2.2⟩
 ·rename_i fs a b hu
  simp only[Bool.and_eq_true,Bool.not_eq_true'] at h
  exact⟨fs,hu,zlv h.1,h.2.1,h.2.2⟩
 ·cases h
def infoB(P:Program)(E:Env)(T:TypeId)(t:Ty):Bool:=
 match P.info? T with
 |some i=>Nat.beq i.size t.cells&&(Nat.beq i.bytes (E.bytes T)&&match i.zero with
  |some v=>z10n t v
  |none=>false)
 |none=>false
def fitB(P:Program)(E:Env)(T:TypeId):Bool:=
 match E.ty T with
 |some t=>infoB P E T t&&undB P E T t
 |none=>true
theorem z1dj{T:TypeId}{t:Ty}(h:fitB P E T=true)(ht:E.ty T=some t):TyFits P E T t:=by
 unfold fitB at h
 rw[ht] at h
 simp only[Bool.and_eq_true] at h
 refine⟨?_,z1ev h.2⟩
 have h1:=h.1
 unfold infoB at h1
 split at h1
 ·rename_i i hi
  simp only[Bool.and_eq_true] at h1
  obtain⟨g1,g2,g3⟩:=h1
  split at g3
  ·rename_i v hv
   exact⟨i,hi,Nat.eq_of_beq_eq_true g1,Nat.eq_of_beq_eq_true g2,by rw[hv,z1ak g3]⟩
  ·cases g3
 ·cases h1
def ptB(P:Program)(T:TypeId):Bool:=
 match P.underlying T with
 |some (.pointer _)=>true
 |_=>false
structure Tab where
 tys:List (Option Ty)
 bts:List Nat
 pts:List Bool
 mps:List (TypeId×TypeId×TypeId):=[]
def mpOf:List (TypeId×TypeId×TypeId)→TypeId→Option (TypeId×TypeId)
 | [],_=>none
 |q::r,T=>bif Nat.beq q.1 T then some q.2 else mpOf r T
def mpB(P:Program)(q:TypeId×TypeId×TypeId):Bool:=
 match P.underlying q.1 with
 |some (.map k e)=>Nat.beq k q.2.1&&Nat.beq e q.2.2
 |_=>false
theorem z12e{P:Program}:∀{l:List (TypeId×TypeId×TypeId)},l.all (mpB P)=true→∀{T k e:TypeId},mpOf l T=some (k,e)→P.underlying T=some (.map k e)
 |q::r,hl,T,k,e,h=>by
  simp only[List.all_cons,Bool.and_eq_true] at hl
  unfold mpOf at h
  cases hq:Nat.beq q.1 T with
  |false=>rw[hq] at h;exact z12e hl.2 h
  |true=>
   rw[hq] at h
   have:=Nat.eq_of_beq_eq_true hq
   subst this
   have h1:=hl.1
   unfold mpB at h1
   split at h1
   ·rename_i k' e' hu
    simp only[Bool.and_eq_true] at h1
    have a1:=Nat.eq_of_beq_eq_true h1.1
    have a2:=Nat.eq_of_beq_eq_true h1.2
    rw[hu,a1,a2]
    have h:some q.2=some (k,e):=h
    injection h with h
    rw[h]
   ·cases h1
def Tab.env(t:Tab)(keep keepX:Nat→List Nat)(outs:List Nat)(ps:List Ty):Env:=⟨fun T=>t.tys.getD T none,fun T=>t.bts.getD T 0,fun T=>t.pts.getD T false,keep,keepX,outs,ps,mpOf t.mps,fun _=>none,fun _=>none,fun _=>[],[],false,[],fun _=>[],fun _=>none,none⟩
def Tab.env0(t:Tab):Env:=t.env (fun _=>[]) (fun _=>[]) [] []
def Tab.ok(P:Program)(t:Tab):Bool:=(List.range t.tys.length).all (fitB P t.env0)&&((List.range t.pts.length).all (fun T=> !t.pts.getD T false||ptB P T)&&t.mps.all (mpB P))
theorem z3a{E':Env}(h1:E.ty=E'.ty)(h2:E.bytes=E'.bytes){T:TypeId}{t:Ty}(h:TyFits P E T t):TyFits P E' T t:=by
 have hfit:∀(fl:List Field) (t:Ty) (off:Nat),z1d E fl t off→z1d E' fl t off:=by
  intro fl
  induction fl with
  |nil=>intro t off h;cases t<;>simp_all [z1d]
  |cons f r ih=>
   intro t off h
   cases t<;>simp only[z1d] at h⊢ <;>try exact h
   exact⟨h.1,by rw[←h1];exact h.2.1,h.2.2.1,ih _ _ h.2.2.2⟩
 refine⟨by rw[←h2];exact h.info,?_⟩
 have hu:=h.und
 cases t with
 |bool=>exact hu
 |int k=>exact hu
 |str=>exact hu
 |sl e u=>exact⟨hu.1,by rw[←h1];exact hu.2⟩
 |arr n u=>obtain⟨e,g1,g2⟩:=hu;exact⟨e,g1,by rw[←h1];exact g2⟩
 |unit=>obtain⟨fs,g1,g2,g3⟩:=hu;exact⟨fs,g1,hfit _ _ _ g2,g3⟩
 |pair a b=>obtain⟨fs,g1,g2,g3⟩:=hu;exact⟨fs,g1,hfit _ _ _ g2,g3⟩
 |spc k a b=>exact hu.elim
theorem EnvOk.join(h:EnvOk P E)(j:Nat→Option (List Nat)):EnvOk P {E with join:=j}:=
 ⟨fun T u hT=>z3a (E:=E) (E':={E with join:=j}) rfl rfl (h.ty T u hT),h.pt,h.mp,h.bl⟩
theorem EnvOk.fz(h:EnvOk P E)(j:Nat→Option (Nat×TypeId)):EnvOk P {E with fz:=j}:=
 ⟨fun T u hT=>z3a (E:=E) (E':={E with fz:=j}) rfl rfl (h.ty T u hT),h.pt,h.mp,h.bl⟩
theorem EnvOk.dr(h:EnvOk P E)(j:Nat→List Nat):EnvOk P {E with dr:=j}:=
 ⟨fun T u hT=>z3a (E:=E) (E':={E with dr:=j}) rfl rfl (h.ty T u hT),h.pt,h.mp,h.bl⟩
theorem EnvOk.sh(h:EnvOk P E)(j:List Nat):EnvOk P {E with sh:=j}:=
 ⟨fun T u hT=>z3a (E:=E) (E':={E with sh:=j}) rfl rfl (h.ty T u hT),h.pt,h.mp,h.bl⟩
theorem EnvOk.mv(h:EnvOk P E)(j:List Nat):EnvOk P {E with mv:=j}:=
 ⟨fun T u hT=>z3a (E:=E) (E':={E with mv:=j}) rfl rfl (h.ty T u hT),h.pt,h.mp,h.bl⟩
theorem EnvOk.fr(h:EnvOk P E)(j:Nat→List Nat):EnvOk P {E with fr:=j}:=
 ⟨fun T u hT=>z3a (E:=E) (E':={E with fr:=j}) rfl rfl (h.ty T u hT),h.pt,h.mp,h.bl⟩
def blB(P:Program)(T:TypeId):Bool:=
 match P.info? T with
 |some i=>match i.zero with
  |some (.agg a)=>match a.toList with
   | [.pointer none,.slice none 0 0]=>true
   |_=>false
  |_=>false
 |none=>false
theorem EnvOk.bld(h:EnvOk P E)(T e:TypeId)(hT:blB P T=true):EnvOk P {E with bl:=fun t=>bif Nat.beq t T then some e else none}:=
 ⟨fun T' u hT=>z3a (E:=E) (E':={E with bl:=fun t=>bif Nat.beq t T then some e else none}) rfl rfl (h.ty T' u hT),h.pt,h.mp,fun T' e' he=>by
   have he:(bif Nat.beq T' T then some e else none)=some e':=he
   cases hb:Nat.beq T' T with
   |false=>rw[hb] at he;cases he
   |true=>
    have:=Nat.eq_of_beq_eq_true hb
    subst this
    unfold blB at hT
    split at hT
    case h_2=>cases hT
    rename_i i hi
    split at hT
    case h_2=>cases hT
    rename_i a ha
    split at hT
    case h_2=>cases hT
    rename_i hl
    exact⟨i,hi,by rw[ha];congr 1;congr 1;apply Array.ext';rw[hl]⟩⟩
theorem EnvOk.sp(h:EnvOk P E)(j:Option (Nat×Nat×Nat×Nat)):EnvOk P {E with sp:=j}:=
 ⟨fun T u hT=>z3a (E:=E) (E':={E with sp:=j}) rfl rfl (h.ty T u hT),h.pt,h.mp,h.bl⟩
theorem EnvOk.ro(h:EnvOk P E)(j:Bool):EnvOk P {E with ro:=j}:=
 ⟨fun T u hT=>z3a (E:=E) (E':={E with ro:=j}) rfl rfl (h.ty T u hT),h.pt,h.mp,h.bl⟩
theorem Tab.env_ok{t:Tab}(h:t.ok P=true)(keep keepX:Nat→List Nat)(outs:List Nat)(ps:List Ty):EnvOk P (t.env keep keepX outs ps):=by
 unfold Tab.ok at h
 simp only[Bool.and_eq_true] at h
 refine⟨fun T u hT=> ?_,fun T hT=> ?_,fun T k e hT=>z12e h.2.2 hT,fun T e hT=>by cases hT⟩
 ·refine z3a (E:=t.env0) (E':=t.env keep keepX outs ps) rfl rfl (z1dj ?_ hT)
  refine List.all_eq_true.1 h.1 T (List.mem_range.2 ?_)
  have hT':t.tys.getD T none=some u:=hT
  rcases Nat.lt_or_ge T t.tys.length with h1|h1
  ·exact h1
  ·rw[List.getD_eq_getElem?_getD,List.getElem?_eq_none h1] at hT';cases hT'
 ·have hT':t.pts.getD T false=true:=hT
  have hlt:T<t.pts.length:=by
   rcases Nat.lt_or_ge T t.pts.length with h1|h1
   ·exact h1
   ·rw[List.getD_eq_getElem?_getD,List.getElem?_eq_none h1] at hT';cases hT'
  have:=List.all_eq_true.1 h.2.1 T (List.mem_range.2 hlt)
  rw[hT'] at this
  simp only[Bool.not_true,Bool.false_or] at this
  unfold ptB at this
  split at this
  ·rename_i e he;exact⟨e,he⟩
  ·cases this
end Go.Ref

namespace Go.Ref
open Go
variable {P:Program} {E:Env}
abbrev Pure:=(R:Type)→List SV→Option Box→(List SV→Option Box→Option R)→Option R
def Pure.Nat(g:Pure):Prop:=∀(R S:Type) l b (F:List SV→Option Box→Option R) (G:List SV→Option Box→Option S) (K:S→Option R),(∀r b,F r b=(G r b).bind K)→g R l b F=(g S l b G).bind K
def Funs.none:Funs:=fun _ _ _ _ _=> .none
def Funs.add(C:Funs)(n:FuncId)(ps:List Ty)(g:Pure):Funs:=fun R f l b K=>bif Nat.beq f n then g R (normA ps l) b K else C R f l b K
theorem z1e3:Funs.none.Nat:=fun _ _ _ _ _ _ _ _ _=>rfl
theorem z197(f:FuncId):Owes P Funs.none f:=fun _ _ _ _ h=>by cases h
theorem zjz{C:Funs}{n:FuncId}{ps:List Ty}{g:Pure}(hC:C.Nat)(hg:g.Nat):(C.add n ps g).Nat:=fun R S f l b F G K h=>by
 unfold Funs.add
 cases Nat.beq f n with
 |false=>exact hC R S f l b F G K h
 |true=>exact hg R S _ b F G K h
theorem z1ci(hE:EnvOk P E)(hm:P.follows .mixedOrders=true){C:Funs}(hC:C.Nat)(h0:∀f,Owes P C f){n:FuncId}{ps:List Ty}{g:Pure}{fn:Func}{code:Code}(hfn:P.funcs[n]? =some fn)(hname:(fn.name== "runtime.NumGoroutine")=false)(hbody:fn.body=some code)
 (h:∀(l:List SV) (b:Option Box) (r:List SV) (b':Option Box),g (List SV×Option Box) (normA ps l) b (fun r b=>some (r,b))=some (r,b')→∃k,evFn E (C (List SV×Option Box)) k fn code l b (fun r b=>some (r,b))=some (r,b')):∀f,Owes P (C.add n ps g) f:=by
 intro f
 by_cases e:f=n
 ·subst e
  refine z1hl hE hm hC h0 hfn hname hbody fun l b r b' hc=>h l b r b' ?_
  unfold Funs.add at hc
  have:Nat.beq f f=true:=by simp
  rw[this] at hc
  exact hc
 ·intro l b r b' hc
  unfold Funs.add at hc
  have:Nat.beq f n=false:=by
   cases hh:Nat.beq f n with
   |false=>rfl
   |true=>exact absurd (Nat.eq_of_beq_eq_true hh) e
  rw[this] at hc
  exact h0 f l b r b' hc
def sub:List Nat→Code→Code
 | [],c=>c
 |0::p,.seq a _=>sub p a
 |_::p,.seq _ b=>sub p b
 |0::p,.cond _ a _=>sub p a
 |_::p,.cond _ _ b=>sub p b
 |_::p,.block _ b=>sub p b
 |_::p,.loop b=>sub p b
 |_,c=>c
section
variable {R:Type}
def zl(id:Nat)(K:Ex→State→Option R):Ex→State→Option R:=fun e s=>match e with
 | .exit j=>bif Nat.beq j id then K .normal s else K (.exit j) s
 |e=>K e s
def kSeq(E:Env)(C:FuncId→Fun' R)(k:Nat)(b:Code)(K:Ex→State→Option R):Ex→State→Option R:=fun e s=>match e with
 | .normal=>meet E k (z1x b) s fun s=>ev E C k b s K
 |e=>K e s
def kFin(E:Env)(rs:List ResultVar)(bx:Option Box)(K:List SV→Option Box→Option R):Ex→State→Option R:=fun e s=>match e with
 | .exit _=>none
 |_=>match resOf E s rs with
  |some (l,s')=>zae s' bx (outs' E l) K
  |none=>none
end
section
variable {R:Type}
def args0(l:List SV)(K:Option R):Option R:=
 match l with
 | []=>K
 |_=>none
def args1(t:Ty)(l:List SV)(K:El t→Option R):Option R:=
 match l with
 | [a]=>a.el t K
 |_=>none
def args2(t u:Ty)(l:List SV)(K:El t→El u→Option R):Option R:=
 match l with
 | [a,b]=>a.el t fun x=>b.el u fun y=>K x y
 |_=>none
def args3(t u v:Ty)(l:List SV)(K:El t→El u→El v→Option R):Option R:=
 match l with
 | [a,b,c]=>a.el t fun x=>b.el u fun y=>c.el v fun z=>K x y z
 |_=>none
def args4(t u v w:Ty)(l:List SV)(K:El t→El u→El v→El w→Option R):Option R:=
 match l with
 | [a,b,c,d]=>a.el t fun x=>b.el u fun y=>c.el v fun z=>d.el w fun z'=>K x y z z'
 |_=>none
end
theorem z1hf{R:Type}{t:Ty}{v:SV}{r:List Ty}{q:List SV}{K:El t→Option R}{z:R}{v':SV}{q':List SV}(hn:normA (t::r) (v::q)=v'::q')(h:v'.el t K=some z):∃y,v'= .dat t y []∧q'=normA r q∧K y=some z:=by
 have key:v'=v.shut∧q'=normA r q∨(∃e u,t= .sl e u∧v'= .dat (.sl e u) ([]:List (El u)) []∧q'=normA r q):=by
  cases t<;>cases v<;>simp only[normA,List.cons.injEq] at hn<;>first|exact .inl ⟨hn.1.symm,hn.2.symm⟩|exact .inr ⟨_,_,rfl,hn.1.symm,hn.2.symm⟩
 rcases key with⟨rfl,rfl⟩|⟨e,u,rfl,rfl,rfl⟩
 ·cases v with
  |dat t' x own=>
   simp only[SV.shut,SV.el] at h
   split at h
   ·rename_i heq
    have:=Ty.eqb_eq heq
    subst this
    exact⟨x,rfl,rfl,h⟩
   ·cases h
  |nilS=>cases t<;>first|(simp [SV.shut,SV.el] at h;done)|(simp [normA,SV.shut] at hn;done)
  |_=>simp [SV.shut,SV.el] at h
 ·simp only[SV.el,Ty.eqb_refl,dite_true] at h
  exact⟨[],rfl,rfl,h⟩
theorem zzr(hE:EnvOk P E){H:Type}{enc:TypeId×Value→H}{w:World}{spare:Nat→Bool}{held:Bool}{β:Nat→Option Nat}{base b:Nat}{T:TypeId}{t:Ty}{v:Value}{d:DataW H}{ps:List MemPlace}(hT:E.ty T=some t)(hso:t.solid=true)
 (hv:Value.okWide P w .any b T v) (hd:DataW.Trod enc P w base spare held T v d ps):∃y:El t,Wf t y∧∀q,RepV (z3j w β) q (.dat t y []) v:=by
 obtain⟨fuel,hd⟩:=hd
 obtain⟨y,r,wf⟩:=(z1hr (β:=β) hE t).1 T fuel _ _ hT hso hd
 refine⟨y,wf,fun q=>⟨_,r,?_,z1n⟩⟩
 have hu:=(hE.ty T t hT).und
 have hl:=r.len
 cases ht:t.agg with
 |true=>
  rw[z19 ht]
  have:∃cs,v= .agg cs:=by
   unfold Value.okWide at hv
   cases t with
   |arr n t=>obtain⟨e,h1,_⟩:=hu;rw[h1] at hv;obtain⟨cs,h,_⟩:=hv;exact⟨cs,h⟩
   |unit=>obtain⟨fs,h1,_⟩:=hu;rw[h1] at hv;obtain⟨cs,h,_⟩:=hv;exact⟨cs,h⟩
   |pair a b=>obtain⟨fs,h1,_⟩:=hu;rw[h1] at hv;obtain⟨cs,h,_⟩:=hv;exact⟨cs,h⟩
   |spc k a b=>exact absurd (hE.notSpc hT) (by simp [Ty.isSpc])
   |_=>simp [Ty.agg] at ht
  obtain⟨cs,rfl⟩:=this
  rfl
 |false=>
  have hnot:∀cs,v≠ .agg cs:=by
   rintro cs rfl
   unfold Value.okWide at hv
   cases t with
   |bool=>have hu:P.underlying T=some .bool:=hu;rw[hu] at hv;unfold Cell.okWide at hv;rw[hu] at hv;unfold Cell.ok at hv;rw[hu] at hv;exact hv
   |int k=>have hu:P.underlying T=some (.int k):=hu;rw[hu] at hv;unfold Cell.okWide at hv;rw[hu] at hv;unfold Cell.ok at hv;rw[hu] at hv;exact hv
   |str=>have hu:P.underlying T=some .string:=hu;rw[hu] at hv;unfold Cell.okWide at hv;rw[hu] at hv;unfold Cell.ok at hv;rw[hu] at hv;exact hv
   |sl e t=>have hu:P.underlying T=some (.slice e):=hu.1;rw[hu] at hv;unfold Cell.okWide at hv;rw[hu] at hv;unfold Cell.ok at hv;rw[hu] at hv;exact hv
   |_=>simp [Ty.agg] at ht
  have hc:v.cells.toList=[v]:=by
   cases v<;>first|rfl|exact absurd rfl (hnot _)
  rw[hc,zaj ht]
theorem z141{w:World}{β:Nat→Option Nat}{Y:Cfg}(h:Ext (z3j w β) Y):∀g,g<w.heap.size→Y.w.heap[g]? =w.heap[g]? :=fun g hg=>(h.still g hg trivial).2
end Go.Ref

namespace Go.Ref
open Go
theorem z10k{x:Int}(h1: -9223372036854775808≤x)(h2:x≤9223372036854775807):IntKind.i64.wrap x=x:=by
 simp [IntKind.wrap,IntKind.signed,IntKind.bits]
 omega
theorem z1ai{R:Type}{j n:Nat}{x:Option R}(h:j<n):zd (j:Int) n x=x:=by
 unfold zd
 rw[decide_eq_true (by omega:(0:Int)≤j),decide_eq_true (by omega:(j:Int)<n)]
 rfl
end Go.Ref

namespace Go.Ref
open Go
variable {P:Program} {E:Env}
def zbo(X:Cfg):List SV→List Value→Prop
 | [],[]=>True
 |s::l,v::vs=>(∀q,RepV X q s v)∧(∀id t p,s≠ .ptr id t p)∧zbo X l vs
 |_,_=>False
theorem zos{X:Cfg}:∀{l:List SV} {vs:List Value},zbo X l vs→vs.length=l.length∧∀(i:Nat) s v,l[i]? =some s→vs[i]? =some v→(∀q,RepV X q s v)∧∀id t p,s≠ .ptr id t p
 | [],[],_=>⟨rfl,fun i s v h=>by simp at h⟩
 |s::l,v::vs,h=>by
  obtain⟨h1,h2,h3⟩:=h
  obtain⟨g1,g2⟩:=zos h3
  refine⟨by simp [g1],fun i s' v' hs hv=> ?_⟩
  cases i with
  |zero=>
   simp only[List.getElem?_cons_zero,Option.some.injEq] at hs hv
   subst hs hv
   exact⟨h1,h2⟩
  |succ i=>
   simp only[List.getElem?_cons_succ] at hs hv
   exact g2 i s' v' hs hv
theorem z1df{X:Cfg}{l:List SV}{args:Array Value}(h:zbo X l args.toList)(hX:∀g pl n,X.ow g≠ .row pl n):Enter X l none args:=by
 obtain⟨h1,h2⟩:=zos h
 refine⟨by simpa using h1,fun i sv v hs hv=>(h2 i sv v hs (by simpa using hv)).1 _,fun id t p hm=> ?_,fun B hB=>(by cases hB),fun _=>hX⟩
 obtain⟨i,hi⟩:=List.mem_iff_getElem?.1 hm
 have hlt:=(List.getElem?_eq_some_iff.1 hi).1
 have hlt2:i<args.toList.length:=by omega
 exact absurd rfl ((h2 i _ _ hi (List.getElem?_eq_getElem hlt2)).2 id t p)
theorem z19q{C:Funs}{f:FuncId}(ho:Owes P C f){l:List SV}{args:Array Value}{W:World}{b:Bool}(hc:C (List SV×Option Box) f l none (fun r b=>some (r,b))=some ([.dat .bool b []],none))(hen:zbo (z3j W fun _=>none) l args.toList):
 Calls P f args W fun e w'=>e= .returned (.bool b)∧RowKit.Below W.heap.size W w':=by
 refine((ho l none _ _ hc).2 (z3j W fun _=>none) args (z1df hen fun g pl n e=>by cases e)).mono fun e w' he=> ?_
 cases e with
 |returned v=>
  obtain⟨Y,rfl,hext,r0,hrep,_,_⟩:=he
  have hrep:RepV {Y with β:=fun _=>some r0} (.r 0) (.dat .bool b []) v:=hrep
  refine⟨by rw[z3t hrep],hext.os,hext.tape,hext.output,hext.size,fun k hk=>z141 hext k hk⟩
 |panicked c=>exact he.elim
 |outgrown=>exact he.elim
end Go.Ref

namespace Go.Ref
open Go
variable {P:Program} {E:Env}
def bs(l:List Nat):ByteArray:=⟨(l.map UInt8.ofNat).toArray⟩
@[irreducible] def FUEL:Nat:=18446744073709551616
section
variable {R S:Type}
def kLoop(body:State→(Ex→State→Option R)→Option R)(l lx:List Nat)(k:Nat)(K:Ex→State→Option R):Ex→State→Option R:=fun e s=>match e with
 | .normal=>z3h l s fun s=>loopR body l lx k s K
 |e=>z3h lx s fun s=>K e s
def argB(t:Ty)(own:List (List Nat))(l:List SV)(b:Option Box)(K:El t→List SV→Option R):Option R:=
 match l,b with
 | .ptr 0 u []::r,some B=>if h:B.t.eqb t=true then if(u.eqb t&&B.own==own)=true then K (Ty.cast h B.x) r else none else none
 |_,_=>none
def argZ1(t pt bt:Ty)(own:List (List Nat))(l:List SV)(b:Option Box)(K:El t→El bt→Option R):Option R:=
 match l,b with
 | [a,.ptr 0 u []],some B=>if h:B.t.eqb bt=true then if(u.eqb pt&&B.own==own)=true then a.el t fun y=>K y (Ty.cast h B.x) else none else none
 |_,_=>none
def za7(t u v w:Ty)(l:List SV)(K:El t→El u→El v→El w→Option R):Option R:=
 match l with
 | [a,b,.view v' x,.view w' y]=>if h:v'.eqb v=true then if h2:w'.eqb w=true then a.el t fun p=>b.el u fun q=>K p q (Ty.cast h x) (Ty.cast h2 y) else none else none
 |_=>none
def noBox(b:Option Box)(K:Option R):Option R:=
 match b with
 |none=>K
 |some _=>none
theorem z44{b:Option Box}{F:Option R}{G:Option S}{K:S→Option R}(h:F=G.bind K):noBox b F=(noBox b G).bind K:=by
 cases b
 ·exact h
 ·rfl
theorem z3r{b:Option Box}{F:Option R}{z:R}(h:noBox b F=some z):b=none∧F=some z:=by
 cases b
 ·exact⟨rfl,h⟩
 ·cases h
theorem zem(c:Bool)(x y:Option S)(F:S→Option R):(bif c then x else y).bind F=bif c then x.bind F else y.bind F:=by cases c<;>rfl
theorem z11d(i:Int)(n:Nat)(x:Option S)(F:S→Option R):(zd i n x).bind F=zd i n (x.bind F):=by
 unfold zd;rw[zem,zem];rfl
theorem z196(F:S→Option R):(none:Option S).bind F=none:=Eq.trans rfl rfl
theorem zc(x:S)(F:S→Option R):(some x).bind F=F x:=Eq.trans rfl rfl
theorem z1em{α β:Type}(f:α→Option S)(g:β→Option S)(e:α⊕β)(F:S→Option R):(Sum.elim f g e).bind F=Sum.elim (fun x=>(f x).bind F) (fun x=>(g x).bind F) e:=by cases e<;>rfl
theorem z17l{α:Type}(x:Option α)(f:α→Option S)(F:S→Option R):(x.bind f).bind F=x.bind fun y=>(f y).bind F:=by cases x<;>rfl
theorem zuz{l:List SV}{F:Option R}{G:Option S}{K:S→Option R}(h:F=G.bind K):args0 l F=(args0 l G).bind K:=by
 unfold args0;split
 ·exact h
 ·rfl
theorem zv0{t:Ty}{l:List SV}{F:El t→Option R}{G:El t→Option S}{K:S→Option R}(h:∀x,F x=(G x).bind K):args1 t l F=(args1 t l G).bind K:=by
 unfold args1;split
 ·exact zt h
 ·rfl
theorem zv1{t u:Ty}{l:List SV}{F:El t→El u→Option R}{G:El t→El u→Option S}{K:S→Option R}(h:∀x y,F x y=(G x y).bind K):args2 t u l F=(args2 t u l G).bind K:=by
 unfold args2;split
 ·exact zt fun x=>zt fun y=>h x y
 ·rfl
theorem z17c{t u v:Ty}{l:List SV}{F:El t→El u→El v→Option R}{G:El t→El u→El v→Option S}{K:S→Option R}(h:∀x y z,F x y z=(G x y z).bind K):args3 t u v l F=(args3 t u v l G).bind K:=by
 unfold args3;split
 ·exact zt fun x=>zt fun y=>zt fun z=>h x y z
 ·rfl
theorem z17d{t u v w:Ty}{l:List SV}{F:El t→El u→El v→El w→Option R}{G:El t→El u→El v→El w→Option S}{K:S→Option R}(h:∀x y z a,F x y z a=(G x y z a).bind K):args4 t u v w l F=(args4 t u v w l G).bind K:=by
 unfold args4;split
 ·exact zt fun x=>zt fun y=>zt fun z=>zt fun a=>h x y z a
 ·rfl
theorem zyb{t:Ty}{own:List (List Nat)}{l:List SV}{b:Option Box}{F:El t→List SV→Option R}{G:El t→List SV→Option S}{K:S→Option R}(h:∀x r,F x r=(G x r).bind K):argB t own l b F=(argB t own l b G).bind K:=by
 unfold argB;split
 ·split
  ·split
   ·exact h _ _
   ·rfl
  ·rfl
 ·rfl
theorem z17b{t pt bt:Ty}{own:List (List Nat)}{l:List SV}{b:Option Box}{F:El t→El bt→Option R}{G:El t→El bt→Option S}{K:S→Option R}(h:∀x y,F x y=(G x y).bind K):argZ1 t pt bt own l b F=(argZ1 t pt bt own l b G).bind K:=by
 unfold argZ1;split
 ·split
  ·split
   ·exact zt fun y=>h _ _
   ·rfl
  ·rfl
 ·rfl
theorem z136{t u v w:Ty}{l:List SV}{F:El t→El u→El v→El w→Option R}{G:El t→El u→El v→El w→Option S}{K:S→Option R}(h:∀x y z a,F x y z a=(G x y z a).bind K):za7 t u v w l F=(za7 t u v w l G).bind K:=by
 unfold za7;split
 ·split
  ·split
   ·exact zt fun x=>zt fun y=>h x y _ _
   ·rfl
  ·rfl
 ·rfl
theorem z2n{α:Type}{m:Option α}{F:α→Option R}{G:α→Option S}{K:S→Option R}(h:∀r,F r=(G r).bind K):m.bind F=(m.bind G).bind K:=by
 cases m with
 |none=>rfl
 |some x=>exact h x
theorem z1hx{α β:Type}{f:α→Option R}{g:β→Option R}{f':α→Option S}{g':β→Option S}{K:S→Option R}{e:α⊕β}(h1:∀x,f x=(f' x).bind K)(h2:∀x,g x=(g' x).bind K):Sum.elim f g e=(Sum.elim f' g' e).bind K:=by
 cases e with
 |inl x=>exact h1 x
 |inr x=>exact h2 x
end
section
variable {R:Type}
theorem z18j{C:FuncId→Fun' R}{k:Nat}{fn:Func}{code:Code}{l q:List SV}{b:Option Box}{K:List SV→Option Box→Option R}(h:normA E.ps l=q)(hq:normA E.ps q=q)(hl:q.length=l.length):evFn E C k fn code l b K=evFn E C k fn code q b K:=by
 unfold evFn
 simp only[h,hq,hl]
theorem zwd:∀{ts:List Ty} {q:List SV},(∀s∈q,s.shut=s∧s≠ .nilS)→normA ts q=q
 |ts,[],_=>by cases ts<;>simp [normA]
 | [],q,_=>by simp [normA]
 |t::r,v::q,h=>by
  have h1:=h v (by simp)
  have h2:=zwd (ts:=r) (q:=q) (fun s hs=>h s (by simp [hs]))
  cases t<;>cases v<;>simp [normA,h2]<;>first|exact h1.1|exact absurd rfl h1.2
theorem z1e4{ts:List Ty}{l:List SV}(h:normA ts l=[]):l=[]:=by
 have:=z8f ts l
 rw[h] at this
 exact List.length_eq_zero_iff.1 this.symm
theorem z199{t:Ty}{r:List Ty}{l:List SV}{v':SV}{q':List SV}(h:normA (t::r) l=v'::q'):∃v q,l=v::q:=by
 cases l with
 |nil=>simp [normA] at h
 |cons v q=>exact⟨v,q,rfl⟩
theorem z2t{t:Ty}{r:List Ty}{l:List SV}{a:SV}{q':List SV}{K:El t→Option R}{z:R}(hn:normA (t::r) l=a::q')(h:a.el t K=some z):∃y v q,a= .dat t y []∧l=v::q∧normA r q=q'∧K y=some z:=by
 obtain⟨v,q,rfl⟩:=z199 hn
 obtain⟨y,h1,h2,h3⟩:=z1hf hn h
 exact⟨y,v,q,h1,rfl,h2.symm,h3⟩
theorem z47{l q:List SV}(hn:normA E.ps l=q)(hd:∀s∈q,s.shut=s∧s≠ .nilS){C:FuncId→Fun' R}{k:Nat}{fn:Func}{code:Code}{b:Option Box}{K:List SV→Option Box→Option R}:evFn E C k fn code l b K=evFn E C k fn code q b K:=
 z18j hn (zwd hd) (by rw[←hn,z8f])
theorem z7v{t:Ty}{x:El t}:(SV.dat t x []).shut=SV.dat t x []∧SV.dat t x []≠ .nilS:=⟨rfl,by simp⟩
def Same(E:Env)(l q:List SV):Prop:=∀{R:Type} (C:FuncId→Fun' R) (k:Nat) (fn:Func) (code:Code) (b:Option Box) (K:List SV→Option Box→Option R),evFn E C k fn code l b K=evFn E C k fn code q b K
theorem own0{l:List SV}{F:Option R}{z:R}(hps:E.ps=[])(h:args0 (normA [] l) F=some z):F=some z∧Same E l []:=by
 unfold args0 at h
 split at h
 ·rename_i hn
  have:=z1e4 hn
  subst this
  exact⟨h,fun C k fn code b K=>rfl⟩
 ·cases h
theorem own1{t:Ty}{l:List SV}{F:El t→Option R}{z:R}(hps:E.ps=[t])(h:args1 t (normA [t] l) F=some z):∃x,F x=some z∧Same E l [.dat t x []]:=by
 unfold args1 at h
 split at h
 ·rename_i a hn
  obtain⟨x,v,q,rfl,rfl,h1,h⟩:=z2t hn h
  refine⟨x,h,fun C k fn code b K=>z47 (by rw[hps];exact hn) ?_⟩
  intro s hs
  simp only[List.mem_cons,List.not_mem_nil,or_false] at hs
  subst hs;exact z7v
 ·cases h
theorem own2{t u:Ty}{l:List SV}{F:El t→El u→Option R}{z:R}(hps:E.ps=[t,u])(h:args2 t u (normA [t,u] l) F=some z):∃x y,F x y=some z∧Same E l [.dat t x [],.dat u y []]:=by
 unfold args2 at h
 split at h
 ·rename_i a b hn
  obtain⟨x,v,q,rfl,rfl,h1,h⟩:=z2t hn h
  obtain⟨y,v',q',rfl,rfl,h2,h⟩:=z2t h1 h
  refine⟨x,y,h,fun C k fn code b K=>z47 (by rw[hps];exact hn) ?_⟩
  intro s hs
  simp only[List.mem_cons,List.not_mem_nil,or_false] at hs
  rcases hs with rfl|rfl<;>exact z7v
 ·cases h
theorem own3{t u v:Ty}{l:List SV}{F:El t→El u→El v→Option R}{z:R}(hps:E.ps=[t,u,v])(h:args3 t u v (normA [t,u,v] l) F=some z):∃x y a,F x y a=some z∧Same E l [.dat t x [],.dat u y [],.dat v a []]:=by
 unfold args3 at h
 split at h
 ·rename_i a b c hn
  obtain⟨x,v,q,rfl,rfl,h1,h⟩:=z2t hn h
  obtain⟨y,v',q',rfl,rfl,h2,h⟩:=z2t h1 h
  obtain⟨w,v',q',rfl,rfl,h3,h⟩:=z2t h2 h
  refine⟨x,y,w,h,fun C k fn code b K=>z47 (by rw[hps];exact hn) ?_⟩
  intro s hs
  simp only[List.mem_cons,List.not_mem_nil,or_false] at hs
  rcases hs with rfl|rfl|rfl<;>exact z7v
 ·cases h
theorem own4{t u v w:Ty}{l:List SV}{F:El t→El u→El v→El w→Option R}{z:R}(hps:E.ps=[t,u,v,w])(h:args4 t u v w (normA [t,u,v,w] l) F=some z):∃x y a b,F x y a b=some z∧Same E l [.dat t x [],.dat u y [],.dat v a [],.dat w b []]:=by
 unfold args4 at h
 split at h
 ·rename_i a b c d hn
  obtain⟨x,v,q,rfl,rfl,h1,h⟩:=z2t hn h
  obtain⟨y,v',q',rfl,rfl,h2,h⟩:=z2t h1 h
  obtain⟨w,v',q',rfl,rfl,h3,h⟩:=z2t h2 h
  obtain⟨w',v',q',rfl,rfl,h4,h⟩:=z2t h3 h
  refine⟨x,y,w,w',h,fun C k fn code b K=>z47 (by rw[hps];exact hn) ?_⟩
  intro s hs
  simp only[List.mem_cons,List.not_mem_nil,or_false] at hs
  rcases hs with rfl|rfl|rfl|rfl<;>exact z7v
 ·cases h
theorem zuy{t:Ty}{own:List (List Nat)}{l:List SV}{b:Option Box}{F:El t→List SV→Option R}{z:R}(h:argB t own l b F=some z):∃x r,l= .ptr 0 t []::r∧b=some ⟨t,x,own⟩∧F x r=some z:=by
 unfold argB at h
 split at h
 ·rename_i u r B
  split at h
  ·rename_i hB
   split at h
   ·rename_i hu
    simp only[Bool.and_eq_true,beq_iff_eq] at hu
    obtain⟨h1,h2⟩:=hu
    obtain⟨Bt,Bx,Bo⟩:=B
    have:=Ty.eqb_eq hB
    have h3:=Ty.eqb_eq h1
    subst this
    subst h3
    subst h2
    exact⟨Bx,r,rfl,rfl,h⟩
   ·cases h
  ·cases h
 ·cases h
theorem z19n{t:Ty}:(SV.ptr 0 t []).shut=SV.ptr 0 t []∧SV.ptr 0 t []≠ .nilS:=⟨rfl,by simp⟩
theorem Same.ptr{t:Ty}{ts:List Ty}{q q':List SV}(hps:E.ps= .unit::ts)(hn:normA ts q=q')(hd:∀s∈q',s.shut=s∧s≠ .nilS):Same E (.ptr 0 t []::q) (.ptr 0 t []::q'):=fun C k fn code b K=>
 z47 (by rw[hps];simp [normA,SV.shut,hn]) (fun s hs=>by
  rcases List.mem_cons.1 hs with rfl|hs
  ·exact z19n
  ·exact hd s hs)
theorem ownZ1{t pt bt:Ty}{own:List (List Nat)}{l:List SV}{b:Option Box}{F:El t→El bt→Option R}{z:R}(hps:E.ps=[t,.unit])(h:argZ1 t pt bt own (normA [t,.unit] l) b F=some z):
 ∃x y,b=some ⟨bt,y,own⟩∧F x y=some z∧Same E l [.dat t x [],.ptr 0 pt []]:=by
 unfold argZ1 at h
 split at h
 ·rename_i a u B hn
  split at h
  ·rename_i hB
   split at h
   ·rename_i hu
    simp only[Bool.and_eq_true,beq_iff_eq] at hu
    obtain⟨h1,h2⟩:=hu
    obtain⟨Bt,Bx,Bo⟩:=B
    have:=Ty.eqb_eq hB
    have h3:=Ty.eqb_eq h1
    subst this
    subst h3
    subst h2
    obtain⟨y,v,q,rfl,rfl,h4,h⟩:=z2t hn h
    refine⟨y,Bx,rfl,h,fun C k fn code b K=>z47 (by rw[hps];exact hn) ?_⟩
    intro s hs
    simp only[List.mem_cons,List.not_mem_nil,or_false] at hs
    rcases hs with rfl|rfl
    ·exact z7v
    ·exact z19n
   ·cases h
  ·cases h
 ·cases h
theorem z12v{t:Ty}{x:El t}:(SV.view t x).shut=SV.view t x∧SV.view t x≠ .nilS:=⟨rfl,by simp⟩
theorem ownVV{t u v w:Ty}{l:List SV}{F:El t→El u→El v→El w→Option R}{z:R}(hps:E.ps=[t,u,.unit,.unit])(h:za7 t u v w (normA [t,u,.unit,.unit] l) F=some z):
 ∃p q x y,F p q x y=some z∧Same E l [.dat t p [],.dat u q [],.view v x,.view w y]:=by
 unfold za7 at h
 split at h
 ·rename_i a b v' x w' y hn
  split at h
  ·rename_i hv
   split at h
   ·rename_i hw
    have:=Ty.eqb_eq hv
    have h3:=Ty.eqb_eq hw
    subst this
    subst h3
    obtain⟨p,v1,q1,rfl,rfl,h4,h⟩:=z2t hn h
    obtain⟨q,v2,q2,rfl,rfl,h5,h⟩:=z2t h4 h
    refine⟨p,q,x,y,h,fun C k fn code b K=>z47 (by rw[hps];exact hn) ?_⟩
    intro s hs
    simp only[List.mem_cons,List.not_mem_nil,or_false] at hs
    rcases hs with rfl|rfl|rfl|rfl
    ·exact z7v
    ·exact z7v
    ·exact z12v
    ·exact z12v
   ·cases h
  ·cases h
 ·cases h
end
end Go.Ref

namespace Go.Ref
open Go
variable {P:Program} {E:Env}
def Cfg.after(X:Cfg)(w:World):Cfg:=⟨w,fun g=>if g<X.w.heap.size then X.ow g else .ro 0,X.β⟩
theorem zof{X:Cfg}{w:World}(h:RowKit.Below X.w.heap.size X.w w){a:Addr}{v:Value}(hs:X.sees a v):(X.after w).sees a v:=by
 have hlt:=Cfg.sees_lt hs
 refine⟨hs.1,?_,?_⟩
 ·have:=hs.2.1
  simp only[World.cell?] at this⊢
  rw[show(X.after w).w=w from rfl,h.block _ hlt];exact this
 ·simp only[Cfg.after];rw[if_pos hlt];exact hs.2.2
theorem z175{X:Cfg}{w:World}(h:RowKit.Below X.w.heap.size X.w w):Ext X (X.after w) where
 sees:=fun _ _=>zof h
 size:=h.size
 os:=h.os
 tape:=h.tape
 output:=h.output
 β0:=rfl
 still:=fun g hg _=>⟨by simp only[Cfg.after];rw[if_pos hg],h.block g hg⟩
theorem z1dv{C:Funs}(h0:∀f,Owes P C f){n:FuncId}{g:Pure}(hent:Ent P n)
 (h:∀(l:List SV) (b:Option Box) (r:List SV) (b':Option Box),g (List SV×Option Box) l b (fun r b=>some (r,b))=some (r,b')→b'=none∧(∀id t p,SV.ptr id t p∉r)∧
   ∀(X:Cfg) (args:Array Value),Enter X l b args→Calls P n args X.w fun e w'=>∃v,e= .returned v∧RowKit.Below X.w.heap.size X.w w'∧∀Y:Cfg,Y.w=w'→(∀a v,X.sees a v→Y.sees a v)→RepL Y .r r v):∀f,Owes P (C.add n [] g) f:=by
 intro f
 by_cases e:f=n
 ·subst e
  intro l b r b' hc
  unfold Funs.add at hc
  have hb:Nat.beq f f=true:=by simp
  rw[hb] at hc
  have hc:g (List SV×Option Box) (normA [] l) b (fun r b=>some (r,b))=some (r,b'):=hc
  have hl:normA [] l=l:=by cases l<;>rfl
  rw[hl] at hc
  obtain⟨rfl,hp,hcalls⟩:=h l b r b' hc
  refine⟨hent,fun X args hen=>(hcalls X args hen).mono fun e w' he=> ?_⟩
  obtain⟨v,rfl,hB,hrep⟩:=he
  refine⟨X.after w',rfl,z175 hB,0,hrep {X.after w' with β:=fun _=>some 0} rfl (fun a v hs=>(zof hB hs:(X.after w').sees a v)),fun B' hB'=>(by cases hB'),fun _=>hp⟩
 ·intro l b r b' hc
  unfold Funs.add at hc
  have:Nat.beq f n=false:=by
   cases hh:Nat.beq f n with
   |false=>rfl
   |true=>exact absurd (Nat.eq_of_beq_eq_true hh) e
  rw[this] at hc
  exact h0 f l b r b' hc
theorem zvr{X:Cfg}{l:List SV}{b:Option Box}{args:Array Value}(h:Enter X l b args){i:Nat}{sv:SV}(hs:l[i]? =some sv){x:ByteArray}(hx:∀(X:Cfg) (pl:List Nat→Place) (v:Value),RepV X pl sv v→∃cs,Rep X .str x cs∧v=mkv .str cs):args[i]? =some (.string x):=by
 have hlt:i<args.size:=by rw[h.size];exact(List.getElem?_eq_some_iff.1 hs).1
 rw[Array.getElem?_eq_getElem hlt]
 obtain⟨cs,h1,h2⟩:=hx X _ _ (h.rep i sv _ hs (Array.getElem?_eq_getElem hlt))
 rw[h2,z25 h1]
theorem z18g{X:Cfg}{l:List SV}{b:Option Box}{args:Array Value}(h:Enter X l b args){i:Nat}{sv:SV}(hs:l[i]? =some sv){k:IntKind}{n:Int}(hx:∀(X:Cfg) (pl:List Nat→Place) (v:Value),RepV X pl sv v→∃cs,Rep X (.int k) n cs∧v=mkv (.int k) cs):args[i]? =some (.int k n):=by
 have hlt:i<args.size:=by rw[h.size];exact(List.getElem?_eq_some_iff.1 hs).1
 rw[Array.getElem?_eq_getElem hlt]
 obtain⟨cs,h1,h2⟩:=hx X _ _ (h.rep i sv _ hs (Array.getElem?_eq_getElem hlt))
 rw[h2,z1l h1]
theorem z1cm{args:Array Value}{v:Value}(hs:args.size=1)(h:args[0]? =some v):args= #[v]:=by
 apply Array.ext'
 match hl:args.toList,(show args.toList.length=1 by simpa using hs) with
 | [x],_=>
   have:args.toList[0]? =some v:=by simpa using h
   rw[hl] at this
   simpa using this
theorem zyd{args:Array Value}{u v:Value}(hs:args.size=2)(h:args[0]? =some u)(h1:args[1]? =some v):args= #[u,v]:=by
 apply Array.ext'
 match hl:args.toList,(show args.toList.length=2 by simpa using hs) with
 | [x,y],_=>
   have a:args.toList[0]? =some u:=by simpa using h
   have b:args.toList[1]? =some v:=by simpa using h1
   rw[hl] at a b
   simp at a b
   rw[a,b]
theorem z1dw{C:Funs}(h0:∀f,Owes P C f){n:FuncId}(hent:Ent P n)(F:ByteArray→Int→Option ByteArray)
 (h:∀(s:ByteArray) (k:Int) (r:ByteArray),F s k=some r→∀w:World,Calls P n #[.string s,.int .i64 k] w fun e w'=>e= .returned (.string r)∧RowKit.Below w.heap.size w w'):
 ∀f,Owes P (C.add n [] fun R l b K=>noBox b (args2 .str (.int .i64) l fun x0 x1=>(F x0 x1).bind fun r=>K [.dat .str r []] none)) f:=by
 refine z1dv h0 hent fun l b r b' hc=> ?_
 obtain⟨hb,hc2⟩:=z3r hc
 clear hc
 subst hb
 have hc:=hc2
 clear hc2
 unfold args2 at hc
 split at hc
 case h_2=>cases hc
 rename_i sa sb
 obtain⟨s,hc,hs⟩:=zx hc
 obtain⟨k,hc,hk⟩:=zx hc
 have hc:((F s k).bind fun r=>some (([SV.dat .str r []]:List SV),(none:Option Box)))=some (r,b'):=hc
 cases hF:F s k with
 |none=>rw[hF] at hc;cases hc
 |some x=>
  rw[hF] at hc
  cases hc
  refine⟨rfl,fun id t p hm=>by simp at hm,fun X args hen=> ?_⟩
  have e:=zyd hen.size (zvr hen rfl hs) (z18g hen rfl hk)
  rw[e]
  exact(h s k x hF X.w).mono fun e w' ⟨he,hB⟩=>⟨_,he,hB,fun Y _ _=>z45⟩
end Go.Ref
namespace Groat
open Go Go.Ref
def strings_Repeat(s:ByteArray)(k:Int):Option ByteArray:=
 bif decide (0≤k) then bif decide (k≤9223372036854775807) then bif decide ((s.size:Int)*k≤140737488355328) then some ⟨(Go.Lib.repeatL s.data.toList k.toNat).toArray⟩ else none else none else none
theorem zbi{P:Program}{ρ:Go.Shelf.Ren}(L:Go.Proofs.Lays.n105 P ρ)(B:Go.Proofs.Builder.Extra P ρ){n:FuncId}(hn:ρ.f 105=n)(s:ByteArray)(k:Int)(r:ByteArray)(h:strings_Repeat s k=some r)(w:World):
 Calls P n #[.string s,.int .i64 k] w fun e w'=>e= .returned (.string r)∧RowKit.Below w.heap.size w w':=by
 subst hn
 unfold strings_Repeat at h
 by_cases h0:0≤k
 ·by_cases h1:k≤9223372036854775807
  ·by_cases h2:(s.size:Int)*k≤140737488355328
   ·rw[decide_eq_true h0,decide_eq_true h1,decide_eq_true h2] at h
    cases h
    obtain⟨c,rfl⟩:∃c:Nat,k=(c:Int):=⟨k.toNat,by omega⟩
    exact Go.Proofs.Any.strings_Repeat L B s c w (by omega) (by rw[←Int.natCast_mul] at h2;omega)
   ·rw[decide_eq_true h0,decide_eq_true h1,decide_eq_false h2] at h;cases h
  ·rw[decide_eq_true h0,decide_eq_false h1] at h;cases h
 ·rw[decide_eq_false h0] at h;cases h
end Groat

namespace Go.Ref
open Go Go.Shelf Go.RowKit Go.Proofs
variable {P:Program} {E:Env} {ρ:Ren}
abbrev tBld(T e:TypeId):Ty:= .spc (.bld T e) .unit .unit
def z1t(x s:ByteArray):Option (Int×ByteArray):=bif decide (x.size+s.size≤140737488355328) then some ((s.size:Int),x++s) else none
def z4t(x:ByteArray):Option (ByteArray×ByteArray):=some (x,x)
def zeh(T e:TypeId):Pure:=fun R l b K=>argB (tBld T e) [[]] l b fun x0 l=>args1 .str l fun x1=>(z1t x0 x1).bind fun r=>K [.dat (.int .i64) r.1 [],.undef] (some ⟨tBld T e,r.2,[[]]⟩)
def zeg(T e:TypeId):Pure:=fun R l b K=>argB (tBld T e) [[]] l b fun x0 l=>args0 l ((z4t x0).bind fun r=>K [.dat .str r.1 []] (some ⟨tBld T e,r.2,[]⟩))
theorem z1k7(T e:TypeId):(zeh T e).Nat:=fun R S l b F G K h=>zyb fun _ _=>zv0 fun _=>z2n fun _=>h _ _
theorem z1k6(T e:TypeId):(zeg T e).Nat:=fun R S l b F G K h=>zyb fun _ _=>zuz (z2n fun _=>h _ _)
theorem z106(x s:ByteArray):Lib.strCells (x++s)=Lib.strCells x++Lib.strCells s:=by
 simp [Lib.strCells,ByteArray.data_append]
def Cfg.bld(X:Cfg)(w:World)(r:Nat)(g:Option Nat):Cfg:=⟨w,fun k=>if k=r then .box 0 else if g=some k then .row (.b 0 []) 0 else if k<X.w.heap.size then X.ow k else .ro 0,X.β⟩
theorem z11y{X:Cfg}{w:World}{r:Nat}{g0 g:Option Nat}(how:X.ow r= .box 0)(h0:∀k,g0=some k→X.ow k= .row (.b 0 []) 0)(h:But r g0 X.w w)(hg:∀k,g=some k→g0=some k∨X.w.heap.size≤k):Ext X (X.bld w r g):=by
 have keep:∀k,k<X.w.heap.size→X.ow k≠ .box 0→X.ow k≠ .row (.b 0 []) 0→(X.bld w r g).ow k=X.ow k∧w.heap[k]? =X.w.heap[k]? :=fun k hk h1 h2=>by
  have hr:k≠r:=fun e=>h1 (by rw[e];exact how)
  have hg1:g≠some k:=fun e=>by
   rcases hg k e with e2|e2
   ·exact h2 (h0 k e2)
   ·omega
  have hg2:some k≠g0:=fun e=>h2 (h0 k e.symm)
  refine⟨?_,h.block k hk hr hg2⟩
  simp only[Cfg.bld]
  rw[if_neg hr,if_neg hg1,if_pos hk]
 refine⟨fun a v hs=> ?_,h.size,h.os,h.tape,h.output,rfl,fun k hk hst=> ?_⟩
 ·have hlt:=Cfg.sees_lt hs
  have hu:=hs.2.2
  obtain⟨k1,k2⟩:=keep a.block hlt (fun e=>by rw[e] at hu;exact hu) (fun e=>by rw[e] at hu;exact Nat.not_lt_zero _ hu)
  refine⟨hs.1,?_,by rw[k1];exact hu⟩
  have:=hs.2.1
  simp only[World.cell?] at this⊢
  rw[show(X.bld w r g).w.heap=w.heap from rfl,k2];exact this
 ·exact keep k hk (fun e=>by rw[e] at hst;exact hst) (fun e=>by rw[e] at hst;exact hst)
theorem zyi(n:Nat):Nat.beq n n=true:=by simp
theorem z17g{f n:Nat}(e:f≠n):Nat.beq f n=false:=by
 cases hh:Nat.beq f n with
 |false=>rfl
 |true=>exact absurd (Nat.eq_of_beq_eq_true hh) e
theorem z17p{C:Funs}(h0:∀f,Owes P C f){n T e:TypeId}(hent:Ent P n)(L:Lays.n166 P ρ)(X0:Builder.Extra P ρ)(hn:ρ.f 166=n)(hT:ρ.t 72=T)(he:ρ.t 5=e):∀f,Owes P (C.add n [] (zeh T e)) f:=by
 subst hT he
 intro f
 by_cases ef:f=n
 ·subst ef
  intro l b r b' hc
  unfold Funs.add at hc
  rw[zyi] at hc
  have hc:zeh (ρ.t 72) (ρ.t 5) (List SV×Option Box) (normA [] l) b (fun r b=>some (r,b))=some (r,b'):=hc
  have hl:normA [] l=l:=by cases l<;>rfl
  rw[hl] at hc
  unfold zeh at hc
  obtain⟨x,q,rfl,rfl,hc9⟩:=zuy hc
  clear hc
  have hc:=hc9
  clear hc9
  unfold args1 at hc
  split at hc
  case h_2=>cases hc
  rename_i a
  obtain⟨s,hc,hs⟩:=zx hc
  unfold z1t at hc
  cases hd:decide (ByteArray.size x+s.size≤140737488355328) with
  |false=>rw[hd] at hc;cases hc
  |true=>
   rw[hd] at hc
   cases hc
   have hlen:=of_decide_eq_true hd
   refine⟨hent,fun X args hen=> ?_⟩
   obtain⟨r0,hβ,how,⟨o,ho⟩,hb⟩:=hen.box _ rfl
   obtain⟨v,hB,hv⟩:=hb (by simp)
   have hsz:args.size=2:=by rw[hen.size];rfl
   have a0:args[0]? =some (.pointer (some ⟨r0,0,none⟩)):=by
    rw[Array.getElem?_eq_getElem (by omega)]
    obtain⟨r1,g1,g2⟩:=hen.rep 0 _ _ rfl (Array.getElem?_eq_getElem (by omega))
    rw[hβ] at g1
    cases g1
    rw[((z83 rfl).1 g2).1];rfl
   have a1:args[1]? =some (.string s):=zvr hen (i:=1) rfl hs
   rw[zyd hsz a0 a1,←hn]
   refine(z17r L X0 r0 v (Lib.strCells x) s X.w hB (by rw[Lib.strCells_length];exact hlen)).mono ?_
   rintro e w' ⟨rfl,v',hB',hBut,hnew⟩
   have hY:(X.bld w' r0 v'.ownBlock).ow r0= .box 0:=by simp [Cfg.bld]
   refine⟨X.bld w' r0 v'.ownBlock,rfl,z11y how hv hBut hnew,r0,⟨_,rfl,rfl,fun j sv u hj hu=> ?_⟩,fun B' hB2=> ?_,fun _ id t p hm=>by simp at hm⟩
   ·match j with
    |0=>cases hj;cases hu;exact zz
    |1=>cases hj;trivial
    |j+2=>simp at hj
   ·cases hB2
    refine⟨⟨hY,?_,fun _=>⟨v',by rw[z106];exact hB',fun g hg=> ?_⟩⟩,fun _=>hβ⟩
    ·rcases hB'.blk with h|h<;>exact⟨_,h⟩
    ·simp only[Cfg.bld]
     rw[if_neg (fun e=>hB'.ne (by rw[hg,e])),if_pos hg]
 ·intro l b r b' hc
  unfold Funs.add at hc
  rw[z17g ef] at hc
  exact h0 f l b r b' hc
theorem z17o{C:Funs}(h0:∀f,Owes P C f){n T e:TypeId}(hent:Ent P n)(L:Lays.n169 P ρ)(X0:Builder.Extra P ρ)(hn:ρ.f 169=n)(hT:ρ.t 72=T)(he:ρ.t 5=e):∀f,Owes P (C.add n [] (zeg T e)) f:=by
 subst hT he
 intro f
 by_cases ef:f=n
 ·subst ef
  intro l b r b' hc
  unfold Funs.add at hc
  rw[zyi] at hc
  have hc:zeg (ρ.t 72) (ρ.t 5) (List SV×Option Box) (normA [] l) b (fun r b=>some (r,b))=some (r,b'):=hc
  have hl:normA [] l=l:=by cases l<;>rfl
  rw[hl] at hc
  unfold zeg at hc
  obtain⟨x,q,rfl,rfl,hc9⟩:=zuy hc
  clear hc
  have hc:=hc9
  clear hc9
  unfold args0 at hc
  split at hc
  case h_2=>cases hc
  cases hc
  refine⟨hent,fun X args hen=> ?_⟩
  obtain⟨r0,hβ,how,⟨o,ho⟩,hb⟩:=hen.box _ rfl
  obtain⟨v,hB,hv⟩:=hb (by simp)
  have hsz:args.size=1:=by rw[hen.size];rfl
  have a0:args[0]? =some (.pointer (some ⟨r0,0,none⟩)):=by
   rw[Array.getElem?_eq_getElem (by omega)]
   obtain⟨r1,g1,g2⟩:=hen.rep 0 _ _ rfl (Array.getElem?_eq_getElem (by omega))
   rw[hβ] at g1
   cases g1
   rw[((z83 rfl).1 g2).1];rfl
  rw[z1cm hsz a0,←hn]
  refine(z1cr L X0 r0 v (x:ByteArray).data.toList X.w hB).mono ?_
  rintro e w' ⟨rfl,hBut⟩
  have hY:(X.bld w' r0 none).ow r0= .box 0:=by simp [Cfg.bld]
  refine⟨X.bld w' r0 none,rfl,z11y how hv hBut (fun k hk=>by cases hk),r0,?_,fun B' hB2=> ?_,fun _ id t p hm=>by simp at hm⟩
  ·exact z45
  ·cases hB2
   refine⟨⟨hY,⟨_,Array.getElem?_eq_getElem (Nat.lt_of_lt_of_le hB.lt hBut.size)⟩,fun hm=>by cases hm⟩,fun _=>hβ⟩
 ·intro l b r b' hc
  unfold Funs.add at hc
  rw[z17g ef] at hc
  exact h0 f l b r b' hc
end Go.Ref

namespace Go.Ref
open Go
variable {P:Program} {R S:Type}
structure Okt(P:Program)(T:Funs):Prop where
 mix:P.follows .mixedOrders=true
 nat:T.Nat
 owes:∀f,Owes P T f
noncomputable abbrev cd (fn:Func):Code:=fn.body.getD .skip
noncomputable abbrev evF (E:Env) (T:Funs) (R:Type) (k:Nat) (fn:Func) (l:List SV) (b:Option Box) (K:List SV→Option Box→Option R):Option R:=evFn E (T R) k fn (cd fn) l b K
abbrev KF(R:Type):Type:=List SV→Option Box→Option R
abbrev KX(R:Type):Type:=Ex→State→Option R
abbrev Res(β:Type):Type 1:=(R:Type)→β→KF R→Option R
def Res.Nat{β:Type}(o:Res β):Prop:=∀(R S:Type) r (F:KF R) (G:KF S) (K:S→Option R),(∀r b,F r b=(G r b).bind K)→o R r F=(o S r G).bind K
def chk(fn:Func):Bool:= !(fn.name== "runtime.NumGoroutine")&&fn.body.isSome
def tI(x:Int):SV:= .dat (.int .i64) x []
def tU(x:Int):SV:= .dat (.int .u8) x []
def tB(x:Bool):SV:= .dat .bool x []
def tS(x:ByteArray):SV:= .dat .str x []
theorem nn_:(∀{R S:Type} (c:Bool) (x y:Option S) (F:S→Option R),(bif c then x else y).bind F=bif c then x.bind F else y.bind F)∧(∀{R S:Type} (i:Int) (n:Nat) (x:Option S) (F:S→Option R),(zd i n x).bind F=zd i n (x.bind F))∧
 (∀{R S:Type} (F:S→Option R),(.none:Option S).bind F= .none)∧(∀{R S:Type} (x:S) (F:S→Option R),(some x).bind F=F x)∧(∀{R S α β:Type} (f:α→Option S) (g:β→Option S) (e:α⊕β) (F:S→Option R),(Sum.elim f g e).bind F=Sum.elim (fun x=>(f x).bind F) (fun x=>(g x).bind F) e)∧
 (∀{R S α:Type} (x:Option α) (f:α→Option S) (F:S→Option R),(x.bind f).bind F=x.bind fun y=>(f y).bind F)∧(∀{α β γ:Type} (f:α→γ) (g:β→γ) (x:α),Sum.elim f g (.inl x)=f x)∧(∀{α β γ:Type} (f:α→γ) (g:β→γ) (x:β),Sum.elim f g (.inr x)=g x):=
 ⟨zem,z11d,z196,zc,z1em,z17l,fun _ _ _=>rfl,fun _ _ _=>rfl⟩
theorem Okt.none(hm:P.follows .mixedOrders=true):Okt P Funs.none:=⟨hm,z1e3,z197⟩
theorem Okt.add{E:Env}{T:Funs}(h:Okt P T)(hE:EnvOk P E){n:FuncId}{ps:List Ty}{g:Pure}{fn:Func}(hfn:P.funcs[n]? =some fn)(hc:chk fn=true)(hg:g.Nat)
 (h1:∀(l:List SV) (b:Option Box) (r:List SV) (b':Option Box),g (List SV×Option Box) (normA ps l) b (fun r b=>some (r,b))=some (r,b')→∃k,evFn E (T (List SV×Option Box)) k fn (cd fn) l b (fun r b=>some (r,b))=some (r,b')):Okt P (T.add n ps g):=by
 obtain⟨h2,h3⟩:=Bool.and_eq_true_iff.1 hc
 refine⟨h.mix,zjz h.nat hg,z1ci hE h.mix h.nat h.owes hfn (by simpa using h2) ?_ h1⟩
 cases e:fn.body with
 |none=>rw[e] at h3;cases h3
 |some c=>simp [cd,e]
def pu0{β:Type}(f:Option β)(o:Res β):Pure:=fun R l b K=>noBox b (args0 l (f.bind fun r=>o R r K))
theorem st0(E:Env){T:Funs}{n:FuncId}(fn:Func){β:Type}{f:Option β}{o:Res β}(m:(R:Type)→Nat→KF R→Option R)(h0:Okt P T)(hE:EnvOk P E)(hfn:P.funcs[n]? =some fn)(hc:chk fn=true)(hp:E.ps=[])(ho:o.Nat)
 (h1:∀(R:Type) k (K:KF R),evF E T R k fn [] .none K=m R k K) (h2:∀(R:Type) kk (e:kk=FUEL) (K:KF R),m R kk K=f.bind fun r=>o R r K):Okt P (T.add n [] (pu0 f o)):=
 h0.add hE hfn hc (fun R S l b F G K h=>z44 (zuz (z2n fun _=>ho _ _ _ _ _ _ h))) fun l b r b' h=>by
  obtain⟨rfl,h5⟩:=z3r h
  obtain⟨h3,h4⟩:=own0 hp h5
  exact⟨FUEL,(h4 _ _ _ _ _ _).trans (((h1 _ _ _).trans (h2 _ _ rfl _)).trans h3)⟩
def pu1(t:Ty){β:Type}(f:El t→Option β)(o:Res β):Pure:=fun R l b K=>noBox b (args1 t l (fun x=>(f x).bind fun r=>o R r K))
theorem st1(E:Env){T:Funs}{n:FuncId}(fn:Func){t:Ty}{β:Type}{f:El t→Option β}{o:Res β}(m:(R:Type)→Nat→El t→KF R→Option R)(h0:Okt P T)(hE:EnvOk P E)(hfn:P.funcs[n]? =some fn)(hc:chk fn=true)(hp:E.ps=[t])(ho:o.Nat)
 (h1:∀(R:Type) k x (K:KF R),evF E T R k fn [.dat t x []] .none K=m R k x K) (h2:∀(R:Type) kk (e:kk=FUEL) x (K:KF R),m R kk x K=(f x).bind fun r=>o R r K):Okt P (T.add n [t] (pu1 t f o)):=
 h0.add hE hfn hc (fun R S l b F G K h=>z44 (zv0 fun _=>z2n fun _=>ho _ _ _ _ _ _ h)) fun l b r b' h=>by
  obtain⟨rfl,h5⟩:=z3r h
  obtain⟨x,h3,h4⟩:=own1 hp h5
  exact⟨FUEL,(h4 _ _ _ _ _ _).trans (((h1 _ _ x _).trans (h2 _ _ rfl x _)).trans h3)⟩
def pu2(t u:Ty){β:Type}(f:El t→El u→Option β)(o:Res β):Pure:=fun R l b K=>noBox b (args2 t u l (fun x y=>(f x y).bind fun r=>o R r K))
theorem st2(E:Env){T:Funs}{n:FuncId}(fn:Func){t u:Ty}{β:Type}{f:El t→El u→Option β}{o:Res β}(m:(R:Type)→Nat→El t→El u→KF R→Option R)(h0:Okt P T)(hE:EnvOk P E)(hfn:P.funcs[n]? =some fn)(hc:chk fn=true)(hp:E.ps=[t,u])(ho:o.Nat)
 (h1:∀(R:Type) k x y (K:KF R),evF E T R k fn [.dat t x [],.dat u y []] .none K=m R k x y K) (h2:∀(R:Type) kk (e:kk=FUEL) x y (K:KF R),m R kk x y K=(f x y).bind fun r=>o R r K):Okt P (T.add n [t,u] (pu2 t u f o)):=
 h0.add hE hfn hc (fun R S l b F G K h=>z44 (zv1 fun _ _=>z2n fun _=>ho _ _ _ _ _ _ h)) fun l b r b' h=>by
  obtain⟨rfl,h5⟩:=z3r h
  obtain⟨x,y,h3,h4⟩:=own2 hp h5
  exact⟨FUEL,(h4 _ _ _ _ _ _).trans (((h1 _ _ x y _).trans (h2 _ _ rfl x y _)).trans h3)⟩
def pu3(t u v:Ty){β:Type}(f:El t→El u→El v→Option β)(o:Res β):Pure:=fun R l b K=>noBox b (args3 t u v l (fun x y a=>(f x y a).bind fun r=>o R r K))
theorem st3(E:Env){T:Funs}{n:FuncId}(fn:Func){t u v:Ty}{β:Type}{f:El t→El u→El v→Option β}{o:Res β}(m:(R:Type)→Nat→El t→El u→El v→KF R→Option R)(h0:Okt P T)(hE:EnvOk P E)(hfn:P.funcs[n]? =some fn)(hc:chk fn=true)(hp:E.ps=[t,u,v])(ho:o.Nat)
 (h1:∀(R:Type) k x y a (K:KF R),evF E T R k fn [.dat t x [],.dat u y [],.dat v a []] .none K=m R k x y a K) (h2:∀(R:Type) kk (e:kk=FUEL) x y a (K:KF R),m R kk x y a K=(f x y a).bind fun r=>o R r K):Okt P (T.add n [t,u,v] (pu3 t u v f o)):=
 h0.add hE hfn hc (fun R S l b F G K h=>z44 (z17c fun _ _ _=>z2n fun _=>ho _ _ _ _ _ _ h)) fun l b r b' h=>by
  obtain⟨rfl,h5⟩:=z3r h
  obtain⟨x,y,a,h3,h4⟩:=own3 hp h5
  exact⟨FUEL,(h4 _ _ _ _ _ _).trans (((h1 _ _ x y a _).trans (h2 _ _ rfl x y a _)).trans h3)⟩
def pu4(t u v w:Ty){β:Type}(f:El t→El u→El v→El w→Option β)(o:Res β):Pure:=fun R l b K=>noBox b (args4 t u v w l (fun x y a b=>(f x y a b).bind fun r=>o R r K))
theorem st4(E:Env){T:Funs}{n:FuncId}(fn:Func){t u v w:Ty}{β:Type}{f:El t→El u→El v→El w→Option β}{o:Res β}(m:(R:Type)→Nat→El t→El u→El v→El w→KF R→Option R)(h0:Okt P T)(hE:EnvOk P E)(hfn:P.funcs[n]? =some fn)(hc:chk fn=true)(hp:E.ps=[t,u,v,w])(ho:o.Nat)
 (h1:∀(R:Type) k x y a b (K:KF R),evF E T R k fn [.dat t x [],.dat u y [],.dat v a [],.dat w b []] .none K=m R k x y a b K) (h2:∀(R:Type) kk (e:kk=FUEL) x y a b (K:KF R),m R kk x y a b K=(f x y a b).bind fun r=>o R r K):Okt P (T.add n [t,u,v,w] (pu4 t u v w f o)):=
 h0.add hE hfn hc (fun R S l b F G K h=>z44 (z17d fun _ _ _ _=>z2n fun _=>ho _ _ _ _ _ _ h)) fun l b r b' h=>by
  obtain⟨rfl,h5⟩:=z3r h
  obtain⟨x,y,a,b,h3,h4⟩:=own4 hp h5
  exact⟨FUEL,(h4 _ _ _ _ _ _).trans (((h1 _ _ x y a b _).trans (h2 _ _ rfl x y a b _)).trans h3)⟩
def pz(t pt bt:Ty)(wn:List (List Nat)){β:Type}(f:El t→El bt→Option β)(o:Res β):Pure:=fun R l b K=>argZ1 t pt bt wn l b fun x y=>(f x y).bind fun r=>o R r K
theorem sz(E:Env){T:Funs}{n:FuncId}(fn:Func){t pt bt:Ty}{wn:List (List Nat)}{β:Type}{f:El t→El bt→Option β}{o:Res β}(m:(R:Type)→Nat→El t→El bt→KF R→Option R)(h0:Okt P T)(hE:EnvOk P E)(hfn:P.funcs[n]? =some fn)(hc:chk fn=true)(hp:E.ps=[t,.unit])(ho:o.Nat)
 (h1:∀(R:Type) k x y (K:KF R),evF E T R k fn [.dat t x [],.ptr 0 pt []] (some ⟨bt,y,wn⟩) K=m R k x y K) (h2:∀(R:Type) kk (e:kk=FUEL) x y (K:KF R),m R kk x y K=(f x y).bind fun r=>o R r K):Okt P (T.add n [t,.unit] (pz t pt bt wn f o)):=
 h0.add hE hfn hc (fun R S l b F G K h=>z17b fun _ _=>z2n fun _=>ho _ _ _ _ _ _ h) fun l b r b' h=>by
  obtain⟨x,y,rfl,h3,h4⟩:=ownZ1 hp h
  exact⟨FUEL,(h4 _ _ _ _ _ _).trans (((h1 _ _ x y _).trans (h2 _ _ rfl x y _)).trans h3)⟩
def pv(t u v w:Ty){β:Type}(f:El t→El u→El v→El w→Option β)(o:Res β):Pure:=fun R l b K=>noBox b (za7 t u v w l (fun x y a b=>(f x y a b).bind fun r=>o R r K))
theorem sv(E:Env){T:Funs}{n:FuncId}(fn:Func){t u v w:Ty}{β:Type}{f:El t→El u→El v→El w→Option β}{o:Res β}(m:(R:Type)→Nat→El t→El u→El v→El w→KF R→Option R)(h0:Okt P T)(hE:EnvOk P E)(hfn:P.funcs[n]? =some fn)(hc:chk fn=true)(hp:E.ps=[t,u,.unit,.unit])(ho:o.Nat)
 (h1:∀(R:Type) k x y a b (K:KF R),evF E T R k fn [.dat t x [],.dat u y [],.view v a,.view w b] .none K=m R k x y a b K) (h2:∀(R:Type) kk (e:kk=FUEL) x y a b (K:KF R),m R kk x y a b K=(f x y a b).bind fun r=>o R r K):Okt P (T.add n [t,u,.unit,.unit] (pv t u v w f o)):=
 h0.add hE hfn hc (fun R S l b F G K h=>z44 (z136 fun _ _ _ _=>z2n fun _=>ho _ _ _ _ _ _ h)) fun l b r b' h=>by
  unfold pv at h
  obtain⟨rfl,h5⟩:=z3r h
  obtain⟨x,y,a,b,h3,h4⟩:=ownVV hp h5
  exact⟨FUEL,(h4 _ _ _ _ _ _).trans (((h1 _ _ x y a b _).trans (h2 _ _ rfl x y a b _)).trans h3)⟩
end Go.Ref

namespace Groat
open Go.IntKind renaming wrap→zW,i64→zI,u8→zU
open Go Go.Ref
abbrev Zt0:Type:=(ByteArray×Nat)
abbrev Zt1:Type:=(Int×Int×Int)
abbrev Zt2:Type:=(ByteArray×Int)
abbrev Zt3:Type:=(List (List Int))
abbrev Zt4:Type:=(Int×ByteArray)
abbrev Zt5:Type:=(ByteArray×Bool)
abbrev Zt6:Type:=(Int×Int×Unit)
abbrev Zt7:Type:=(List (Int×Bool))
abbrev Zt8:Type:=(ByteArray×Int×Int)
abbrev Zt9:Type:=(Int×ByteArray×Unit)
abbrev Zt10:Type:=(List Zt5)
abbrev Zt11:Type:=(ByteArray×ByteArray×Unit)
abbrev Zt12:Type:=(List Zt9)
abbrev Zt13:Type:=(Int×Int×Int×Int×Int×Unit)
abbrev Zt14:Type:=(List Zt11)
abbrev Zt15:Type:=(List Zt13)
abbrev Zt16:Type:=(Zt12×Int×Int)
abbrev Zt17:Type:=(ByteArray×Zt12×Unit)
abbrev Zt18:Type:=(Int×Int×Zt15×Unit)
abbrev Zt19:Type:=(List Zt18)
abbrev Zt20:Type:=(Int×Int×Int×ByteArray×Zt14×Unit)
abbrev Zt21:Type:=(Zt12×Int×Int×Zt12)
abbrev Zt22:Type:=(List Zt20)
abbrev Zt23:Type:=(Zt17×Zt6×Zt17)
abbrev Zt24:Type:=(Zt14×Zt22×Unit)
abbrev Zt25:Type:=(ByteArray×Int×Zt17×Zt6×Zt17)
abbrev Zt26:Type:=(Zt18×Zt24×(List Int)×Zt12×Unit)
abbrev Zt27:Type:=(List Zt26)
abbrev Zt28:Type:=(Zt24×Zt18×Zt18)
abbrev Zt29:Type:=(Zt27×Int×Unit)
abbrev Zt30:Type:=(Int×Int×Int×Zt24×Zt18×Zt18)
end Groat

namespace Groat
open Go.IntKind renaming wrap→zW,i64→zI,u8→zU
open Go Go.Ref
def zj7{R:Type}(a:ByteArray)(b:Int)(c:ByteArray→Int→Option R):Option R:=
 c a b
def zj8{R:Type}(a:ByteArray)(b:Int)(c:ByteArray→Int→Option R)(d:ByteArray→Option R):Option R:=
 bif 0<(a.size:Int) then zd (zW zI ((a.size:Int)-1)) a.size (bif ze a (zW zI ((a.size:Int)-(1:Int))).toNat=b then bif 0≤zW zI ((a.size:Int)-1) then bif zW zI ((a.size:Int)-1)≤(a.size:Int) then c (a.extract 0 (zW zI ((a.size:Int)-(1:Int))).toNat) b else none else none else d a) else d a
def zj9{R:Type}(a:ByteArray)(b:ByteArray→Option R):Option R:=
 b a
def z79:Nat→ByteArray→Int→Option ByteArray
 |0,_,_=>none
 |k+1,v0,v1=>zj8 v0 v1 (fun a0 a1=>z79 k a0 a1) (fun a0=>some a0)
def Q228(a:ByteArray)(b:Int):Option ByteArray:=
 zj7 a b (fun a0 a1=>(z79 FUEL a0 a1).bind fun e=>zj9 e (fun a0=>some a0))
def zj3{R:Type}(a:ByteArray)(b:Int)(c:ByteArray→Int→Option R):Option R:=
 c a b
def zj4{R:Type}(a:ByteArray)(b:Int)(c:ByteArray→Int→Option R)(d:ByteArray→Option R):Option R:=
 bif 0<(a.size:Int) then zd 0 a.size (bif ze a ((0:Int)).toNat=b then bif 1≤(a.size:Int) then c (a.extract ((1:Int)).toNat a.size) b else none else d a) else d a
def zj5{R:Type}(a:ByteArray)(b:ByteArray→Option R):Option R:=
 b a
def z78:Nat→ByteArray→Int→Option ByteArray
 |0,_,_=>none
 |k+1,v0,v1=>zj4 v0 v1 (fun a0 a1=>z78 k a0 a1) (fun a0=>some a0)
def Q227(a:ByteArray)(b:Int):Option ByteArray:=
 zj3 a b (fun a0 a1=>(z78 FUEL a0 a1).bind fun e=>zj5 e (fun a0=>some a0))
def zj1{R:Type}(a b:ByteArray)(c:ByteArray→Option R):Option R:=
 bif a=bs [] then c a else bif b=bs [] then c a else bif(b.size:Int)=1 then zd 0 b.size (bif ze b ((0:Int)).toNat<128 then zd 0 b.size ((Q228 a (ze b ((0:Int)).toNat)).bind fun r1=>zd 0 b.size ((Q227 r1 (ze b ((0:Int)).toNat)).bind fun r2=>c r2)) else none) else none
def Q225(a b:ByteArray):Option ByteArray:=
 zj1 a b (fun a0=>some a0)
end Groat

namespace Groat
open Go.IntKind renaming wrap→zW,i64→zI,u8→zU
open Go Go.Ref
def znt{R:Type}(a:ByteArray)(b:Zt0→Option R):Option R:=
 b (a,0)
def znu{R:Type}(a:Zt0)(b:Bool→Option R)(c:Zt0→Option R)(d:Option R):Option R:=
 bif a.2<a.1.size then bif(((Utf8.decode a.1 a.2).1:Nat):Int)<48 then b false else bif 57<(((Utf8.decode a.1 a.2).1:Nat):Int) then b false else c (a.1,a.2+(Utf8.decode a.1 a.2).2) else d
def zxw{R:Type}(a:Bool)(b:Bool→Option R):Option R:=
 b a
def zxx{R:Type}(a:Bool→Option R):Option R:=
 a true
def za2:Nat→Zt0→Option (Sum Bool Unit)
 |0,_=>none
 |k+1,v0=>znu v0 (fun a0=>some (.inl a0)) (fun a0=>za2 k a0) (some (.inr ()))
def Q28(a:ByteArray):Option Bool:=
 znt a (fun a0=>(za2 FUEL a0).bind fun e=>Sum.elim (fun(we:Bool)=>zxw we (fun a0=>some a0)) (fun(we:Unit)=>zxx (fun a0=>some a0)) e)
def znw{R:Type}(a:ByteArray)(b:Int→Bool→Option R)(c:Int→Zt0→Option R):Option R:=
 bif a=bs [] then b 0 false else bif 18<(a.size:Int) then b 0 false else(Q28 a).bind fun r1=>bif !r1 then b 0 false else c 0 (a,0)
def znx{R:Type}(a:Int)(b:Zt0)(c:Int→Zt0→Option R)(d:Int→Option R):Option R:=
 bif b.2<b.1.size then c (zW zI (zW zI (10*a)+zW zI (IntKind.i32.wrap ((((Utf8.decode b.1 b.2).1:Nat):Int)-48)))) (b.1,b.2+(Utf8.decode b.1 b.2).2) else d a
def zxy{R:Type}(a:Int)(b:Int→Bool→Option R):Option R:=
 b a true
def za3:Nat→Int→Zt0→Option Int
 |0,_,_=>none
 |k+1,v0,v1=>znx v0 v1 (fun a0 a1=>za3 k a0 a1) (fun a0=>some a0)
def Q29(a:ByteArray):Option (Int×Bool):=
 znw a (fun a0 a1=>some (a0,a1)) (fun a0 a1=>(za3 FUEL a0 a1).bind fun e=>zxy e (fun a0 a1=>some (a0,a1)))
def zo0{R:Type}(a b:Int)(c:ByteArray→Bool→Option R)(d:Int→Nat→Int→Nat→(List Int)→Option R):Option R:=
 bif a<0 then c (bs []) false else bif b<1 then c (bs []) false else bif 18<b then c (bs []) false else bif b=b then bif 0≤b then bif b*1≤140737488355328 then d a b.toNat (zW zI (b-1)) b.toNat (List.replicate b.toNat 0) else none else none else none
def ze4{R:Type}(a:Int)(b:Nat)(c:Int)(d:Nat)(e:(List Int))(f:Int→Nat→Int→Nat→(List Int)→Option R)(g:Int→Nat→Nat→(List Int)→Option R):Option R:=
 bif 0≤c then zd c b (bif Nat.ble (c.toNat+1) (List.length e) then f (zW zI (Int.tdiv a 10)) b (zW zI (c-1)) d (List.set e c.toNat (zW zU (zW zI (48+Int.tmod a 10)))) else none) else g a b d e
def zo1{R:Type}(a:Int)(b c:Nat)(d:(List Int))(e:ByteArray→Bool→Option R):Option R:=
 bif 0<a then e (bs []) false else bif Nat.beq b (List.length d) then e (strOf d) true else none
def z7q:Nat→Int→Nat→Int→Nat→(List Int)→Option (Int×Nat×Nat×(List Int))
 |0,_,_,_,_,_=>none
 |k+1,v0,v1,v2,v3,v4=>ze4 v0 v1 v2 v3 v4 (fun a0 a1 a2 a3 a4=>z7q k a0 a1 a2 a3 a4) (fun a0 a1 a2 a3=>some (a0,a1,a2,a3))
def Q31(a b:Int):Option Zt5:=
 zo0 a b (fun a0 a1=>some (a0,a1)) (fun a0 a1 a2 a3 a4=>(z7q FUEL a0 a1 a2 a3 a4).bind fun e=>zo1 e.1 e.2.1 e.2.2.1 e.2.2.2 (fun a0 a1=>some (a0,a1)))
def zny{R:Type}(a:ByteArray)(b:Int)(c:ByteArray→Bool→Option R):Option R:=
 bif a=bs [] then c (bs []) false else bif 999<(a.size:Int) then c (bs []) false else(Q28 a).bind fun r1=>bif !r1 then c (bs []) false else bif b<1 then c (bs []) false else bif 999<b then c (bs []) false else bif(a.size:Int)≤b then(strings_Repeat (bs [48]) (zW zI (b-(a.size:Int)))).bind fun r2=>bif r2.size+a.size≤9223372036854775807 then c (r2++a) true else none else bif 0≤zW zI ((a.size:Int)-b) then bif zW zI ((a.size:Int)-b)≤(a.size:Int) then(Q225 (a.extract 0 (zW zI ((a.size:Int)-b)).toNat) (bs [48])).bind fun r3=>bif !decide (r3=bs []) then c (bs []) false else bif 0≤zW zI ((a.size:Int)-b) then bif zW zI ((a.size:Int)-b)≤(a.size:Int) then c (a.extract (zW zI ((a.size:Int)-b)).toNat a.size) true else none else none else none else none
def Q30(a:ByteArray)(b:Int):Option Zt5:=
 zny a b (fun a0 a1=>some (a0,a1))
end Groat

namespace Groat
open Go.IntKind renaming wrap→zW,i64→zI,u8→zU
open Go Go.Ref
def Q2_s0{R:Type}(a:Int)(b:Int→Option R):Option R:=
 bif a<1 then b 0 else b (zW zI (zW zI (Int.tdiv a 2)+Int.tmod a 2))
def Q2(a:Int):Option Int:=
 Q2_s0 a (fun a0=>some a0)
def Q0_s0{R:Type}(a:ByteArray)(b:Int)(c:ByteArray→Int→Int→Option R)(d:ByteArray→Int→(List Int)→Int→Int→Option R):Option R:=
 bif b<0 then c (bs []) 1 0 else bif 999<b then c (bs []) 1 0 else(Q2 b).bind fun r1=>bif(a.size:Int)<r1 then c (bs []) 2 (a.size:Int) else bif 0≤zW zI (b+1) then bif zW zI (b+1)*1≤140737488355328 then(Q2 b).bind fun r2=>d a b [] r2 0 else none else none
def Q0_s1{R:Type}(a:ByteArray)(b:Int)(c:(List Int))(d e:Int)(f:Int→ByteArray→Int→Int→(List Int)→Option R)(g:ByteArray→Int→(List Int)→Int→Int→Option R)(h:Int→(List Int)→Option R):Option R:=
 bif e<d then zd e a.size (zd e a.size (bif e=0 then bif !decide (Int.tmod b 2=0) then bif !decide (Int.fdiv (ze a e.toNat) (2^min ((4:Int)).toNat 8)=0) then f b (bs []) 4 0 c else bif 9<Int.fdiv (ze a e.toNat) (2^min ((4:Int)).toNat 8) then f b (bs []) 3 e c else bif 9<ibits .and .u8 (ze a e.toNat) 15 then f b (bs []) 3 e c else bif(List.length c+List.length ([(zW zU ((48:Int)+Int.fdiv (ze a e.toNat) (2^min ((4:Int)).toNat 8))),(zW zU ((48:Int)+ibits .and .u8 (ze a e.toNat) (15:Int)))]:List Int))*1≤140737488355328 then g a b (c++([(zW zU (48+Int.fdiv (ze a e.toNat) (2^min ((4:Int)).toNat 8))),(zW zU (48+ibits .and .u8 (ze a e.toNat) 15))]:List Int)) d (zW zI (e+1)) else none else bif 9<Int.fdiv (ze a e.toNat) (2^min ((4:Int)).toNat 8) then f b (bs []) 3 e c else bif 9<ibits .and .u8 (ze a e.toNat) 15 then f b (bs []) 3 e c else bif(List.length c+List.length ([(zW zU ((48:Int)+Int.fdiv (ze a e.toNat) (2^min ((4:Int)).toNat 8))),(zW zU ((48:Int)+ibits .and .u8 (ze a e.toNat) (15:Int)))]:List Int))*1≤140737488355328 then g a b (c++([(zW zU (48+Int.fdiv (ze a e.toNat) (2^min ((4:Int)).toNat 8))),(zW zU (48+ibits .and .u8 (ze a e.toNat) 15))]:List Int)) d (zW zI (e+1)) else none else bif 9<Int.fdiv (ze a e.toNat) (2^min ((4:Int)).toNat 8) then f b (bs []) 3 e c else bif 9<ibits .and .u8 (ze a e.toNat) 15 then f b (bs []) 3 e c else bif(List.length c+List.length ([(zW zU ((48:Int)+Int.fdiv (ze a e.toNat) (2^min ((4:Int)).toNat 8))),(zW zU ((48:Int)+ibits .and .u8 (ze a e.toNat) (15:Int)))]:List Int))*1≤140737488355328 then g a b (c++([(zW zU (48+Int.fdiv (ze a e.toNat) (2^min ((4:Int)).toNat 8))),(zW zU (48+ibits .and .u8 (ze a e.toNat) 15))]:List Int)) d (zW zI (e+1)) else none)) else h b c
def Q0_s2{R:Type}(a:Int)(b:ByteArray)(c d:Int)(e:(List Int))(f:ByteArray→Int→Int→Option R):Option R:=
 f b c d
def Q0_s3{R:Type}(a:Int)(b:(List Int))(c:ByteArray→Int→Int→Option R):Option R:=
 bif 0≤Int.tmod a 2 then bif Int.tmod a 2≤(((List.length b):Nat):Int) then c (strOf (List.drop (Int.tmod a (2:Int)).toNat (List.take (List.length b) b))) 0 0 else none else none
def Q0_l0:Nat→ByteArray→Int→(List Int)→Int→Int→Option (Sum (Int×ByteArray×Int×Int×(List Int)) (Int×(List Int)))
 |0,_,_,_,_,_=>none
 |k+1,v0,v1,v2,v3,v4=>Q0_s1 v0 v1 v2 v3 v4 (fun a0 a1 a2 a3 a4=>some (.inl (a0,a1,a2,a3,a4))) (fun a0 a1 a2 a3 a4=>Q0_l0 k a0 a1 a2 a3 a4) (fun a0 a1=>some (.inr (a0,a1)))
def Q0(a:ByteArray)(b:Int):Option Zt8:=
 Q0_s0 a b (fun a0 a1 a2=>some (a0,a1,a2)) (fun a0 a1 a2 a3 a4=>(Q0_l0 FUEL a0 a1 a2 a3 a4).bind fun e=>Sum.elim (fun(we:(Int×ByteArray×Int×Int×(List Int)))=>Q0_s2 we.1 we.2.1 we.2.2.1 we.2.2.2.1 we.2.2.2.2 (fun a0 a1 a2=>some (a0,a1,a2))) (fun(we:(Int×(List Int)))=>Q0_s3 we.1 we.2 (fun a0 a1 a2=>some (a0,a1,a2))) e)
def Q1_s0{R:Type}(a:ByteArray)(b:ByteArray→Bool→Option R)(c:ByteArray→(List Int)→Int→Option R):Option R:=
 bif 999<(a.size:Int) then b (bs []) false else(Q28 a).bind fun r1=>bif !r1 then b (bs []) false else bif !decide (Int.tmod (a.size:Int) 2=0) then bif(bs [48]).size+a.size≤9223372036854775807 then bif 0≤zW zI (Int.tdiv ((bs [48]++a).size:Int) 2) then bif zW zI (Int.tdiv ((bs [48]++a).size:Int) 2)*1≤140737488355328 then c (bs [48]++a) [] 0 else none else none else none else bif 0≤zW zI (Int.tdiv (a.size:Int) 2) then bif zW zI (Int.tdiv (a.size:Int) 2)*1≤140737488355328 then c a [] 0 else none else none
theorem z130{R S:Type}(F:R→Option S)(a)(b)(c):(Q1_s0 a b c).bind F=Q1_s0 a (fun a0 a1=>(b a0 a1).bind F) (fun a0 a1 a2=>(c a0 a1 a2).bind F):=by
 simp only[Q1_s0,nn_]
def Q1_s1{R:Type}(a:ByteArray)(b:(List Int))(c:Int)(d:ByteArray→(List Int)→Int→Option R)(e:(List Int)→Option R):Option R:=
 bif c<(a.size:Int) then zd c a.size (zd (zW zI (c+1)) a.size (bif(List.length b+List.length ([(ibits .or .u8 (zW zU (zW zU (ze a c.toNat-(48:Int))*2^min ((4:Int)).toNat 8)) (zW zU (ze a (zW zI (c+(1:Int))).toNat-(48:Int))))]:List Int))*1≤140737488355328 then d a (b++([(ibits .or .u8 (zW zU (zW zU (ze a c.toNat-48)*2^min ((4:Int)).toNat 8)) (zW zU (ze a (zW zI (c+(1:Int))).toNat-48)))]:List Int)) (zW zI (c+2)) else none)) else e b
def Q1_s2{R:Type}(a:(List Int))(b:ByteArray→Bool→Option R):Option R:=
 b (strOf a) true
def Q1_l0:Nat→ByteArray→(List Int)→Int→Option (List Int)
 |0,_,_,_=>none
 |k+1,v0,v1,v2=>Q1_s1 v0 v1 v2 (fun a0 a1 a2=>Q1_l0 k a0 a1 a2) (fun a0=>some a0)
def Q1(a:ByteArray):Option Zt5:=
 Q1_s0 a (fun a0 a1=>some (a0,a1)) (fun a0 a1 a2=>(Q1_l0 FUEL a0 a1 a2).bind fun e=>Q1_s2 e (fun a0 a1=>some (a0,a1)))
end Groat

namespace Groat
open Go.IntKind renaming wrap→zW,i64→zI,u8→zU
open Go Go.Ref
def Q4_s0{R:Type}(a:Int)(b:Int→Option R):Option R:=
 bif a<0 then b 0 else bif 65535<a then b 0 else bif 255<a then b (zW zI (zW zI (zW zI (0+1)+1)+1)) else bif 127<a then b (zW zI (zW zI (0+1)+1)) else b (zW zI (0+1))
def Q4(a:Int):Option Int:=
 Q4_s0 a (fun a0=>some a0)
def Q3_s0{R:Type}(a:ByteArray)(b:Int)(c:Int→Int→Int→Option R)(d:ByteArray→Int→Int→Int→Int→Int→Option R):Option R:=
 bif b<0 then c 0 0 1 else bif(a.size:Int)<b then c 0 0 1 else bif b=(a.size:Int) then c 0 0 2 else zd b a.size (bif 127<zW zI (ze a b.toNat) then bif zW zI (ze a b.toNat)=128 then c 0 0 14 else bif 130<zW zI (ze a b.toNat) then c 0 0 14 else bif zW zI ((a.size:Int)-zW zI (b+1))<zW zI (zW zI (ze a b.toNat)-128) then c 0 0 2 else d a (zW zI (b+1)) 0 (zW zI (zW zI (ze a b.toNat)-128)) (zW zI (zW zI (ze a b.toNat)-128)) 0 else bif zW zI ((a.size:Int)-zW zI (b+1))<0 then c 0 0 2 else d a (zW zI (b+1)) (zW zI (ze a b.toNat)) 0 0 0)
theorem z131{R S:Type}(F:R→Option S)(a)(b)(c)(d):(Q3_s0 a b c d).bind F=Q3_s0 a b (fun a0 a1 a2=>(c a0 a1 a2).bind F) (fun a0 a1 a2 a3 a4 a5=>(d a0 a1 a2 a3 a4 a5).bind F):=by
 simp only[Q3_s0,nn_]
def Q3_s1{R:Type}(a:ByteArray)(b c d e f:Int)(g:ByteArray→Int→Int→Int→Int→Int→Option R)(h:Int→Int→Int→Option R):Option R:=
 bif f<e then zd (zW zI (b+f)) a.size (g a b (ibits .or .i64 (zW zI (c*2^min ((8:Int)).toNat 64)) (zW zI (ze a (zW zI (b+f)).toNat))) d e (zW zI (f+1))) else h b c d
def Q3_s2{R:Type}(a b c:Int)(d:Int→Int→Int→Option R):Option R:=
 (Q4 b).bind fun r1=>bif !decide (r1=zW zI (c+1)) then d 0 0 14 else d b (zW zI (a+c)) 0
def Q3_l0:Nat→ByteArray→Int→Int→Int→Int→Int→Option Zt1
 |0,_,_,_,_,_,_=>none
 |k+1,v0,v1,v2,v3,v4,v5=>Q3_s1 v0 v1 v2 v3 v4 v5 (fun a0 a1 a2 a3 a4 a5=>Q3_l0 k a0 a1 a2 a3 a4 a5) (fun a0 a1 a2=>some (a0,a1,a2))
def Q3(a:ByteArray)(b:Int):Option Zt1:=
 Q3_s0 a b (fun a0 a1 a2=>some (a0,a1,a2)) (fun a0 a1 a2 a3 a4 a5=>(Q3_l0 FUEL a0 a1 a2 a3 a4 a5).bind fun e=>Q3_s2 e.1 e.2.1 e.2.2 (fun a0 a1 a2=>some (a0,a1,a2)))
end Groat

namespace Groat
open Go.IntKind renaming wrap→zW,i64→zI,u8→zU
open Go Go.Ref
def zrk{R:Type}(a:Int)(b:Int→Option R):Option R:=
 bif 4294967296≤a then bif 65536≤Int.fdiv a (2^min ((32:Int)).toNat 64) then bif 256≤Int.fdiv (Int.fdiv a (2^min ((32:Int)).toNat 64)) (2^min ((16:Int)).toNat 64) then zd (zW zU (Int.fdiv (Int.fdiv (Int.fdiv a (2^min ((32:Int)).toNat 64)) (2^min ((16:Int)).toNat 64)) (2^min ((8:Int)).toNat 64))) (bs [0,1,2,2,3,3,3,3,4,4,4,4,4,4,4,4,5,5,5,5,5,5,5,5,5,5,5,5,5,5,5,5,6,6,6,6,6,6,6,6,6,6,6,6,6,6,6,6,6,6,6,6,6,6,6,6,6,6,6,6,6,6,6,6,7,7,7,7,7,7,7,7,7,7,7,7,7,7,7,7,7,7,7,7,7,7,7,7,7,7,7,7,7,7,7,7,7,7,7,7,7,7,7,7,7,7,7,7,7,7,7,7,7,7,7,7,7,7,7,7,7,7,7,7,7,7,7,7,8,8,8,8,8,8,8,8,8,8,8,8,8,8,8,8,8,8,8,8,8,8,8,8,8,8,8,8,8,8,8,8,8,8,8,8,8,8,8,8,8,8,8,8,8,8,8,8,8,8,8,8,8,8,8,8,8,8,8,8,8,8,8,8,8,8,8,8,8,8,8,8,8,8,8,8,8,8,8,8,8,8,8,8,8,8,8,8,8,8,8,8,8,8,8,8,8,8,8,8,8,8,8,8,8,8,8,8,8,8,8,8,8,8,8,8,8,8,8,8,8,8,8,8,8,8,8,8]).size (b (zW zI (zW zI (zW zI (32+16)+8)+zW zI (ze (bs [0,1,2,2,3,3,3,3,4,4,4,4,4,4,4,4,5,5,5,5,5,5,5,5,5,5,5,5,5,5,5,5,6,6,6,6,6,6,6,6,6,6,6,6,6,6,6,6,6,6,6,6,6,6,6,6,6,6,6,6,6,6,6,6,7,7,7,7,7,7,7,7,7,7,7,7,7,7,7,7,7,7,7,7,7,7,7,7,7,7,7,7,7,7,7,7,7,7,7,7,7,7,7,7,7,7,7,7,7,7,7,7,7,7,7,7,7,7,7,7,7,7,7,7,7,7,7,7,8,8,8,8,8,8,8,8,8,8,8,8,8,8,8,8,8,8,8,8,8,8,8,8,8,8,8,8,8,8,8,8,8,8,8,8,8,8,8,8,8,8,8,8,8,8,8,8,8,8,8,8,8,8,8,8,8,8,8,8,8,8,8,8,8,8,8,8,8,8,8,8,8,8,8,8,8,8,8,8,8,8,8,8,8,8,8,8,8,8,8,8,8,8,8,8,8,8,8,8,8,8,8,8,8,8,8,8,8,8,8,8,8,8,8,8,8,8,8,8,8,8,8,8,8,8,8,8]) (zW zU (Int.fdiv (Int.fdiv (Int.fdiv a (2^min ((32:Int)).toNat 64)) (2^min ((16:Int)).toNat 64)) (2^min ((8:Int)).toNat 64))).toNat)))) else zd (zW zU (Int.fdiv (Int.fdiv a (2^min ((32:Int)).toNat 64)) (2^min ((16:Int)).toNat 64))) (bs [0,1,2,2,3,3,3,3,4,4,4,4,4,4,4,4,5,5,5,5,5,5,5,5,5,5,5,5,5,5,5,5,6,6,6,6,6,6,6,6,6,6,6,6,6,6,6,6,6,6,6,6,6,6,6,6,6,6,6,6,6,6,6,6,7,7,7,7,7,7,7,7,7,7,7,7,7,7,7,7,7,7,7,7,7,7,7,7,7,7,7,7,7,7,7,7,7,7,7,7,7,7,7,7,7,7,7,7,7,7,7,7,7,7,7,7,7,7,7,7,7,7,7,7,7,7,7,7,8,8,8,8,8,8,8,8,8,8,8,8,8,8,8,8,8,8,8,8,8,8,8,8,8,8,8,8,8,8,8,8,8,8,8,8,8,8,8,8,8,8,8,8,8,8,8,8,8,8,8,8,8,8,8,8,8,8,8,8,8,8,8,8,8,8,8,8,8,8,8,8,8,8,8,8,8,8,8,8,8,8,8,8,8,8,8,8,8,8,8,8,8,8,8,8,8,8,8,8,8,8,8,8,8,8,8,8,8,8,8,8,8,8,8,8,8,8,8,8,8,8,8,8,8,8,8,8]).size (b (zW zI (zW zI (32+16)+zW zI (ze (bs [0,1,2,2,3,3,3,3,4,4,4,4,4,4,4,4,5,5,5,5,5,5,5,5,5,5,5,5,5,5,5,5,6,6,6,6,6,6,6,6,6,6,6,6,6,6,6,6,6,6,6,6,6,6,6,6,6,6,6,6,6,6,6,6,7,7,7,7,7,7,7,7,7,7,7,7,7,7,7,7,7,7,7,7,7,7,7,7,7,7,7,7,7,7,7,7,7,7,7,7,7,7,7,7,7,7,7,7,7,7,7,7,7,7,7,7,7,7,7,7,7,7,7,7,7,7,7,7,8,8,8,8,8,8,8,8,8,8,8,8,8,8,8,8,8,8,8,8,8,8,8,8,8,8,8,8,8,8,8,8,8,8,8,8,8,8,8,8,8,8,8,8,8,8,8,8,8,8,8,8,8,8,8,8,8,8,8,8,8,8,8,8,8,8,8,8,8,8,8,8,8,8,8,8,8,8,8,8,8,8,8,8,8,8,8,8,8,8,8,8,8,8,8,8,8,8,8,8,8,8,8,8,8,8,8,8,8,8,8,8,8,8,8,8,8,8,8,8,8,8,8,8,8,8,8,8]) (zW zU (Int.fdiv (Int.fdiv a (2^min ((32:Int)).toNat 64)) (2^min ((16:Int)).toNat 64))).toNat)))) else bif 256≤Int.fdiv a (2^min ((32:Int)).toNat 64) then zd (zW zU (Int.fdiv (Int.fdiv a (2^min ((32:Int)).toNat 64)) (2^min ((8:Int)).toNat 64))) (bs [0,1,2,2,3,3,3,3,4,4,4,4,4,4,4,4,5,5,5,5,5,5,5,5,5,5,5,5,5,5,5,5,6,6,6,6,6,6,6,6,6,6,6,6,6,6,6,6,6,6,6,6,6,6,6,6,6,6,6,6,6,6,6,6,7,7,7,7,7,7,7,7,7,7,7,7,7,7,7,7,7,7,7,7,7,7,7,7,7,7,7,7,7,7,7,7,7,7,7,7,7,7,7,7,7,7,7,7,7,7,7,7,7,7,7,7,7,7,7,7,7,7,7,7,7,7,7,7,8,8,8,8,8,8,8,8,8,8,8,8,8,8,8,8,8,8,8,8,8,8,8,8,8,8,8,8,8,8,8,8,8,8,8,8,8,8,8,8,8,8,8,8,8,8,8,8,8,8,8,8,8,8,8,8,8,8,8,8,8,8,8,8,8,8,8,8,8,8,8,8,8,8,8,8,8,8,8,8,8,8,8,8,8,8,8,8,8,8,8,8,8,8,8,8,8,8,8,8,8,8,8,8,8,8,8,8,8,8,8,8,8,8,8,8,8,8,8,8,8,8,8,8,8,8,8,8]).size (b (zW zI (zW zI (32+8)+zW zI (ze (bs [0,1,2,2,3,3,3,3,4,4,4,4,4,4,4,4,5,5,5,5,5,5,5,5,5,5,5,5,5,5,5,5,6,6,6,6,6,6,6,6,6,6,6,6,6,6,6,6,6,6,6,6,6,6,6,6,6,6,6,6,6,6,6,6,7,7,7,7,7,7,7,7,7,7,7,7,7,7,7,7,7,7,7,7,7,7,7,7,7,7,7,7,7,7,7,7,7,7,7,7,7,7,7,7,7,7,7,7,7,7,7,7,7,7,7,7,7,7,7,7,7,7,7,7,7,7,7,7,8,8,8,8,8,8,8,8,8,8,8,8,8,8,8,8,8,8,8,8,8,8,8,8,8,8,8,8,8,8,8,8,8,8,8,8,8,8,8,8,8,8,8,8,8,8,8,8,8,8,8,8,8,8,8,8,8,8,8,8,8,8,8,8,8,8,8,8,8,8,8,8,8,8,8,8,8,8,8,8,8,8,8,8,8,8,8,8,8,8,8,8,8,8,8,8,8,8,8,8,8,8,8,8,8,8,8,8,8,8,8,8,8,8,8,8,8,8,8,8,8,8,8,8,8,8,8,8]) (zW zU (Int.fdiv (Int.fdiv a (2^min ((32:Int)).toNat 64)) (2^min ((8:Int)).toNat 64))).toNat)))) else zd (zW zU (Int.fdiv a (2^min ((32:Int)).toNat 64))) (bs [0,1,2,2,3,3,3,3,4,4,4,4,4,4,4,4,5,5,5,5,5,5,5,5,5,5,5,5,5,5,5,5,6,6,6,6,6,6,6,6,6,6,6,6,6,6,6,6,6,6,6,6,6,6,6,6,6,6,6,6,6,6,6,6,7,7,7,7,7,7,7,7,7,7,7,7,7,7,7,7,7,7,7,7,7,7,7,7,7,7,7,7,7,7,7,7,7,7,7,7,7,7,7,7,7,7,7,7,7,7,7,7,7,7,7,7,7,7,7,7,7,7,7,7,7,7,7,7,8,8,8,8,8,8,8,8,8,8,8,8,8,8,8,8,8,8,8,8,8,8,8,8,8,8,8,8,8,8,8,8,8,8,8,8,8,8,8,8,8,8,8,8,8,8,8,8,8,8,8,8,8,8,8,8,8,8,8,8,8,8,8,8,8,8,8,8,8,8,8,8,8,8,8,8,8,8,8,8,8,8,8,8,8,8,8,8,8,8,8,8,8,8,8,8,8,8,8,8,8,8,8,8,8,8,8,8,8,8,8,8,8,8,8,8,8,8,8,8,8,8,8,8,8,8,8,8]).size (b (zW zI (32+zW zI (ze (bs [0,1,2,2,3,3,3,3,4,4,4,4,4,4,4,4,5,5,5,5,5,5,5,5,5,5,5,5,5,5,5,5,6,6,6,6,6,6,6,6,6,6,6,6,6,6,6,6,6,6,6,6,6,6,6,6,6,6,6,6,6,6,6,6,7,7,7,7,7,7,7,7,7,7,7,7,7,7,7,7,7,7,7,7,7,7,7,7,7,7,7,7,7,7,7,7,7,7,7,7,7,7,7,7,7,7,7,7,7,7,7,7,7,7,7,7,7,7,7,7,7,7,7,7,7,7,7,7,8,8,8,8,8,8,8,8,8,8,8,8,8,8,8,8,8,8,8,8,8,8,8,8,8,8,8,8,8,8,8,8,8,8,8,8,8,8,8,8,8,8,8,8,8,8,8,8,8,8,8,8,8,8,8,8,8,8,8,8,8,8,8,8,8,8,8,8,8,8,8,8,8,8,8,8,8,8,8,8,8,8,8,8,8,8,8,8,8,8,8,8,8,8,8,8,8,8,8,8,8,8,8,8,8,8,8,8,8,8,8,8,8,8,8,8,8,8,8,8,8,8,8,8,8,8,8,8]) (zW zU (Int.fdiv a (2^min ((32:Int)).toNat 64))).toNat)))) else bif 65536≤a then bif 256≤Int.fdiv a (2^min ((16:Int)).toNat 64) then zd (zW zU (Int.fdiv (Int.fdiv a (2^min ((16:Int)).toNat 64)) (2^min ((8:Int)).toNat 64))) (bs [0,1,2,2,3,3,3,3,4,4,4,4,4,4,4,4,5,5,5,5,5,5,5,5,5,5,5,5,5,5,5,5,6,6,6,6,6,6,6,6,6,6,6,6,6,6,6,6,6,6,6,6,6,6,6,6,6,6,6,6,6,6,6,6,7,7,7,7,7,7,7,7,7,7,7,7,7,7,7,7,7,7,7,7,7,7,7,7,7,7,7,7,7,7,7,7,7,7,7,7,7,7,7,7,7,7,7,7,7,7,7,7,7,7,7,7,7,7,7,7,7,7,7,7,7,7,7,7,8,8,8,8,8,8,8,8,8,8,8,8,8,8,8,8,8,8,8,8,8,8,8,8,8,8,8,8,8,8,8,8,8,8,8,8,8,8,8,8,8,8,8,8,8,8,8,8,8,8,8,8,8,8,8,8,8,8,8,8,8,8,8,8,8,8,8,8,8,8,8,8,8,8,8,8,8,8,8,8,8,8,8,8,8,8,8,8,8,8,8,8,8,8,8,8,8,8,8,8,8,8,8,8,8,8,8,8,8,8,8,8,8,8,8,8,8,8,8,8,8,8,8,8,8,8,8,8]).size (b (zW zI (zW zI (zW zI (0+16)+8)+zW zI (ze (bs [0,1,2,2,3,3,3,3,4,4,4,4,4,4,4,4,5,5,5,5,5,5,5,5,5,5,5,5,5,5,5,5,6,6,6,6,6,6,6,6,6,6,6,6,6,6,6,6,6,6,6,6,6,6,6,6,6,6,6,6,6,6,6,6,7,7,7,7,7,7,7,7,7,7,7,7,7,7,7,7,7,7,7,7,7,7,7,7,7,7,7,7,7,7,7,7,7,7,7,7,7,7,7,7,7,7,7,7,7,7,7,7,7,7,7,7,7,7,7,7,7,7,7,7,7,7,7,7,8,8,8,8,8,8,8,8,8,8,8,8,8,8,8,8,8,8,8,8,8,8,8,8,8,8,8,8,8,8,8,8,8,8,8,8,8,8,8,8,8,8,8,8,8,8,8,8,8,8,8,8,8,8,8,8,8,8,8,8,8,8,8,8,8,8,8,8,8,8,8,8,8,8,8,8,8,8,8,8,8,8,8,8,8,8,8,8,8,8,8,8,8,8,8,8,8,8,8,8,8,8,8,8,8,8,8,8,8,8,8,8,8,8,8,8,8,8,8,8,8,8,8,8,8,8,8,8]) (zW zU (Int.fdiv (Int.fdiv a (2^min ((16:Int)).toNat 64)) (2^min ((8:Int)).toNat 64))).toNat)))) else zd (zW zU (Int.fdiv a (2^min ((16:Int)).toNat 64))) (bs [0,1,2,2,3,3,3,3,4,4,4,4,4,4,4,4,5,5,5,5,5,5,5,5,5,5,5,5,5,5,5,5,6,6,6,6,6,6,6,6,6,6,6,6,6,6,6,6,6,6,6,6,6,6,6,6,6,6,6,6,6,6,6,6,7,7,7,7,7,7,7,7,7,7,7,7,7,7,7,7,7,7,7,7,7,7,7,7,7,7,7,7,7,7,7,7,7,7,7,7,7,7,7,7,7,7,7,7,7,7,7,7,7,7,7,7,7,7,7,7,7,7,7,7,7,7,7,7,8,8,8,8,8,8,8,8,8,8,8,8,8,8,8,8,8,8,8,8,8,8,8,8,8,8,8,8,8,8,8,8,8,8,8,8,8,8,8,8,8,8,8,8,8,8,8,8,8,8,8,8,8,8,8,8,8,8,8,8,8,8,8,8,8,8,8,8,8,8,8,8,8,8,8,8,8,8,8,8,8,8,8,8,8,8,8,8,8,8,8,8,8,8,8,8,8,8,8,8,8,8,8,8,8,8,8,8,8,8,8,8,8,8,8,8,8,8,8,8,8,8,8,8,8,8,8,8]).size (b (zW zI (zW zI (0+16)+zW zI (ze (bs [0,1,2,2,3,3,3,3,4,4,4,4,4,4,4,4,5,5,5,5,5,5,5,5,5,5,5,5,5,5,5,5,6,6,6,6,6,6,6,6,6,6,6,6,6,6,6,6,6,6,6,6,6,6,6,6,6,6,6,6,6,6,6,6,7,7,7,7,7,7,7,7,7,7,7,7,7,7,7,7,7,7,7,7,7,7,7,7,7,7,7,7,7,7,7,7,7,7,7,7,7,7,7,7,7,7,7,7,7,7,7,7,7,7,7,7,7,7,7,7,7,7,7,7,7,7,7,7,8,8,8,8,8,8,8,8,8,8,8,8,8,8,8,8,8,8,8,8,8,8,8,8,8,8,8,8,8,8,8,8,8,8,8,8,8,8,8,8,8,8,8,8,8,8,8,8,8,8,8,8,8,8,8,8,8,8,8,8,8,8,8,8,8,8,8,8,8,8,8,8,8,8,8,8,8,8,8,8,8,8,8,8,8,8,8,8,8,8,8,8,8,8,8,8,8,8,8,8,8,8,8,8,8,8,8,8,8,8,8,8,8,8,8,8,8,8,8,8,8,8,8,8,8,8,8,8]) (zW zU (Int.fdiv a (2^min ((16:Int)).toNat 64))).toNat)))) else bif 256≤a then zd (zW zU (Int.fdiv a (2^min ((8:Int)).toNat 64))) (bs [0,1,2,2,3,3,3,3,4,4,4,4,4,4,4,4,5,5,5,5,5,5,5,5,5,5,5,5,5,5,5,5,6,6,6,6,6,6,6,6,6,6,6,6,6,6,6,6,6,6,6,6,6,6,6,6,6,6,6,6,6,6,6,6,7,7,7,7,7,7,7,7,7,7,7,7,7,7,7,7,7,7,7,7,7,7,7,7,7,7,7,7,7,7,7,7,7,7,7,7,7,7,7,7,7,7,7,7,7,7,7,7,7,7,7,7,7,7,7,7,7,7,7,7,7,7,7,7,8,8,8,8,8,8,8,8,8,8,8,8,8,8,8,8,8,8,8,8,8,8,8,8,8,8,8,8,8,8,8,8,8,8,8,8,8,8,8,8,8,8,8,8,8,8,8,8,8,8,8,8,8,8,8,8,8,8,8,8,8,8,8,8,8,8,8,8,8,8,8,8,8,8,8,8,8,8,8,8,8,8,8,8,8,8,8,8,8,8,8,8,8,8,8,8,8,8,8,8,8,8,8,8,8,8,8,8,8,8,8,8,8,8,8,8,8,8,8,8,8,8,8,8,8,8,8,8]).size (b (zW zI (zW zI (0+8)+zW zI (ze (bs [0,1,2,2,3,3,3,3,4,4,4,4,4,4,4,4,5,5,5,5,5,5,5,5,5,5,5,5,5,5,5,5,6,6,6,6,6,6,6,6,6,6,6,6,6,6,6,6,6,6,6,6,6,6,6,6,6,6,6,6,6,6,6,6,7,7,7,7,7,7,7,7,7,7,7,7,7,7,7,7,7,7,7,7,7,7,7,7,7,7,7,7,7,7,7,7,7,7,7,7,7,7,7,7,7,7,7,7,7,7,7,7,7,7,7,7,7,7,7,7,7,7,7,7,7,7,7,7,8,8,8,8,8,8,8,8,8,8,8,8,8,8,8,8,8,8,8,8,8,8,8,8,8,8,8,8,8,8,8,8,8,8,8,8,8,8,8,8,8,8,8,8,8,8,8,8,8,8,8,8,8,8,8,8,8,8,8,8,8,8,8,8,8,8,8,8,8,8,8,8,8,8,8,8,8,8,8,8,8,8,8,8,8,8,8,8,8,8,8,8,8,8,8,8,8,8,8,8,8,8,8,8,8,8,8,8,8,8,8,8,8,8,8,8,8,8,8,8,8,8,8,8,8,8,8,8]) (zW zU (Int.fdiv a (2^min ((8:Int)).toNat 64))).toNat)))) else zd (zW zU a) (bs [0,1,2,2,3,3,3,3,4,4,4,4,4,4,4,4,5,5,5,5,5,5,5,5,5,5,5,5,5,5,5,5,6,6,6,6,6,6,6,6,6,6,6,6,6,6,6,6,6,6,6,6,6,6,6,6,6,6,6,6,6,6,6,6,7,7,7,7,7,7,7,7,7,7,7,7,7,7,7,7,7,7,7,7,7,7,7,7,7,7,7,7,7,7,7,7,7,7,7,7,7,7,7,7,7,7,7,7,7,7,7,7,7,7,7,7,7,7,7,7,7,7,7,7,7,7,7,7,8,8,8,8,8,8,8,8,8,8,8,8,8,8,8,8,8,8,8,8,8,8,8,8,8,8,8,8,8,8,8,8,8,8,8,8,8,8,8,8,8,8,8,8,8,8,8,8,8,8,8,8,8,8,8,8,8,8,8,8,8,8,8,8,8,8,8,8,8,8,8,8,8,8,8,8,8,8,8,8,8,8,8,8,8,8,8,8,8,8,8,8,8,8,8,8,8,8,8,8,8,8,8,8,8,8,8,8,8,8,8,8,8,8,8,8,8,8,8,8,8,8,8,8,8,8,8,8]).size (b (zW zI (0+zW zI (ze (bs [0,1,2,2,3,3,3,3,4,4,4,4,4,4,4,4,5,5,5,5,5,5,5,5,5,5,5,5,5,5,5,5,6,6,6,6,6,6,6,6,6,6,6,6,6,6,6,6,6,6,6,6,6,6,6,6,6,6,6,6,6,6,6,6,7,7,7,7,7,7,7,7,7,7,7,7,7,7,7,7,7,7,7,7,7,7,7,7,7,7,7,7,7,7,7,7,7,7,7,7,7,7,7,7,7,7,7,7,7,7,7,7,7,7,7,7,7,7,7,7,7,7,7,7,7,7,7,7,8,8,8,8,8,8,8,8,8,8,8,8,8,8,8,8,8,8,8,8,8,8,8,8,8,8,8,8,8,8,8,8,8,8,8,8,8,8,8,8,8,8,8,8,8,8,8,8,8,8,8,8,8,8,8,8,8,8,8,8,8,8,8,8,8,8,8,8,8,8,8,8,8,8,8,8,8,8,8,8,8,8,8,8,8,8,8,8,8,8,8,8,8,8,8,8,8,8,8,8,8,8,8,8,8,8,8,8,8,8,8,8,8,8,8,8,8,8,8,8,8,8,8,8,8,8,8,8]) (zW zU a).toNat))))
def Q167(a:Int):Option Int:=
 zrk a (fun a0=>some a0)
def zha{R:Type}(a:Int)(b:Int→Option R):Option R:=
 (Q167 a).bind fun r1=>b (zW zI (64-r1))
def Q166(a:Int):Option Int:=
 zha a (fun a0=>some a0)
end Groat

namespace Groat
open Go.IntKind renaming wrap→zW,i64→zI,u8→zU
open Go Go.Ref
def zo9{R:Type}(a:Int)(b:Zt6→Option R):Option R:=
 bif a<1 then b (0,0,()) else bif 128<a then b (0,0,()) else bif a≤64 then bif zW zI (64-a)<0 then none else b (IntKind.u64.wrap (1*2^min (zW zI (64-a)).toNat 64),0,()) else bif zW zI (128-a)<0 then none else b (0,IntKind.u64.wrap (1*2^min (zW zI (128-a)).toNat 64),())
def Q42(a:Int):Option Zt6:=
 zo9 a (fun a0=>some a0)
def zo5{R:Type}(a b:Zt6)(c:Zt6→Option R):Option R:=
 c (ibits .or .u64 a.1 b.1,ibits .or .u64 a.2.1 b.2.1,())
def Q35(a b:Zt6):Option Zt6:=
 zo5 a b (fun a0=>some a0)
def zo8{R:Type}(a:Zt6)(b:Int)(c:Zt6→Option R):Option R:=
 (Q42 b).bind fun r1=>(Q35 a r1).bind fun r2=>c r2
def Q40(a:Zt6)(b:Int):Option Zt6:=
 zo8 a b (fun a0=>some a0)
def zo3{R:Type}(a:(List Int))(b:(List Int)→Int→Int→Zt6→Zt6→Option R):Option R:=
 b a ((List.length a):Int) 0 (0,0,()) (0,0,())
def ze5{R:Type}(a:(List Int))(b c:Int)(d e:Zt6)(f:(List Int)→Int→Int→Zt6→Zt6→Option R)(g:Zt6→Zt6→Option R):Option R:=
 bif c<b then zd c (List.length a) ((Q40 e (List.getD a c.toNat (0:Int))).bind fun r1=>f a b (zW zI (c+1)) d r1) else g d e
def zo4{R:Type}(a b:Zt6)(c:Zt6→Option R):Option R:=
 c b
def z6d:Nat→(List Int)→Int→Int→Zt6→Zt6→Option (Zt6×Zt6)
 |0,_,_,_,_,_=>none
 |k+1,v0,v1,v2,v3,v4=>ze5 v0 v1 v2 v3 v4 (fun a0 a1 a2 a3 a4=>z6d k a0 a1 a2 a3 a4) (fun a0 a1=>some (a0,a1))
def Q33(a:(List Int)):Option Zt6:=
 zo3 a (fun a0 a1 a2 a3 a4=>(z6d FUEL a0 a1 a2 a3 a4).bind fun e=>zo4 e.1 e.2 (fun a0=>some a0))
def zy0{R:Type}(a:Zt6)(b:Int→Int→Option R):Option R:=
 b a.1 a.2.1
def Q36(a:Zt6):Option (Int×Int):=
 zy0 a (fun a0 a1=>some (a0,a1))
def zo7{R:Type}(a:Zt6)(b:Int)(c:Int→Option R):Option R:=
 bif(if b<0 then 0 else b)<64 then bif(if b<0 then 0 else b)<0 then none else bif !decide (IntKind.u64.wrap (a.1*2^min (if b<0 then 0 else b).toNat 64)=0) then(Q166 (IntKind.u64.wrap (a.1*2^min (if b<0 then 0 else b).toNat 64))).bind fun r1=>c (zW zI (zW zI ((if b<0 then 0 else b)+r1)+1)) else bif(if 64<zW zI (64-64) then 64 else zW zI (64-64))<0 then none else bif !decide (IntKind.u64.wrap (a.2.1*2^min (if 64<zW zI (64-64) then 64 else zW zI (64-(64:Int))).toNat 64)=0) then(Q166 (IntKind.u64.wrap (a.2.1*2^min (if 64<zW zI (64-64) then 64 else zW zI (64-(64:Int))).toNat 64))).bind fun r2=>c (zW zI (zW zI (64+r2)+1)) else c 0 else bif(if 64<zW zI ((if b<0 then 0 else b)-64) then 64 else zW zI ((if b<0 then 0 else b)-64))<0 then none else bif !decide (IntKind.u64.wrap (a.2.1*2^min (if 64<zW zI ((if b<0 then 0 else b)-64) then 64 else zW zI ((if b<0 then 0 else b)-(64:Int))).toNat 64)=0) then(Q166 (IntKind.u64.wrap (a.2.1*2^min (if 64<zW zI ((if b<0 then 0 else b)-64) then 64 else zW zI ((if b<0 then 0 else b)-(64:Int))).toNat 64))).bind fun r3=>c (zW zI (zW zI ((if b<0 then 0 else b)+r3)+1)) else c 0
def Q39(a:Zt6)(b:Int):Option Int:=
 zo7 a b (fun a0=>some a0)
def ze6{R:Type}(a b:Zt6)(c:Zt6→Option R):Option R:=
 c (ibits .and .u64 a.1 b.1,ibits .and .u64 a.2.1 b.2.1,())
def Q34(a b:Zt6):Option Zt6:=
 ze6 a b (fun a0=>some a0)
def zo6{R:Type}(a:Zt6)(b:Int)(c:Bool→Option R):Option R:=
 (Q42 b).bind fun r1=>(Q34 a r1).bind fun r2=>c (!(decide (r2.1=0)&&(decide (r2.2.1=0)&&true)))
def Q37(a:Zt6)(b:Int):Option Bool:=
 zo6 a b (fun a0=>some a0)
def zxz{R:Type}(a b:Int)(c:Zt6→Option R):Option R:=
 c (a,b,())
def Q32(a b:Int):Option Zt6:=
 zxz a b (fun a0=>some a0)
end Groat

namespace Groat
open Go.IntKind renaming wrap→zW,i64→zI,u8→zU
open Go Go.Ref
def zra{R:Type}(a:Int)(b:Int→Bool→Option R):Option R:=
 bif 48≤a then bif a≤57 then b (zW zI (zW zU (a-48))) true else bif 65≤a then bif a≤70 then b (zW zI (zW zI (zW zU (a-65))+10)) true else b 0 false else b 0 false else bif 65≤a then bif a≤70 then b (zW zI (zW zI (zW zU (a-65))+10)) true else b 0 false else b 0 false
def Q158(a:Int):Option (Int×Bool):=
 zra a (fun a0 a1=>some (a0,a1))
def zh1{R:Type}(a:ByteArray)(b:ByteArray→(List Int)→Int→Int→Option R):Option R:=
 bif 0≤zW zI (Int.tdiv (a.size:Int) 2) then bif zW zI (Int.tdiv (a.size:Int) 2)*1≤140737488355328 then b a [] 0 0 else none else none
def z9b{R:Type}(a:ByteArray)(b:(List Int))(c d:Int)(e:ByteArray→ByteArray→Int→Bool→(List Int)→Option R)(f:ByteArray→(List Int)→Int→Int→Option R)(g:ByteArray→(List Int)→Option R):Option R:=
 bif d<(a.size:Int) then zd d a.size ((Q158 (ze a d.toNat)).bind fun r1=>bif !r1.2 then e a (bs []) d false b else bif Int.tmod d 2=0 then f a b r1.1 (zW zI (d+1)) else bif(List.length b+List.length ([(zW zU (ibits .or .i64 (zW zI (c*2^min ((4:Int)).toNat 64)) r1.1))]:List Int))*1≤140737488355328 then f a (b++([(zW zU (ibits .or .i64 (zW zI (c*2^min ((4:Int)).toNat 64)) r1.1))]:List Int)) c (zW zI (d+1)) else none) else g a b
def zrc{R:Type}(a b:ByteArray)(c:Int)(d:Bool)(e:(List Int))(f:ByteArray→Int→Bool→Option R):Option R:=
 f b c d
def zh2{R:Type}(a:ByteArray)(b:(List Int))(c:ByteArray→Int→Bool→Option R):Option R:=
 bif !decide (Int.tmod (a.size:Int) 2=0) then c (bs []) (a.size:Int) false else c (strOf b) 0 true
def z5v:Nat→ByteArray→(List Int)→Int→Int→Option (Sum (ByteArray×ByteArray×Int×Bool×(List Int)) (ByteArray×(List Int)))
 |0,_,_,_,_=>none
 |k+1,v0,v1,v2,v3=>z9b v0 v1 v2 v3 (fun a0 a1 a2 a3 a4=>some (.inl (a0,a1,a2,a3,a4))) (fun a0 a1 a2 a3=>z5v k a0 a1 a2 a3) (fun a0 a1=>some (.inr (a0,a1)))
def Q159(a:ByteArray):Option (ByteArray×Int×Bool):=
 zh1 a (fun a0 a1 a2 a3=>(z5v FUEL a0 a1 a2 a3).bind fun e=>Sum.elim (fun(we:(ByteArray×ByteArray×Int×Bool×(List Int)))=>zrc we.1 we.2.1 we.2.2.1 we.2.2.2.1 we.2.2.2.2 (fun a0 a1 a2=>some (a0,a1,a2))) (fun(we:(ByteArray×(List Int)))=>zh2 we.1 we.2 (fun a0 a1 a2=>some (a0,a1,a2))) e)
def zh4{R:Type}(a:ByteArray)(b:ByteArray→(List Int)→Int→Option R):Option R:=
 bif 0≤zW zI (2*(a.size:Int)) then bif zW zI (2*(a.size:Int))*1≤140737488355328 then b a [] 0 else none else none
def z9c{R:Type}(a:ByteArray)(b:(List Int))(c:Int)(d:ByteArray→(List Int)→Int→Option R)(e:(List Int)→Option R):Option R:=
 bif c<(a.size:Int) then zd c a.size (zd (Int.fdiv (ze a c.toNat) (2^min ((4:Int)).toNat 8)) (bs [48,49,50,51,52,53,54,55,56,57,65,66,67,68,69,70]).size (zd c a.size (zd (ibits .and .u8 (ze a c.toNat) 15) (bs [48,49,50,51,52,53,54,55,56,57,65,66,67,68,69,70]).size (bif(List.length b+List.length ([(ze (bs [48,49,50,51,52,53,54,55,56,57,65,66,67,68,69,70]) (Int.fdiv (ze a c.toNat) (2^min ((4:Int)).toNat 8)).toNat),(ze (bs [48,49,50,51,52,53,54,55,56,57,65,66,67,68,69,70]) (ibits .and .u8 (ze a c.toNat) (15:Int)).toNat)]:List Int))*1≤140737488355328 then d a (b++([(ze (bs [48,49,50,51,52,53,54,55,56,57,65,66,67,68,69,70]) (Int.fdiv (ze a c.toNat) (2^min ((4:Int)).toNat 8)).toNat),(ze (bs [48,49,50,51,52,53,54,55,56,57,65,66,67,68,69,70]) (ibits .and .u8 (ze a c.toNat) (15:Int)).toNat)]:List Int)) (zW zI (c+1)) else none)))) else e b
def zrd{R:Type}(a:(List Int))(b:ByteArray→Option R):Option R:=
 b (strOf a)
def z5w:Nat→ByteArray→(List Int)→Int→Option (List Int)
 |0,_,_,_=>none
 |k+1,v0,v1,v2=>z9c v0 v1 v2 (fun a0 a1 a2=>z5w k a0 a1 a2) (fun a0=>some a0)
def Q160(a:ByteArray):Option ByteArray:=
 zh4 a (fun a0 a1 a2=>(z5w FUEL a0 a1 a2).bind fun e=>zrd e (fun a0=>some a0))
end Groat

namespace Groat
open Go.IntKind renaming wrap→zW,i64→zI,u8→zU
open Go Go.Ref
def Q9_s0{R:Type}(a:Int)(b:Bool→Option R):Option R:=
 bif a=1 then b true else b (decide (a=2))
def Q9(a:Int):Option Bool:=
 Q9_s0 a (fun a0=>some a0)
def zmf{R:Type}(a:Int)(b:ByteArray)(c:Int)(d:(List Int)→Int→Int→Option R):Option R:=
 bif a=1 then bif zW zI ((b.size:Int)-c)<zW zI (8*2) then d (List.replicate 8 0) 0 2 else bif 0≤zW zI (c+zW zI (8*2)) then bif zW zI (c+zW zI (8*2))≤(b.size:Int) then bif 0≤c then bif c≤(((zW zI (c+zW zI (8*(2:Int)))).toNat:Nat):Int) then bif a=1 then(Q159 (b.extract c.toNat (zW zI (c+zW zI (8*(2:Int)))).toNat)).bind fun r1=>bif !r1.2.2 then d (List.replicate 8 0) 0 3 else bif Nat.beq 8 (List.length (List.replicate 8 (0:Int))) then bif Nat.beq 8 (List.length (putL (List.replicate 8 (0:Int)) (List.take 8 (z2k r1.1)) 0)) then d (putL (List.replicate 8 0) (List.take 8 (z2k r1.1)) 0) (zW zI (c+zW zI (8*2))) 0 else none else none else bif Nat.beq 8 (List.length (List.replicate 8 (0:Int))) then bif Nat.beq 8 (List.length (putL (List.replicate 8 (0:Int)) (List.take 8 (z2k (b.extract c.toNat (zW zI (c+zW zI ((8:Int)*(2:Int)))).toNat))) 0)) then d (putL (List.replicate 8 0) (List.take 8 (z2k (b.extract c.toNat (zW zI (c+zW zI (8*(2:Int)))).toNat))) 0) (zW zI (c+zW zI (8*2))) 0 else none else none else none else none else none else none else bif zW zI ((b.size:Int)-c)<8 then d (List.replicate 8 0) 0 2 else bif 0≤zW zI (c+8) then bif zW zI (c+8)≤(b.size:Int) then bif 0≤c then bif c≤(((zW zI (c+(8:Int))).toNat:Nat):Int) then bif a=1 then(Q159 (b.extract c.toNat (zW zI (c+(8:Int))).toNat)).bind fun r2=>bif !r2.2.2 then d (List.replicate 8 0) 0 3 else bif Nat.beq 8 (List.length (List.replicate 8 (0:Int))) then bif Nat.beq 8 (List.length (putL (List.replicate 8 (0:Int)) (List.take 8 (z2k r2.1)) 0)) then d (putL (List.replicate 8 0) (List.take 8 (z2k r2.1)) 0) (zW zI (c+8)) 0 else none else none else bif Nat.beq 8 (List.length (List.replicate 8 (0:Int))) then bif Nat.beq 8 (List.length (putL (List.replicate 8 (0:Int)) (List.take 8 (z2k (b.extract c.toNat (zW zI (c+(8:Int))).toNat))) 0)) then d (putL (List.replicate 8 0) (List.take 8 (z2k (b.extract c.toNat (zW zI (c+(8:Int))).toNat))) 0) (zW zI (c+8)) 0 else none else none else none else none else none else none
def Q10(a:Int)(b:ByteArray)(c:Int):Option ((List Int)×Int×Int):=
 zmf a b c (fun a0 a1 a2=>some (a0,a1,a2))
def Q7_s0{R:Type}(a:(List Int))(b:Int→(List Int)→Int→Option R):Option R:=
 b 0 a 0
def Q7_s1{R:Type}(a:Int)(b:(List Int))(c:Int)(d:Int→(List Int)→Int→Option R)(e:Int→Option R):Option R:=
 bif c<8 then zd c 8 (d (ibits .or .u64 (IntKind.u64.wrap (a*2^min ((8:Int)).toNat 64)) (IntKind.u64.wrap (List.getD b c.toNat 0))) b (zW zI (c+1))) else e a
def Q7_s2{R:Type}(a:Int)(b:Int→Option R):Option R:=
 b a
def Q7_l0:Nat→Int→(List Int)→Int→Option Int
 |0,_,_,_=>none
 |k+1,v0,v1,v2=>Q7_s1 v0 v1 v2 (fun a0 a1 a2=>Q7_l0 k a0 a1 a2) (fun a0=>some a0)
def Q7(a:(List Int)):Option Int:=
 Q7_s0 a (fun a0 a1 a2=>(Q7_l0 FUEL a0 a1 a2).bind fun e=>Q7_s2 e (fun a0=>some a0))
def Q5_s0{R:Type}(a:Int)(b:ByteArray)(c:Int)(d:Zt6→Int→Int→Option R):Option R:=
 (Q9 a).bind fun r1=>bif !r1 then d (0,0,()) 0 1 else bif c<0 then d (0,0,()) 0 1 else bif(b.size:Int)<c then d (0,0,()) 0 1 else(Q10 a b c).bind fun r2=>bif !decide (r2.2.2=0) then d (0,0,()) 0 r2.2.2 else(Q7 r2.1).bind fun r3=>bif ibits .and .u64 r3 9223372036854775808=0 then(Q32 r3 (0:Int)).bind fun r4=>d r4 r2.2.1 0 else(Q10 a b r2.2.1).bind fun r5=>bif !decide (r5.2.2=0) then d (0,0,()) 0 r5.2.2 else bif r5.1=([0,0,0,0,0,0,0,0]:List Int) then d (0,0,()) 0 8 else(Q7 r5.1).bind fun r6=>(Q32 (ibits .andNot .u64 r3 9223372036854775808) r6).bind fun r7=>d r7 r5.2.1 0
def Q5(a:Int)(b:ByteArray)(c:Int):Option (Zt6×Int×Int):=
 Q5_s0 a b c (fun a0 a1 a2=>some (a0,a1,a2))
def Q8_s0{R:Type}(a:Int)(b:Int→Int→(List Int)→(List Int)→Option R):Option R:=
 b a 0 (List.replicate 8 0) (List.replicate 8 0)
def Q8_s1{R:Type}(a b:Int)(c d:(List Int))(e:Int→Int→(List Int)→(List Int)→Option R)(f:(List Int)→(List Int)→Option R):Option R:=
 bif b<8 then bif zW zI (8*zW zI (7-b))<0 then none else zd b 8 (e a (zW zI (b+1)) c (List.set d b.toNat (zW zU (Int.fdiv a (2^min (zW zI (8*zW zI (7-b))).toNat 64))))) else f c d
def Q8_s2{R:Type}(a b:(List Int))(c:(List Int)→Option R):Option R:=
 c b
def Q8_l0:Nat→Int→Int→(List Int)→(List Int)→Option ((List Int)×(List Int))
 |0,_,_,_,_=>none
 |k+1,v0,v1,v2,v3=>Q8_s1 v0 v1 v2 v3 (fun a0 a1 a2 a3=>Q8_l0 k a0 a1 a2 a3) (fun a0 a1=>some (a0,a1))
def Q8(a:Int):Option (List Int):=
 Q8_s0 a (fun a0 a1 a2 a3=>(Q8_l0 FUEL a0 a1 a2 a3).bind fun e=>Q8_s2 e.1 e.2 (fun a0=>some a0))
def Q6_s0{R:Type}(a:Int)(b:Zt6)(c:ByteArray→Int→Option R):Option R:=
 (Q9 a).bind fun r1=>bif !r1 then c (bs []) 1 else(Q37 b (1:Int)).bind fun r2=>bif r2 then c (bs []) 1 else(Q36 b).bind fun r3=>(Q8 r3.2).bind fun r4=>bif !decide (r4=([0,0,0,0,0,0,0,0]:List Int)) then bif Nat.beq 8 (List.length r4) then(Q8 (ibits .or .u64 r3.1 (9223372036854775808:Int))).bind fun r5=>bif Nat.beq 8 (List.length r5) then bif(strOf r5).size+(strOf r4).size≤9223372036854775807 then bif a=1 then(Q160 (strOf r5++strOf r4)).bind fun r6=>c r6 0 else c (strOf r5++strOf r4) 0 else none else none else none else(Q8 r3.1).bind fun r7=>bif Nat.beq 8 (List.length r7) then bif(strOf r7).size+(bs []).size≤9223372036854775807 then bif a=1 then(Q160 (strOf r7++bs [])).bind fun r8=>c r8 0 else c (strOf r7++bs []) 0 else none else none
def Q6(a:Int)(b:Zt6):Option Zt2:=
 Q6_s0 a b (fun a0 a1=>some (a0,a1))
end Groat

namespace Groat
open Go.IntKind renaming wrap→zW,i64→zI,u8→zU
open Go Go.Ref
def z9k{R:Type}(a:Int)(b:Int→Option R):Option R:=
 bif a=2 then b 2 else bif a=3 then b 3 else b 0
def Q186(a:Int):Option Int:=
 z9k a (fun a0=>some a0)
def zry{R:Type}(a:Int)(b:Int→Int→Int→Option R):Option R:=
 (Q186 a).bind fun r1=>b 0 r1 0
def zrz{R:Type}(a b c:Int)(d:Int→Int→Int→Option R)(e:Int→Option R):Option R:=
 bif c<b then d (zW zI (zW zI (10*a)+9)) b (zW zI (c+1)) else e a
def zs0{R:Type}(a:Int)(b:Int→Option R):Option R:=
 b a
def zhq:Nat→Int→Int→Int→Option Int
 |0,_,_,_=>none
 |k+1,v0,v1,v2=>zrz v0 v1 v2 (fun a0 a1 a2=>zhq k a0 a1 a2) (fun a0=>some a0)
def Q183(a:Int):Option Int:=
 zry a (fun a0 a1 a2=>(zhq FUEL a0 a1 a2).bind fun e=>zs0 e (fun a0=>some a0))
def z9j{R:Type}(a b:Int)(c:Bool→Option R):Option R:=
 bif a=1 then(Q186 b).bind fun r1=>c (decide (0<r1)) else bif a=2 then(Q186 b).bind fun r2=>c (decide (0<r2)) else c false
def Q185(a b:Int):Option Bool:=
 z9j a b (fun a0=>some a0)
def zho{R:Type}(a b:Int)(c:ByteArray)(d:Int)(e:Int→Int→Int→Option R):Option R:=
 (Q185 a b).bind fun r1=>bif !r1 then e 0 0 1 else bif d<0 then e 0 0 1 else bif(c.size:Int)<d then e 0 0 1 else(Q186 b).bind fun r2=>bif a=2 then(Q2 r2).bind fun r3=>bif zW zI ((c.size:Int)-d)<r3 then e 0 0 2 else bif 0≤zW zI (d+r3) then bif zW zI (d+r3)≤(c.size:Int) then bif 0≤d then bif d≤(((zW zI (d+r3)).toNat:Nat):Int) then bif a=2 then(Q186 b).bind fun r4=>(Q0 (c.extract d.toNat (zW zI (d+r3)).toNat) r4).bind fun r5=>bif !decide (r5.2.1=0) then e 0 0 3 else(Q29 r5.1).bind fun r6=>bif !r6.2 then e 0 0 3 else e r6.1 (zW zI (d+r3)) 0 else(Q29 (c.extract d.toNat (zW zI (d+r3)).toNat)).bind fun r7=>bif !r7.2 then e 0 0 3 else e r7.1 (zW zI (d+r3)) 0 else none else none else none else none else bif zW zI ((c.size:Int)-d)<r2 then e 0 0 2 else bif 0≤zW zI (d+r2) then bif zW zI (d+r2)≤(c.size:Int) then bif 0≤d then bif d≤(((zW zI (d+r2)).toNat:Nat):Int) then bif a=2 then(Q186 b).bind fun r8=>(Q0 (c.extract d.toNat (zW zI (d+r2)).toNat) r8).bind fun r9=>bif !decide (r9.2.1=0) then e 0 0 3 else(Q29 r9.1).bind fun r10=>bif !r10.2 then e 0 0 3 else e r10.1 (zW zI (d+r2)) 0 else(Q29 (c.extract d.toNat (zW zI (d+r2)).toNat)).bind fun r11=>bif !r11.2 then e 0 0 3 else e r11.1 (zW zI (d+r2)) 0 else none else none else none else none
def Q182(a b:Int)(c:ByteArray)(d:Int):Option Zt1:=
 zho a b c d (fun a0 a1 a2=>some (a0,a1,a2))
def zhr{R:Type}(a b c:Int)(d:ByteArray→Int→Option R):Option R:=
 (Q185 a b).bind fun r1=>bif !r1 then d (bs []) 1 else(Q186 b).bind fun r2=>(Q31 c r2).bind fun r3=>bif !r3.2 then d (bs []) 5 else bif a=2 then(Q1 r3.1).bind fun r4=>d r4.1 0 else d r3.1 0
def Q184(a b c:Int):Option Zt2:=
 zhr a b c (fun a0 a1=>some (a0,a1))
end Groat

namespace Groat
open Go.IntKind renaming wrap→zW,i64→zI,u8→zU
open Go Go.Ref
def zn7{R:Type}(a:Int)(b:Int→Option R):Option R:=
 bif a=1 then b 1 else bif a=2 then b 2 else bif a=3 then b 3 else bif a=4 then b 7 else bif a=5 then b 15 else bif a=6 then b 15 else b 0
def Q19(a:Int):Option Int:=
 zn7 a (fun a0=>some a0)
def zmy{R:Type}(a:Int)(b:Bool→Option R):Option R:=
 (Q19 a).bind fun r1=>b (!decide (r1=0))
def Q16(a:Int):Option Bool:=
 zmy a (fun a0=>some a0)
def zxj{R:Type}(a:Int)(b:Int→Option R):Option R:=
 bif 48≤a then bif a≤57 then b 1 else bif 65≤a then bif a≤90 then b 2 else bif 97≤a then bif a≤122 then b 2 else bif 32≤a then bif a≤126 then b 4 else b 8 else b 8 else bif 32≤a then bif a≤126 then b 4 else b 8 else b 8 else bif 97≤a then bif a≤122 then b 2 else bif 32≤a then bif a≤126 then b 4 else b 8 else b 8 else bif 32≤a then bif a≤126 then b 4 else b 8 else b 8 else bif 65≤a then bif a≤90 then b 2 else bif 97≤a then bif a≤122 then b 2 else bif 32≤a then bif a≤126 then b 4 else b 8 else b 8 else bif 32≤a then bif a≤126 then b 4 else b 8 else b 8 else bif 97≤a then bif a≤122 then b 2 else bif 32≤a then bif a≤126 then b 4 else b 8 else b 8 else bif 32≤a then bif a≤126 then b 4 else b 8 else b 8
def Q18(a:Int):Option Int:=
 zxj a (fun a0=>some a0)
def zmu{R:Type}(a:Int)(b:ByteArray)(c:ByteArray→Int→Int→Option R):Option R:=
 (Q19 a).bind fun r1=>c b r1 0
def zci{R:Type}(a:ByteArray)(b c:Int)(d:Int→Option R)(e:ByteArray→Int→Int→Option R)(f:Option R):Option R:=
 bif c<(a.size:Int) then zd c a.size ((Q18 (ze a c.toNat)).bind fun r2=>bif ibits .and .i64 b r2=0 then d c else e a b (zW zI (c+1))) else f
def zxh{R:Type}(a:Int)(b:Int→Option R):Option R:=
 b a
def zxi{R:Type}(a:Int→Option R):Option R:=
 a (-1:Int)
def z7m:Nat→ByteArray→Int→Int→Option (Sum Int Unit)
 |0,_,_,_=>none
 |k+1,v0,v1,v2=>zci v0 v1 v2 (fun a0=>some (.inl a0)) (fun a0 a1 a2=>z7m k a0 a1 a2) (some (.inr ()))
def Q15(a:Int)(b:ByteArray):Option Int:=
 zmu a b (fun a0 a1 a2=>(z7m FUEL a0 a1 a2).bind fun e=>Sum.elim (fun(we:Int)=>zxh we (fun a0=>some a0)) (fun(we:Unit)=>zxi (fun a0=>some a0)) e)
def zn3{R:Type}(a b:Int)(c:Bool→Option R):Option R:=
 (Q16 a).bind fun r1=>bif r1 then(Q16 b).bind fun r2=>bif r2 then(Q19 b).bind fun r3=>(Q19 a).bind fun r4=>c (decide (ibits .andNot .i64 r3 r4=0)) else c false else c false
def Q17(a b:Int):Option Bool:=
 zn3 a b (fun a0=>some a0)
end Groat

namespace Groat
open Go.IntKind renaming wrap→zW,i64→zI,u8→zU
open Go Go.Ref
def zt5{R:Type}(a:Int)(b:Bool→Option R):Option R:=
 bif 0<a then bif a≤255 then b (decide (ibits .and .i64 a 32=0)) else b false else b false
def Q231(a:Int):Option Bool:=
 zt5 a (fun a0=>some a0)
def zjb{R:Type}(a:Int)(b:Bool→Option R):Option R:=
 bif a≤255 then(Q231 a).bind fun r1=>bif r1 then b (!decide (ibits .and .i64 a 31=31)) else b false else bif a≤65535 then(Q231 (Int.fdiv a (2^min ((8:Int)).toNat 64))).bind fun r2=>bif r2 then bif ibits .and .i64 (Int.fdiv a (2^min ((8:Int)).toNat 64)) 31=31 then bif 1≤ibits .and .i64 a 255 then b (decide (ibits .and .i64 a 255≤127)) else b false else b false else b false else b false
def Q230(a:Int):Option Bool:=
 zjb a (fun a0=>some a0)
def zja{R:Type}(a:ByteArray)(b:Int)(c:Int→Int→Int→Option R):Option R:=
 bif b<0 then c 0 0 1 else bif(a.size:Int)<b then c 0 0 1 else bif b=(a.size:Int) then c 0 0 2 else zd b a.size ((Q231 (zW zI (ze a b.toNat))).bind fun r1=>bif !r1 then c 0 0 13 else bif !decide (ibits .and .i64 (zW zI (ze a b.toNat)) 31=31) then c (zW zI (ze a b.toNat)) (zW zI (b+1)) 0 else bif zW zI (b+1)=(a.size:Int) then c 0 0 2 else zd (zW zI (b+1)) a.size ((Q230 (ibits .or .i64 (zW zI (zW zI (ze a b.toNat)*2^min ((8:Int)).toNat 64)) (zW zI (ze a (zW zI (b+(1:Int))).toNat)))).bind fun r2=>bif !r2 then c 0 0 13 else c (ibits .or .i64 (zW zI (zW zI (ze a b.toNat)*2^min ((8:Int)).toNat 64)) (zW zI (ze a (zW zI (b+(1:Int))).toNat))) (zW zI (b+2)) 0))
def Q229(a:ByteArray)(b:Int):Option Zt1:=
 zja a b (fun a0 a1 a2=>some (a0,a1,a2))
end Groat

namespace Groat
open Go.IntKind renaming wrap→zW,i64→zI,u8→zU
open Go Go.Ref
def zjd{R:Type}(a:ByteArray)(b:ByteArray→Zt12→Int→Zt7→Option R):Option R:=
 b a [] 0 []
def zje{R:Type}(a:ByteArray)(b:Zt12)(c:Int)(d:Zt7)(e:Zt12→Int→Int→Zt12→Option R)(f:ByteArray→Zt12→Int→Zt7→Option R)(g:Zt12→Option R):Option R:=
 bif c<(a.size:Int) then(Q229 a c).bind fun r1=>bif !decide (r1.2.2=0) then e [] r1.2.2 c b else(Q3 a r1.2.1).bind fun r2=>bif !decide (r2.2.2=0) then e [] r2.2.2 r1.2.1 b else bif zW zI ((a.size:Int)-r2.2.1)<r2.1 then e [] 2 (a.size:Int) b else bif mget (eqK (.int .i64)) false d r1.1 then e [] 10 c b else bif mhas (eqK (.int .i64)) d r1.1 then none else bif 0≤zW zI (r2.2.1+r2.1) then bif zW zI (r2.2.1+r2.1)≤(a.size:Int) then bif 0≤r2.2.1 then bif r2.2.1≤(((zW zI (r2.2.1+r2.1)).toNat:Nat):Int) then bif(List.length b+List.length ([(r1.1,a.extract r2.2.1.toNat (zW zI (r2.2.1+r2.1)).toNat,())]:List Zt9))*24≤140737488355328 then f a (b++([(r1.1,a.extract r2.2.1.toNat (zW zI (r2.2.1+r2.1)).toNat,())]:List Zt9)) (zW zI (r2.2.1+r2.1)) (d++ [(r1.1,true)]) else none else none else none else none else none else g b
def zt7{R:Type}(a:Zt12)(b c:Int)(d:Zt12)(e:Zt12→Int→Int→Option R):Option R:=
 e a b c
def zt8{R:Type}(a:Zt12)(b:Zt12→Int→Int→Option R):Option R:=
 b a 0 0
def z7a:Nat→ByteArray→Zt12→Int→Zt7→Option (Sum Zt21 Zt12)
 |0,_,_,_,_=>none
 |k+1,v0,v1,v2,v3=>zje v0 v1 v2 v3 (fun a0 a1 a2 a3=>some (.inl (a0,a1,a2,a3))) (fun a0 a1 a2 a3=>z7a k a0 a1 a2 a3) (fun a0=>some (.inr a0))
def Q232(a:ByteArray):Option (Sum Zt16 Zt16):=
 zjd a (fun a0 a1 a2 a3=>(z7a FUEL a0 a1 a2 a3).bind fun e=>Sum.elim (fun(we:Zt21)=>zt7 we.1 we.2.1 we.2.2.1 we.2.2.2 (fun a0 a1 a2=>some (.inl (a0,a1,a2)))) (fun(we:Zt12)=>zt8 we (fun a0 a1 a2=>some (.inr (a0,a1,a2)))) e)
end Groat

namespace Groat
open Go.IntKind renaming wrap→zW,i64→zI,u8→zU
open Go Go.Ref
def ziu{R:Type}(a:Zt13)(b:Int→Option R):Option R:=
 bif a.1<2 then b 1 else bif 128<a.1 then b 1 else(Q16 a.2.1).bind fun r1=>bif !r1 then b 6 else bif a.2.2.1<1 then b 3 else bif 3<a.2.2.1 then b 3 else bif a.2.2.2.1<1 then b 5 else bif a.2.2.2.2.1<a.2.2.2.1 then b 5 else bif 999<a.2.2.2.2.1 then b 5 else bif a.2.2.1=1 then bif !decide (a.2.2.2.1=a.2.2.2.2.1) then b 5 else bif !decide (a.2.2.1=1) then(Q183 a.2.2.1).bind fun r2=>bif r2<a.2.2.2.2.1 then b 5 else bif a.2.2.1=1 then bif a.2.1=6 then b 13 else b 0 else b 0 else bif a.2.2.1=1 then bif a.2.1=6 then b 13 else b 0 else b 0 else bif !decide (a.2.2.1=1) then(Q183 a.2.2.1).bind fun r3=>bif r3<a.2.2.2.2.1 then b 5 else bif a.2.2.1=1 then bif a.2.1=6 then b 13 else b 0 else b 0 else bif a.2.2.1=1 then bif a.2.1=6 then b 13 else b 0 else b 0
def Q218(a:Zt13):Option Int:=
 ziu a (fun a0=>some a0)
def ziv{R:Type}(a:Zt13)(b:ByteArray)(c:Int→Option R):Option R:=
 (Q218 a).bind fun r1=>bif !decide (r1=0) then c 1 else bif(b.size:Int)<a.2.2.2.1 then c 5 else bif a.2.2.2.2.1<(b.size:Int) then c 5 else(Q15 a.2.1 b).bind fun r2=>bif 0≤r2 then c 6 else bif a.2.1=6 then(Q232 b).bind fun r3=>Sum.elim (fun(wr3:Zt16)=>bif !decide (wr3.2.1=0) then c 13 else c 0) (fun(wr3:Zt16)=>bif !decide (wr3.2.1=0) then c 13 else c 0) r3 else c 0
def Q219(a:Zt13)(b:ByteArray):Option Int:=
 ziv a b (fun a0=>some a0)
def zix{R:Type}(a b:Int)(c:Bool→Option R):Option R:=
 bif a=5 then c true else bif a=6 then c (decide (a=b)) else bif b=6 then c (decide (a=b)) else(Q17 a b).bind fun r1=>c r1
def Q221(a b:Int):Option Bool:=
 zix a b (fun a0=>some a0)
def ziw{R:Type}(a b:Zt13)(c:Bool→Option R):Option R:=
 (Q218 a).bind fun r1=>bif r1=0 then(Q218 b).bind fun r2=>bif r2=0 then bif a.2.2.2.1≤b.2.2.2.1 then bif b.2.2.2.2.1≤a.2.2.2.2.1 then(Q221 a.2.1 b.2.1).bind fun r3=>c r3 else c false else c false else c false else c false
def Q220(a b:Zt13):Option Bool:=
 ziw a b (fun a0=>some a0)
end Groat

