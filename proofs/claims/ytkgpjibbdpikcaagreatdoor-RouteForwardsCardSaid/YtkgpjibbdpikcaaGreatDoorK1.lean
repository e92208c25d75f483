/- No condition. -/
import Derived.Test.YtkgpjibbdpikcaaGreatDoorK0
import Derived.Laws.CopyRow
import Derived.OpenShut
import Derived.Deep.Slices
import Derived.Shelf.Strings.Repeat
set_option linter.unusedVariables false
set_option linter.unusedSimpArgs false
set_option maxRecDepth 100000
namespace Go.Ref
open Go
variable {P:Program} {E:Env} {X:aq} {s:State} {a:Act} {o:Oper} {u:Out}
theorem acf(hE:ak P E)(hr:Rel X s a){ops:List Oper}{T:TypeId}{x:Operand}{lo hi:Option Operand}(ho:o.op= .slice T x lo hi none){C:FuncId->bJ Out}(h:act E C ops o s some=some u):aA P X s a o u:=by
 unfold act at h
 simp only[ho] at h
 split at h
 ·rename_i id n ta tb dE
  split at h
  case h_2=>cases h
  rename_i e t hT
  split at h
  case isFalse=>cases h
  rename_i heq
  have:=Ty.aK heq
  subst this
  unfold rC at h
  split at h
  ·cases h
  rename_i Gd
  have S3:hi=none:=by
   cases hi with
   |none=>rfl
   |some _=>cases Gd
  subst S3
  obtain⟨l,h,h1,hl⟩:=z9r h
  cases h
  have hx:=hr.az x
  rw[dE] at hx
  obtain⟨r0,hβ,cap,hv,lR⟩:=hx
  have hu:=(hE.ty T _ hT).cS
  have hbd:=zca (P:=P) (isS:=true) hr hl (hi:=none) (m:=n) (n:=n) (c:=cap) rfl h1 (Nat.le_refl _) lR X.w
  rw[Option.map_none] at hbd
  refine aA.plain hr (v:= .slice (if cap=l then some ⟨r0,0,none⟩ else(some (⟨r0,0,none⟩:Addr)).map (·.add (l*ta.cells))) (n-l) (cap-l)) ?_ ⟨r0,hβ,?_⟩ (fun _ _ _ e=>by cases e;exact yr hr dE)
  ·simp only[execOp,ho,Sem.run_bind,Instr.sliceAt,run_underlying hu.1,Result.andThen_ok,Instr.slice,hv,Option.map_none,hbd,Sem.run_pure,kY hE hu.2]
  ·show∃uM off,_=Value.slice (some ⟨r0,off,none⟩) (n-l) uM/\_
   by_cases e':cap=l
   ·rw[if_pos e']
    exact⟨_,_,rfl,by omega,h1,.inl ⟨by omega,rfl⟩⟩
   ·rw[if_neg e']
    refine⟨cap-l,l*ta.cells,?_,by omega,h1,.inr rfl⟩
    rw[Option.map_some,jH,Nat.zero_add]
 ·rename_i id n t dE
  have hx:=hr.az x
  rw[dE] at hx
  obtain⟨r0,hβ,hv⟩:=hx
  unfold pJ at h
  split at h
  case h_2=>cases h
  rename_i u' hT Ah Gd
  have lo0:lo=none:=by
   cases lo with
   |none=>rfl
   |some _=>cases Ah
  have S3:hi=none:=by
   cases hi with
   |none=>rfl
   |some _=>cases Gd
  subst lo0 S3
  split at h
  case isFalse=>cases h
  rename_i heq
  have:=Ty.aK heq
  subst this
  split at h
  case h_2=>cases h
  rename_i B hB
  split at h
  case isFalse=>cases h
  rename_i dD
  cases h
  have hb:=ql hB
  obtain⟨r,h1,uQ⟩:=hr.boxes id B hb
  rw[hβ] at h1
  cases h1
  obtain⟨bt,bx,bo⟩:=B
  have e:=Ty.aK dD
  simp only at e
  subst e
  obtain⟨cs,T',aG,aM,how,_⟩:=uQ.cells rfl
  have hv:a.eval x= .pointer (some ⟨r0,0,none⟩):=by rw[((oU rfl).1 hv).1];rfl
  obtain⟨e,iE,jk,_⟩:=(hE.ty T _ hT).cS
  have hlen:List.length (bx:List (El t))=n:=aM.1
  have b6:bC X id r0 ⟨.aV .row t .unit,(bx:List (El t)),[]⟩:=⟨how,cs,T',aG,by have:=aM.2.1;rw[hlen];simpa using this,aM.2.2⟩
  have F7:(Ty.cast dD bx:El (.arr n t))=bx:=rfl
  rw[F7]
  refine⟨X,.slice (some ⟨r0,0,none⟩) n n,.inl ?_,Ext.refl X,(hr.nk hb hβ b6).fin ⟨r0,hβ,n,rfl,Nat.le_refl _⟩ (fun bY t' p' hm=> ?_)⟩
  ·simp only[execOp,ho,Sem.run_bind,Instr.sliceAt,run_underlying iE,Result.andThen_ok,Option.map_none,hv,Instr.sureAddr,Sem.run_pure,kY hE jk]
   simp [Instr.sliceBounds]
   intro _
   rw[jH]
  ·have S6:SV.ptr bY t' p'= .ptr id (.aV (.fU n) t .unit) []:=by simpa using hm
   cases S6
   exact⟨_,zcr hb⟩
 ·exact YT hE hr ho h
theorem Vf(hr:Rel X s a){ops:List Oper}{fn:Fn}{fi ca:Array Operand}(ho:o.op= .makeFunc fn fi ca){C:FuncId->bJ Out}(h:act E C ops o s some=some u):aA P X s a o u:=by
 unfold act at h
 cases fn with
 |func f=>
  simp only[ho] at h
  split at h
  case h_3=>cases h
  case h_2=>
   rename_i x y uX zZ
   have uX:fi= #[]:=by rw[<-Array.toArray_toList (xs:=fi),uX]
   have zZ:ca= #[x,y]:=by rw[<-Array.toArray_toList (xs:=ca),zZ]
   subst uX zZ
   unfold rA at h
   split at h
   case h_2=>cases h
   rename_i t x1 u' y1 dE GL
   cases h
   have hx:=hr.az x
   have hy:=hr.az y
   rw[dE] at hx
   rw[GL] at hy
   obtain⟨ad,cs,h1,h2,h3,h4⟩:=hx
   obtain⟨oH,dU,k1,k2,k3,k4⟩:=hy
   refine aA.plain hr (v:= .func (.func f) #[] #[.pointer (some ad),.pointer (some oH)]) ?_ ⟨ad,oH,cs,dU,rfl,⟨h2,h3,h4⟩,k2,k3,k4⟩ (fun _ _ _ e=>by cases e)
   simp [execOp,ho,Instr.makeFunc,h1,k1]
  rename_i x uX zZ
  have uX:fi= #[]:=by rw[<-Array.toArray_toList (xs:=fi),uX]
  have zZ:ca= #[x]:=by rw[<-Array.toArray_toList (xs:=ca),zZ]
  subst uX zZ
  unfold lN at h
  split at h
  case h_2=>cases h
  rename_i id u' dE
  split at h
  case isTrue=>cases h
  rename_i hs
  cases h
  have hx:=hr.az x
  rw[dE] at hx
  obtain⟨r0,hβ,hv⟩:=hx
  have hv:=((KH (by simpa using hs)).1 hv).1
  refine aA.plain hr (v:= .func (.func f) #[] #[.pointer (some ⟨r0,0,none⟩)]) ?_ ⟨r0,hβ,rfl⟩ (fun _ _ _ e=>by cases e;exact yr hr dE)
  have hv:a.eval x= .pointer (some ⟨r0,0,none⟩):=by rw[hv];simp [Ty.off]
  simp [execOp,ho,Instr.makeFunc,hv]
 |_=>simp only[ho] at h;cases h
theorem HA{t:Ty}{xs:List (El t)}{n l:Nat}{cs:List Value}(h:aR X (.arr n t) xs cs)(hl:l<=n):aR X (.arr l t) (xs.take l:List (El t)) (cs.take (l*t.cells)):=by
 obtain⟨h1,h2,h3⟩:=h
 have hm:=Nat.mul_le_mul_right t.cells hl
 refine⟨by rw[List.length_take];omega,by rw[List.length_take];omega,fun j y hj=> ?_⟩
 have hj:(xs.take l)[j]? =some y:=hj
 rw[List.getElem?_take] at hj
 split at hj
 case isFalse=>cases hj
 rename_i uY
 have hk:(j+1)*t.cells<=l*t.cells:=Nat.mul_le_mul_right _ uY
 rw[Nat.add_mul,Nat.one_mul] at hk
 have e:((cs.take (l*t.cells)).drop (j*t.cells)).take t.cells=(cs.drop (j*t.cells)).take t.cells:=by
  rw[List.drop_take,List.take_take,Nat.min_eq_left (by omega)]
 rw[e]
 exact h3 j y hj
theorem Hz{t:Ty}{xs:List (El t)}{n l:Nat}{cs:List Value}(h:aR X (.arr n t) xs cs)(hl:l<=n):aR X (.arr (n-l) t) (xs.drop l:List (El t)) (cs.drop (l*t.cells)):=by
 obtain⟨h1,h2,h3⟩:=h
 refine⟨by rw[List.length_drop];omega,by rw[List.length_drop,Nat.sub_mul];omega,fun j y hj=> ?_⟩
 have hj:(xs.drop l)[j]? =some y:=hj
 rw[List.getElem?_drop] at hj
 rw[List.drop_drop,<-Nat.add_mul]
 exact h3 (l+j) y hj
theorem Ih{α:Type}(xs ys:List α)(lo:Nat)(h:lo+ys.length<=xs.length):(bE xs ys lo).length=xs.length:=by
 unfold bE;simp;omega
theorem zsj(hE:ak P E)(hr:Rel X s a){d x:Operand}{T e:TypeId}{t:Ty}{ts:Array TypeId}(ho:o.op= .call ⟨.builtin .copy,#[d,x],ts⟩)(gB:ts[0]? =some T)(hT:E.ty T=some (.sl e t)){id n lo:Nat}{ta tb:Ty}{p:List Nat}
 (dE:s.az d= .ptr id (.aV (.fU n) ta tb) p) (lZ:∀r,nj (.aV (.fU n) ta tb) p r (a.eval d)->∃cap off,a.eval d= .slice (some ⟨r,off,none⟩) (n-lo) cap/\lo<=n/\((n=lo/\off=0)\/off=lo*ta.cells))
 (h:gw t s id n lo ta tb (s.az x) e some=some u):aA P X s a o u:=by
 have hx:=hr.az d
 rw[dE] at hx
 obtain⟨r0,hβ,hv⟩:=hx
 unfold gw at h
 split at h
 case isFalse=>cases h
 rename_i heq
 have:=Ty.aK heq
 subst this
 obtain⟨ys,h,qj⟩:=zz h
 split at h
 case h_2=>cases h
 rename_i B hB
 split at h
 case isFalse=>cases h
 rename_i dD
 obtain⟨hb,r,h1,how,cs,T',aG,dh,dN⟩:=Ci hr hB dD
 rw[hβ] at h1
 cases h1
 generalize(Ty.cast dD B.x:List (El ta))=xs at*
 cases hn:Nat.beq n (List.length xs)<;>rw[hn] at h
 ·cases h
 cases Ah:Nat.ble lo n<;>rw[Ah] at h
 ·cases h
 cases h
 have hn:=Nat.eq_of_beq_eq_true hn
 have Ah:=Nat.le_of_ble_eq_true Ah
 obtain⟨cap,off,hd,_,Gt⟩:=lZ r0 hv
 obtain⟨cx,mc,ev⟩:=qj X _ _ (hr.az x)
 have U4:=mc
 obtain⟨A,c,uV,_⟩:=U4
 have ev:a.eval x= .slice A ys.length c:=by rw[ev,uV];rfl
 rw[uV] at mc
 obtain⟨_,hc,cy,ry,ny,sy⟩:=z9x (X:=X) mc
 have hu:=(hE.ty T _ hT).cS
 have hm:(ys.take (n-lo)).length=min ys.length (n-lo):=by rw[List.length_take,Nat.min_comm]
 generalize Aj:min ys.length (n-lo)=m at hm
 have hmy:m<=ys.length:=by omega
 have hmn:m<=n-lo:=by omega
 have htk:ys.take (n-lo)=ys.take m:=by
  rw[<-Aj]
  rcases Nat.le_total ys.length (n-lo) with g|g
  ·rw[Nat.min_eq_left g,List.take_of_length_le g,List.take_of_length_le (Nat.le_refl _)]
  ·rw[Nat.min_eq_right g]
 have rz:=HA ry hmy
 have TB:(cy.take (m*ta.cells)).length=m*ta.cells:=rz.2.1
 have dw:aR X (.arr xs.length ta) xs cs.toList:=⟨rfl,by simpa using dh,dN⟩
 have jg:(Builtin.firstCells ta.cells m (a.eval x)).run P X.w= .ok (cy.take (m*ta.cells)).toArray X.w:=by
  rw[ev]
  cases A with
  |none=>
   have:=ny rfl
   subst this
   have:m=0:=by simpa using hmy
   subst this
   simp [Builtin.firstCells]
  |some ad=>
   have:=run_loadCells_list (P:=P) X.w ad (cy.take (m*ta.cells)) (fun j v hj=>by
    rw[List.getElem?_take] at hj
    split at hj
    ·exact(sy ad rfl j v hj).2.1
    ·cases hj)
   rw[TB] at this
   simpa [Builtin.firstCells] using this
 have cQ:off+0+(cy.take (m*ta.cells)).length<=cs.size:=by
  rw[TB,dh,<-hn]
  rcases Gt with⟨g1,g2⟩|g
  ·have:m=0:=by omega
   subst this
   omega
  ·rw[g,Nat.add_zero,<-Nat.add_mul]
   exact Nat.mul_le_mul_right _ (by omega)
 let new:=(cs.toList.take off++cy.take (m*ta.cells)++cs.toList.drop (off+(cy.take (m*ta.cells)).length)).toArray
 have ct:=run_storeCells_at P r0 off T' (cy.take (m*ta.cells)) 0 cs X.w aG cQ rz.one
 simp only[Nat.add_zero] at ct cQ
 have aW:(execOp a.eval o).run P X.w= .ok (.value (.int .i64 m)) (X.row r0 new).w:=by
  have S8:Nat.min ys.length (n-lo)=m:=Aj
  simp only[execOp,ho,resolve,invoke,builtin,Sem.run_bind,Sem.run_pure,Result.andThen_ok,List.map_toArray,List.map_cons,List.map_nil,Builtin.copy_,gB,hd]
  have e1:(Builtin.lenOf (a.eval x)).run P X.w= .ok ys.length X.w:=by rw[ev];simp [Builtin.lenOf]
  simp [run_underlying hu.1,e1,S8,jg,ct,goInt,kY hE hu.2]
  show _=X.w.setRow r0 new
  congr 1
  simp [new]
 have m8:new.toList=cs.toList.take off++cy.take (m*ta.cells)++cs.toList.drop (off+(cy.take (m*ta.cells)).length):=rfl
 have aM:aR X (.arr xs.length ta) (bE xs (ys.take m) lo:List (El ta)) new.toList:=by
  rw[m8,TB]
  by_cases m0:m=0
  ·subst m0
   have e1:bE xs (ys.take 0) lo=xs:=by unfold bE;simp
   rw[e1]
   simpa using dw
  ·have g:off=lo*ta.cells:=by rcases Gt with⟨g1,_⟩|g<;>omega
   have h1:=HA dw (show lo<=xs.length by omega)
   have h3:=Hz dw (show lo+m<=xs.length by omega)
   have:=CZ h1 (CZ rz h3)
   rw[show lo+(m+(xs.length-(lo+m)))=xs.length by omega] at this
   unfold bE
   rw[show(ys.take m).length=m by rw[List.length_take];omega,g,<-Nat.add_mul,List.append_assoc]
   exact this
 have cj:new.size=cs.size:=by
  have h1:new.toList.length=xs.length*ta.cells:=aM.2.1
  rw[dh,<-h1];simp
 have b6:bC (X.row r0 new) id r0 ⟨.aV .row ta tb,(bE xs (ys.take (n-lo)) lo:List (El ta)),[]⟩:=by
  rw[htk]
  refine⟨how,new,T',setRow_heap X.w r0 cs new T' (0,0) aG,?_,fun j z hj=> ?_⟩
  ·rw[cj,dh]
   show _=List.length (bE xs (ys.take m) lo)*_
   rw[Ih _ _ _ (by rw[List.length_take];omega)]
  ·exact aR.al (fun _ _=>tu (cs:=new) how) (aM.2.2 j z hj)
 refine⟨X.row r0 new,.int .i64 m,.inl aW,P8 how,?_⟩
 rw[hm]
 exact(hr.row hb hβ how b6).fin iH (fun id t p hm=>by simp [i64] at hm)
theorem YG{X:aq}(l:List UInt8):aR X (.arr l.length (.int .u8)) (l.map fun c=>(c.toNat:Int):List Int) (l.map fun c=>Value.int .u8 c.toNat):=by
 refine⟨by show(l.map _).length=_;simp,by simp [Ty.cells],fun j y hj=> ?_⟩
 have hj:(l.map fun c=>(c.toNat:Int))[j]? =some y:=hj
 rw[List.getElem?_map] at hj
 obtain⟨c,hc,rfl⟩:=Option.map_eq_some_iff.1 hj
 have:((l.map fun c=>Value.int .u8 c.toNat).drop (j*(Ty.int IntKind.u8).cells)).take (Ty.int IntKind.u8).cells=[Value.int .u8 c.toNat]:=by
  rw[show(Ty.int IntKind.u8).cells=1 from rfl,Nat.mul_one]
  apply List.ext_getElem?
  intro i
  rw[List.getElem?_take]
  cases i with
  |zero=>simp [hc]
  |succ i=>simp
 rw[this]
 rfl
theorem Wz(hE:ak P E)(hr:Rel X s a){d x:Operand}{T e:TypeId}{t:Ty}{ts:Array TypeId}(ho:o.op= .call ⟨.builtin .copy,#[d,x],ts⟩)(gB:ts[0]? =some T)(hT:E.ty T=some (.sl e t)){id n:Nat}{ta tb:Ty}
 (dE:s.az d= .ptr id (.aV (.fU n) ta tb) []) {y:ByteArray} {w:List (List Nat)} (GL:s.az x= .ah .str y w) (h:jd t s id n ta tb y some=some u):aA P X s a o u:=by
 have hx:=hr.az d
 rw[dE] at hx
 obtain⟨r0,hβ,cap,hd,lR⟩:=hx
 unfold jd at h
 split at h
 case isFalse=>cases h
 rename_i SY
 have:=Ty.aK SY
 subst this
 split at h
 case isFalse=>cases h
 rename_i heq
 have:=Ty.aK heq
 subst this
 split at h
 case h_2=>cases h
 rename_i B hB
 split at h
 case isFalse=>cases h
 rename_i dD
 obtain⟨hb,r,h1,how,cs,T',aG,dh,dN⟩:=Ci hr hB dD
 rw[hβ] at h1
 cases h1
 generalize(Ty.cast dD B.x:List Int)=xs at*
 cases hn:Nat.beq n (List.length xs)<;>rw[hn] at h
 ·cases h
 cases h
 have hn:=Nat.eq_of_beq_eq_true hn
 have hy:=hr.az x
 rw[GL] at hy
 obtain⟨cy,ry,ev,_⟩:=hy
 have ev:a.eval x= .string y:=by rw[ev,z28 ry]
 have hu:=(hE.ty T _ hT).cS
 have s5:(Ty.int IntKind.u8).cells=1:=rfl
 rw[s5,Nat.mul_one] at dh
 let l:=y.data.toList.take n
 have Mw:l.length=min n y.size:=by simp [l]
 have Mo:List.take n (mF y)=l.map fun c=>(c.toNat:Int):=by simp [mF,l]
 have jg:(Builtin.firstCells 1 (Nat.min y.size n) (.string y)).run P X.w= .ok (l.map fun c=>Value.int .u8 c.toNat).toArray X.w:=by
  have e1:((y.extract 0 (Nat.min y.size n)).data.map fun b=>Value.int .u8 b.toNat)=(l.map fun c=>Value.int .u8 c.toNat).toArray:=by
   apply Array.ext'
   have e0:(y.extract 0 (Nat.min y.size n)).data.toList=l:=by
    rw[ByteArray.data_extract,Array.toList_extract,List.extract_eq_take_drop]
    show List.take (Nat.min y.size n-0) (y.data.toList.drop 0)=y.data.toList.take n
    rw[Nat.sub_zero,List.drop_zero]
    show List.take (min y.data.toList.length n) y.data.toList=y.data.toList.take n
    rw[Nat.min_comm,<-List.take_eq_take_min]
   rw[Array.toList_map,e0]
  simp only[Builtin.firstCells,Sem.run_pure,e1]
 have cQ:0+(l.map fun c=>Value.int .u8 c.toNat).length<=cs.size:=by
  rw[List.length_map,dh,<-hn,Mw];omega
 let new:=((l.map fun c=>Value.int .u8 c.toNat)++cs.toList.drop l.length).toArray
 have rz:=YG (X:=X) l
 have ct:=run_storeCells_at P r0 0 T' (l.map fun c=>Value.int .u8 c.toNat) 0 cs X.w aG (by simpa using cQ) rz.one
 have aW:(execOp a.eval o).run P X.w= .ok (.value (.int .i64 (l.length:Nat))) (X.row r0 new).w:=by
  have e1:(Builtin.lenOf (a.eval x)).run P X.w= .ok y.size X.w:=by rw[ev];simp [Builtin.lenOf]
  have e2:Nat.min y.size n=l.length:=by rw[Mw];exact Nat.min_comm _ _
  have e3:=jg
  rw[e2] at e3
  simp only[execOp,ho,resolve,invoke,builtin,Sem.run_bind,Sem.run_pure,Result.andThen_ok,List.map_toArray,List.map_cons,List.map_nil,Builtin.copy_,gB,hd]
  rw[ev] at e1⊢
  simp [run_underlying hu.1,e1,e2,e3,ct,goInt,kY hE hu.2,s5]
  rfl
 have dw:aR X (.arr xs.length (.int .u8)) xs cs.toList:=⟨rfl,by simpa [s5] using dh,dN⟩
 have aM:aR X (.arr xs.length (.int .u8)) (bE xs (l.map fun c=>(c.toNat:Int)) 0:List Int) new.toList:=by
  have hle:l.length<=xs.length:=by rw[Mw];omega
  have h3:=Hz dw hle
  have:=CZ rz h3
  rw[show l.length+(xs.length-l.length)=xs.length by omega] at this
  unfold bE
  simp only[List.take_zero,List.nil_append,Nat.zero_add,List.length_map]
  rw[s5,Nat.mul_one] at this
  exact this
 have cj:new.size=cs.size:=by
  have h1:new.toList.length=xs.length*1:=aM.2.1
  rw[dh];simpa using h1
 have b6:bC (X.row r0 new) id r0 ⟨.aV .row (.int .u8) tb,(bE xs (List.take n (mF y)) 0:List Int),[]⟩:=by
  rw[Mo]
  refine⟨how,new,T',setRow_heap X.w r0 cs new T' (0,0) aG,?_,fun j z hj=> ?_⟩
  ·rw[cj,dh]
   show _=List.length (bE xs (l.map fun c=>(c.toNat:Int)) 0)*_
   rw[Ih _ _ _ (by rw[List.length_map,Mw];omega)]
   simp [s5]
  ·exact aR.al (fun _ _=>tu (cs:=new) how) (aM.2.2 j z hj)
 refine⟨X.row r0 new,.int .i64 (l.length:Nat),.inl aW,P8 how,?_⟩
 have Gk:(List.take n (mF y)).length=l.length:=by rw[Mo,List.length_map]
 rw[Gk]
 exact(hr.row hb hβ how b6).fin iH (fun id t p hm=>by simp [i64] at hm)
theorem YS(hE:ak P E)(hr:Rel X s a){ops:List Oper}{dT:Array Operand}{ts:Array TypeId}(ho:o.op= .call ⟨.builtin .copy,dT,ts⟩){C:FuncId->bJ Out}(h:act E C ops o s some=some u):aA P X s a o u:=by
 unfold act at h
 simp only[ho] at h
 split at h
 case h_2=>cases h
 rename_i d x T r pP zR
 have has:dT= #[d,x]:=by rw[<-Array.toArray_toList (xs:=dT),pP]
 have gB:ts[0]? =some T:=by rw[<-Array.getElem?_toList,zR];rfl
 subst has
 unfold copyV at h
 split at h
 ·rename_i e t id n ta tb hT dE
  split at h
  ·rename_i y w GL
   exact Wz hE hr ho gB hT dE GL h
  ·exact zsj hE hr ho gB hT dE (fun r hv=>by
    obtain⟨cap,h1,h2⟩:=hv
    exact⟨cap,0,h1,Nat.zero_le _,.inr (by simp)⟩) h
 ·rename_i e t id n ta tb l hT dE
  exact zsj hE hr ho gB hT dE (fun r hv=>by
   obtain⟨cap,off,h1,h2,h3,h4⟩:=hv
   exact⟨cap,off,h1,h3,h4⟩) h
 ·cases h
end Go.Ref

namespace Go.Ref
open Go
variable {P:Program} {E:Env} {X:aq} {s:State} {a:Act} {o:Oper} {u:Out}
structure jW(X:aq)(l:List SV)(b:Option bm)(args:Array Value):Prop where
 size:args.size=l.length
 rep:∀(i:Nat) sv v,l[i]? =some sv->args[i]? =some v->au X (.c i 0) sv v
 ptr:∀id t p,SV.ptr id t p∈l->id=0/\b.isSome=true
 box:∀B,b=some B->∃r,X.β 0=some r/\bC X 0 r B
 rows:b=none->∀g pl n,X.ow g≠ .row pl n
def wk(X Y:aq)(b:Option bm)(r:List SV)(b':Option bm)(v:Value):Prop:=
 ∃r0,cB {Y with β:=fun _=>some r0} .r r v/\
  (∀B',b'=some B'->bC Y 0 r0 B'/\(b.isSome=true->X.β 0=some r0))/\
  ((b'=none\/b.isSome=true)->∀id t p,SV.ptr id t p∉r)
def p8(P:Program)(f:FuncId):Prop:=∃fn c,P.funcs[f]? =some fn/\(fn.name== "runtime.NumGoroutine")=false/\fn.body=some c
def cN(P:Program)(C:ag)(f:FuncId):Prop:=
 ∀(l:List SV) (b:Option bm) (r:List SV) (b':Option bm),C (List SV×Option bm) f l b (fun r b=>some (r,b))=some (r,b')->p8 P f/\
  ∀(X:aq) (args:Array Value),jW X l b args->Calls P f args X.w fun e w'=>match e with
   | .returned v=>∃Y,Y.w=w'/\Ext X Y/\wk X Y b r b' v
   |_=>False
def iF(k:Option Nat):Ow->Bool
 | .box id=>decide (k=some id)
 | .row (.b id _) _=>decide (k=some id)
 |_=>false
def gC(k:Option Nat):Ow->Ow
 | .all=> .all
 | .ro n=> .ro n
 | .box id=>if k=some id then .box 0 else .ro 0
 | .row (.b id p) n=>if k=some id then .row (.b 0 p) n else .ro n
 | .row _ n=> .ro n
def im(k:Option Nat)(d:Nat):Ow->Ow
 | .all=> .all
 | .ro n=> .ro n
 | .box 0=>match k with
   |some id=> .box id
   |none=> .ro 0
 | .box _=> .ro 0
 | .row (.r j p) n=> .row (.c d j p) n
 | .row (.b 0 p) n=>match k with
   |some id=> .row (.b id p) n
   |none=> .ro n
 | .row _ n=> .ro n
theorem zze{k:Option Nat}{w:Ow}{i:Nat}:(gC k w).used i↔w.used i:=by
 cases w with
 |all=>rfl
 |ro n=>rfl
 |box id=>simp only[gC];split<;>simp [Ow.used]
 |row pl n=>
  cases pl with
  |b id p=>simp only[gC];split<;>simp [Ow.used]
  |_=>rfl
theorem WT{k:Option Nat}{d:Nat}{w:Ow}{i:Nat}(h:w.used i):(im k d w).used i:=by
 cases w with
 |all=>exact h
 |ro n=>exact h
 |box id=>exact h.elim
 |row pl n=>
  cases pl with
  |b id p=>
   cases id with
   |zero=>simp only[im];split<;>exact h
   |succ id=>exact h
  |c i j p=>exact h
  |r j p=>exact h
theorem zsx{k:Option Nat}{w:Ow}(h:iF k w=false):(gC k w).still:=by
 cases w with
 |all=>trivial
 |ro n=>trivial
 |box id=>simp only[iF,decide_eq_false_iff_not] at h;simp only[gC];rw[if_neg h];trivial
 |row pl n=>
  cases pl with
  |b id p=>simp only[iF,decide_eq_false_iff_not] at h;simp only[gC];rw[if_neg h];trivial
  |_=>trivial
def aq.cw(X:aq)(k:Option Nat):aq:=⟨X.w,fun g=>gC k (X.ow g),match k with
 |some id=>fun _=>X.β id
 |none=>X.β⟩
theorem tg{k:Option Nat}{ad:Addr}{v:Value}:(X.cw k).aw ad v↔X.aw ad v:=by
 simp only[aq.aw,aq.cw,zze]
def aq.back(X Y:aq)(k k':Option Nat)(d:Nat)(β:Nat->Option Nat):aq:=
 ⟨Y.w,fun g=>if g<X.w.heap.size/\iF k (X.ow g)=false then X.ow g else im k' d (Y.ow g),β⟩
section
variable {k k':Option Nat} {d:Nat} {β:Nat->Option Nat} {Y:aq}
theorem C9(h:Ext (X.cw k) Y){g:Nat}(hg:g<X.w.heap.size)(hm:iF k (X.ow g)=false):(X.back Y k k' d β).ow g=X.ow g/\(X.back Y k k' d β).w.heap[g]? =X.w.heap[g]? /\(Y.ow g).still/\Y.ow g=gC k (X.ow g):=by
 obtain⟨h1,h2⟩:=h.still g hg (zsx hm)
 refine⟨by simp only[aq.back];rw[if_pos ⟨hg,hm⟩],h2,?_,h1⟩
 rw[h1];exact zsx hm
theorem zc6(h:Ext (X.cw k) Y){g:Nat}(hs:¬(Y.ow g).still):(X.back Y k k' d β).ow g=im k' d (Y.ow g):=by
 simp only[aq.back]
 rw[if_neg]
 rintro⟨hg,hm⟩
 exact hs (C9 (k':=k') (d:=d) (β:=β) h hg hm).2.2.1
theorem sP(h:Ext (X.cw k) Y){ad:Addr}{v:Value}(hs:Y.aw ad v):(X.back Y k k' d β).aw ad v:=by
 refine⟨hs.1,hs.2.1,?_⟩
 simp only[aq.back]
 split
 ·rename_i hc
  have:=(C9 (k':=k') (d:=d) (β:=β) h hc.1 hc.2).2.2.2
  have hu:=hs.2.2
  rw[this,zze] at hu
  exact hu
 ·exact WT hs.2.2
theorem znx(h:Ext (X.cw k) Y)(hβ:β 0=X.β 0):Ext X (X.back Y k k' d β) where
 aw:=fun ad v hs=>sP h (h.aw ad v (tg.2 hs))
 size:=h.size
 os:=h.os
 tape:=h.tape
 output:=h.output
 β0:=hβ
 still:=fun g hg ct=>by
  have hm:iF k (X.ow g)=false:=by cases hx:X.ow g<;>rw[hx] at ct<;>first|rfl|exact ct.elim
  obtain⟨h1,h2,_⟩:=C9 (k':=k') (d:=d) (β:=β) h hg hm
  exact⟨h1,h2⟩
theorem bj.back(h:Ext (X.cw k) Y){pl:Place}(iK:∀n,iF k (.row pl n)=false){e:TypeId}{m n:Nat}{v:Value}(ho:bj X pl e m n v):bj (X.back Y k k' d β) pl e m n v:=by
 rcases ho with ho|⟨g,cap,cur,h1,h2,h3,h4,h5,h6⟩
 ·exact .inl ho
 ·obtain⟨k1,k2,_⟩:=C9 (k':=k') (d:=d) (β:=β) h (Dv h2) (by rw[h6];exact iK _)
  exact .inr ⟨g,cap,cur,h1,k2.trans h2,h3,h4,h5,k1.trans h6⟩
theorem bg.back(h:Ext (X.cw k) Y){pl:List Nat->Place}(iK:∀p n,iF k (.row (pl p) n)=false){t:Ty}{x:El t}{cs:List Value}{own:List (List Nat)}(ho:bg X pl t x cs own):bg (X.back Y k k' d β) pl t x cs own:=fun p hp=>by
 obtain⟨e,t',xs,v,g0,g1,g2,g3⟩:=ho p hp
 exact⟨e,t',xs,v,g0,g1,g2,g3.back h (iK p)⟩
theorem bg.out(h:Ext (X.cw k) Y){pl iG:List Nat->Place}(iK:∀p n,im k' d (.row (pl p) n)= .row (iG p) n){t:Ty}{x:El t}{cs:List Value}{own:List (List Nat)}(ho:bg Y pl t x cs own):bg (X.back Y k k' d β) iG t x cs own:=fun p hp=>by
 obtain⟨e,t',xs,v,g0,g1,g2,g3⟩:=ho p hp
 refine⟨e,t',xs,v,g0,g1,g2,?_⟩
 rcases g3 with ho|⟨g,cap,cur,h1,h2,h3,h4,h5,h6⟩
 ·exact .inl ho
 ·refine .inr ⟨g,cap,cur,h1,h2,h3,h4,h5,?_⟩
  rw[zc6 h (by rw[h6];exact fun e=>e),h6,iK]
theorem au.back(h:Ext (X.cw k) Y){i j:Nat}{sv:SV}{v:Value}(hβ:∀id t p,sv= .ptr id t p->β id=X.β id)(hr:au X (.c i j) sv v):au (X.back Y k k' d β) (.c i j) sv v:=by
 cases sv with
 |undef=>trivial
 |skip=>exact hr
 |cr=>exact hr
 |gF=>exact hr
 |over=>exact hr
 |ah t x own=>
  obtain⟨cs,h1,h2,h3⟩:=hr
  exact⟨cs,h1.al (fun _ _ hs=>sP h (h.aw _ _ (tg.2 hs))),h2,h3.back h (fun _ _=>rfl)⟩
 |ptr id t p=>
  obtain⟨r,h1,h2⟩:=hr
  exact⟨r,(hβ id t p rfl).trans h1,h2⟩
 |view t x=>
  obtain⟨ad,cs,h1,h2,h3,h4⟩:=hr
  exact⟨ad,cs,h1,h2,h3.al (fun _ _ hs=>sP h (h.aw _ _ (tg.2 hs))),fun i u hi=>sP h (h.aw _ _ (tg.2 (h4 i u hi)))⟩
 |cap f t x u y=>exact ti (fun _ _ hs=>sP h (h.aw _ _ (tg.2 hs))) hr
theorem bC.back(h:Ext (X.cw k) Y){id r:Nat}{B:bm}(hk:k≠some id)(hb:bC X id r B):bC (X.back Y k k' d β) id r B:=by
 obtain⟨h3,h1⟩:=hb
 have hm:iF k (X.ow r)=false:=by rw[h3];simp [iF,hk]
 obtain⟨k1,k2,_⟩:=C9 (k':=k') (d:=d) (β:=β) h h1.lt hm
 exact⟨k1.trans h3,h1.move (fun _ _ hs=>sP h (h.aw _ _ (tg.2 hs))) k2 (fun cs h4=>h4.back h (fun _ _=>by simp [iF,hk])) fun _ g o ho hw=>by
  obtain⟨e1,e2,_⟩:=C9 (k':=k') (d:=d) (β:=β) h (Dv ho) (by rw[hw];simp [iF,hk])
  exact⟨e2.trans ho,e1.trans hw⟩⟩
theorem bC.out(h:Ext (X.cw k) Y){id r:Nat}{B:bm}(hk:k'=some id)(hb:bC Y 0 r B):bC (X.back Y k k' d β) id r B:=by
 obtain⟨h3,h1⟩:=hb
 refine⟨?_,h1.move (fun _ _ hs=>sP h hs) rfl (fun cs h4=>h4.out h (fun p n=>by simp [im,hk])) fun _ g o ho hw=>⟨ho,by rw[zc6 h (by rw[hw];exact fun hh=>hh),hw];simp [im,hk]⟩⟩
 rw[zc6 h (by rw[h3];exact fun e=>e),h3]
 simp [im,hk]
theorem au.out(h:Ext (X.cw k) Y){r0 id j:Nat}{sv:SV}{v:Value}(hβ:∀bY t p,sv= .ptr bY t p->β id=some r0)(hr:au {Y with β:=fun _=>some r0} (.r j) sv v):au (X.back Y k k' d β) (.c d j) (sv.gH id) v:=by
 cases sv with
 |undef=>trivial
 |skip=>exact hr
 |cr=>exact hr
 |gF=>exact hr
 |over=>exact hr
 |ah t x own=>
  obtain⟨cs,h1,h2,h3⟩:=hr
  have h3:bg Y (.r j) t x cs own:=h3
  exact⟨cs,aR.al (fun ad v (hs:({Y with β:=fun _=>some r0}:aq).aw ad v)=>sP (Y:=Y) h hs) h1,h2,h3.out h (fun _ _=>rfl)⟩
 |ptr bY t p=>
  obtain⟨r,h1,h2⟩:=hr
  have h1:some r0=some r:=h1
  cases h1
  exact⟨r0,hβ bY t p rfl,h2⟩
 |view t x=>
  obtain⟨ad,cs,h1,h2,h3,h4⟩:=hr
  exact⟨ad,cs,h1,h2,aR.al (fun ad v (hs:({Y with β:=fun _=>some r0}:aq).aw ad v)=>sP (Y:=Y) h hs) h3,fun i u hi=>sP h (show Y.aw _ _ from h4 i u hi)⟩
 |cap f t x u y=>exact ti (X:={Y with β:=fun _=>some r0}) (fun ad v (hs:({Y with β:=fun _=>some r0}:aq).aw ad v)=>sP (Y:=Y) h hs) hr
theorem Rel.back(h:Ext (X.cw k) Y)(hr:Rel X s a)(hβ:∀(id:Nat) B,s.bs[id]? =some (some B)->β id=X.β id)(hk:∀(id:Nat) B,s.bs[id]? =some (some B)->k≠some id):Rel (X.back Y k k' d β) s a where
 size:=hr.size
 gM:=hr.gM
 bL:=fun i l v hl hv=>(hr.bL i l v hl hv).jQ fun j sv u hm jD=>jD.back h (fun id t p e=>by
  obtain⟨B,hB⟩:=hr.live i l id t p hl (e▸List.mem_of_getElem? hm)
  exact hβ id B hB)
 boxes:=fun id B hB=>by
  obtain⟨r,h1,h2⟩:=hr.boxes id B hB
  exact⟨r,(hβ id B hB).trans h1,h2.back h (hk id B hB)⟩
 live:=hr.live
 defers:=hr.defers
theorem Rel.uL(h:Ext (X.cw k) Y)(hr:Rel X s a){id r:Nat}{B B':bm}(hb:s.bs[id]? =some (some B))(hk:k=some id)(Gf:k'=some id)(hβ:X.β id=some r)(hB:bC Y 0 r B'):Rel (X.back Y k k' d X.β) (s.aC (some (id,B'))) a where
 size:=hr.size
 gM:=by simpa [State.aC] using hr.gM
 bL:=fun i l v hl hv=>(hr.bL i l v hl hv).jQ fun j sv u hm jD=>jD.back h (fun _ _ _ _=>rfl)
 boxes:=fun bY B2 cT=>by
  have ap:id<s.bs.length:=(List.getElem?_eq_some_iff.1 hb).1
  simp only[State.aC,List.getElem?_set] at cT
  by_cases e:id=bY
  ·subst e
   rw[if_pos rfl,if_pos ap] at cT
   cases cT;exact⟨r,hβ,hB.out h Gf⟩
  ·rw[if_neg e] at cT
   obtain⟨r',h1,h2⟩:=hr.boxes bY B2 cT
   exact⟨r',h1,h2.back h (by rw[hk];intro e2;cases e2;exact e rfl)⟩
 live:=fun i l bY t p hi hm=>by
  have ap:id<s.bs.length:=(List.getElem?_eq_some_iff.1 hb).1
  obtain⟨B2,cT⟩:=hr.live i l bY t p hi hm
  simp only[State.aC,List.getElem?_set]
  by_cases e:id=bY
  ·subst e;exact⟨B',by rw[if_pos rfl,if_pos ap]⟩
  ·rw[if_neg e];exact⟨B2,cT⟩
 defers:=hr.defers
end
theorem au.cw{k:Option Nat}{pl iG:List Nat->Place}{t:Ty}{x:El t}{w:List (List Nat)}{v:Value}(hr:au X pl (.ah t x w) v):au (X.cw k) iG (.ah t x []) v:=by
 obtain⟨cs,h1,h2,_⟩:=hr
 exact⟨cs,h1.al (fun _ _=>tg.2),h2,mo⟩
theorem bC.cw{id r:Nat}{B:bm}(hb:bC X id r B):bC (X.cw (some id)) 0 r B:=by
 obtain⟨h3,h1⟩:=hb
 refine⟨by simp [aq.cw,h3,gC],h1.move (fun _ _=>tg.2) rfl (fun cs h4 p hp=> ?_) fun _ g o ho hw=>⟨ho,by simp [aq.cw,hw,gC]⟩⟩
 obtain⟨e,t',xs,v,g0,g1,g2,g3⟩:=h4 p hp
 refine⟨e,t',xs,v,g0,g1,g2,?_⟩
 rcases g3 with ho|⟨g,cap,cur,k1,k2,k3,k4,k5,k6⟩
 ·exact .inl ho
 ·exact .inr ⟨g,cap,cur,k1,k2,k3,k4,k5,by simp [aq.cw,k6,gC]⟩
theorem Hx(hr:Rel X s a):∀(vs:List (SV×Value)) (l:List SV) (b:Option (Nat×bm)),(∀x∈vs,∃q,au X q x.1 x.2)->mu s (vs.map (·.1))=some (l,b)->l.length=vs.length/\
 (∀id B,b=some (id,B)->s.bs[id]? =some (some B))/\
 (∀id t p,SV.ptr id t p∈l->id=0/\b.isSome=true)/\
 ∀k,(∀id B,b=some (id,B)->k=some id)->∀(i:Nat) sv x,l[i]? =some sv->vs[i]? =some x->∀q,au (X.cw k) q sv x.2:=by
 intro vs
 induction vs with
 |nil=>
  intro l b _ h
  simp only[List.map_nil,mu,Option.some.injEq,Prod.mk.injEq] at h
  obtain⟨rfl,rfl⟩:=h
  refine⟨rfl,(fun id B e=>by cases e),(fun id t p hm=>by cases hm),fun k _ i sv x hl=>by simp at hl⟩
 |cons x r ih=>
  intro l b ji h
  simp only[List.map_cons,mu] at h
  split at h
  ·cases h
  rename_i l1 b1 h1
  obtain⟨i1,i2,i3,i4⟩:=ih l1 b1 (fun y hy=>ji y (List.mem_cons_of_mem _ hy)) h1
  obtain⟨q0,hx⟩:=ji x List.mem_cons_self
  have fin:∀(sv:SV),l=sv::l1->(∀id B,b1=some (id,B)->b=b1)->(∀id B,b=some (id,B)->s.bs[id]? =some (some B))->(∀id t p,sv= .ptr id t p->id=0/\b.isSome=true)->
   (∀k,(∀id B,b=some (id,B)->k=some id)->∀q,au (X.cw k) q sv x.2)->l.length=(x::r).length/\
   (∀id B,b=some (id,B)->s.bs[id]? =some (some B))/\
   (∀id t p,SV.ptr id t p∈l->id=0/\b.isSome=true)/\
   ∀k,(∀id B,b=some (id,B)->k=some id)->∀(i:Nat) sv y,l[i]? =some sv->(x::r)[i]? =some y->∀q,au (X.cw k) q sv y.2:=by
   intro sv hl hb b6 cg aM
   subst hl
   refine⟨by simp [i1],b6,fun id t p hm=> ?_,fun k hk i sv' y hl hv=> ?_⟩
   ·rcases List.mem_cons.1 hm with e|hm
    ·exact cg id t p e.symm
    ·obtain⟨j1,j2⟩:=i3 id t p hm
     cases s4:b1 with
     |none=>rw[s4] at j2;cases j2
     |some bb=>rw[hb bb.1 bb.2 s4];exact⟨j1,j2⟩
   ·cases i with
    |zero=>
     simp only[List.getElem?_cons_zero,Option.some.injEq] at hl hv
     subst hl hv
     exact aM k hk
    |succ i=>
     simp only[List.getElem?_cons_succ] at hl hv
     exact i4 k (fun id B e=>hk id B (by rw[hb id B e];exact e)) i sv' y hl hv
  obtain⟨x1,x2⟩:=x
  simp only at h hx fin
  split at h
  ·cases h
   exact fin _ rfl (fun _ _ _=>rfl) i2 (fun _ _ _ e=>by cases e) (fun k _ q=>hx.cw)
  ·cases h
   exact fin _ rfl (fun _ _ _=>rfl) i2 (fun _ _ _ e=>by cases e) (fun k _ q=>hx)
  ·cases h
   refine fin _ rfl (fun _ _ _=>rfl) i2 (fun _ _ _ e=>by cases e) (fun k _ q=> ?_)
   obtain⟨ad,cs,g1,g2,g3,g4⟩:=hx
   exact⟨ad,cs,g1,g2,g3.al (fun _ _=>tg.2),fun i w hi=>tg.2 (g4 i w hi)⟩
  ·rename_i id t
   split at h
   case h_2=>cases h
   rename_i B hB
   split at h
   case isFalse=>cases h
   cases h
   obtain⟨rr,g1,g2⟩:=hx
   refine fin _ rfl (fun _ _ e=>by cases e) (fun id B e=>by cases e;exact ql hB) (fun _ _ _ e=>by cases e;exact⟨rfl,rfl⟩) (fun k hk q=> ?_)
   have:=hk id B rfl
   subst this
   exact⟨rr,g1,g2⟩
  ·cases h
def kz(P:Program)(X:aq)(s:State)(a:Act)(o:Oper)(u:Out):Prop:=
 ∀(next:Act->World->Prop) (Q:Exit->Act->World->Prop),(∀Y v,Ext X Y->Rel Y (s.apply o.dst u) (a.put o.dst v)->next (a.put o.dst v) Y.w)->o.wp P a X.w next Q
theorem aA.does(h:aA P X s a o u):kz P X s a o u:=fun next Q hn=>by
 obtain⟨Y,v,h1,h2,h3⟩:=h
 unfold Oper.wp
 rcases h1 with h1|⟨h1,rfl⟩
 ·rw[h1,Oper.upon_value];exact hn Y v h2 h3
 ·rw[h1,Oper.upon_skip];exact hn Y _ h2 h3
theorem Y1{f:FuncId}(h:p8 P f){dT:Array Operand}{ts:Array TypeId}(ho:o.op= .call ⟨.value (.func f),dT,ts⟩)(w:World):(execOp a.eval o).run P w= .ok (.enter f (dT.map a.eval)) w:=by
 obtain⟨fn,c,h1,h2,h3⟩:=h
 simp [execOp,ho,resolve,Deferred.ofValue,Act.eval,invoke,callFunc,h1,h3]
 simpa using h2
theorem ztf{l:List SV}{id:Nat}(h:∀id t p,SV.ptr id t p∉l):l.map (SV.gH id)=l:=by
 induction l with
 |nil=>rfl
 |cons v r ih=>
  rw[List.map_cons,ih (fun id t p hm=>h id t p (List.mem_cons_of_mem _ hm))]
  congr 1
  cases v<;>first|rfl|skip
  exact absurd (List.mem_cons_self) (h _ _ _)
theorem zom{k k':Option Nat}{d:Nat}{β:Nat->Option Nat}{Y:aq}(h:Ext (X.cw k) Y){r0 id:Nat}{r:List SV}{v:Value}(hβ:∀bY t p,SV.ptr bY t p∈r->β id=some r0)(hr:cB {Y with β:=fun _=>some r0} .r r v):cB (X.back Y k k' d β) (.c d) (r.map (SV.gH id)) v:=by
 match r,hr with
 | [sv],hr=>exact au.out h (fun bY t p e=>hβ bY t p (by simp [e])) hr
 | [],⟨vs,h1,h2,h3⟩=>exact⟨vs,h1,h2,fun j s u hs=>by simp at hs⟩
 |x::y::r,⟨vs,h1,h2,h3⟩=>
  refine⟨vs,h1,by simpa using h2,fun j sv u hs hu=> ?_⟩
  have hs:((x::y::r).map (SV.gH id))[j]? =some sv:=hs
  rw[List.getElem?_map] at hs
  obtain⟨s0,fW,rfl⟩:=Option.map_eq_some_iff.1 hs
  exact au.out h (fun bY t p e=>hβ bY t p (e▸List.mem_of_getElem? fW)) (h3 j s0 u fW hu)
theorem WO:∀g pl n,(X.cw none).ow g≠ .row pl n:=fun g pl n=>by
 show gC none (X.ow g)≠_
 cases X.ow g with
 |row q m=>cases q<;>simp [gC]
 |_=>simp [gC]
theorem zcj(hr:Rel X s a){C:ag}(hC:C.Nat){f:FuncId}(hf:cN P C f){vs:List (SV×Value)}(Ao:∀x∈vs,∃q,au X q x.1 x.2)(dY:p8 P f->(execOp a.eval o).run P X.w= .ok (.enter f (vs.map (·.2)).toArray) X.w)(h:fb (C Out) s o.dst f (vs.map (·.1)) some=some u):kz P X s a o u:=by
 have aW:=dY
 clear dY
 unfold fb at h
 have enter:∀(l:List SV) (b:Option (Nat×bm)) (k:Option Nat),mu s (vs.map (·.1))=some (l,b)->(∀id B,b=some (id,B)->k=some id)->(b=none->k=none)->jW (X.cw k) l (b.map (·.2)) (vs.map (·.2)).toArray:=by
  intro l b k b8 hk Gg
  obtain⟨i1,i2,i3,i4⟩:=Hx hr vs l b Ao b8
  refine⟨by simpa using i1.symm,fun i sv v hl hv=> ?_,fun id t p hm=> ?_,fun B hB=> ?_,fun hb=> ?_⟩
  ·rw[List.getElem?_toArray,List.getElem?_map] at hv
   obtain⟨x,hx,rfl⟩:=Option.map_eq_some_iff.1 hv
   exact i4 k hk i sv x hl hx _
  ·obtain⟨j1,j2⟩:=i3 id t p hm
   exact⟨j1,by simpa using j2⟩
  ·obtain⟨bb,zX,rfl⟩:=Option.map_eq_some_iff.1 hB
   obtain⟨id,B⟩:=bb
   obtain⟨r,h1,h2⟩:=hr.boxes id B (i2 id B zX)
   have:=hk id B zX
   subst this
   exact⟨r,h1,h2.cw⟩
  ·have hb:b=none:=by cases b<;>simp at hb⊢
   rw[Gg hb]
   exact WO
 split at h
 ·rename_i l b8
  obtain⟨⟨r,b'⟩,rH,h⟩:=lg (hC Out _ f l none _ (fun r b=>some (r,b)) (fun z=>match z.2 with
   |none=>some {v:=z.1}
   |some B=>match o.dst with
    |some d=>match s.bs[d+1]? with
     |some none=>some {v:=z.1.map (SV.gH (d+1)),bx:=some (d+1,B)}
     |_=>none
    |none=>none) (fun r b=>rfl)) h
  obtain⟨dY,rU⟩:=hf l none r b' rH
  have gR:=enter l none none b8 (fun id B e=>by cases e) (fun _=>rfl)
  intro next Q hn
  unfold Oper.wp
  rw[aW dY,Oper.upon_enter]
  refine(rU (X.cw none) _ gR).mono fun e w' he=> ?_
  cases e with
  |returned v=>
   obtain⟨Y,rfl,bd,r0,aM,b6,rX⟩:=he
   simp only at h
   cases b' with
   |none=>
    cases h
    have hp:=rX (.inl rfl)
    have bR:=znx (k':=none) (d:=o.dst.getD 0) (β:=X.β) bd rfl
    refine hn (X.back Y none none (o.dst.getD 0) X.β) v bR ?_
    refine(Rel.back (k':=none) bd hr (fun _ _ _=>rfl) (fun _ _ _=>by simp)).fin ?_ (fun id t p hm=>absurd hm (hp id t p))
    have:=zom (k':=none) (d:=o.dst.getD 0) (β:=X.β) (id:=0) bd (fun bY t p hm=>absurd hm (hp bY t p)) aM
    rw[ztf hp] at this
    exact this
   |some B=>
    simp only at h
    split at h
    case h_2=>cases h
    rename_i d hd
    split at h
    case h_2=>cases h
    rename_i jB
    cases h
    have ap:d+1<s.bs.length:=(List.getElem?_eq_some_iff.1 jB).1
    obtain⟨hB,_⟩:=b6 B rfl
    let β:Nat->Option Nat:=fun id=>if id=d+1 then some r0 else X.β id
    have hβd:β (d+1)=some r0:=by simp [β]
    have bR:=znx (k':=some (d+1)) (d:=d) (β:=β) bd (by simp [β])
    refine hn (X.back Y none (some (d+1)) d β) v bR ?_
    have bq:=(Rel.back (k':=some (d+1)) (d:=d) (β:=β) bd hr (fun id B2 cT=>by
     show(if _ then _ else _)=_
     rw[if_neg (fun e=>by rw[e,jB] at cT;cases cT)]) (fun _ _ _=>by simp)).ga ap jB hβd (hB.out bd rfl)
    rw[hd]
    refine bq.put (fun d' e=> ?_) (fun id t p hm=> ?_)
    ·cases e
     exact zom bd (fun _ _ _ _=>hβd) aM
    ·obtain⟨s0,_,he0⟩:=List.mem_map.1 hm
     have:id=d+1:=by
      cases s0<;>simp [SV.gH] at he0
      exact he0.1.symm
     subst this
     exact⟨B,by simp [State.close,State.aC,List.getElem?_set,ap]⟩
  |panicked c=>exact he.elim
  |outgrown=>exact he.elim
 ·rename_i l id B b8
  obtain⟨⟨r,b'⟩,rH,h⟩:=lg (hC Out _ f l (some B) _ (fun r b=>some (r,b)) (fun z=>match z.2 with
   |some B'=>if B'.t.ci B.t=true then some {v:=z.1,bx:=some (id,B')} else none
   |none=>none) (fun r b=>rfl)) h
  obtain⟨dY,rU⟩:=hf l (some B) r b' rH
  have gR:=enter l (some (id,B)) (some id) b8 (fun id B e=>by cases e;rfl) (fun e=>by cases e)
  obtain⟨_,i2,_,_⟩:=Hx hr vs l _ Ao b8
  have hb:=i2 id B rfl
  intro next Q hn
  unfold Oper.wp
  rw[aW dY,Oper.upon_enter]
  refine(rU (X.cw (some id)) _ gR).mono fun e w' he=> ?_
  cases e with
  |returned v=>
   obtain⟨Y,rfl,bd,r0,aM,b6,rX⟩:=he
   simp only at h
   cases b' with
   |none=>cases h
   |some B'=>
    simp only at h
    split at h
    case isFalse=>cases h
    cases h
    have hp:=rX (.inr rfl)
    obtain⟨hB,hβ⟩:=b6 B' rfl
    have hβ:=hβ rfl
    have bR:=znx (k':=some id) (d:=o.dst.getD 0) (β:=X.β) bd rfl
    refine hn (X.back Y (some id) (some id) (o.dst.getD 0) X.β) v bR ?_
    refine(Rel.uL (k:=some id) (k':=some id) bd hr hb rfl rfl hβ hB).fin ?_ (fun id t p hm=>absurd hm (hp id t p))
    have:=zom (k':=some id) (d:=o.dst.getD 0) (β:=X.β) (id:=0) bd (fun bY t p hm=>absurd hm (hp bY t p)) aM
    rw[ztf hp] at this
    exact this
  |panicked c=>exact he.elim
  |outgrown=>exact he.elim
 ·cases h
theorem zc5(hr:Rel X s a)(dT:Array Operand):∀x∈dT.toList.map (fun x=>(s.az x,a.eval x)),∃q,au X q x.1 x.2:=fun x hx=>by
 obtain⟨y,_,rfl⟩:=List.mem_map.1 hx
 exact⟨_,hr.az y⟩
theorem zzx{X:aq}{pl:List Nat->Place}{sv:SV}{v:Value}(h:au X pl sv v):au X pl sv.shut v:=by
 cases sv with
 |ah t x own=>
  obtain⟨cs,h1,h2,_⟩:=h
  exact⟨cs,h1,h2,mo⟩
 |_=>exact h
theorem ZA{X:aq}{pl:Nat->List Nat->Place}{l:List SV}{v:Value}(h:cB X pl l v):cB X pl (l.map SV.shut) v:=by
 match l,h with
 | [sv],h=>exact zzx (sv:=sv) h
 | [],h=>exact h
 |x::y::r,⟨vs,g1,g2,g3⟩=>
  refine⟨vs,g1,by simpa using g2,fun j sv u kL hu=> ?_⟩
  have kL:((x::y::r).map SV.shut)[j]? =some sv:=kL
  rw[List.getElem?_map] at kL
  obtain⟨s0,fW,rfl⟩:=Option.map_eq_some_iff.1 kL
  exact zzx (g3 j s0 u fW hu)
theorem Zz{l:List SV}{j:Nat}{t:Ty}{p:List Nat}(h:SV.ptr j t p∈l.map SV.shut):SV.ptr j t p∈l:=by
 obtain⟨s0,fW,he⟩:=List.mem_map.1 h
 cases s0<;>first|(cases he;done)|(rw[<-he];exact fW)|skip
theorem Rel.bQ(hr:Rel X s a){d:Nat}{l:List SV}:Rel X {s with sl:=s.sl.set d l} a->Rel X {s with sl:=s.sl.set d (l.map SV.shut)} a:=fun h=>{
 size:=by simpa using hr.size
 gM:=by simpa using hr.gM
 bL:=fun i l' v hl hv=>by
  replace hl:(s.sl.set d (l.map SV.shut))[i]? =some l':=hl
  rw[List.getElem?_set] at hl
  split at hl
  ·rename_i uW
   split at hl
   ·cases hl
    rename_i ap
    exact ZA (h.bL i l v (by show(s.sl.set d l)[i]? =_;rw[List.getElem?_set,if_pos uW,if_pos ap]) hv)
   ·cases hl
  ·rename_i uW
   exact h.bL i l' v (by show(s.sl.set d l)[i]? =_;rw[List.getElem?_set,if_neg uW];exact hl) hv
 boxes:=h.boxes
 live:=fun i l' id t p hl hm=>by
  replace hl:(s.sl.set d (l.map SV.shut))[i]? =some l':=hl
  rw[List.getElem?_set] at hl
  split at hl
  ·rename_i uW
   split at hl
   ·cases hl
    rename_i ap
    exact h.live i l id t p (by show(s.sl.set d l)[i]? =_;rw[List.getElem?_set,if_pos uW,if_pos ap]) (Zz hm)
   ·cases hl
  ·rename_i uW
   exact h.live i l' id t p (by show(s.sl.set d l)[i]? =_;rw[List.getElem?_set,if_neg uW];exact hl) hm
 defers:=h.defers}
theorem kz.shut(h:kz P X s a o u):kz P X s a o u.shut:=fun next Q hn=>h next Q fun Y v bd bq=>hn Y v bd (by
 unfold State.apply at bq⊢
 show Rel Y (((s.close u.cl).aC u.bx).aJ o.dst (u.v.map SV.shut)) _
 generalize(s.close u.cl).aC u.bx=s1 at*
 cases hd:o.dst with
 |none=>rw[hd] at bq;exact bq
 |some d=>
  rw[hd] at bq
  have e:=Rel.bQ (X:=Y) (s:={s1 with sl:=s1.sl.set d u.v}) (a:=a.put (some d) v) (d:=d) (l:=u.v) bq (by
   show Rel Y {s1 with sl:=(s1.sl.set d u.v).set d u.v} _
   rw[List.set_set];exact bq)
  show Rel Y {s1 with sl:=s1.sl.set d (u.v.map SV.shut)} _
  have e2:Rel Y {s1 with sl:=(s1.sl.set d u.v).set d (u.v.map SV.shut)} (a.put (some d) v):=e
  rw[List.set_set] at e2
  exact e2)
theorem YQ(hr:Rel X s a){C:ag}(hC:C.Nat){f:FuncId}(hf:cN P C f){ops:List Oper}{dT:Array Operand}{ts:Array TypeId}(ho:o.op= .call ⟨.value (.func f),dT,ts⟩)(h:act E (C Out) ops o s some=some u):kz P X s a o u:=by
 unfold act at h
 simp only[ho] at h
 obtain⟨u0,h0,h1⟩:=lg (M9 hC (F:=fun u=>some (bif eM E o.dst then u.shut else u)) (G:=some) (K:=fun u=>some (bif eM E o.dst then u.shut else u)) (fun _=>rfl)) h
 have hd:kz P X s a o u0:=by
  refine zcj hr hC hf (zc5 hr dT) (fun dY=> ?_) (by rw[List.map_map];exact h0)
  rw[Y1 dY ho]
  congr 2
  apply Array.toList_inj.1
  simp [Function.comp_def]
 cases hs:eM E o.dst with
 |false=>rw[hs] at h1;cases h1;exact hd
 |true=>rw[hs] at h1;cases h1;exact hd.shut
theorem aeX{f:FuncId}(h:p8 P f){x:Operand}{v:Value}{dT:Array Operand}{ts:Array TypeId}(ho:o.op= .call ⟨.value x,dT,ts⟩)(hx:a.eval x= .func (.func f) #[] #[v])(w:World):(execOp a.eval o).run P w= .ok (.enter f (dT.map a.eval++ #[v])) w:=by
 obtain⟨fn,c,h1,h2,h3⟩:=h
 simp [execOp,ho,resolve,Deferred.ofValue,hx,invoke,callFunc,h1,h3]
 simpa using h2
theorem ab2{f:FuncId}(h:p8 P f){x:Operand}{v v2:Value}{dT:Array Operand}{ts:Array TypeId}(ho:o.op= .call ⟨.value x,dT,ts⟩)(hx:a.eval x= .func (.func f) #[] #[v,v2])(w:World):(execOp a.eval o).run P w= .ok (.enter f (dT.map a.eval++ #[v,v2])) w:=by
 obtain⟨fn,c,h1,h2,h3⟩:=h
 simp [execOp,ho,resolve,Deferred.ofValue,hx,invoke,callFunc,h1,h3]
 simpa using h2
theorem Ww(hr:Rel X s a){C:ag}(hC:C.Nat)(hf:∀f,cN P C f){ops:List Oper}{y:Nat}{dT:Array Operand}{ts:Array TypeId}(ho:o.op= .call ⟨.value (.tmp y),dT,ts⟩)(h:act E (C Out) ops o s some=some u):kz P X s a o u:=by
 unfold act at h
 simp only[ho] at h
 split at h
 case h_3=>cases h
 case h_2=>
  rename_i f t x1 u' y1 dE
  have hx:=hr.az (.tmp y)
  rw[dE] at hx
  obtain⟨ad,oH,cs,dU,hv,⟨g2,g3,g4⟩,k2,k3,k4⟩:=hx
  refine zcj hr hC (hf f) (vs:=dT.toList.map (fun x=>(s.az x,a.eval x))++ [(.view t x1,.pointer (some ad)),(.view u' y1,.pointer (some oH))]) (fun x hx=> ?_) (fun dY=> ?_) (by rw[List.map_append,List.map_map];exact h)
  ·rcases List.mem_append.1 hx with hx|hx
   ·exact zc5 hr dT x hx
   ·rcases List.mem_cons.1 hx with rfl|hx
    ·exact⟨.r 0,ad,cs,rfl,g2,g3,g4⟩
    ·rw[List.mem_singleton.1 hx]
     exact⟨.r 0,oH,dU,rfl,k2,k3,k4⟩
  ·rw[ab2 dY ho hv]
   congr 2
   apply Array.toList_inj.1
   simp [Function.comp_def]
 rename_i id f t b dE
 have hx:=hr.az (.tmp y)
 rw[dE] at hx
 obtain⟨r0,hβ,hv⟩:=hx
 have hv:a.eval (.tmp y)= .func (.func f) #[] #[.pointer (some ⟨r0,0,none⟩)]:=hv
 split at h
 case isTrue=>cases h
 rename_i hs
 refine zcj hr hC (hf f) (vs:=dT.toList.map (fun x=>(s.az x,a.eval x))++ [(.ptr id t [],.pointer (some ⟨r0,0,none⟩))]) (fun x hx=> ?_) (fun dY=> ?_) (by rw[List.map_append,List.map_map];exact h)
 ·rcases List.mem_append.1 hx with hx|hx
  ·exact zc5 hr dT x hx
  ·rw[List.mem_singleton.1 hx]
   exact⟨.r 0,r0,hβ,(KH (by simpa using hs)).2 ⟨by simp [Ty.off],by simp [Ty.eS]⟩⟩
 ·rw[aeX dY ho hv]
  congr 2
  apply Array.toList_inj.1
  simp [Function.comp_def]
end Go.Ref

namespace Go.Ref
open Go
variable {P:Program} {E:Env} {X:aq} {s:State} {a:Act} {o:Oper} {u:Out}
theorem abP(hE:ak P E)(hr:Rel X s a){C:ag}(hC:C.Nat)(hf:∀f,cN P C f){ops:List Oper}(h:act E (C Out) ops o s some=some u):kz P X s a o u:=by
 cases ho:o.op with
 |move x=>exact(YV hr ho h).does
 |assign x=>exact(V7 hr ho h).does
 |pick c x y=>exact(YX hr ho h).does
 |binOp op T x y T'=>exact(acd hE hr ho h).does
 |unOp op T x=>exact(ae1 hr ho h).does
 |convert S T x=>exact(YR hE hr ho h).does
 |load T x=>exact(YU hE hr ho h).does
 |store T x y=>exact(WD hE hr ho h).does
 |nilCheck x=>exact(Vg hr ho h).does
 |fieldAddr T x j=>exact(zxn hE hr ho h).does
 |indexAddr T x i=>exact(zxo hE hr ho h).does
 |index T x i=>exact(WB hE hr ho h).does
 |field T x j=>exact(WA hE hr ho h).does
 |slice T x lo hi mx=>
  cases mx with
  |none=>exact(acf hE hr ho h).does
  |some m=>unfold act at h;simp only[ho] at h;cases h
 |alloc T=>exact(Wu hE hr ho h).does
 |box T x=>exact(ace hE hr ho h).does
 |build T parts=>exact(Wv hE hr ho h).does
 |buildSlice T n parts=>exact(zsi hE hr ho h).does
 |extract x j=>exact(z139 hr ho h).does
 |makeMap T r=>exact(VB hE hr ho h).does
 |lookup T x i ok=>exact(V8 hE hr ho h).does
 |mapUpdate T m k x=>exact(zbl hE hr (.inl ho) h).does
 |insert T m k x=>exact(zbl hE hr (.inr ho) h).does
 |range T x=>exact(WC hE hr ho h).does
 |next x str=>exact(YW hr ho h).does
 |makeSlice T l c=>exact(zxp hE hr ho h).does
 |makeFunc fn fi ca=>exact(Vf hr ho h).does
 |call c=>
  obtain⟨callee,args,ts⟩:=c
  cases callee with
  |value x=>
   cases x with
   |func f=>exact YQ hr hC (hf f) ho h
   |tmp y=>exact Ww hr hC hf ho h
   |_=>unfold act at h;simp only[ho] at h;cases h
  |builtin b=>
   cases b with
   |len=>exact(acg (x:= .const Go.undef) (T:=0) hE hr ho h).does
   |append=>exact(V6 hE hr ho h).does
   |copy=>exact(YS hE hr ho h).does
   |max=>exact(zyu (g:=true) hr ho h).does
   |min=>exact(zyu (g:=false) hr ho h).does
   |_=>unfold act at h;simp only[ho] at h;cases h
  |_=>unfold act at h;simp only[ho] at h;cases h
 |_=>unfold act at h;simp only[ho] at h;cases h
theorem Rel.know(hr:Rel X s a){d:Nat}{p:Bool}{o:List (List Nat)}(h:s.slot d=[.ah .bool p o]):Rel X (s.aJ (some d) (bl p)) a/\a.tmps[d]? =some (.bool p):=by
 have hd:d<s.sl.length:=by
  rcases Nat.lt_or_ge d s.sl.length with h1|h1
  ·exact h1
  ·simp [State.slot,List.getElem?_eq_none h1] at h
 have rI:d<a.tmps.size:=by rw[<-hr.size];exact hd
 have hv:a.tmps[d]? =some (a.tmps.getD d Go.undef):=by simp [Array.getElem?_eq_getElem rI]
 have hs:=hr.slot d
 rw[h] at hs
 have hb:=Km (X:=X) hs
 rw[hb] at hv
 refine⟨?_,hv⟩
 have Ti:a.put (some d) (.bool p)=a:=by
  cases a with
  |mk tmps defers=>
   simp only[Act.put,Act.mk.injEq,and_true]
   apply Array.ext_getElem?
   intro i
   rw[Array.getElem?_setIfInBounds]
   split
   ·rename_i e
    subst e
    first
     |exact hv.symm
     |(rw[if_pos rI];exact hv.symm)
   ·rfl
 have:=hr.put (d:=some d) (l:=bl p) (v:= .bool p) (fun _ _=>mm) (fun id t q hm=>by simp [bl] at hm)
 rw[Ti] at this
 exact this
theorem zy0(hE:ak P E)(hr:Rel X s a){C:ag}(hC:C.Nat)(hf:∀f,cN P C f){ops:Array Oper}{i:Nat}(hi:ops[i]? =some o){s':State}(h:step E (C State) ops.toList o s some=some s'){Q:Exit->Act->World->Prop}{K:Act->World->Prop}
 (hK:∀Y a',Ext X Y->Rel Y s' a'->K a' Y.w):wpOp P ops Q i K a X.w:=by
 unfold wpOp
 simp only[hi]
 have s7:∀{s1:State},Rel X s1 a->(act E (C State) ops.toList o s1 fun u=>some (s1.apply o.dst u))=some s'->o.wp P a X.w K Q:=by
  intro s1 eA h1
  obtain⟨u,hu,h2⟩:=lg (vQ hC (F:=fun u=>some (s1.apply o.dst u)) (G:=some) (K:=fun u=>some (s1.apply o.dst u)) (fun _=>rfl)) h1
  cases h2
  exact abP hE eA hC hf hu K Q (fun Y v bd bq=>hK Y _ bd bq)
 have jh:∀{s1:State},Rel X s1 a->some (s1.aJ o.dst [.skip])=some s'->K (a.put o.dst Go.undef) X.w:=by
  intro s1 eA h1
  cases h1
  exact hK X _ (Ext.refl X) (eA.skip o.dst)
 unfold step at h
 simp only at h
 split at h
 ·rename_i hg
  have hw:Region.wanted o (yielded ops a.tmps)=true:=by simp [Region.wanted,hg]
  rw[if_pos hw]
  exact .inl (s7 hr h)
 ·rename_i g want hg
  split at h
  ·cases h
  rename_i d hd
  have Mq:(ops[g]?).bind (·.dst)=some d:=by simpa [Lp] using hd
  split at h
  ·rename_i p hs
   obtain⟨eA,hv⟩:=hr.know hs
   have hy:yielded ops a.tmps g=some p:=by simp [yielded,Mq,hv]
   have hw:Region.wanted o (yielded ops a.tmps)=(p==want):=by simp [Region.wanted,hg,hy]
   cases p<;>cases want<;>simp only[cond_true,cond_false] at h<;>rw[hw]
   ·exact .inl (s7 eA h)
   ·exact jh eA h
   ·exact jh eA h
   ·exact .inl (s7 eA h)
  ·rename_i hs
   have jj:=hr.slot d
   rw[hs] at jj
   have lZ:a.tmps.getD d Go.undef=Go.undef:=jj
   have hy:yielded ops a.tmps g=none:=by
    simp only[yielded,Mq,Option.bind_some]
    cases ht:a.tmps[d]? with
    |none=>rfl
    |some v=>
     have:v=Go.undef:=by
      rw[<-lZ]
      simp [Array.getD_eq_getD_getElem?,ht]
     subst this
     rfl
   have hw:Region.wanted o (yielded ops a.tmps)=false:=by simp [Region.wanted,hg,hy]
   rw[hw]
   exact jh hr h
  ·cases h
theorem Io(hE:ak P E){C:ag}(hC:C.Nat)(hf:∀f,cN P C f){ops:Array Oper}{s':State}{Q:Exit->Act->World->Prop}:∀(l:List Nat) (X:aq) (s:State) (a:Act),Rel X s a->(∀i∈l,i<ops.size)->
 steps E (C State) ops.toList (l.map fun i=>ops.getD i default) s some=some s'->(∀Y a',Ext X Y->Rel Y s' a'->Q .normal a' Y.w)->wpOps P ops Q l a X.w
 | [],X,s,a,hr,_,h,hQ=>by
   cases h
   exact hQ X a (Ext.refl X) hr
 |i::r,X,s,a,hr,hl,h,hQ=>by
  simp only[List.map_cons,steps] at h
  obtain⟨s1,h1,h2⟩:=lg (zoo hC (F:=fun s=>steps E (C State) ops.toList (r.map fun i=>ops.getD i default) s some) (G:=some) (K:=fun s=>steps E (C State) ops.toList (r.map fun i=>ops.getD i default) s some) (fun _=>rfl)) h
  have hi:ops[i]? =some (ops.getD i default):=by
   have:=hl i (by simp)
   simp [this]
  rw[wpOps_cons]
  refine zy0 hE hr hC hf hi h1 fun Y a' bd bq=> ?_
  exact Io hE hC hf r Y s1 a' bq (fun j hj=>hl j (List.mem_cons_of_mem _ hj)) h2 fun Z a2 bR dc=>hQ Z a2 (bd.trans bR) dc
end Go.Ref

namespace Go.Ref
open Go
variable {P:Program} {E:Env} {X:aq} {s:State} {a:Act} {o:Oper} {u:Out}
theorem zo7(i j:Nat):(bit i).testBit j=decide (i=j):=by
 simp [bit,Nat.shiftLeft_eq,Nat.testBit_two_pow]
theorem vE:∀(l:List Nat) (j:Nat),(il l).testBit j=decide (j∈l)
 | [],j=>by simp [il]
 |i::r,j=>by
  rw[il,Nat.testBit_or,zo7,vE r j]
  by_cases h:i=j
  ·subst h;simp
  ·have h':¬j=i:=fun e=>h e.symm
   simp [h,h']
theorem Nl{a b:Nat}(h:Nat.beq (a&&&b) 0=true)(j:Nat):a.testBit j=true->b.testBit j=false:=by
 intro ha
 have h0:=Nat.eq_of_beq_eq_true h
 have:=congrArg (fun n=>Nat.testBit n j) h0
 simp only[Nat.testBit_and,Nat.zero_testBit,ha,Bool.true_and] at this
 exact this
theorem zc2:∀(l:List Edge) (j:Nat),(ld l).testBit j=true->∃e∈l,Region.binds .any e=true/\e.on=j
 | [],j,h=>by simp [ld] at h
 |e::r,j,h=>by
  simp only[ld] at h
  cases hb:Region.binds .any e with
  |false=>
   rw[hb] at h
   obtain⟨e',h1,h2⟩:=zc2 r j h
   exact⟨e',List.mem_cons_of_mem _ h1,h2⟩
  |true=>
   rw[hb] at h
   simp only[cond_true,Nat.testBit_or,zo7,Bool.or_eq_true,decide_eq_true_eq] at h
   rcases h with h|h
   ·exact⟨e,by simp,hb,h⟩
   ·obtain⟨e',h1,h2⟩:=zc2 r j h
    exact⟨e',List.mem_cons_of_mem _ h1,h2⟩
theorem zy5:∀(l:List Edge) (e:Edge),e∈l->Region.binds .any e=true->(ld l).testBit e.on=true
 |e'::r,e,h,hb=>by
  simp only[ld]
  rcases List.mem_cons.1 h with rfl|h
  ·rw[hb];simp [Nat.testBit_or,zo7]
  ·have:=zy5 r e h hb
   cases Region.binds .any e'<;>simp [Nat.testBit_or,this]
theorem Yv{m i j:Nat}(h:Nat.ble (m+1) (bit i)=true)(hj:m.testBit j=true):j<i:=by
 have h1:m<2^i:=by
  have:=Nat.le_of_ble_eq_true h
  simp only[bit,Nat.shiftLeft_eq,Nat.one_mul] at this
  omega
 rcases Nat.lt_or_ge j i with h2|h2
 ·exact h2
 ·have h3:m<2^j:=Nat.lt_of_lt_of_le h1 (Nat.pow_le_pow_right (by omega) h2)
  rw[Nat.testBit_lt_two_pow h3] at hj
  cases hj
def eg(E:Env)(C:ag)(ops:List Oper)(o:Oper)(s:State):Option Out:=
 match o.guard with
 |none=>act E (C Out) ops o s some
 |some (g,want)=>match Lp ops g with
  |none=>none
  |some d=>match s.slot d with
   | [.ah .bool p []]=>if p=want then act E (C Out) ops o s some else some {v:=[.skip]}
   | [.skip]=>some {v:=[.skip]}
   |_=>none
theorem Db{d:Nat}{l:List SV}(h:s.slot d=l):s.aJ (some d) l=s:=by
 cases s with
 |mk sl bs=>
  simp only[State.aJ,State.mk.injEq,and_true]
  simp only[State.slot] at h
  apply List.ext_getElem?
  intro i
  rw[List.getElem?_set]
  split
  ·rename_i e
   subst e
   split
   ·rename_i ap
    rw[List.getD_eq_getElem?_getD,List.getElem?_eq_getElem ap] at h
    rw[List.getElem?_eq_getElem ap]
    simpa using h.symm
   ·rename_i ap
    rw[List.getElem?_eq_none (by omega)]
  ·rfl
theorem ZF{C:ag}(hC:C.Nat){R:Type}{ops:List Oper}{i:Nat}{tr:List dy}{K:State->List dy->Option R}{z:R}(h:ko E (C R) ops o i s tr K=some z):
 ∃u,eg E C ops o s=some u/\fits (ld o.after.toList) (fD ops o i s u) tr=true/\K (s.apply o.dst u) (fD ops o i s u::tr)=some z:=by
 have s7:(act E (C R) ops o s fun u=>bif fits (ld o.after.toList) (fD ops o i s u) tr then K (s.apply o.dst u) (fD ops o i s u::tr) else none)=some z->
  ∃u,act E (C Out) ops o s some=some u/\fits (ld o.after.toList) (fD ops o i s u) tr=true/\K (s.apply o.dst u) (fD ops o i s u::tr)=some z:=by
  intro h
  obtain⟨u,h1,h2⟩:=lg (vQ hC (F:=fun u=>bif fits (ld o.after.toList) (fD ops o i s u) tr then K (s.apply o.dst u) (fD ops o i s u::tr) else none) (G:=some) (K:=fun u=>bif fits (ld o.after.toList) (fD ops o i s u) tr then K (s.apply o.dst u) (fD ops o i s u::tr) else none) (fun _=>rfl)) h
  cases hf:fits (ld o.after.toList) (fD ops o i s u) tr with
  |false=>rw[hf] at h2;cases h2
  |true=>rw[hf] at h2;exact⟨u,h1,hf,h2⟩
 have jh:(bif fits (ld o.after.toList) (fD ops o i s {v:=[.skip]}) tr then K (s.apply o.dst {v:=[.skip]}) (fD ops o i s {v:=[.skip]}::tr) else none)=some z->
  fits (ld o.after.toList) (fD ops o i s {v:=[.skip]}) tr=true/\K (s.apply o.dst {v:=[.skip]}) (fD ops o i s {v:=[.skip]}::tr)=some z:=by
  intro h
  cases hf:fits (ld o.after.toList) (fD ops o i s {v:=[.skip]}) tr with
  |false=>rw[hf] at h;cases h
  |true=>rw[hf] at h;exact⟨rfl,h⟩
 unfold ko at h
 unfold eg
 simp only at h
 split at h
 ·rename_i hg
  try simp only[hg]
  exact s7 h
 ·rename_i g want hg
  try simp only[hg]
  split at h
  ·cases h
  rename_i d hd
  try simp only[hd]
  split at h
  ·rename_i p hs
   have kL:s.slot d=bl p:=hs
   try simp only[hs]
   cases p<;>cases want<;>simp only[cond_true,cond_false] at h
   ·rw[Db kL] at h;rw[if_pos rfl];exact s7 h
   ·rw[Db kL] at h;rw[if_neg (by simp)];exact⟨_,rfl,jh h⟩
   ·rw[Db kL] at h;rw[if_neg (by simp)];exact⟨_,rfl,jh h⟩
   ·rw[Db kL] at h;rw[if_pos rfl];exact s7 h
  ·rename_i hs
   try simp only[hs]
   exact⟨_,rfl,jh h⟩
  ·cases h
theorem We{C:ag}(hC:C.Nat){ops:List Oper}(h:eg E C ops o s=some u):step E (C State) ops o s some=some (s.apply o.dst u):=by
 have s7:act E (C Out) ops o s some=some u->(act E (C State) ops o s fun u=>some (s.apply o.dst u))=some (s.apply o.dst u):=by
  intro h
  rw[vQ hC (F:=fun u=>some (s.apply o.dst u)) (G:=some) (K:=fun u=>some (s.apply o.dst u)) (fun _=>rfl),h]
  rfl
 unfold eg at h
 unfold step
 simp only
 split at h
 ·rename_i hg
  try simp only[hg]
  exact s7 h
 ·rename_i g want hg
  try simp only[hg]
  split at h
  ·cases h
  rename_i d hd
  try simp only[hd]
  split at h
  ·rename_i p hs
   have kL:s.slot d=bl p:=hs
   try simp only[hs]
   split at h
   ·rename_i e
    subst e
    cases p<;>simp only[cond_true,cond_false]<;>rw[Db kL]<;>exact s7 h
   ·rename_i e
    cases h
    cases p<;>cases want<;>simp only[cond_true,cond_false]<;>first|exact absurd rfl e|(rw[Db kL];rfl)
  ·rename_i hs
   try simp only[hs]
   cases h
   rfl
  ·cases h
structure lr(ts bs:List Nat)(s s':State):Prop where
 sl:∀t∈ts,s.slot t=s'.slot t
 bs:∀id∈bs,s.bs[id]? =s'.bs[id]?
theorem ac4{l:List Operand}{t:Nat}:Operand.tmp t∈l->t∈p7 l:=by
 induction l with
 |nil=>intro h;cases h
 |cons x r ih=>
  intro h
  rcases List.mem_cons.1 h with e|h
  ·subst e;simp [p7]
  ·have:=ih h
   cases x<;>simp [p7,this]
theorem zh3{s s':State}{ts:List Nat}(h:∀t∈ts,s.slot t=s'.slot t){l:List Operand}(hl:∀t∈p7 l,t∈ts){x:Operand}(hx:x∈l):s.az x=s'.az x:=by
 cases x with
 |tmp t=>simp only[State.az,State.vm,h t (hl t (ac4 hx))]
 |_=>rfl
theorem WX(j:Nat):bQ [SV.undef] j=[SV.undef]:=by
 cases j<;>rfl
theorem z9o{s:State}{i j t:Nat}:(s.cC i j).slot t=if t=i then bQ (s.slot t) j else s.slot t:=by
 simp only[State.cC,State.slot,List.getD_eq_getElem?_getD,List.getElem?_set]
 by_cases e:t=i
 ·subst e
  rw[if_pos rfl,if_pos rfl]
  by_cases ap:t<s.sl.length
  ·rw[if_pos ap];rfl
  ·rw[if_neg ap,List.getElem?_eq_none (by omega)]
   simp [WX]
 ·rw[if_neg e,if_neg (fun h=>e h.symm)]
theorem zm1{t:Nat}:∀{c:List (Nat×Nat)} {s s':State},s.slot t=s'.slot t->(s.close c).slot t=(s'.close c).slot t
 | [],s,s',h=>h
 |(i,j)::r,s,s',h=>by
  rw[C2,C2]
  refine zm1 (c:=r) ?_
  rw[z9o,z9o,h]
theorem zmg{ts:List Nat}:∀{l:List (Nat×Operand)} {s s':State},(∀t∈ts,s.slot t=s'.slot t)->(∀t∈p7 (l.map (·.2)),t∈ts)->ln s l=ln s' l
 | [],s,s',h,hl=>rfl
 |(i,x)::r,s,s',h,hl=>by
  have hx:s.az x=s'.az x:=zh3 h hl (by simp)
  have hr:∀c:List (Nat×Nat),ln (s.close c) r=ln (s'.close c) r:=fun c=>zmg (fun t ht=>zm1 (h t ht)) (fun t ht=>hl t (by
   cases x<;>simp [p7,ht]))
  simp only[ln,hx,hr]
theorem MY{s s':State}:∀{l:List SV},(∀id∈l.flatMap bW,s.box id=s'.box id)->mu s l=mu s' l
 | [],h=>rfl
 |v::r,h=>by
  have hr:mu s r=mu s' r:=MY fun id fL=>h id (by simp only[List.flatMap_cons,List.mem_append];exact .inr fL)
  simp only[mu,hr]
  split
  ·rfl
  ·rename_i l b _
   cases v with
   |ptr id t p=>
    have hb:s.box id=s'.box id:=h id (by simp [bW])
    cases p with
    |nil=>cases b<;>simp only[hb]
    |cons _ _=>rfl
   |_=>rfl
theorem Yp{C:FuncId->bJ Out}{ops:List Oper}{s s':State}(h:lr (looks ops o) (zv s o) s s'):act E C ops o s some=act E C ops o s' some:=by
 have jj:∀t∈p7 o.op.operands.toList,s.slot t=s'.slot t:=fun t ht=>h.sl t (by simp only[looks,List.mem_append];exact .inl ht)
 have cc:∀x∈o.op.operands.toList,s.az x=s'.az x:=fun x hx=>zh3 jj (fun _ ht=>ht) hx
 have b6:∀id∈zv s o,s.box id=s'.box id:=fun id fL=>by
  simp only[State.box,List.getD_eq_getElem?_getD,h.bs id fL]
 unfold act
 cases ho:o.op with
 |move x=>
  have ht:mf s x=mf s' x:=by
   cases x with
   |tmp t=>
    have:s.slot t=s'.slot t:=jj t (by simp [ho,Op.operands,p7])
    simp only[mf,this]
   |_=>rfl
  simp only;rw[cc x (by simp [ho,Op.operands]),ht]
 |assign x=>simp only;rw[cc x (by simp [ho,Op.operands])]
 |pick c x y=>simp only;rw[cc c (by simp [ho,Op.operands]),cc x (by simp [ho,Op.operands]),cc y (by simp [ho,Op.operands])]
 |binOp op T x y T'=>simp only;rw[cc x (by simp [ho,Op.operands]),cc y (by simp [ho,Op.operands])]
 |unOp op T x=>simp only;rw[cc x (by simp [ho,Op.operands])]
 |convert S T x=>
  have hx:=cc x (by simp [ho,Op.operands])
  simp only
  rw[<-hx]
  split
  ·rename_i id n ta tb e
   simp only[jc,b6 id (by simp [zv,ho,e,bW])]
  ·rfl
 |makeMap T r=>
  cases r with
  |some r=>rfl
  |none=>
   simp only
   cases hd:o.dst with
   |none=>rfl
   |some d=>
    have:=h.bs (d+1) (by simp [zv,ho,hd])
    simp only[jr,this]
 |lookup T x i ok=>
  cases ok with
  |true=>rfl
  |false=>
   simp only
   rw[<-cc x (by simp [ho,Op.operands]),<-cc i (by simp [ho,Op.operands])]
   unfold ki tD
   split
   ·split
    ·rename_i e
     simp only[b6 _ (by simp only[zv,ho,e,bW];exact List.mem_singleton.2 rfl)]
    ·rfl
   ·rfl
 |mapUpdate T m k x=>
  simp only
  rw[<-cc m (by simp [ho,Op.operands]),<-cc k (by simp [ho,Op.operands]),<-cc x (by simp [ho,Op.operands])]
  unfold kU tD
  split
  ·split
   ·rename_i e
    simp only[b6 _ (by simp only[zv,ho,e,bW];exact List.mem_singleton.2 rfl)]
   ·rfl
  ·rfl
 |insert T m k x=>
  simp only
  rw[<-cc m (by simp [ho,Op.operands]),<-cc k (by simp [ho,Op.operands]),<-cc x (by simp [ho,Op.operands])]
  unfold kU tD
  split
  ·split
   ·rename_i e
    simp only[b6 _ (by simp only[zv,ho,e,bW];exact List.mem_singleton.2 rfl)]
   ·rfl
  ·rfl
 |range T x=>
  simp only
  rw[<-cc x (by simp [ho,Op.operands])]
  cases hd:o.dst with
  |none=>rfl
  |some d=>
   have:=h.bs (d+1) (by simp [zv,ho,hd])
   simp only[jr,this]
 |next x str=>
  cases str with
  |false=>rfl
  |true=>
   simp only
   rw[<-cc x (by simp [ho,Op.operands])]
   unfold kl
   split
   ·rename_i e
    simp only[b6 _ (by simp only[zv,ho,e,bW];exact List.mem_singleton.2 rfl)]
   ·rfl
 |makeSlice T l c=>
  simp only
  rw[<-cc l (by simp [ho,Op.operands]),<-cc c (by simp [ho,Op.operands])]
  cases hd:o.dst with
  |none=>rfl
  |some d=>
   have:=h.bs (d+1) (by simp [zv,ho,hd])
   simp only[kj,jr,this]
 |load T x=>
  have hx:=cc x (by simp [ho,Op.operands])
  simp only
  rw[<-hx]
  unfold load
  split
  ·split
   ·rfl
   ·rename_i id t p e
    simp only[Cg,b6 id (by simp [zv,ho,e,bW])]
   ·rfl
  ·rfl
 |store T x y=>
  have hx:=cc x (by simp [ho,Op.operands])
  have hy:=cc y (by simp [ho,Op.operands])
  simp only
  rw[<-hx]
  unfold store
  rw[<-hy]
  split
  ·split
   ·rename_i id t p e
    simp only[BW,b6 id (by simp [zv,ho,e,bW])]
   ·rfl
  ·rfl
 |nilCheck x=>simp only;rw[cc x (by simp [ho,Op.operands])]
 |fieldAddr T x j=>simp only;rw[cc x (by simp [ho,Op.operands])]
 |indexAddr T x i=>simp only;rw[cc x (by simp [ho,Op.operands]),cc i (by simp [ho,Op.operands])]
 |index T x i=>simp only;rw[cc x (by simp [ho,Op.operands]),cc i (by simp [ho,Op.operands])]
 |field T x j=>simp only;rw[cc x (by simp [ho,Op.operands])]
 |slice T x lo hi mx=>
  cases mx with
  |none=>
   simp only
   have Ah:lo.map s.az=lo.map s'.az:=by
    cases lo with
    |none=>rfl
    |some l=>simp only[Option.map_some,cc l (by simp [ho,Op.operands])]
   have Gd:hi.map s.az=hi.map s'.az:=by
    cases hi with
    |none=>rfl
    |some l=>simp only[Option.map_some,cc l (by simp [ho,Op.operands])]
   rw[<-cc x (by simp [ho,Op.operands]),Ah,Gd]
   split
   ·rfl
   ·rename_i id n t e
    simp only[pJ,b6 id (by simp [zv,ho,e,bW])]
   ·rfl
  |some m=>rfl
 |makeFunc fn fi ca=>
  cases fn with
  |func f=>
   simp only
   split
   ·rename_i x e1 e2
    have hm:x∈o.op.operands.toList:=by
     simp only[ho,Op.operands,Array.toList_append,List.mem_append,e2]
     exact .inr (by simp)
    rw[cc x hm]
   ·rename_i x y e1 e2
    have hm:∀z∈ [x,y],z∈o.op.operands.toList:=fun z hz=>by
     simp only[ho,Op.operands,Array.toList_append,List.mem_append,e2]
     exact .inr hz
    rw[cc x (hm x (by simp)),cc y (hm y (by simp))]
   ·rfl
  |_=>rfl
 |alloc T=>
  simp only
  cases hd:o.dst with
  |none=>split<;>simp_all
  |some d=>
   have:=h.bs (d+1) (by simp [zv,ho,hd])
   cases E.ty T<;>simp only[this]
 |box T x=>
  have hx:=cc x (by simp [ho,Op.operands])
  simp only
  cases hd:o.dst with
  |none=>split<;>simp_all
  |some d=>
   have:=h.bs (d+1) (by simp [zv,ho,hd])
   cases E.ty T<;>simp only[this,hx]
 |build T parts=>
  have hp:ln s parts.toList=ln s' parts.toList:=zmg jj (fun t ht=>by simpa [ho,Op.operands] using ht)
  simp only[hp]
 |buildSlice T n parts=>
  have hp:(parts.toList.map fun p=>(p.1,s.az p.2))=parts.toList.map fun p=>(p.1,s'.az p.2):=List.map_congr_left fun p hp=>by
   rw[cc p.2 (by
    simp only[ho,Op.operands]
    exact List.mem_map.2 ⟨p,hp,rfl⟩)]
  simp only[hp]
 |extract x j=>
  cases x with
  |tmp t=>
   have:s.slot t=s'.slot t:=jj t (by simp [ho,Op.operands,p7])
   simp only[this]
  |_=>rfl
 |call c=>
  obtain⟨callee,args,ts⟩:=c
  cases callee with
  |value x=>
   cases x with
   |func f=>
    have b8:args.toList.map s.az=args.toList.map s'.az:=List.map_congr_left fun x hx=>cc x (by
     simp only[ho,Op.operands,Call.operands,Array.toList_append,List.mem_append]
     exact .inr hx)
    have jB:mu s (args.toList.map s'.az)=mu s' (args.toList.map s'.az):=MY fun id fL=>b6 id (by
     simp only[zv,ho,List.mem_append]
     refine .inl ?_
     rw[<-b8,List.flatMap_map] at fL
     exact fL)
    simp only[fb,b8,jB]
    cases hd:o.dst with
    |none=>rfl
    |some d=>
     have:=h.bs (d+1) (by simp [zv,ho,hd])
     simp only[this]
   |tmp y=>
    have hy:s.az (.tmp y)=s'.az (.tmp y):=cc (.tmp y) (by
     simp only[ho,Op.operands,Call.operands,Array.toList_append,List.mem_append]
     exact .inl (by simp))
    have b8:args.toList.map s.az=args.toList.map s'.az:=List.map_congr_left fun x hx=>cc x (by
     simp only[ho,Op.operands,Call.operands,Array.toList_append,List.mem_append]
     exact .inr hx)
    simp only
    rw[<-hy]
    split
    ·rename_i id f t b e
     have jB:mu s (args.toList.map s'.az++ [.ptr id t []])=mu s' (args.toList.map s'.az++ [.ptr id t []]):=MY fun bY fL=>b6 bY (by
      simp only[zv,ho,List.mem_append,e]
      rw[List.flatMap_append,List.mem_append] at fL
      rcases fL with fL|fL
      ·refine .inl ?_
       rw[<-b8,List.flatMap_map] at fL
       exact fL
      ·exact .inr (.inl (by simpa [bW] using fL)))
     simp only[fb,b8,jB]
     cases hd:o.dst with
     |none=>rfl
     |some d=>
      have:=h.bs (d+1) (by simp [zv,ho,hd])
      simp only[this]
    ·rename_i f t x u y e
     have jB:mu s (args.toList.map s'.az++ [.view t x,.view u y])=mu s' (args.toList.map s'.az++ [.view t x,.view u y]):=MY fun bY fL=>b6 bY (by
      simp only[zv,ho,List.mem_append]
      rw[List.flatMap_append,List.mem_append] at fL
      rcases fL with fL|fL
      ·refine .inl ?_
       rw[<-b8,List.flatMap_map] at fL
       exact fL
      ·simp [bW] at fL)
     simp only[fb,b8,jB]
     cases hd:o.dst with
     |none=>rfl
     |some d=>
      have:=h.bs (d+1) (by simp [zv,ho,hd])
      simp only[this]
    ·rfl
   |_=>rfl
  |builtin b=>
   have b8:∀x∈args.toList,s.az x=s'.az x:=fun x hx=>cc x (by
    simp only[ho,Op.operands,Call.operands,Array.toList_append,List.mem_append]
    exact .inr hx)
   cases b with
   |copy=>
    simp only
    split
    ·rename_i d x T r e1 e2
     rw[b8 x (by rw[e1];simp),<-b8 d (by rw[e1];simp)]
     unfold copyV
     split
     ·rename_i e0 t0 id n ta tb hT e
      have hb:s.box id=s'.box id:=b6 id (by simp only[zv,ho,e1,List.flatMap_cons,e,bW];exact List.mem_append_left _ (List.mem_singleton.2 rfl))
      simp only[gw,jd,hb]
     ·rename_i e0 t0 id n ta tb l hT e
      have hb:s.box id=s'.box id:=b6 id (by simp only[zv,ho,e1,List.flatMap_cons,e,bW];exact List.mem_append_left _ (List.mem_singleton.2 rfl))
      simp only[gw,hb]
     ·rfl
    ·rfl
   |len=>
    simp only
    split
    ·rename_i x T e1 e2
     rw[b8 x (by rw[e1];simp)]
    ·rfl
   |append=>
    simp only
    split
    ·rename_i x y T U e1 e2
     rw[b8 x (by rw[e1];simp),b8 y (by rw[e1];simp)]
    ·rfl
   |max=>
    simp only
    split
    ·rename_i x y e1
     rw[b8 x (by rw[e1];simp),b8 y (by rw[e1];simp)]
    ·rfl
   |min=>
    simp only
    split
    ·rename_i x y e1
     rw[b8 x (by rw[e1];simp),b8 y (by rw[e1];simp)]
    ·rfl
   |_=>rfl
  |_=>rfl
 |_=>rfl
end Go.Ref

namespace Go.Ref
open Go
variable {P:Program} {E:Env} {X:aq} {s:State} {a:Act} {o:Oper} {u:Out}
def L8:List (Nat×Nat)->Nat->List SV->List SV
 | [],_,l=>l
 |(i,j)::r,t,l=>L8 r t (if t=i then bQ l j else l)
theorem M0{t:Nat}:∀{c:List (Nat×Nat)} {s:State},(s.close c).slot t=L8 c t (s.slot t)
 | [],s=>rfl
 |(i,j)::r,s=>by rw[C2,M0 (c:=r),z9o];rfl
theorem qk{t:Nat}:∀{c:List (Nat×Nat)} {l:List SV},t∉c.map (·.1)->L8 c t l=l
 | [],l,h=>rfl
 |(i,j)::r,l,h=>by
  simp only[List.map_cons,List.mem_cons,not_or] at h
  simp only[L8]
  rw[if_neg h.1]
  exact qk h.2
theorem C4{d:Option Nat}:(s.apply d u).sl.length=s.sl.length:=by
 cases d with
 |none=>simp only[State.apply,State.aJ];cases u.bx<;>simp [State.aC,Kz]
 |some d=>simp only[State.apply,State.aJ,List.length_set];cases u.bx<;>simp [State.aC,Kz]
theorem Kt{d:Option Nat}{t:Nat}:(s.apply d u).slot t=if d=some t/\t<s.sl.length then u.v else L8 u.cl t (s.slot t):=by
 have hb:∀(s:State) b,(s.aC b).slot t=s.slot t:=fun s b=>by cases b<;>rfl
 cases d with
 |none=>
  simp only[State.apply,State.aJ,hb,M0]
  rw[if_neg (by simp)]
 |some d=>
  simp only[State.apply]
  by_cases e:d=t
  ·subst e
   by_cases ap:d<s.sl.length
   ·rw[if_pos ⟨rfl,ap⟩]
    have:d<((s.close u.cl).aC u.bx).sl.length:=by
     have:((s.close u.cl).aC u.bx).sl.length=s.sl.length:=by cases u.bx<;>simp [State.aC,Kz]
     omega
    simp only[State.aJ,State.slot,List.getD_eq_getElem?_getD,List.getElem?_set_self this,Option.getD_some]
   ·rw[if_neg (fun h=>ap h.2)]
    have:((s.close u.cl).aC u.bx).sl.length<=d:=by
     have:((s.close u.cl).aC u.bx).sl.length=s.sl.length:=by cases u.bx<;>simp [State.aC,Kz]
     omega
    have h2:(((s.close u.cl).aC u.bx).aJ (some d) u.v).slot d=((s.close u.cl).aC u.bx).slot d:=by
     simp only[State.aJ,State.slot]
     rw[List.set_eq_of_length_le this]
    rw[h2,hb,M0]
  ·rw[if_neg (fun h=>e (by injection h.1))]
   have h2:(((s.close u.cl).aC u.bx).aJ (some d) u.v).slot t=((s.close u.cl).aC u.bx).slot t:=by
    simp only[State.aJ,State.slot,List.getD_eq_getElem?_getD,List.getElem?_set_ne e]
   rw[h2,hb,M0]
theorem KE{d:Option Nat}{id:Nat}:(s.apply d u).bs[id]? =match u.bx with
 |some (bY,B)=>if bY=id then(s.bs[id]?).map (fun _=>some B) else s.bs[id]?
 |none=>s.bs[id]? :=by
 have hs:∀(s:State) d l,(s.aJ d l).bs=s.bs:=fun s d l=>by cases d<;>rfl
 simp only[State.apply,hs]
 cases hb:u.bx with
 |none=>simp only[State.aC,vH]
 |some b=>
  obtain⟨bY,B⟩:=b
  simp only[State.aC,vH]
  rw[List.getElem?_set]
  by_cases e:bY=id
  ·subst e
   rw[if_pos rfl,if_pos rfl]
   by_cases ap:bY<s.bs.length
   ·rw[if_pos ap,List.getElem?_eq_getElem ap];rfl
   ·rw[if_neg ap,List.getElem?_eq_none (by omega)];rfl
  ·rw[if_neg e,if_neg e]
theorem ZD{s s':State}(h1:s.sl.length=s'.sl.length)(h2:∀t,s.slot t=s'.slot t)(h3:∀id:Nat,s.bs[id]? =s'.bs[id]?):s=s':=by
 cases s with
 |mk sl bs=>
  cases s' with
  |mk sl' bs'=>
   simp only[State.mk.injEq]
   refine⟨List.ext_getElem? fun i=> ?_,List.ext_getElem? h3⟩
   have:=h2 i
   simp only[State.slot,List.getD_eq_getElem?_getD] at this h1
   by_cases ap:i<sl.length
   ·rw[List.getElem?_eq_getElem ap,List.getElem?_eq_getElem (by omega)] at this⊢
    simpa using this
   ·rw[List.getElem?_eq_none (by omega),List.getElem?_eq_none (by omega)]
structure yF(R1 W1 b1 c1 R2 W2 b2 c2:List Nat):Prop where
 h1:∀t∈W1,t∉R2/\t∉W2
 h2:∀t∈W2,t∉R1
 h3:∀id∈c1,id∉b2/\id∉c2
 h4:∀id∈c2,id∉b1
theorem Vw{o1 o2:Oper}{ops:List Oper}{i1 i2:Nat}{s1 s2:State}{u1 u2:Out}(h:(fD ops o1 i1 s1 u1).apart (fD ops o2 i2 s2 u2)=true):
 yF (looks ops o1) (o1.dst.toList++u1.cl.map (·.1)) (zv s1 o1) (u1.bx.toList.map (·.1)) (looks ops o2) (o2.dst.toList++u2.cl.map (·.1)) (zv s2 o2) (u2.bx.toList.map (·.1)):=by
 simp only[dy.apart,fD,Bool.and_eq_true] at h
 obtain⟨g1,g2,g3,g4⟩:=h
 refine⟨fun t ht=> ?_,fun t ht=> ?_,fun t ht=> ?_,fun t ht=> ?_⟩
 ·have:=Nl g1 t (by rw[vE];exact decide_eq_true ht)
  simp only[Nat.testBit_or,vE,Bool.or_eq_false_iff,decide_eq_false_iff_not] at this
  exact this
 ·have:=Nl g2 t (by rw[vE];exact decide_eq_true ht)
  simpa only[vE,decide_eq_false_iff_not] using this
 ·have:=Nl g3 t (by rw[vE];exact decide_eq_true ht)
  simp only[Nat.testBit_or,vE,Bool.or_eq_false_iff,decide_eq_false_iff_not] at this
  exact this
 ·have:=Nl g4 t (by rw[vE];exact decide_eq_true ht)
  simpa only[vE,decide_eq_false_iff_not] using this
theorem zlx{d:Option Nat}{ts bs:List Nat}(h1:∀t∈ts,t∉d.toList++u.cl.map (·.1))(h2:∀id∈bs,id∉u.bx.toList.map (·.1)):lr ts bs (s.apply d u) s where
 sl:=fun t ht=>by
  have h:=h1 t ht
  simp only[List.mem_append,not_or] at h
  rw[Kt,if_neg (fun hc=>h.1 (by rw[hc.1];simp)),qk h.2]
 bs:=fun id fL=>by
  have h:=h2 id fL
  rw[KE]
  cases hb:u.bx with
  |none=>rfl
  |some b=>
   obtain⟨bY,B⟩:=b
   rw[hb] at h
   simp only
   rw[if_neg (fun e=>h (by simp [e]))]
theorem Wo{d1 d2:Option Nat}{u1 u2:Out}(h1:∀t∈d1.toList++u1.cl.map (·.1),t∉d2.toList++u2.cl.map (·.1))(h2:∀id∈u1.bx.toList.map (·.1),id∉u2.bx.toList.map (·.1)):
 (s.apply d1 u1).apply d2 u2=(s.apply d2 u2).apply d1 u1:=by
 refine ZD (by rw[C4,C4,C4,C4]) (fun t=> ?_) (fun id=> ?_)
 ·rw[Kt,Kt,Kt,Kt,C4,C4]
  by_cases CM:d1=some t
  ·have hm:t∈d1.toList++u1.cl.map (·.1):=by rw[CM];simp
   have hn:=h1 t hm
   simp only[List.mem_append,not_or] at hn
   have rI:¬d2=some t:=fun e=>hn.1 (by rw[e];simp)
   by_cases ap:t<s.sl.length
   ·rw[if_neg (fun h=>rI h.1),if_pos ⟨CM,ap⟩,qk hn.2,if_pos ⟨CM,ap⟩]
   ·rw[if_neg (fun h=>rI h.1),if_neg (fun h=>ap h.2),if_neg (fun h=>ap h.2),if_neg (fun h=>ap h.2),qk hn.2,qk hn.2]
  ·by_cases rI:d2=some t
   ·have hn:t∉d1.toList++u1.cl.map (·.1):=fun hm=>h1 t hm (by rw[rI];simp)
    simp only[List.mem_append,not_or] at hn
    by_cases ap:t<s.sl.length
    ·rw[if_pos ⟨rI,ap⟩,if_neg (fun h=>CM h.1),if_pos ⟨rI,ap⟩,qk hn.2]
    ·rw[if_neg (fun h=>ap h.2),if_neg (fun h=>ap h.2),if_neg (fun h=>ap h.2),if_neg (fun h=>ap h.2),qk hn.2,qk hn.2]
   ·rw[if_neg (fun h=>rI h.1),if_neg (fun h=>CM h.1),if_neg (fun h=>CM h.1),if_neg (fun h=>rI h.1)]
    by_cases hm:t∈u1.cl.map (·.1)
    ·have hn:=h1 t (by simp only[List.mem_append];exact .inr hm)
     simp only[List.mem_append,not_or] at hn
     rw[qk hn.2,qk hn.2]
    ·rw[qk hm,qk hm]
 ·rw[KE,KE,KE,KE]
  cases s4:u1.bx with
  |none=>rfl
  |some b1=>
   obtain⟨TC,B1⟩:=b1
   cases qd:u2.bx with
   |none=>rfl
   |some b2=>
    obtain⟨id2,B2⟩:=b2
    rw[s4,qd] at h2
    have cg:TC≠id2:=fun e=>h2 TC (by simp) (by simp [e])
    simp only
    by_cases e1:TC=id
    ·subst e1
     rw[if_neg (fun e=>cg e.symm),if_pos rfl,if_pos rfl,if_neg (fun e=>cg e.symm)]
    ·by_cases e2:id2=id
     ·subst e2
      rw[if_pos rfl,if_neg e1,if_neg e1,if_pos rfl]
     ·rw[if_neg e2,if_neg e1,if_neg e1,if_neg e2]
theorem zmi{ops:List Oper}{s s':State}(h:∀t∈looks ops o,s.slot t=s'.slot t):zv s o=zv s' o:=by
 have cc:∀x∈o.op.operands.toList,s.az x=s'.az x:=fun x hx=>zh3 (ts:=p7 o.op.operands.toList) (fun t ht=>h t (by simp only[looks,List.mem_append];exact .inl ht)) (fun _ ht=>ht) hx
 unfold zv
 cases ho:o.op with
 |load T x=>simp only;rw[cc x (by simp [ho,Op.operands])]
 |store T x y=>simp only;rw[cc x (by simp [ho,Op.operands])]
 |convert S T x=>simp only;rw[cc x (by simp [ho,Op.operands])]
 |slice T x lo hi mx=>simp only;rw[cc x (by simp [ho,Op.operands])]
 |lookup T x i ok=>simp only;rw[cc x (by simp [ho,Op.operands])]
 |mapUpdate T m k x=>simp only;rw[cc m (by simp [ho,Op.operands])]
 |insert T m k x=>simp only;rw[cc m (by simp [ho,Op.operands])]
 |next x str=>simp only;rw[cc x (by simp [ho,Op.operands])]
 |call c=>
  obtain⟨callee,args,ts⟩:=c
  have:(args.toList.map fun x=>bW (s.az x))=args.toList.map fun x=>bW (s'.az x):=List.map_congr_left fun x hx=>by
   rw[cc x (by
    simp only[ho,Op.operands,Call.operands,Array.toList_append,List.mem_append]
    exact .inr hx)]
  cases callee with
  |value f=>
   simp only
   have hf:s.az f=s'.az f:=cc f (by
    simp only[ho,Op.operands,Call.operands,Array.toList_append,List.mem_append]
    exact .inl (by simp))
   rw[hf,List.flatMap_def,List.flatMap_def,this]
  |builtin b=>
   cases b with
   |copy=>simp only;rw[List.flatMap_def,List.flatMap_def,this]
   |_=>rfl
  |_=>rfl
 |_=>rfl
theorem zzq{C:ag}{ops:List Oper}{s s':State}(h:lr (looks ops o) (zv s o) s s'):eg E C ops o s=eg E C ops o s':=by
 unfold eg
 rw[Yp h]
 split
 ·rfl
 ·rename_i g want hg
  split
  ·rfl
  ·rename_i d hd
   rw[h.sl d (by simp [looks,hg,hd])]
theorem swap{C:ag}{ops:List Oper}{o1 o2:Oper}{i1 i2:Nat}{u1 u2:Out}(h1:eg E C ops o1 s=some u1)(h2:eg E C ops o2 (s.apply o1.dst u1)=some u2)(h:(fD ops o1 i1 s u1).apart (fD ops o2 i2 (s.apply o1.dst u1) u2)=true):
 eg E C ops o2 s=some u2/\fD ops o2 i2 s u2=fD ops o2 i2 (s.apply o1.dst u1) u2/\eg E C ops o1 (s.apply o2.dst u2)=some u1/\fD ops o1 i1 (s.apply o2.dst u2) u1=fD ops o1 i1 s u1/\
  (s.apply o2.dst u2).apply o1.dst u1=(s.apply o1.dst u1).apply o2.dst u2:=by
 have hp:=Vw h
 have ag1:lr (looks ops o2) (zv (s.apply o1.dst u1) o2) (s.apply o1.dst u1) s:=zlx (fun t ht hm=>(hp.h1 t hm).1 ht) (fun id fL hm=>(hp.h3 id hm).1 fL)
 have eA:=zmi (ops:=ops) (o:=o2) ag1.sl
 have SB:lr (looks ops o1) (zv s o1) (s.apply o2.dst u2) s:=zlx (fun t ht hm=>hp.h2 t hm ht) (fun id fL hm=>hp.h4 id hm fL)
 have dZ:=zmi (ops:=ops) (o:=o1) SB.sl
 refine⟨by rw[<-zzq ag1];exact h2,by simp only[fD,eA],?_,by simp only[fD,dZ],(Wo (fun t ht=>(hp.h1 t ht).2) (fun id fL=>(hp.h3 id fL).2)).symm⟩
 rw[zzq (s:=s.apply o2.dst u2) (s':=s) ⟨SB.sl,fun id fL=>SB.bs id (by rw[<-dZ];exact fL)⟩]
 exact h1
end Go.Ref

namespace Go.Ref
open Go
variable {P:Program} {E:Env} {X:aq} {s:State} {a:Act} {o:Oper} {u:Out}
def pA(E:Env)(C:ag)(ops:Array Oper):List Nat->State->List dy->State->Prop
 | [],s,tr,z=>s=z/\tr=[]
 |i::r,s,f::tr,z=>∃u,eg E C ops.toList (ops.getD i default) s=some u/\f=fD ops.toList (ops.getD i default) i s u/\pA E C ops r (s.apply (ops.getD i default).dst u) tr z
 |_::_,_,[],_=>False
def SA(ops:Array Oper)(i:Nat):Nat:=ld (ops.getD i default).after.toList
def yE(ops:Array Oper)(a b:dy):Prop:=(SA ops b.i).testBit a.i=true\/a.apart b=true
theorem Ki{C:ag}{ops:Array Oper}:∀{l:List Nat} {s z:State} {tr:List dy},pA E C ops l s tr z->tr.map (·.i)=l
 | [],s,z,tr,h=>by rw[h.2];rfl
 |i::r,s,z,f::tr,h=>by
  obtain⟨u,_,rfl,h3⟩:=h
  simp only[List.map_cons,Ki h3]
  rfl
 |_::_,s,z,[],h=>h.elim
theorem zmm{C:ag}(hC:C.Nat){ops:Array Oper}{z:State}:∀(l:List Nat) (i:Nat) (s:State) (tr:List dy),(∀(j:Nat) k,l[j]? =some k->k=i+j)->
 yC E (C State) ops.toList (l.map fun k=>ops.getD k default) i s tr some=some z->∃AE,pA E C ops l s AE z/\(∀a∈tr,∀b∈AE,yE ops a b)/\AE.Pairwise (yE ops)/\∀k∈l,Nat.ble (SA ops k+1) (bit k)=true
 | [],i,s,tr,hl,h=>by
   cases h
   exact⟨[],⟨rfl,rfl⟩,(fun a _ b hb=>by cases hb),List.Pairwise.nil,fun k hk=>by cases hk⟩
 |k::r,i,s,tr,hl,h=>by
  have hk:k=i:=by simpa using hl 0 k rfl
  subst hk
  simp only[List.map_cons,yC] at h
  obtain⟨u,h1,h2,h3⟩:=ZF hC h
  obtain⟨AE,r1,r2,r3,r4⟩:=zmm hC r (k+1) _ _ (fun j k' hj=>by
   have:=hl (j+1) k' hj
   omega) h3
  simp only[fits,Bool.and_eq_true] at h2
  obtain⟨h2a,SM⟩:=h2
  have SM:=List.all_eq_true.1 SM
  refine⟨fD ops.toList (ops.getD k default) k s u::AE,⟨u,h1,rfl,r1⟩,fun a ha b hb=> ?_,?_,fun k' Gf=> ?_⟩
  ·rcases List.mem_cons.1 hb with rfl|hb
   ·have:=SM a ha
    simp only[Bool.or_eq_true] at this
    exact this
   ·exact r2 a (List.mem_cons_of_mem _ ha) b hb
  ·exact List.pairwise_cons.2 ⟨fun b hb=>r2 _ (by simp) b hb,r3⟩
  ·rcases List.mem_cons.1 Gf with rfl|Gf
   ·exact h2a
   ·exact r4 k' Gf
theorem z152{C:ag}{ops:Array Oper}{z:State}{i:Nat}{q:List Nat}:∀(p:List Nat) (s:State) (tr:List dy),pA E C ops (p++i::q) s tr z->(∀(tp:List dy) f tq,tr=tp++f::tq->tp.length=p.length->∀a∈tp,a.apart f=true)->
 ∃tp f tq u,tr=tp++f::tq/\tp.length=p.length/\eg E C ops.toList (ops.getD i default) s=some u/\f=fD ops.toList (ops.getD i default) i s u/\pA E C ops (p++q) (s.apply (ops.getD i default).dst u) (tp++tq) z
 | [],s,[],h,xy=>h.elim
 | [],s,f::tr,h,xy=>by
   obtain⟨u,h1,h2,h3⟩:=h
   exact⟨[],f,tr,u,rfl,rfl,h1,h2,h3⟩
 |j::p,s,[],h,xy=>h.elim
 |j::p,s,g::tr,h,xy=>by
  obtain⟨uj,h1,h2,h3⟩:=h
  obtain⟨tp,f,tq,u,e1,e2,k1,k2,k3⟩:=z152 p _ tr h3 (fun tp f tq e hl a ha=>xy (g::tp) f tq (by rw[e];rfl) (by simp [hl]) a (List.mem_cons_of_mem _ ha))
  have hg:=xy (g::tp) f tq (by rw[e1];rfl) (by simp [e2]) g (by simp)
  rw[h2,k2] at hg
  obtain⟨w1,w2,w3,w4,w5⟩:=swap h1 k1 hg
  refine⟨g::tp,f,tq,u,by rw[e1];rfl,by simp [e2],w1,by rw[k2,w2],uj,w3,by rw[h2,w4],?_⟩
  rw[w5]
  exact k3
theorem acY{l:List Nat}{i:Nat}(h:i∈l):∃p q,l=p++i::q:=List.append_of_mem h
theorem WG{p q:List Nat}{i:Nat}(h:(p++i::q).Nodup):(p++i::q).filter (fun j=> !(Nat.beq j i))=p++q:=by
 have h':=List.nodup_append.1 h
 have hp:∀j∈p,j≠i:=fun j hj=>h'.2.2 j hj i (by simp)
 have hq:∀j∈q,j≠i:=fun j hj e=>by
  have:=(List.nodup_cons.1 h'.2.1).1
  rw[e] at hj;exact this hj
 rw[List.filter_append,List.filter_cons]
 have hb:∀j,j≠i->(!(Nat.beq j i))=true:=fun j hj=>by
  cases hh:Nat.beq j i with
  |false=>rfl
  |true=>exact absurd (Nat.eq_of_beq_eq_true hh) hj
 rw[List.filter_eq_self.2 (fun j hj=>hb j (hp j hj)),List.filter_eq_self.2 (fun j hj=>hb j (hq j hj))]
 have:(!(Nat.beq i i))=false:=by simp
 rw[this]
 simp
def rest(n:Nat)(listed:Array Bool):List Nat:=(List.range n).filter fun i=> !listed.getD i true
theorem acS{n:Nat}{listed:Array Bool}(hs:listed.size=n){i:Nat}{p q:List Nat}(h:rest n listed=p++i::q):rest n (listed.setIfInBounds i true)=p++q:=by
 have Ta:(rest n listed).Nodup:=List.nodup_range.filter _
 rw[h] at Ta
 rw[<-WG Ta,<-h]
 simp only[rest,List.filter_filter]
 refine List.filter_congr fun j hj=> ?_
 have hjn:=List.mem_range.1 hj
 by_cases e:j=i
 ·subst e
  have:(listed.setIfInBounds j true).getD j true=true:=by simp [Array.getD_eq_getD_getElem?,hs,hjn]
  rw[this];simp
 ·have h1:(listed.setIfInBounds i true).getD j true=listed.getD j true:=by
   simp only[Array.getD_eq_getD_getElem?]
   rw[Array.getElem?_setIfInBounds_ne (fun h=>e h.symm)]
  have h2:Nat.beq j i=false:=by
   cases hh:Nat.beq j i with
   |false=>rfl
   |true=>exact absurd (Nat.eq_of_beq_eq_true hh) e
  rw[h1,h2];simp
theorem zzt{ops:Array Oper}{listed:Array Bool}{i:Nat}(h:i∈Region.ready .any ops listed):i∈rest ops.size listed/\∀e∈(ops.getD i default).after.toList,Region.binds .any e=true->listed.getD e.on false=true:=by
 unfold Region.ready at h
 obtain⟨h1,h2⟩:=List.mem_filter.1 h
 have hi:=List.mem_range.1 h1
 rw[Bool.and_eq_true] at h2
 refine⟨List.mem_filter.2 ⟨h1,h2.1⟩,fun e he hb=> ?_⟩
 have h3:=h2.2
 rw[Array.getElem?_eq_getElem hi] at h3
 simp only[Option.map_some,Option.getD_some] at h3
 have cu:ops.getD i default=ops[i]:=by simp [hi]
 rw[cu] at he
 have h4:=Array.all_eq_true_iff_forall_mem.1 h3 e (by simpa using he)
 rw[hb] at h4
 simpa using h4
theorem acR{ops:Array Oper}{listed:Array Bool}{i:Nat}(h:i∈rest ops.size listed)(ha:∀e∈(ops.getD i default).after.toList,Region.binds .any e=true->listed.getD e.on false=true):i∈Region.ready .any ops listed:=by
 obtain⟨h1,h2⟩:=List.mem_filter.1 h
 have hi:=List.mem_range.1 h1
 refine List.mem_filter.2 ⟨h1,?_⟩
 rw[Bool.and_eq_true]
 refine⟨h2,?_⟩
 have cu:ops.getD i default=ops[i]:=by simp [hi]
 rw[Array.getElem?_eq_getElem hi]
 simp only[Option.map_some,Option.getD_some]
 refine Array.all_eq_true_iff_forall_mem.2 fun e he=> ?_
 cases hb:Region.binds .any e with
 |false=>rfl
 |true=>
  rw[ha e (by rw[cu];simpa using he) hb]
  simp
theorem ach(hE:ak P E){C:ag}(hC:C.Nat)(hf:∀f,cN P C f){ops:Array Oper}{z:State}{Q:Exit->Act->World->Prop}(m6:∀k,k<ops.size->Nat.ble (SA ops k+1) (bit k)=true):
 ∀(cq:Nat) (listed:Array Bool) (X:aq) (s:State) (a:Act) (tr:List dy),Rel X s a->listed.size=ops.size->cq=(rest ops.size listed).length->pA E C ops (rest ops.size listed) s tr z->tr.Pairwise (yE ops)->
  (∀Y a',Ext X Y->Rel Y z a'->Q .normal a' Y.w)->wpAny P .any ops Q cq listed a X.w:=by
 intro cq
 have done:∀(listed:Array Bool),listed.size=ops.size->Region.ready .any ops listed=[]->rest ops.size listed=[]:=by
  intro listed hs hr
  rcases hl:rest ops.size listed with _|⟨i,r⟩
  ·rfl
  have fG:i∈rest ops.size listed:=by rw[hl];simp
  have fV:=List.mem_range.1 (List.mem_filter.1 fG).1
  have rY:i∈Region.ready .any ops listed:=by
   refine acR fG fun e he hb=> ?_
   have ap:e.on<i:=Yv (m6 i fV) (zy5 _ e he hb)
   cases hx:listed.getD e.on false with
   |true=>rfl
   |false=>
    exfalso
    have rO:e.on<listed.size:=by omega
    have sf:listed.getD e.on true=false:=by
     simp only[Array.getD_eq_getD_getElem?,Array.getElem?_eq_getElem rO,Option.getD_some] at hx⊢
     exact hx
    have hm:e.on∈rest ops.size listed:=List.mem_filter.2 ⟨List.mem_range.2 (by omega),by rw[sf];rfl⟩
    have oM:(rest ops.size listed).Pairwise (· < ·):=List.pairwise_lt_range.filter _
    rw[hl] at oM hm
    rcases List.mem_cons.1 hm with e1|hm
    ·omega
    ·have:=(List.pairwise_cons.1 oM).1 _ hm
     omega
  rw[hr] at rY
  cases rY
 induction cq with
 |zero=>
  intro listed X s a tr hr hs CN kf Gx hQ
  have rR:rest ops.size listed=[]:=List.eq_nil_of_length_eq_zero CN.symm
  rw[rR] at kf
  obtain⟨rfl,_⟩:=kf
  refine⟨?_,hQ X a (Ext.refl X) hr⟩
  rcases hrd:Region.ready .any ops listed with _|⟨i,r⟩
  ·rfl
  ·have:=(zzt (i:=i) (by rw[hrd];simp)).1
   rw[rR] at this
   cases this
 |succ cq ih=>
  intro listed X s a tr hr hs CN kf Gx hQ
  refine⟨fun Gr=> ?_,fun i hi=> ?_⟩
  ·rw[done listed hs Gr] at CN
   cases CN
  ·obtain⟨fG,SQ⟩:=zzt hi
   obtain⟨p,q,My⟩:=acY fG
   have fV:=List.mem_range.1 (List.mem_filter.1 fG).1
   rw[My] at kf
   have vf:=Ki kf
   obtain⟨tp,f,tq,u,e1,e2,k1,k2,k3⟩:=z152 p s tr kf (fun tp f tq e hl a' F4=>by
    have uX:f.i=i:=by
     rw[e,List.map_append,List.map_cons] at vf
     have:=List.append_inj vf (by simp [hl])
     injection this.2
    have haj:a'.i∈p:=by
     rw[e,List.map_append,List.map_cons] at vf
     have:=List.append_inj vf (by simp [hl])
     rw[<-this.1]
     exact List.mem_map.2 ⟨a',F4,rfl⟩
    rw[e] at Gx
    have Ga:=(List.pairwise_append.1 Gx).2.2 a' F4 f (by simp)
    rcases Ga with hb|hb
    ·exfalso
     rw[uX] at hb
     obtain⟨ed,he1,he2,he3⟩:=zc2 _ _ hb
     have rM:=SQ ed he1 he2
     have eK:a'.i∈rest ops.size listed:=by rw[My];exact List.mem_append_left _ haj
     have m8:=(List.mem_filter.1 eK).2
     have ap:=List.mem_range.1 (List.mem_filter.1 eK).1
     have rO:a'.i<listed.size:=by omega
     rw[he3] at rM
     simp only[Array.getD_eq_getD_getElem?,Array.getElem?_eq_getElem rO,Option.getD_some] at rM m8
     rw[rM] at m8
     cases m8
    ·exact hb)
   have eK:=acS hs My
   have hio:ops[i]? =some (ops.getD i default):=by simp [fV]
   refine zy0 hE hr hC hf hio (We hC k1) fun Y a' bd bq=> ?_
   refine ih (listed.setIfInBounds i true) Y _ a' (tp++tq) bq (by simp [hs]) ?_ (by rw[eK];exact k3) ?_ (fun Z a2 bR dc=>hQ Z a2 (bd.trans bR) dc)
   ·rw[eK]
    rw[My] at CN
    simp only[List.length_append,List.length_cons] at CN⊢
    omega
   ·rw[e1] at Gx
    obtain⟨a1,a2,a3⟩:=List.pairwise_append.1 Gx
    exact List.pairwise_append.2 ⟨a1,(List.pairwise_cons.1 a2).2,fun x hx y hy=>a3 x hx y (List.mem_cons_of_mem _ hy)⟩
theorem YY(hE:ak P E)(hm:P.follows .mixedOrders=true){C:ag}(hC:C.Nat)(hf:∀f,cN P C f){id:Nat}{ops:Array Oper}{z:State}{Q:Exit->Act->World->Prop}(hr:Rel X s a)(h:yC E (C State) ops.toList ops.toList 0 s [] some=some z)
 (hQ:∀Y a',Ext X Y->Rel Y z a'->Q .normal a' Y.w):(Code.region id ops true).wp P Q a X.w:=by
 have nf:(List.range ops.size).map (fun i=>ops.getD i default)=ops.toList:=by
  apply List.ext_getElem?
  intro i
  rw[List.getElem?_map]
  by_cases hi:i<ops.size
  ·simp [hi]
  ·simp [hi]
 have eK:rest ops.size (Array.replicate ops.size false)=List.range ops.size:=by
  refine List.filter_eq_self.2 fun i hi=> ?_
  have:=List.mem_range.1 hi
  simp [this]
 obtain⟨AE,r1,_,r3,r4⟩:=zmm hC (List.range ops.size) 0 s [] (fun j k hj=>by
  have:=(List.getElem?_eq_some_iff.1 hj)
  obtain⟨h1,h2⟩:=this
  simp at h2
  omega) (by rw[nf];exact h)
 have hk:eN s X {X with w:={X.w with drawn:=X.w.drawn+1}}:=⟨Nat.le_refl _,rfl,rfl,rfl,fun g _=>⟨rfl,rfl⟩,rfl,fun _ _ _=>rfl⟩
 refine wp_region_any hm ?_
 exact ach hE hC hf (fun k hk=>r4 k (List.mem_range.2 hk)) ops.size (Array.replicate ops.size false) _ s a AE (hr.di hk) (by simp) (by rw[eK];simp) (by rw[eK];exact r1) r3 (fun Y a' bd bq=>hQ Y a' (hk.ext.trans bd) bq)
end Go.Ref

namespace Go.Ref
open Go
variable {P:Program} {E:Env} {X:aq} {s:State} {a:Act}
theorem aR.flat{X Y:aq}:∀{t:Ty} {x:El t} {cs:List Value},t.flat=true->aR X t x cs->aR Y t x cs
 | .bool,_,_,_,hr=>hr
 | .int _,_,_,_,hr=>hr
 | .str,_,_,_,hr=>hr
 | .unit,_,_,_,hr=>hr
 | .sl _ _,_,_,hf,_=>by cases hf
 | .aV _ _ _,_,_,hf,_=>by cases hf
 | .arr n t,xs,cs,hf,⟨h1,h2,h3⟩=>⟨h1,h2,fun j x hj=>aR.flat (t:=t) hf (h3 j x hj)⟩
 | .pair a b,x,cs,hf,⟨c1,c2,h1,h2,h3⟩=>by
   have hf:(a.flat&&b.flat)=true:=hf
   rw[Bool.and_eq_true] at hf
   exact⟨c1,c2,h1,aR.flat hf.1 h2,aR.flat hf.2 h3⟩
theorem au.flat{X Y:aq}{pl:List Nat->Place}{sv:SV}{v:Value}(hf:sv.flat=true)(hr:au X pl sv v):au Y pl sv v:=by
 cases sv with
 |ah t x own=>
  have hf:(t.flat&&own.isEmpty)=true:=hf
  rw[Bool.and_eq_true] at hf
  obtain⟨cs,h1,h2,_⟩:=hr
  have:own=[]:=List.isEmpty_iff.1 hf.2
  subst this
  exact⟨cs,h1.flat hf.1,h2,mo⟩
 |undef=>trivial
 |skip=>exact hr
 |cr=>exact hr
 |gF=>exact hr
 |over=>exact hr
 |_=>cases hf
theorem zgr{o:Nat}:∀{sl:List (List SV)} {i:Nat},ke o i sl=true->∀(j:Nat) l,sl[j]? =some l->i+j≠o->∀sv∈l,SV.flat sv=true
 | [],i,_,j,l,h,_=>by simp at h
 |l0::r,i,h,j,l,hl,cg=>by
  rw[ke,Bool.and_eq_true,Bool.or_eq_true] at h
  cases j with
  |zero=>
   cases hl
   rcases h.1 with h1|h1
   ·exact absurd (Nat.eq_of_beq_eq_true h1) cg
   ·exact fun sv hm=>List.all_eq_true.1 h1 sv hm
  |succ j=>exact zgr h.2 j l hl (by omega)
structure mJ(X:aq)(a:Act)(o:Nat)(e:TypeId)(xs:List Int)(own:List (List Nat))(g c:Nat)(cur:Array Value):Prop where
 val:a.tmps.getD o Go.undef= .slice (some ⟨g,0,none⟩) xs.length c
 heap:X.w.heap[g]? =some (.cells cur e (0,0))
 cell:∀(j:Nat) x,xs[j]? =some x->X.w.cell? ⟨g,j,none⟩=some (.int .u8 x)
 le:xs.length<=c
 most:c<=maxLen
 size:cur.size=c
 ow:X.ow g= .row (.c o 0 []) (xs.length*1)
 own:∀p∈own,p=[]
theorem afe{o:Nat}{e:TypeId}{xs:List Int}{own:List (List Nat)}(hr:Rel X s a)(hs:s.slot o=[.ah (.sl e (.int .u8)) xs own])(bP:mG own []=true){i:Nat}(hi:i<xs.length):∃g c cur,mJ X a o e xs own g c cur:=by
 have jj:=hr.slot o
 rw[hs] at jj
 obtain⟨cs,aM,hv,hO⟩:=(show au X (.c o 0) (.ah (.sl e (.int .u8)) xs own) (a.tmps.getD o Go.undef) from jj)
 have fG:([]:List Nat)∈own:=by
  unfold mG at bP
  obtain⟨q,h1,h2⟩:=List.any_eq_true.1 bP
  have:q=[]:=by simpa using h2
  rw[<-this];exact h1
 have dX:∀p∈own,p=[]:=fun p hp=>by
  obtain⟨e2,t2,xs2,v2,g1,g2,g3,g4⟩:=hO p hp
  cases p with
  |cons q r=>simp [El.get] at g2
  |nil=>rfl
 obtain⟨e1,t1,xs1,v1,_,hg,hc,bV⟩:=hO [] fG
 simp only[El.get,Option.some.injEq] at hg
 cases hg
 obtain⟨A,c,dw,hle,dN⟩:=aM
 subst dw
 have hv:a.tmps.getD o Go.undef= .slice A xs.length c:=hv
 have xM:v1= .slice A xs.length c:=by
  have:([Value.slice A xs.length c]:List Value)[0]? =some v1:=hc
  simpa using this.symm
 subst xM
 rcases bV with⟨_,h0⟩|⟨g,cap,cur,h1,h2,h3,h4,h5,h6⟩
 ·have h0:List.length xs=0:=h0
  omega
 injection h1 with k1 k2 k3
 subst k1 k3
 have h5:cur.size=c*1:=h5
 have h6:X.ow g= .row (.c o 0 []) (List.length xs*1):=h6
 have gy:∀(j:Nat) x,xs[j]? =some x->X.w.cell? ⟨g,j,none⟩=some (.int .u8 x):=fun j x hj=>by
  obtain⟨ad,dU,e1,_,e2,e3⟩:=dN j x hj
  cases e1
  have e2:dU=[.int .u8 x]:=e2
  subst e2
  have:=(e3 0 (.int .u8 x) rfl).2.1
  rw[jH] at this
  simpa [Ty.cells] using this
 exact⟨g,c,cur,hv,h2,gy,hle,h4,by omega,h6,dX⟩
theorem acN{o:Nat}{e:TypeId}{xs:List Int}{own:List (List Nat)}{X0:aq}(hF:∀g pl n,X0.ow g≠ .row pl n)(hx:Ext X0 X)(hr:Rel X s a)(ho:o<s.sl.length)(s6:ke o 0 s.sl=true)(jB:s.bs.all Option.isNone=true)
 {g c:Nat} {cur:Array Value} (hR:mJ X a o e xs own g c cur) {i:Nat} (hi:i<xs.length) (z:Int):
   Ext X0 (X.row g (cur.toList.take i++ [Value.int .u8 z]++cur.toList.drop (i+1)).toArray)/\Rel (X.row g (cur.toList.take i++ [Value.int .u8 z]++cur.toList.drop (i+1)).toArray) ⟨s.sl.set o [.ah (.sl e (.int .u8)) (xs.set i z:List Int) own],s.bs⟩ a:=by
 obtain⟨hv,h2,gy,hle,h4,h5,h6,dX⟩:=hR
 refine⟨?_,?_⟩
 ·
  have kK:∀b,b≠g->(X.row g (cur.toList.take i++ [Value.int .u8 z]++cur.toList.drop (i+1)).toArray).w.heap[b]? =X.w.heap[b]? :=fun b hb=>setRow_other X.w g b _ hb
  have rS:∀ad v,X0.aw ad v->ad.block≠g:=fun ad v dq e0=>by
   have ap:=aq.gJ dq
   have hu:=dq.2.2
   cases hw:X0.ow ad.block with
   |all=>have:=(hx.still ad.block ap (by rw[hw];trivial)).1;rw[e0,h6] at this;rw[<-e0,hw] at this;cases this
   |ro n=>have:=(hx.still ad.block ap (by rw[hw];trivial)).1;rw[e0,h6] at this;rw[<-e0,hw] at this;cases this
   |box id=>rw[hw] at hu;exact hu
   |row pl n=>exact hF _ _ _ hw
  refine⟨fun ad v dq=> ?_,?_,hx.os,hx.tape,hx.output,hx.β0,fun b hb ct=> ?_⟩
  ·have h7:=hx.aw ad v dq
   refine⟨h7.1,?_,h7.2.2⟩
   have:=h7.2.1
   simp only[World.cell?] at this⊢
   rw[kK _ (rS ad v dq)];exact this
  ·have:=hx.size
   simpa [aq.row] using this
  ·have h7:=hx.still b hb ct
   have cg:b≠g:=fun e0=>by
    have h8:=h7.1
    rw[e0,h6] at h8
    rw[e0,<-h8] at ct
    exact ct
   exact⟨h7.1,(kK b cg).trans h7.2⟩
 ·generalize jP:(cur.toList.take i++ [Value.int .u8 z]++cur.toList.drop (i+1)).toArray=new
  have m8:new.toList=cur.toList.take i++ [Value.int .u8 z]++cur.toList.drop (i+1):=by rw[<-jP]
  have eX:new.size=cur.size:=by
   have:new.toList.length=cur.toList.length:=by rw[m8];simp;omega
   simpa using this
  have aG:(X.row g new).w.heap[g]? =some (.cells new e (0,0)):=setRow_heap X.w g cur new e (0,0) h2
  refine⟨by simpa using hr.size,by simpa using hr.gM,fun j l v hl mB=> ?_,fun id B hB=> ?_,fun j l id t p hl hm=> ?_,hr.defers⟩
  ·rw[List.getElem?_set] at hl
   by_cases Gu:o=j
   ·subst Gu
    rw[if_pos rfl,if_pos ho] at hl
    cases hl
    have hvv:a.tmps.getD o Go.undef=v:=by rw[Array.getD_eq_getD_getElem?,mB];rfl
    rw[hvv] at hv
    subst hv
    refine⟨[.slice (some ⟨g,0,none⟩) xs.length c],?_,rfl,fun p hp=> ?_⟩
    ·refine aR.vu (t:= .int .u8) (List.length_set ..) hle fun j x hj=>⟨⟨g,0,none⟩,[.int .u8 x],rfl,rfl,rfl,fun k w hk=> ?_⟩
     have uY:j<xs.length:=by have:=(List.getElem?_eq_some_iff.1 hj).1;rw[List.length_set] at this;exact this
     cases k with
     |succ k=>simp at hk
     |zero=>
      have hk:Value.int .u8 x=w:=by simpa using hk
      subst hk
      refine⟨yi rfl _,?_,?_⟩
      ·rw[jH]
       show(X.row g new).w.cell? _=_
       simp only[World.cell?,aG,Ty.cells]
       rw[show 0+(j*1+0)=j by omega,<-Array.getElem?_toList,m8]
       have hj:(xs.set i z)[j]? =some x:=hj
       rw[List.getElem?_set] at hj
       have ag3:i<cur.toList.length:=by simp;omega
       by_cases hij:i=j
       ·subst hij
        rw[if_pos rfl,if_pos hi] at hj
        cases hj
        rw[List.append_assoc,List.getElem?_append_right (by simp;omega)]
        have:i-(cur.toList.take i).length=0:=by simp;omega
        rw[this];rfl
       ·rw[if_neg hij] at hj
        have s5:=gy j x hj
        simp only[World.cell?,h2] at s5
        rw[<-Array.getElem?_toList] at s5
        rcases Nat.lt_or_ge j i with ap|Ms
        ·rw[List.append_assoc,List.getElem?_append_left (by simp;omega),List.getElem?_take,if_pos ap]
         exact s5
        ·have hgt:i<j:=by omega
         rw[List.getElem?_append_right (by simp;omega),List.getElem?_drop]
         have:i+1+(j-(cur.toList.take i++ [Value.int .u8 z]).length)=j:=by simp;omega
         rw[this]
         exact s5
      ·rw[jH]
       show Ow.used (X.ow g) _
       rw[h6]
       show _<_
       simp only[Ty.cells]
       omega
    ·have:=dX p hp
     subst this
     refine⟨e,.int .u8,(xs.set i z:List Int),_,by simp [Ty.eS],rfl,rfl,?_⟩
     have hls:List.length (xs.set i z)=xs.length:=List.length_set ..
     rw[hls]
     exact .inr ⟨g,c,new,rfl,aG,hle,h4,by rw[eX,h5];simp [Ty.cells],h6⟩
   ·rw[if_neg Gu] at hl
    have:=zgr s6 j l hl (by omega)
    exact(hr.bL j l v hl mB).jQ fun k sv u hk hu=>hu.flat (this sv (List.mem_of_getElem? hk))
  ·have:=List.all_eq_true.1 jB (some B) (List.mem_of_getElem? hB)
   cases this
  ·rw[List.getElem?_set] at hl
   by_cases Gu:o=j
   ·subst Gu
    rw[if_pos rfl,if_pos ho] at hl
    cases hl
    simp at hm
   ·rw[if_neg Gu] at hl
    have:=zgr s6 j l hl (by omega) _ hm
    cases this
theorem oZ{a:Act}{d i:Nat}{v:Value}(hd:d<a.tmps.size):(a.put (some d) v).tmps.getD i Go.undef=if d=i then v else a.tmps.getD i Go.undef:=by
 simp only[Act.put,Array.getD_eq_getD_getElem?,Array.getElem?_setIfInBounds]
 split
 ·first|rfl|(rw[if_pos hd];rfl)
 ·rfl
theorem qn{a:Act}{d:Nat}{v:Value}:(a.put (some d) v).tmps.size=a.tmps.size:=by simp [Act.put]
theorem raw{ops:Array Oper}{Q:Exit->Act->World->Prop}{i d:Nat}{rest:List Nat}{a:Act}{w:World}{o:Oper}{v:Value}(hi:ops[i]? =some o)(hd:isDst o d=true)(aW:(execOp a.eval o).run P w= .ok (.value v) w)(K:wpOps P ops Q rest (a.put (some d) v) w):wpOps P ops Q (i::rest) a w:=by
 have qh:o.dst=some d/\o.guard=none:=by
  unfold isDst at hd
  split at hd
  ·rename_i d' h1 h2
   exact⟨by rw[h1,Nat.eq_of_beq_eq_true hd],h2⟩
  ·cases hd
 rw[wpOps_cons]
 unfold wpOp
 simp only[hi]
 have hw:Region.wanted o (yielded ops a.tmps)=true:=by simp [Region.wanted,qh.2]
 rw[if_pos hw]
 refine .inl ?_
 unfold Oper.wp
 rw[aW,Oper.upon_value,qh.1]
 exact K
theorem tk{x:Operand}{i:Nat}(h:eL x i=true):x= .tmp i:=by
 unfold eL at h
 split at h
 ·rw[Nat.eq_of_beq_eq_true h]
 ·cases h
theorem Ja{T:TypeId}(h:vh E T=true):E.ty T=some (.int .u8):=by
 unfold vh at h
 split at h
 ·assumption
 ·cases h
theorem zt1{T:TypeId}(h:P5 E T=true):∃e,E.ty T=some (.sl e (.int .u8)):=by
 unfold P5 at h
 split at h
 ·exact⟨_,by assumption⟩
 ·cases h
theorem tm{o:Oper}{d x:Nat}(h:CE o d x=true):isDst o d=true/\∀(a:Act) (w:World),(execOp a.eval o).run P w= .ok (.value (a.tmps.getD x Go.undef)) w:=by
 unfold CE at h
 rw[Bool.and_eq_true] at h
 refine⟨h.1,fun a w=> ?_⟩
 have h:=h.2
 split at h
 ·rename_i y ho
  have:=tk h
  subst this
  simp only[execOp,ho]
  rfl
 ·cases h
theorem P7(hE:ak P E){o:Oper}{d x:Nat}(h:isLen E o d x=true):isDst o d=true/\∀(a:Act) (w:World) A n c,a.tmps.getD x Go.undef= .slice A n c->(execOp a.eval o).run P w= .ok (.value (.int .i64 n)) w:=by
 unfold isLen at h
 rw[Bool.and_eq_true] at h
 refine⟨h.1,fun a w A n c hv=> ?_⟩
 have h:=h.2
 split at h
 ·rename_i dT ts ho
  split at h
  ·rename_i y T pP zR
   have has:dT= #[y]:=by rw[<-Array.toArray_toList (xs:=dT),pP]
   have gB:ts= #[T]:=by rw[<-Array.toArray_toList (xs:=ts),zR]
   subst has gB
   rw[Bool.and_eq_true] at h
   have:=tk h.1
   subst this
   obtain⟨e,hT⟩:=zt1 h.2
   have hu:=(hE.ty T _ hT).cS
   have ev:a.eval (.tmp x)= .slice A n c:=hv
   simp [execOp,ho,resolve,invoke,builtin,Builtin.len_,ev,run_underlying hu.1,goInt]
  ·cases h
 ·cases h
theorem Ns{o:Oper}{d x:Nat}(h:Sl o d x=true):isDst o d=true/\∀(a:Act) (w:World) (n:Int),a.tmps.getD x Go.undef= .int .i64 n->(execOp a.eval o).run P w= .ok (.value (.int .i64 (IntKind.i64.wrap (n-1)))) w:=by
 unfold Sl at h
 rw[Bool.and_eq_true] at h
 refine⟨h.1,fun a w n hv=> ?_⟩
 have h:=h.2
 split at h
 ·rename_i T y c T' ho
  rw[Bool.and_eq_true] at h
  have:=tk h.1
  subst this
  have hc:=of_decide_eq_true h.2
  subst hc
  have ev:a.eval (.tmp x)= .int .i64 n:=hv
  have ec:a.eval (.const (.int .i64 1))= .int .i64 1:=rfl
  obtain⟨sv,v,hl,GI,_,hr,_⟩:=zo5 (P:=P) (op:= .sub) (T:=T) (k:= .i64) (k':= .i64) (m:=n) (n:=1) w rfl
  cases hl
  have:=yc (hr ⟨w,fun _=> .all,fun _=>none⟩ (fun _=> .r 0 []))
  subst this
  simp only[execOp,ho,Sem.run_bind,ev,ec,MQ,Result.andThen_ok,GI,Sem.run_pure]
 ·cases h
theorem Jq{o:Oper}{d x y:Nat}(h:sj o d x y=true):isDst o d=true/\∀(a:Act) (w:World) (n m:Int),a.tmps.getD x Go.undef= .int .u8 n->a.tmps.getD y Go.undef= .int .u8 m->(execOp a.eval o).run P w= .ok (.value (.int .u8 (IntKind.u8.wrap (n+m)))) w:=by
 unfold sj at h
 rw[Bool.and_eq_true] at h
 refine⟨h.1,fun a w n m hv hu=> ?_⟩
 have h:=h.2
 split at h
 ·rename_i T u v T' ho
  rw[Bool.and_eq_true] at h
  have:=tk h.1
  subst this
  have:=tk h.2
  subst this
  have ev:a.eval (.tmp x)= .int .u8 n:=hv
  have eu:a.eval (.tmp y)= .int .u8 m:=hu
  obtain⟨sv,v,hl,GI,_,hr,_⟩:=zo5 (P:=P) (op:= .add) (T:=T) (k:= .u8) (k':= .u8) (m:=n) (n:=m) w rfl
  cases hl
  have:=yc (hr ⟨w,fun _=> .all,fun _=>none⟩ (fun _=> .r 0 []))
  subst this
  simp only[execOp,ho,Sem.run_bind,ev,eu,MQ,Result.andThen_ok,GI,Sem.run_pure]
 ·cases h
theorem Sg(hE:ak P E){o:Oper}{d x i:Nat}(h:vg E o d x i=true):isDst o d=true/\∀(a:Act) (w:World) (g n c:Nat) (j:Int),a.tmps.getD x Go.undef= .slice (some ⟨g,0,none⟩) n c->a.tmps.getD i Go.undef= .int .i64 j->0<=j->j<n->(execOp a.eval o).run P w= .ok (.value (.pointer (some ⟨g,j.toNat,none⟩))) w:=by
 unfold vg at h
 rw[Bool.and_eq_true] at h
 refine⟨h.1,fun a w g n c j hv hj h0 h1=> ?_⟩
 have h:=h.2
 split at h
 ·rename_i T y z ho
  rw[Bool.and_eq_true,Bool.and_eq_true] at h
  have:=tk h.1
  subst this
  have:=tk h.2.1
  subst this
  obtain⟨e,hT⟩:=zt1 h.2.2
  have hu:=(hE.ty T _ hT).cS
  have ev:a.eval (.tmp x)= .slice (some ⟨g,0,none⟩) n c:=hv
  have ei:a.eval (.tmp i)= .int .i64 j:=hj
  simp only[execOp,ho,Sem.run_bind,Instr.indexAt,ei,ev,asIntOf,Sem.run_pure,Result.andThen_ok,run_underlying hu.1,Sem.run_ite,h0,h1,and_self,if_true,kY hE hu.2]
  simp [Ty.cells,jH]
 ·cases h
theorem z145(hE:ak P E){o:Oper}{d x:Nat}(h:BI E o d x=true):isDst o d=true/\∀(a:Act) (w:World) (g j:Nat) (y:Int),a.tmps.getD x Go.undef= .pointer (some ⟨g,j,none⟩)->w.cell? ⟨g,j,none⟩=some (.int .u8 y)->(execOp a.eval o).run P w= .ok (.value (.int .u8 y)) w:=by
 unfold BI at h
 rw[Bool.and_eq_true] at h
 refine⟨h.1,fun a w g j y hv hc=> ?_⟩
 have h:=h.2
 split at h
 ·rename_i T z ho
  rw[Bool.and_eq_true] at h
  have:=tk h.1
  subst this
  have hT:=Ja h.2
  have ev:a.eval (.tmp x)= .pointer (some ⟨g,j,none⟩):=hv
  have hl:=CY (P:=P) hE hT (X:=⟨w,fun _=> .all,fun _=>none⟩) (x:=y) (cs:=[.int .u8 y]) rfl (ad:=⟨g,j,none⟩) (w:=w) (fun k v hk=>by
   cases k with
   |zero=>rw[jH];have hk:Value.int .u8 y=v:=by simpa using hk
          rw[<-hk];exact hc
   |succ k=>simp at hk)
  simp only[execOp,ho,Sem.run_bind,Instr.loadAt,ev,Instr.sureAddr,Sem.run_pure,Result.andThen_ok,hl]
  rfl
 ·cases h
theorem afi(hE:ak P E){ops:Array Oper}{Q:Exit->Act->World->Prop}{o:Oper}{x y:Nat}(h:si E o x y=true){k:Nat}{rest:List Nat}(hi:ops[k]? =some o){a:Act}{X:aq}{g j:Nat}{z:Int}{cur:Array Value}{T':TypeId}(hv:a.tmps.getD x Go.undef= .pointer (some ⟨g,j,none⟩))(hz:a.tmps.getD y Go.undef= .int .u8 z)(hg:X.w.heap[g]? =some (.cells cur T' (0,0)))(hj:j+1<=cur.size)
 (K:wpOps P ops Q rest (a.put none Go.undef) (X.row g (cur.toList.take j++ [Value.int .u8 z]++cur.toList.drop (j+1)).toArray).w):wpOps P ops Q (k::rest) a X.w:=by
 unfold si at h
 rw[Bool.and_eq_true] at h
 have qh:o.dst=none/\o.guard=none:=by
  have h:=h.1
  split at h
  ·exact⟨by assumption,by assumption⟩
  ·cases h
 have h:=h.2
 rw[wpOps_cons]
 unfold wpOp
 simp only[hi]
 have hw:Region.wanted o (yielded ops a.tmps)=true:=by simp [Region.wanted,qh.2]
 rw[if_pos hw]
 refine .inl ?_
 unfold Oper.wp
 split at h
 ·rename_i T u v ho
  rw[Bool.and_eq_true,Bool.and_eq_true] at h
  have:=tk h.1
  subst this
  have:=tk h.2.1
  subst this
  have hT:=Ja h.2.2
  have ev:a.eval (.tmp x)= .pointer (some ⟨g,j,none⟩):=hv
  have ez:a.eval (.tmp y)= .int .u8 z:=hz
  have ct:=MT (P:=P) hE hT (X:=X) (x:=z) (cs:=[.int .u8 z]) rfl (off:=j) (w:=X.w) (r:=g) (cur:=cur) (T':=T') hg hj
  have Gm:dx (.int .u8) [.int .u8 z]= .int .u8 z:=rfl
  rw[Gm] at ct
  have aW:(execOp a.eval o).run P X.w= .ok .skip (X.row g (cur.toList.take j++ [Value.int .u8 z]++cur.toList.drop (j+1)).toArray).w:=by
   simp only[execOp,ho,Sem.run_bind,Instr.storeAt,ev,Instr.sureAddr,Sem.run_pure,Result.andThen_ok,ez,ct]
   rfl
  rw[aW,Oper.upon_skip,qh.1]
  exact K
 ·cases h
theorem zzj:∀(n m:Nat) (sl:List (List SV)),(jn n m sl).length=sl.length
 |0,m,sl=>rfl
 |n+1,m,sl=>by rw[jn,zzj n (m+1),List.length_set]
def dead(s:State)(d:Nat):State:=s.aJ (some d) [.undef]
theorem Rel.dead(hr:Rel X s a)(d:Nat)(v:Value):Rel X (Ref.dead s d) (a.put (some d) v):=hr.put (fun _ _=>trivial) (fun id t p hm=>by simp at hm)
theorem ZK(hE:ak P E){X0:aq}(hF:∀g pl n,X0.ow g≠ .row pl n)(hx:Ext X0 X)(hr:Rel X s a){q:Nat×Nat×Nat}{id:Nat}{ops:Array Oper}{s':State}(h:kp E q ops.toList s some=some s'){Q:Exit->Act->World->Prop}(hQ:∀Y a',Ext X0 Y->Rel Y s' a'->Q .normal a' Y.w):(Code.region id ops false).wp P Q a X.w:=by
 obtain⟨o,x,m⟩:=q
 unfold kp at h
 simp only at h
 cases iC:BL E o x m ops.toList with
 |false=>rw[iC] at h;cases h
 |true=>
 rw[iC,cond_true] at h
 cases hb:(Nat.ble (o+1) m&&(Nat.ble (x+1) m&&(!(Nat.beq o x)&&Nat.ble (m+13) s.sl.length))) with
 |false=>rw[hb] at h;cases h
 |true=>
 rw[hb,cond_true] at h
 simp only[Bool.and_eq_true,Bool.not_eq_true',Nat.ble_eq] at hb
 obtain⟨hom,hxm,hox,qi⟩:=hb
 split at h
 case h_2=>cases h
 rename_i et xs own y ow2 iD Tp
 cases bP:mG own [] with
 |false=>rw[bP] at h;cases h
 |true=>
 rw[bP,cond_true] at h
 cases s6:(ke o 0 (jn 13 m s.sl)&&s.bs.all Option.isNone) with
 |false=>rw[s6] at h;cases h
 |true=>
 rw[s6,cond_true] at h
 rw[Bool.and_eq_true] at s6
 obtain⟨h0,h1,h⟩:=ye h
 cases h
 generalize hj:IntKind.i64.wrap ((List.length xs:Int)-1)=j at h0 h1
 have hi:j.toNat<xs.length:=by omega
 obtain⟨g,c,cur,hR⟩:=afe hr iD bP hi
 have dh:m+13<=a.tmps.size:=by rw[<-hr.size];exact qi
 have hy:a.tmps.getD x Go.undef= .int .u8 y:=by
  have jj:=hr.slot x
  rw[Tp] at jj
  exact yc (show au X (.c x 0) (.ah (.int .u8) y ow2) _ from jj)
 have hgx:xs[j.toNat]? =some (xs.getD j.toNat 0):=by rw[List.getD_eq_getElem?_getD,List.getElem?_eq_getElem hi];rfl
 have uV:=hR.cell _ _ hgx
 unfold BL at iC
 split at iC
 case h_2=>cases iC
 rename_i o0 o1 o2 o3 o4 o5 o6 o7 o8 o9 TO TZ Ub Um m9
 simp only[Bool.and_eq_true] at iC
 obtain⟨k0,k1,k2,k3,k4,k5,k6,k7,k8,k9,k10,k11,k12,k13⟩:=iC
 have cu:∀i,ops[i]? =([o0,o1,o2,o3,o4,o5,o6,o7,o8,o9,TO,TZ,Ub,Um]:List Oper)[i]? :=fun i=>by rw[<-Array.getElem?_toList,m9]
 have cj:ops.size=14:=by rw[<-Array.length_toList,m9];rfl
 refine wp_region ?_
 rw[cj,show List.range 14=[0,1,2,3,4,5,6,7,8,9,10,11,12,13] from rfl]
 have vo:=hR.val
 generalize Ao:(Value.slice (some ⟨g,0,none⟩) xs.length c)=vs at vo
 refine raw (cu 0) (tm (P:=P) k0).1 ((tm k0).2 a X.w) ?_
 rw[vo]
 have e1:=fun i=>oZ (i:=i) (v:=vs) (show m<a.tmps.size by omega)
 have r1:=hr.dead m vs
 generalize Te:a.put (some m) vs=a1 at e1 r1
 have z1:a1.tmps.size=a.tmps.size:=by rw[<-Te,qn]
 refine raw (cu 1) (tm (P:=P) k1).1 ((tm k1).2 a1 X.w) ?_
 rw[e1,if_neg (by omega),vo]
 have e2:=fun i=>oZ (a:=a1) (i:=i) (v:=vs) (show m+1<a1.tmps.size by omega)
 have r2:=r1.dead (m+1) vs
 generalize hp2:a1.put (some (m+1)) vs=a2 at e2 r2
 have z2:a2.tmps.size=a.tmps.size:=by rw[<-hp2,qn,z1]
 refine raw (cu 2) (P7 hE k2).1 ((P7 hE k2).2 a2 X.w _ _ _ (by rw[e2,if_pos rfl];exact Ao.symm)) ?_
 have e3:=fun i=>oZ (a:=a2) (i:=i) (v:= .int .i64 (xs.length:Nat)) (show m+2<a2.tmps.size by omega)
 have r3:=r2.dead (m+2) (.int .i64 (xs.length:Nat))
 generalize hp3:a2.put (some (m+2)) (.int .i64 (xs.length:Nat))=a3 at e3 r3⊢
 have z3:a3.tmps.size=a.tmps.size:=by rw[<-hp3,qn,z2]
 refine raw (cu 3) (Ns (P:=P) k3).1 ((Ns k3).2 a3 X.w _ (by rw[e3,if_pos rfl])) ?_
 rw[hj]
 have e4:=fun i=>oZ (a:=a3) (i:=i) (v:= .int .i64 j) (show m+3<a3.tmps.size by omega)
 have r4:=r3.dead (m+3) (.int .i64 j)
 generalize hp4:a3.put (some (m+3)) (.int .i64 j)=a4 at e4 r4⊢
 have z4:a4.tmps.size=a.tmps.size:=by rw[<-hp4,qn,z3]
 have q4:∀i,i<m->a4.tmps.getD i Go.undef=a.tmps.getD i Go.undef:=fun i hi=>by rw[e4,if_neg (by omega),e3,if_neg (by omega),e2,if_neg (by omega),e1,if_neg (by omega)]
 have qm:a4.tmps.getD m Go.undef=vs:=by rw[e4,if_neg (by omega),e3,if_neg (by omega),e2,if_neg (by omega),e1,if_pos rfl]
 refine raw (cu 4) (tm (P:=P) k4).1 ((tm k4).2 a4 X.w) ?_
 rw[q4 o (by omega),vo]
 have e5:=fun i=>oZ (a:=a4) (i:=i) (v:=vs) (show m+4<a4.tmps.size by omega)
 have r5:=r4.dead (m+4) vs
 generalize hp5:a4.put (some (m+4)) vs=a5 at e5 r5⊢
 have z5:a5.tmps.size=a.tmps.size:=by rw[<-hp5,qn,z4]
 refine raw (cu 5) (tm (P:=P) k5).1 ((tm k5).2 a5 X.w) ?_
 rw[e5,if_neg (by omega),q4 o (by omega),vo]
 have e6:=fun i=>oZ (a:=a5) (i:=i) (v:=vs) (show m+5<a5.tmps.size by omega)
 have r6:=r5.dead (m+5) vs
 generalize hp6:a5.put (some (m+5)) vs=a6 at e6 r6⊢
 have z6:a6.tmps.size=a.tmps.size:=by rw[<-hp6,qn,z5]
 refine raw (cu 6) (P7 hE k6).1 ((P7 hE k6).2 a6 X.w _ _ _ (by rw[e6,if_pos rfl];exact Ao.symm)) ?_
 have e7:=fun i=>oZ (a:=a6) (i:=i) (v:= .int .i64 (xs.length:Nat)) (show m+6<a6.tmps.size by omega)
 have r7:=r6.dead (m+6) (.int .i64 (xs.length:Nat))
 generalize hp7:a6.put (some (m+6)) (.int .i64 (xs.length:Nat))=a7 at e7 r7⊢
 have z7:a7.tmps.size=a.tmps.size:=by rw[<-hp7,qn,z6]
 refine raw (cu 7) (Ns (P:=P) k7).1 ((Ns k7).2 a7 X.w _ (by rw[e7,if_pos rfl])) ?_
 rw[hj]
 have e8:=fun i=>oZ (a:=a7) (i:=i) (v:= .int .i64 j) (show m+7<a7.tmps.size by omega)
 have r8:=r7.dead (m+7) (.int .i64 j)
 generalize hp8:a7.put (some (m+7)) (.int .i64 j)=a8 at e8 r8⊢
 have z8:a8.tmps.size=a.tmps.size:=by rw[<-hp8,qn,z7]
 have q8:∀i,i<=m+3->a8.tmps.getD i Go.undef=a4.tmps.getD i Go.undef:=fun i hi=>by rw[e8,if_neg (by omega),e7,if_neg (by omega),e6,if_neg (by omega),e5,if_neg (by omega)]
 refine raw (cu 8) (Sg hE k8).1 ((Sg hE k8).2 a8 X.w g xs.length c j (by rw[e8,if_neg (by omega),e7,if_neg (by omega),e6,if_neg (by omega),e5,if_pos rfl];exact Ao.symm) (by rw[e8,if_pos rfl]) h0 h1) ?_
 have e9:=fun i=>oZ (a:=a8) (i:=i) (v:= .pointer (some ⟨g,j.toNat,none⟩)) (show m+8<a8.tmps.size by omega)
 have r9:=r8.dead (m+8) (.pointer (some ⟨g,j.toNat,none⟩))
 generalize hp9:a8.put (some (m+8)) (.pointer (some ⟨g,j.toNat,none⟩))=a9 at e9 r9⊢
 have z9:a9.tmps.size=a.tmps.size:=by rw[<-hp9,qn,z8]
 refine raw (cu 9) (z145 hE k9).1 ((z145 hE k9).2 a9 X.w g j.toNat _ (by rw[e9,if_pos rfl]) uV) ?_
 generalize hwx:xs.getD j.toNat 0=wx
 have Mj:=fun i=>oZ (a:=a9) (i:=i) (v:= .int .u8 wx) (show m+9<a9.tmps.size by omega)
 have jF:=r9.dead (m+9) (.int .u8 wx)
 generalize Tf:a9.put (some (m+9)) (.int .u8 wx)=yU at Mj jF⊢
 have z10:yU.tmps.size=a.tmps.size:=by rw[<-Tf,qn,z9]
 refine raw (cu 10) (tm (P:=P) k10).1 ((tm k10).2 yU X.w) ?_
 rw[Mj,if_neg (by omega),e9,if_neg (by omega),q8 x (by omega),q4 x (by omega),hy]
 have Mk:=fun i=>oZ (a:=yU) (i:=i) (v:= .int .u8 y) (show m+10<yU.tmps.size by omega)
 have jv:=jF.dead (m+10) (.int .u8 y)
 generalize Tg:yU.put (some (m+10)) (.int .u8 y)=yV at Mk jv⊢
 have z11:yV.tmps.size=a.tmps.size:=by rw[<-Tg,qn,z10]
 refine raw (cu 11) (Jq (P:=P) k11).1 ((Jq k11).2 yV X.w wx y (by rw[Mk,if_neg (by omega),Mj,if_pos rfl]) (by rw[Mk,if_pos rfl])) ?_
 generalize hwz:IntKind.u8.wrap (wx+y)=wz
 have SF:=fun i=>oZ (a:=yV) (i:=i) (v:= .int .u8 wz) (show m+11<yV.tmps.size by omega)
 have kR:=jv.dead (m+11) (.int .u8 wz)
 generalize Th:yV.put (some (m+11)) (.int .u8 wz)=a12 at SF kR⊢
 have z12:a12.tmps.size=a.tmps.size:=by rw[<-Th,qn,z11]
 have UU:∀i,i<=m+3->a12.tmps.getD i Go.undef=a4.tmps.getD i Go.undef:=fun i hi=>by rw[SF,if_neg (by omega),Mk,if_neg (by omega),Mj,if_neg (by omega),e9,if_neg (by omega),q8 i hi]
 refine raw (cu 12) (Sg hE k12).1 ((Sg hE k12).2 a12 X.w g xs.length c j (by rw[UU m (by omega),qm];exact Ao.symm) (by rw[UU (m+3) (by omega),e4,if_pos rfl]) h0 h1) ?_
 have Ml:=fun i=>oZ (a:=a12) (i:=i) (v:= .pointer (some ⟨g,j.toNat,none⟩)) (show m+12<a12.tmps.size by omega)
 have jw:=kR.dead (m+12) (.pointer (some ⟨g,j.toNat,none⟩))
 generalize ag9:a12.put (some (m+12)) (.pointer (some ⟨g,j.toNat,none⟩))=FQ at Ml jw⊢
 have SN:mJ X FQ o et xs own g c cur:=⟨by rw[Ml,if_neg (by omega),UU o (by omega),q4 o (by omega),hR.val],hR.heap,hR.cell,hR.le,hR.most,hR.size,hR.ow,hR.own⟩
 refine afi hE k13 (cu 13) (by rw[Ml,if_pos rfl]) (by rw[Ml,if_neg (by omega),SF,if_pos rfl]) hR.heap (by rw[hR.size];have:=hR.le;omega) ?_
 have Tm:Rel X ⟨jn 13 m s.sl,s.bs⟩ FQ:=jw
 obtain⟨hX,bq⟩:=acN hF hx Tm (by rw[zzj];omega) s6.1 s6.2 SN hi wz
 have S0:=hQ _ FQ hX (by
  unfold x9
  rw[hj,hwx,hwz]
  exact bq)
 exact S0
end Go.Ref

namespace Go.Ref
open Go
variable {P:Program} {E:Env} {X:aq} {s:State} {a:Act}
structure mV(X Y:aq)(g0:Nat):Prop where
 heap:∀b,b≠g0->Y.w.heap[b]? =X.w.heap[b]?
 ow:Y.ow=X.ow
 β:Y.β=X.β
theorem mV.aw{Y:aq}{g0:Nat}(h:mV X Y g0){ad:Addr}{v:Value}(cg:ad.block≠g0)(hs:X.aw ad v):Y.aw ad v:=by
 refine⟨hs.1,?_,?_⟩
 ·have:=hs.2.1
  simp only[World.cell?] at this⊢
  rw[h.heap _ cg];exact this
 ·rw[h.ow];exact hs.2.2
theorem z175{own:List (List Nat)}{p:List Nat}(h:mG own p=true):p∈own:=by
 unfold mG at h
 obtain⟨q,h1,h2⟩:=List.any_eq_true.1 h
 have:q=p:=by simpa using h2
 rw[<-this];exact h1
def plS(pl:List Nat->Place):List Nat->Place
 |j::p=>pl ((j+1)::p)
 | []=>pl []
theorem acK{pl:List Nat->Place}{a b:Ty}{x:El (.pair a b)}{c1 c2:List Value}{own:List (List Nat)}(hr:aR X a x.1 c1)(h:bg X pl (.pair a b) x (c1++c2) own):bg X (fun p=>pl (0::p)) a x.1 c1 (L9 own [0]):=fun p hp=>by
 unfold L9 at hp
 obtain⟨q,hq,rfl⟩:=List.mem_map.1 hp
 obtain⟨hq,fj⟩:=List.mem_filter.1 hq
 match q,fj with
 |0::q,_=>
  obtain⟨e,t',xs,v,g0,g1,g2,g3⟩:=h (0::q) hq
  have g2:(c1++c2)[a.off q]? =some v:=g2
  refine⟨e,t',xs,v,g0,g1,?_,g3⟩
  show c1[a.off q]? =some v
  rw[<-g2,List.getElem?_append_left]
  obtain⟨_,k2,_⟩:=Lo hr (show a.eS q from g0) (show El.get a q x.1=_ from g1)
  have k2:a.off q+1<=a.cells:=k2
  have:=hr.len
  omega
 | [],fj=>simp at fj
 |(j+1)::q,fj=>simp at fj
theorem acL{pl:List Nat->Place}{a b:Ty}{x:El (.pair a b)}{c1 c2:List Value}{own:List (List Nat)}(hl:c1.length=a.cells)(h:bg X pl (.pair a b) x (c1++c2) own):bg X (plS pl) b x.2 c2 (uO own):=fun p hp=>by
 unfold uO at hp
 obtain⟨q,hq,he⟩:=List.mem_filterMap.1 hp
 match q,he with
 |(j+1)::q,he=>
  cases he
  obtain⟨e,t',xs,v,g0,g1,g2,g3⟩:=h ((j+1)::q) hq
  refine⟨e,t',xs,v,g0,g1,?_,g3⟩
  have g2:(c1++c2)[a.cells+b.off (j::q)]? =some v:=g2
  rw[List.getElem?_append_right (by omega)] at g2
  rw[<-g2]
  congr 1
  omega
 | [],he=>cases he
 |0::q,he=>cases he
theorem bg.G5{Y:aq}{g0:Nat}(h:mV X Y g0){pl:List Nat->Place}(iK:∀p n,X.ow g0≠ .row (pl p) n){t:Ty}{x:El t}{cs:List Value}{own:List (List Nat)}(ho:bg X pl t x cs own):bg Y pl t x cs own:=fun p hp=>by
 obtain⟨e,t',xs,v,k0,k1,k2,k3⟩:=ho p hp
 refine⟨e,t',xs,v,k0,k1,k2,?_⟩
 rcases k3 with ho|⟨g,cap,cur,h1,h2,h3,h4,h5,h6⟩
 ·exact .inl ho
 ·have cg:g≠g0:=fun e=>iK p _ (e▸h6)
  exact .inr ⟨g,cap,cur,h1,(h.heap g cg).trans h2,h3,h4,h5,by rw[h.ow];exact h6⟩
theorem aR.cp{Y:aq}{g0:Nat}(h:mV X Y g0):∀{t:Ty} {x:El t} {cs:List Value} {own:List (List Nat)} {pl:List Nat->Place},(∀p n,X.ow g0≠ .row (pl p) n)->t.cp own=true->aR X t x cs->bg X pl t x cs own->aR Y t x cs
 | .bool,_,_,_,_,_,_,hr,_=>hr
 | .int _,_,_,_,_,_,_,hr,_=>hr
 | .str,_,_,_,_,_,_,hr,_=>hr
 | .unit,_,_,_,_,_,_,hr,_=>hr
 | .aV _ _ _,_,_,_,_,_,hs,_,_=>by cases hs
 | .arr n t,xs,cs,own,pl,_,hs,hr,_=>aR.flat (t:= .arr n t) (show t.flat=true from hs) hr
 | .pair a b,x,cs,own,pl,iK,hs,hr,ho=>by
   have hs:(a.cp (L9 own [0])&&b.cp (uO own))=true:=hs
   rw[Bool.and_eq_true] at hs
   obtain⟨c1,c2,h1,h2,h3⟩:=hr
   subst h1
   exact⟨c1,c2,rfl,aR.cp h (pl:=fun p=>pl (0::p)) (fun p n=>iK _ n) hs.1 h2 (acK h2 ho),aR.cp h (pl:=plS pl) (fun p n=>by cases p<;>exact iK _ n) hs.2 h3 (acL h2.len ho)⟩
 | .sl e t,xs,cs,own,pl,iK,hs,hr,ho=>by
   have hs:(t.flat&&mG own [])=true:=hs
   rw[Bool.and_eq_true] at hs
   obtain⟨A,c,dw,hle,dN⟩:=hr
   subst dw
   refine⟨A,c,rfl,hle,fun j x hj=> ?_⟩
   obtain⟨ad,dU,e1,e2,e3,e4⟩:=dN j x hj
   subst e1
   refine⟨ad,dU,rfl,e2,e3.flat hs.1,fun i v hi=>h.aw ?_ (e4 i v hi)⟩
   obtain⟨e1,t1,xs1,v1,_,hg,hc,bV⟩:=ho [] (z175 hs.2)
   simp only[El.get,Option.some.injEq] at hg
   cases hg
   have xM:v1= .slice (some ad) xs.length c:=by
    have:([Value.slice (some ad) xs.length c]:List Value)[0]? =some v1:=hc
    simpa using this.symm
   subst xM
   rcases bV with⟨h0,_⟩|⟨g,cap,cur,h1,h2,h3,h4,h5,h6⟩
   ·cases h0
   ·injection h1 with k1 k2 k3
    cases k1
    rw[jH]
    intro e
    have e:g=g0:=e
    exact iK [] _ (e▸h6)
theorem au.cp{Y:aq}{g0:Nat}(h:mV X Y g0){pl:List Nat->Place}(iK:∀p n,X.ow g0≠ .row (pl p) n){bs:List (Option bm)}{sv:SV}{v:Value}(hs:sv.cp bs=true)(hr:au X pl sv v):au Y pl sv v:=by
 cases sv with
 |ah t x own=>
  obtain⟨cs,h1,h2,h3⟩:=hr
  exact⟨cs,h1.cp h iK hs h3,h2,h3.G5 h iK⟩
 |undef=>trivial
 |skip=>exact hr
 |cr=>exact hr
 |gF=>exact hr
 |over=>exact hr
 |ptr id t p=>
  obtain⟨r,h1,h2⟩:=hr
  exact⟨r,by rw[h.β];exact h1,h2⟩
 |_=>cases hs
theorem z196{bs:List (Option bm)}{id:Nat}{B:bm}(h:(bs.map Sn)[id]? =some (some B)):bs[id]? =some (some B)/\B.cp=true:=by
 rw[List.getElem?_map] at h
 obtain⟨b0,h0,h1⟩:=Option.map_eq_some_iff.1 h
 cases b0 with
 |none=>cases h1
 |some B0=>
  unfold Sn at h1
  simp only at h1
  cases hb:B0.cp with
  |false=>rw[hb] at h1;cases h1
  |true=>rw[hb] at h1;cases h1;exact⟨h0,hb⟩
structure Sr(X:aq)(o:Nat)(e:TypeId)(k n:Nat)(v:Value)(g c:Nat)(cur:Array Value):Prop where
 val:v= .slice (some ⟨g,0,none⟩) n c
 heap:X.w.heap[g]? =some (.cells cur e (0,0))
 le:n<=c
 size:cur.size=c*k
 ow:X.ow g= .row (.c o 0 []) (n*k)
theorem GZ{o:Nat}{e:TypeId}{t:Ty}{xs:List (El t)}{own:List (List Nat)}(hr:Rel X s a)(hs:s.slot o=[.ah (.sl e t) xs own])(bP:mG own []=true){i:Nat}(hi:i<xs.length):∃g c cur,Sr X o e t.cells xs.length (a.tmps.getD o Go.undef) g c cur:=by
 have jj:=hr.slot o
 rw[hs] at jj
 obtain⟨cs,aM,hv,hO⟩:=(show au X (.c o 0) (.ah (.sl e t) xs own) (a.tmps.getD o Go.undef) from jj)
 obtain⟨e1,t1,xs1,v1,_,hg,hc,bV⟩:=hO [] (z175 bP)
 simp only[El.get,Option.some.injEq] at hg
 cases hg
 obtain⟨A,c,dw,hle,dN⟩:=aM
 subst dw
 have hv:a.tmps.getD o Go.undef= .slice A xs.length c:=hv
 have xM:v1= .slice A xs.length c:=by
  have:([Value.slice A xs.length c]:List Value)[0]? =some v1:=hc
  simpa using this.symm
 subst xM
 rcases bV with⟨_,h0⟩|⟨g,cap,cur,h1,h2,h3,h4,h5,h6⟩
 ·have h0:List.length xs=0:=h0
  omega
 injection h1 with k1 k2 k3
 subst k1 k3
 exact⟨g,c,cur,hv,h2,hle,h5,h6⟩
theorem Ik{g:Nat}{new:Array Value}:mV X (X.row g new) g:=⟨fun b hb=>setRow_other X.w g b _ hb,rfl,rfl⟩
theorem acT{X0:aq}(hF:∀g pl n,X0.ow g≠ .row pl n)(hx:Ext X0 X){g m:Nat}{pl:Place}{new:Array Value}(how:X.ow g= .row pl m):Ext X0 (X.row g new):=by
 have kK:∀b,b≠g->(X.row g new).w.heap[b]? =X.w.heap[b]? :=fun b hb=>setRow_other X.w g b _ hb
 have rS:∀ad v,X0.aw ad v->ad.block≠g:=fun ad v dq e0=>by
  have ap:=aq.gJ dq
  have hu:=dq.2.2
  cases hw:X0.ow ad.block with
  |all=>have:=(hx.still ad.block ap (by rw[hw];trivial)).1;rw[e0,how] at this;rw[<-e0,hw] at this;cases this
  |ro n=>have:=(hx.still ad.block ap (by rw[hw];trivial)).1;rw[e0,how] at this;rw[<-e0,hw] at this;cases this
  |box id=>rw[hw] at hu;exact hu
  |row pl n=>exact hF _ _ _ hw
 refine⟨fun ad v dq=>Ik.aw (rS ad v dq) (hx.aw ad v dq),?_,hx.os,hx.tape,hx.output,hx.β0,fun b hb ct=> ?_⟩
 ·have:=hx.size
  simpa [aq.row] using this
 ·have h7:=hx.still b hb ct
  have cg:b≠g:=fun e0=>by
   have h8:=h7.1
   rw[e0,how] at h8
   rw[e0,<-h8] at ct
   exact ct
  exact⟨h7.1,(kK b cg).trans h7.2⟩
theorem ZB(hr:Rel X s a){x g m:Nat}{new:Array Value}(how:X.ow g= .row (.c x 0 []) m):Rel (X.row g new) (s.cp x) a:=by
 have hB:mV X (X.row g new) g:=Ik
 refine⟨by simpa [State.cp] using hr.size,by simpa [State.cp] using hr.gM,fun j l v hl hv=> ?_,fun id B hb=> ?_,fun j l id t p hl hm=> ?_,hr.defers⟩
 ·simp only[State.cp,List.getElem?_map] at hl
  obtain⟨l0,h0,rfl⟩:=Option.map_eq_some_iff.1 hl
  unfold hold
  cases dX:l0.all (SV.cp s.bs) with
  |false=>trivial
  |true=>
   rw[cond_true]
   rw[List.getElem?_set] at h0
   by_cases Tt:x=j
   ·subst Tt
    rw[if_pos rfl] at h0
    split at h0
    ·cases h0;trivial
    ·cases h0
   ·rw[if_neg Tt] at h0
    exact(hr.bL j l0 v h0 hv).jQ fun k sv u hk hu=>hu.cp hB (fun p n e=>by rw[how] at e;injection e with e _;injection e with e _;exact Tt e) (List.all_eq_true.1 dX sv (List.mem_of_getElem? hk))
 ·obtain⟨h1,h2⟩:=z196 hb
  obtain⟨r,k1,k2⟩:=hr.boxes id B h1
  unfold bm.cp at h2
  rw[Bool.and_eq_true] at h2
  have eX:B.t.bH=false:=by simpa using h2.1
  obtain⟨cs,T,aG,aM,na,bP⟩:=k2.cells eX
  have cg:r≠g:=fun e=>by rw[e,how] at na;cases na
  have iK:∀p n,X.ow g≠ .row (.b id p) n:=fun p n e=>by rw[how] at e;injection e with e _;cases e
  exact⟨r,k1,by rw[hB.ow];exact na,dg.of eX ((hB.heap r cg).trans aG) (aM.cp hB iK h2.2 bP) (bP.G5 hB iK)⟩
 ·simp only[State.cp,List.getElem?_map] at hl
  obtain⟨l0,h0,rfl⟩:=Option.map_eq_some_iff.1 hl
  unfold hold at hm
  cases dX:l0.all (SV.cp s.bs) with
  |false=>rw[dX] at hm;simp at hm
  |true=>
   rw[dX,cond_true] at hm
   have h1:=List.all_eq_true.1 dX _ hm
   unfold SV.cp at h1
   simp only at h1
   split at h1
   case h_2=>cases h1
   rename_i B hB
   have hb:=ql (s:=s) hB
   exact⟨B,by simp only[State.cp,List.getElem?_map,hb,Option.map_some,Sn,h1,cond_true]⟩
theorem zt3{α:Type}:∀{l r:List α} {x y:α},P6 l=some (r,x,y)->l=r++ [x,y]
 | [],_,_,_,h=>by cases h
 | [_],_,_,_,h=>by cases h
 | [a,b],_,_,_,h=>by cases h;rfl
 |a::b::c::r,_,_,_,h=>by
  simp only[P6] at h
  split at h
  case h_2=>cases h
  rename_i l x y hl
  cases h
  have:=zt3 (l:=b::c::r) hl
  rw[this];rfl
theorem Im(hE:ak P E){C:ag}(hC:C.Nat)(hf:∀f,cN P C f){ops:Array Oper}{s':State}{Q:Exit->Act->World->Prop}{rest:List Nat}:∀(l:List Nat) (X:aq) (s:State) (a:Act),Rel X s a->(∀i∈l,i<ops.size)->
 steps E (C State) ops.toList (l.map fun i=>ops.getD i default) s some=some s'->(∀Y a',Ext X Y->Rel Y s' a'->wpOps P ops Q rest a' Y.w)->wpOps P ops Q (l++rest) a X.w
 | [],X,s,a,hr,_,h,hQ=>by
   cases h
   exact hQ X a (Ext.refl X) hr
 |i::r,X,s,a,hr,hl,h,hQ=>by
  simp only[List.map_cons,steps] at h
  obtain⟨s1,h1,h2⟩:=lg (zoo hC (F:=fun s=>steps E (C State) ops.toList (r.map fun i=>ops.getD i default) s some) (G:=some) (K:=fun s=>steps E (C State) ops.toList (r.map fun i=>ops.getD i default) s some) (fun _=>rfl)) h
  have hi:ops[i]? =some (ops.getD i default):=by
   have:=hl i (by simp)
   simp [this]
  rw[List.cons_append,wpOps_cons]
  refine zy0 hE hr hC hf hi h1 fun Y a' bd bq=> ?_
  exact Im hE hC hf r Y s1 a' bq (fun j hj=>hl j (List.mem_cons_of_mem _ hj)) h2 fun Z a2 bR dc=>hQ Z a2 (bd.trans bR) dc
theorem acM(hE:ak P E){X0:aq}(hF:∀g pl n,X0.ow g≠ .row pl n)(hx:Ext X0 X)(hr:Rel X s a){ops:Array Oper}{k l:Nat}{oA oS:Oper}(hA:ops[k]? =some oA)(hS:ops[l]? =some oS){s':State}(h:iu E oA oS s some=some s'){Q:Exit->Act->World->Prop}(hQ:∀Y a',Ext X0 Y->Rel Y s' a'->Q .normal a' Y.w):wpOps P ops Q [k,l] a X.w:=by
 unfold iu at h
 split at h
 case h_2=>cases h
 rename_i T x i T' d vo hoA hoS
 cases iC:(isDst oA d&&(!(Nat.beq x d)&&ss oS)) with
 |false=>rw[iC] at h;cases h
 |true=>
 rw[iC,cond_true] at h
 rw[Bool.and_eq_true,Bool.and_eq_true] at iC
 obtain⟨hd,Ts,qh⟩:=iC
 have qh:oS.dst=none/\oS.guard=none:=by
  unfold ss at qh
  split at qh
  ·exact⟨by assumption,by assumption⟩
  ·cases qh
 have Ts:x≠d:=fun e=>by rw[e] at Ts;simp at Ts
 unfold sA at h
 split at h
 case h_2=>cases h
 rename_i e t xs own Tp
 cases hb:mG own [] with
 |false=>rw[hb] at h;cases h
 |true=>
 rw[hb,cond_true] at h
 split at h
 case h_2=>cases h
 rename_i u w hT xx
 cases hu:(u.ci (.sl e t)&&(w.ci t&&Nat.ble (d+1) s.sl.length)) with
 |false=>rw[hu] at h;cases h
 |true=>
 rw[hu,cond_true] at h
 rw[Bool.and_eq_true,Bool.and_eq_true] at hu
 have:=Ty.aK hu.1
 subst this
 have:=Ty.aK hu.2.1
 subst this
 have hds:d<a.tmps.size:=by rw[<-hr.size];exact Nat.le_of_ble_eq_true hu.2.2
 obtain⟨n,kk,h,hn⟩:=zoi h
 obtain⟨y,h,hy⟩:=zz h
 obtain⟨h0,h1,h⟩:=ye h
 cases h
 have hi:n.toNat<xs.length:=by omega
 obtain⟨g,c,cur,hR⟩:=GZ hr Tp hb hi
 have fV:=hn X _ _ (hr.az i)
 have hU:=hE.ty T _ hT
 have ev:a.eval (.tmp x)= .slice (some ⟨g,0,none⟩) xs.length c:=hR.val
 have GD:(execOp a.eval oA).run P X.w= .ok (.value (.pointer (some ⟨g,n.toNat*w.cells,none⟩))) X.w:=by
  have ap:n<(xs.length:Int):=h1
  simp only[execOp,hoA,Sem.run_bind,Instr.indexAt,fV,ev,asIntOf,Sem.run_pure,Result.andThen_ok,run_underlying hU.cS.1,Sem.run_ite,h0,ap,and_self,if_true,kY hE hU.cS.2]
  simp [jH]
 refine raw hA hd GD ?_
 have eA:Rel X (s.aJ (some d) [.undef]) (a.put (some d) (.pointer (some ⟨g,n.toNat*w.cells,none⟩))):=hr.put (fun _ _=>trivial) (fun id t p hm=>by simp at hm)
 have evd:(a.put (some d) (.pointer (some ⟨g,n.toNat*w.cells,none⟩))).eval (.tmp d)= .pointer (some ⟨g,n.toNat*w.cells,none⟩):=by
  show(a.put (some d) _).tmps.getD d Go.undef=_
  rw[oZ hds,if_pos rfl]
 generalize a.put (some d) (.pointer (some ⟨g,n.toNat*w.cells,none⟩))=a1 at eA evd⊢
 obtain⟨cs,mc,SH⟩:=hy X _ _ (eA.az vo)
 have hle:(n.toNat+1)*w.cells<=c*w.cells:=Nat.mul_le_mul_right _ (by have:=hR.le;omega)
 rw[Nat.add_mul,Nat.one_mul] at hle
 have ct:=MT (P:=P) hE xx mc (r:=g) (off:=n.toNat*w.cells) (w:=X.w) hR.heap (by rw[hR.size];exact hle)
 rw[wpOps_cons]
 unfold wpOp
 simp only[hS]
 have hw:Region.wanted oS (yielded ops a1.tmps)=true:=by simp [Region.wanted,qh.2]
 rw[if_pos hw]
 refine .inl ?_
 unfold Oper.wp
 generalize jP:(cur.toList.take (n.toNat*w.cells)++cs++cur.toList.drop (n.toNat*w.cells+cs.length)).toArray=new at ct
 have aW:(execOp a1.eval oS).run P X.w= .ok .skip (X.row g new).w:=by
  simp only[execOp,hoS,Sem.run_bind,Instr.storeAt,evd,Instr.sureAddr,Sem.run_pure,Result.andThen_ok,SH,ct]
  rfl
 rw[aW,Oper.upon_skip,qh.1]
 exact hQ _ a1 (acT hF hx hR.ow) (ZB eA hR.ow)
theorem Zq(hE:ak P E){C:ag}(hC:C.Nat)(hf:∀f,cN P C f){X0:aq}(hF:∀g pl n,X0.ow g≠ .row pl n)(hx:Ext X0 X)(hr:Rel X s a){id:Nat}{ops:Array Oper}{s':State}(h:kn E (C State) ops.toList s some=some s'){Q:Exit->Act->World->Prop}(hQ:∀Y a',Ext X0 Y->Rel Y s' a'->Q .normal a' Y.w):(Code.region id ops false).wp P Q a X.w:=by
 unfold kn at h
 split at h
 case h_2=>cases h
 rename_i l oA oS hl
 obtain⟨s1,h1,h2⟩:=lg (KC hC (F:=fun s=>iu E oA oS s some) (G:=some) (K:=fun s=>iu E oA oS s some) (fun _=>rfl) l s) h
 have m9:=zt3 hl
 have cj:ops.size=l.length+2:=by rw[<-Array.length_toList,m9];simp
 refine wp_region ?_
 have nf:List.range ops.size=List.range l.length++ [l.length,l.length+1]:=by
  rw[cj,List.range_succ,List.range_succ,List.append_assoc];rfl
 rw[nf]
 have hA:ops[l.length]? =some oA:=by rw[<-Array.getElem?_toList,m9,List.getElem?_append_right (Nat.le_refl _),Nat.sub_self];rfl
 have hS:ops[l.length+1]? =some oS:=by rw[<-Array.getElem?_toList,m9,List.getElem?_append_right (by omega),Nat.add_sub_cancel_left];rfl
 have pO:(List.range l.length).map (fun i=>ops.getD i default)=l:=by
  apply List.ext_getElem?
  intro i
  rw[List.getElem?_map]
  by_cases hi:i<l.length
  ·have h3:ops[i]? =l[i]? :=by rw[<-Array.getElem?_toList,m9,List.getElem?_append_left hi]
   have h4:i<ops.size:=by omega
   rw[List.getElem?_range hi,<-h3]
   simp [h4]
  ·rw[List.getElem?_eq_none (by simpa using hi),List.getElem?_eq_none (by omega)];rfl
 refine Im hE hC hf (List.range l.length) X s a hr (fun i hi=>by have:=List.mem_range.1 hi;omega) (by rw[pO];exact h1) fun Y a' bd bq=> ?_
 exact acM hE hF (hx.trans bd) bq hA hS h2 hQ
end Go.Ref

namespace Go.Ref
open Go
variable {P:Program} {E:Env} {X:aq} {s:State} {a:Act}
def Ex.exit':Ex->Exit
 | .normal=> .normal
 | .exit id=> .exit id
 | .ret=> .ret
theorem ZX{Q:Exit->Act->World->Prop}{c:Code}(I:Nat->Act->World->Prop)(round:∀n a w,I n a w->∃m,n=m+1/\c.wp P (Exit.then (I m) Q) a w){n:Nat}{a:Act}{w:World}(h₀:I n a w):(Code.loop c).wp P Q a w:=by
 intro b k cs
 have key:∀n a w,I n a w->∃e a' w',Q e a' w'/\Arrives P (lone (b.at a (.code c:: .inLoop c::k)) cs w) b k cs e a' w':=by
  intro n
  induction n with
  |zero=>intro a w h;obtain⟨m,hm,_⟩:=round 0 a w h;cases hm
  |succ n ih=>
   intro a w h
   obtain⟨m,hm,hr⟩:=round (n+1) a w h
   cases hm
   obtain⟨e,a₁,w₁,hq,lP⟩:=hr b (.inLoop c::k) cs
   cases e with
   |normal=>
    obtain⟨e₂,a₂,w₂,hq₂,harr₂⟩:=ih a₁ w₁ hq
    exact⟨e₂,a₂,w₂,hq₂,.of_steps (Steps.trans lP (.one step_inLoop)) harr₂⟩
   |exit id=>exact⟨_,a₁,w₁,hq,.pass (x:= .inLoop c) rfl (fun _ _=> .inl (by simp)) lP⟩
   |goto l=>exact⟨_,a₁,w₁,hq,.pass (x:= .inLoop c) rfl (fun _ _=> .inl (by simp)) lP⟩
   |ret=>exact⟨_,a₁,w₁,hq,.pass (x:= .inLoop c) rfl (fun _ _=> .inl (by simp)) lP⟩
   |panic ch=>exact⟨_,a₁,w₁,hq,.pass (x:= .inLoop c) rfl (fun _ _=> .inl (by simp)) lP⟩
   |outgrown=>exact⟨_,a₁,w₁,hq,.pass (x:= .inLoop c) rfl (fun _ _=> .inl (by simp)) lP⟩
 obtain⟨e,a',w',hq,lP⟩:=key n a w h₀
 exact⟨e,a',w',hq,.of_steps (.one step_loop) lP⟩
theorem KA{α:Type}(z:α)(l:List Nat):∀(xs:List α) (i j:Nat),(fm z l i xs)[j]? =(xs[j]?).map fun x=>bif l.any (Nat.beq (i+j)) then x else z
 | [],i,j=>by simp [fm]
 |x::r,i,0=>by simp [fm]
 |x::r,i,j+1=>by
  simp only[fm,List.getElem?_cons_succ]
  rw[KA z l r (i+1) j,show i+1+j=i+(j+1) by omega]
theorem zgz{α:Type}(z:α)(l:List Nat):∀(xs:List α) (i:Nat),(fm z l i xs).length=xs.length
 | [],i=>rfl
 |x::r,i=>by simp [fm,zgz z l r]
theorem H6{p q:List Nat}:∀{l:List (List Nat)},q∈sg p l->q=p\/q∈l
 | [],h=>by simp [sg] at h;exact .inl h
 |r::l,h=>by
  simp only[sg] at h
  cases hl:TH r p with
  |false=>rw[hl] at h;simpa using h
  |true=>
   rw[hl] at h
   rcases List.mem_cons.1 h with h|h
   ·exact .inr (by simp [h])
   ·rcases H6 h with h|h
    ·exact .inl h
    ·exact .inr (List.mem_cons_of_mem _ h)
theorem zh0{q:List Nat}:∀{l:List (List Nat)},q∈oP l->q∈l
 | [],h=>h
 |p::l,h=>by
  rcases H6 h with h|h
  ·simp [h]
  ·exact List.mem_cons_of_mem _ (zh0 h)
theorem acI{v:SV}{id:Nat}{t:Ty}{p:List Nat}(h:v.norm= .ptr id t p):v= .ptr id t p:=by
 cases v<;>simp [SV.norm] at h
 obtain⟨h1,h2,h3⟩:=h
 rw[h1,h2,h3]
theorem au.norm{pl:List Nat->Place}{sv:SV}{v:Value}(hr:au X pl sv v):au X pl sv.norm v:=by
 cases sv with
 |ah t x own=>
  obtain⟨cs,h1,h2,h3⟩:=hr
  exact⟨cs,h1,h2,fun p hp=>h3 p (zh0 hp)⟩
 |_=>exact hr
theorem cB.norm{pl:Nat->List Nat->Place}{l:List SV}{v:Value}(hr:cB X pl l v):cB X pl (l.map SV.norm) v:=by
 match l,hr with
 | [s],hr=>exact au.norm hr
 | [],hr=>exact hr
 |x::y::r,⟨vs,h1,h2,h3⟩=>
  refine⟨vs,h1,by simpa using h2,fun j s u hs hu=> ?_⟩
  have hs:((x::y::r).map SV.norm)[j]? =some s:=hs
  rw[List.getElem?_map] at hs
  obtain⟨s0,fW,rfl⟩:=Option.map_eq_some_iff.1 hs
  exact au.norm (h3 j s0 u fW hu)
theorem dg.less{r:Nat}{pl:List Nat->Place}{t:Ty}{x:El t}{own l9:List (List Nat)}(ho:∀p∈l9,p∈own)(h:dg X r pl t x own):dg X r pl t x l9:=by
 unfold dg at h⊢
 split at h
 ·exact h
 ·exact h
 ·exact h
 ·exact⟨h.1,fun hm=>h.2 (ho [] hm)⟩
 ·exact h.elim
 ·obtain⟨cs,T,h1,h2,h3⟩:=h
  exact⟨cs,T,h1,h2,fun p hp=>h3 p (ho p hp)⟩
theorem Rel.norm(hr:Rel X s a):Rel X s.norm a where
 size:=by simpa [State.norm] using hr.size
 gM:=by simpa [State.norm] using hr.gM
 bL:=fun i l v hl hv=>by
  simp only[State.norm,List.getElem?_map] at hl
  obtain⟨l0,h0,rfl⟩:=Option.map_eq_some_iff.1 hl
  exact cB.norm (hr.bL i l0 v h0 hv)
 boxes:=fun id B hB=>by
  simp only[State.norm,List.getElem?_map] at hB
  obtain⟨b0,h0,h1⟩:=Option.map_eq_some_iff.1 hB
  obtain⟨B0,rfl,rfl⟩:=Option.map_eq_some_iff.1 h1
  obtain⟨r,g1,g2,g3⟩:=hr.boxes id B0 h0
  exact⟨r,g1,g2,g3.less fun p hp=>zh0 hp⟩
 live:=fun i l id t p hl hm=>by
  simp only[State.norm,List.getElem?_map] at hl
  obtain⟨l0,h0,rfl⟩:=Option.map_eq_some_iff.1 hl
  obtain⟨v0,hv0,he⟩:=List.mem_map.1 hm
  rw[acI he] at hv0
  obtain⟨B,hB⟩:=hr.live i l0 id t p h0 hv0
  exact⟨B.norm,by simp [State.norm,hB]⟩
 defers:=hr.defers
theorem Kx(hr:Rel X s a){l:List Nat}{R:Type}{K:State->Option R}{z:R}(h:p6 l s K=some z):∃s',K s'=some z/\Rel X s' a:=by
 unfold p6 at h
 simp only at h
 cases hb:(fm [.undef] l 0 s.sl).all (fun v=>v.all (SV.roots l)) with
 |false=>rw[hb] at h;cases h
 |true=>
  rw[hb] at h
  refine⟨_,h,Rel.norm ?_⟩
  have jB:s.bs=s.bs.headD none::s.bs.tail:=by
   have:=hr.gM
   cases hs:s.bs with
   |nil=>rw[hs] at this;simp at this
   |cons b r=>rfl
  have cu:∀(id:Nat) B,(s.bs.headD none::fm none l 0 s.bs.tail)[id]? =some (some B)->s.bs[id]? =some (some B):=by
   intro id B hB
   rw[jB]
   cases id with
   |zero=>exact hB
   |succ id=>
    simp only[List.getElem?_cons_succ] at hB⊢
    rw[KA] at hB
    obtain⟨x,hx,he⟩:=Option.map_eq_some_iff.1 hB
    rw[hx]
    cases hl:l.any (Nat.beq (0+id))<;>rw[hl] at he
    ·cases he
    ·rw[<-he];rfl
  refine⟨by rw[zgz];exact hr.size,?_,fun i v x hv hx=> ?_,fun id B hB=>hr.boxes id B (cu id B hB),fun i v id t p hv hm=> ?_,hr.defers⟩
  ·simp only[List.length_cons,zgz,List.length_tail]
   have:=hr.gM
   omega
  ·rw[KA] at hv
   obtain⟨y,hy,rfl⟩:=Option.map_eq_some_iff.1 hv
   cases hl:l.any (Nat.beq (0+i)) with
   |false=>trivial
   |true=>exact hr.bL i y x hy hx
  ·have Gz:SV.roots l (.ptr id t p)=true:=by
    have:=List.all_eq_true.1 hb v (List.mem_of_getElem? hv)
    exact List.all_eq_true.1 this _ hm
   rw[KA] at hv
   obtain⟨y,hy,he⟩:=Option.map_eq_some_iff.1 hv
   have S6:SV.ptr id t p∈y:=by
    cases hl:l.any (Nat.beq (0+i)) with
    |false=>rw[hl] at he;subst he;simp at hm
    |true=>rw[hl] at he;subst he;exact hm
   obtain⟨B,hB⟩:=hr.live i y id t p hy S6
   refine⟨B,?_⟩
   rw[jB] at hB
   cases id with
   |zero=>exact hB
   |succ id=>
    simp only[List.getElem?_cons_succ] at hB⊢
    rw[KA,hB]
    have:l.any (Nat.beq id)=true:=Gz
    have h2:l.any (Nat.beq (0+id))=true:=by rw[Nat.zero_add];exact this
    simp [this]
theorem ab3{Y:aq}{id:Nat}{pl:Nat->List Nat->Place}{l:List SV}{v:Value}(hr:cB Y pl l v):cB Y pl (uN id l) v:=by
 have key:∀(sv:SV) (q:List Nat->Place) (w:Value),au Y q sv w->au Y q (match sv with
  | .ptr j _ _=>bif Nat.beq j id then .undef else sv
  |v=>v) w:=by
  intro sv q w h
  cases sv with
  |ptr j t p=>
   simp only
   cases Nat.beq j id with
   |true=>trivial
   |false=>exact h
  |_=>exact h
 match l,hr with
 | [sv],hr=>exact key sv _ _ hr
 | [],hr=>exact hr
 |x::y::r,⟨vs,h1,h2,h3⟩=>
  refine⟨vs,h1,by simpa [uN] using h2,fun j s u hs hu=> ?_⟩
  have hs:(uN id (x::y::r))[j]? =some s:=hs
  unfold uN at hs
  rw[List.getElem?_map] at hs
  obtain⟨s0,fW,rfl⟩:=Option.map_eq_some_iff.1 hs
  exact key s0 _ _ (h3 j s0 u fW hu)
theorem aeY{id:Nat}{l:List SV}{j:Nat}{t:Ty}{p:List Nat}(h:SV.ptr j t p∈uN id l):SV.ptr j t p∈l/\j≠id:=by
 unfold uN at h
 obtain⟨s0,fW,he⟩:=List.mem_map.1 h
 cases s0 with
 |ptr j' t' p'=>
  simp only at he
  cases hb:Nat.beq j' id with
  |true=>rw[hb] at he;cases he
  |false=>
   rw[hb] at he
   cases he
   exact⟨fW,fun e=>Nat.ne_of_beq_eq_false hb e⟩
 |_=>simp only at he;cases he
def aq.still(X:aq)(r n:Nat):aq:={X with ow:=fun g=>if g=r then .ro n else X.ow g}
theorem vD{r n id:Nat}(h:X.ow r= .box id){ad:Addr}{v:Value}(hs:X.aw ad v):(X.still r n).aw ad v:=by
 have cg:ad.block≠r:=fun e=>by
  have:=hs.2.2
  rw[e,h] at this
  exact this
 refine⟨hs.1,hs.2.1,?_⟩
 simp only[aq.still]
 rw[if_neg cg]
 exact hs.2.2
theorem zzy{r n id:Nat}(h:X.ow r= .box id):Ext X (X.still r n) where
 aw:=fun _ _=>vD h
 size:=Nat.le_refl _
 os:=rfl
 tape:=rfl
 output:=rfl
 β0:=rfl
 still:=fun g _ ct=>by
  have cg:g≠r:=fun e=>by rw[e,h] at ct;exact ct
  exact⟨by simp only[aq.still];rw[if_neg cg],rfl⟩
theorem bj.dG{r n id:Nat}(h:X.ow r= .box id){pl:Place}{e:TypeId}{k m:Nat}{v:Value}(ho:bj X pl e k m v):bj (X.still r n) pl e k m v:=by
 rcases ho with ho|⟨g,cap,cur,h1,h2,h3,h4,h5,h6⟩
 ·exact .inl ho
 ·have cg:g≠r:=fun e=>by rw[e,h] at h6;cases h6
  exact .inr ⟨g,cap,cur,h1,h2,h3,h4,h5,by simp only[aq.still];rw[if_neg cg];exact h6⟩
theorem bg.dG{r n id:Nat}(h:X.ow r= .box id){pl:List Nat->Place}{t:Ty}{x:El t}{c:List Value}{own:List (List Nat)}(ho:bg X pl t x c own):bg (X.still r n) pl t x c own:=fun p hp=>by
 obtain⟨e,t',xs,v,g0,g1,g2,g3⟩:=ho p hp
 exact⟨e,t',xs,v,g0,g1,g2,g3.dG h⟩
theorem au.dG{r n id:Nat}(h:X.ow r= .box id){pl:List Nat->Place}{sv:SV}{v:Value}(hr:au X pl sv v):au (X.still r n) pl sv v:=by
 cases sv with
 |ah t x own=>
  obtain⟨c,h1,h2,h3⟩:=hr
  exact⟨c,h1.al (fun _ _=>vD h),h2,h3.dG h⟩
 |view t x=>
  obtain⟨ad,c,h1,h2,h3,h4⟩:=hr
  exact⟨ad,c,h1,h2,h3.al (fun _ _=>vD h),fun i u hi=>vD h (h4 i u hi)⟩
 |cap f t x u y=>exact ti (fun _ _=>vD h) hr
 |_=>exact hr
theorem zgh(l:List Nat):∀(xs:List (Option bm)) (i j:Nat),(ic l i xs)[j]? =(xs[j]?).map fun b=>bif l.any (Nat.beq (i+j)) then b.map (fun B=>{B with own:=[]}) else b
 | [],i,j=>by simp [ic]
 |x::r,i,0=>by simp [ic]
 |x::r,i,j+1=>by
  simp only[ic,List.getElem?_cons_succ]
  rw[zgh l r (i+1) j,show i+1+j=i+(j+1) by omega]
theorem zyv(l:List Nat):∀(xs:List (Option bm)) (i:Nat),(ic l i xs).length=xs.length
 | [],i=>rfl
 |x::r,i=>by simp [ic,zyv l r]
theorem Rel.drop(hr:Rel X s a)(l:List Nat):Rel X (s.drop l) a where
 size:=hr.size
 gM:=by simp only[State.drop,zyv];exact hr.gM
 bL:=hr.bL
 boxes:=fun id B hB=>by
  simp only[State.drop,zgh] at hB
  obtain⟨b0,h0,h1⟩:=Option.map_eq_some_iff.1 hB
  cases hl:l.any (Nat.beq (0+id)) with
  |false=>rw[hl] at h1;simp only[cond_false] at h1;subst h1;exact hr.boxes id B h0
  |true=>
   rw[hl] at h1
   simp only[cond_true] at h1
   obtain⟨B0,rfl,rfl⟩:=Option.map_eq_some_iff.1 h1
   obtain⟨r,g1,g2,g3⟩:=hr.boxes id B0 h0
   exact⟨r,g1,g2,g3.less fun p hp=>by cases hp⟩
 live:=fun i v id t p hv hm=>by
  obtain⟨B,hB⟩:=hr.live i v id t p hv hm
  simp only[State.drop,zgh,hB,Option.map_some]
  cases l.any (Nat.beq (0+id))<;>exact⟨_,rfl⟩
 defers:=hr.defers
theorem ac3(hr:Rel X s a){r:Nat}{R:Type}{K:State->Option R}{z:R}(h:pS E r s K=some z):∃Y s',Y.w=X.w/\Ext X Y/\K s'=some z/\Rel Y s' a:=by
 unfold pS at h
 split at h
 ·exact⟨X,s,rfl,Ext.refl X,h,hr⟩
 rename_i d T hfz
 split at h
 case h_2=>cases h
 rename_i id n ta tb e t jj hT
 split at h
 case isFalse=>cases h
 rename_i heq
 have:=Ty.aK heq
 subst this
 split at h
 case h_2=>cases h
 rename_i B hB
 split at h
 case isFalse=>cases h
 rename_i dD
 obtain⟨hb,rr,h1,how,cs,T',aG,dh,dN⟩:=Ci hr hB dD
 generalize(Ty.cast dD B.x:List (El ta))=xs at*
 cases hn:Nat.beq n (List.length xs) with
 |false=>rw[hn] at h;cases h
 |true=>
  rw[hn] at h
  have hn:=Nat.eq_of_beq_eq_true hn
  have hd:d<s.sl.length:=by
   rcases Nat.lt_or_ge d s.sl.length with h1|h1
   ·exact h1
   ·simp [State.slot,List.getElem?_eq_none h1] at jj
  have lX:=hr.slot d
  rw[jj] at lX
  obtain⟨r0,hβ,cap,hv,lR⟩:=(show au X (.c d 0) (.ptr id (.aV (.fU n) ta tb) []) _ from lX)
  rw[h1] at hβ
  cases hβ
  have ap:id<s.bs.length:=(List.getElem?_eq_some_iff.1 hb).1
  refine⟨X.still rr (xs.length*ta.cells),_,rfl,zzy how,h,?_,?_,fun i l v hl hx=> ?_,fun bY B' fA=> ?_,fun i l j t p hl hm=> ?_,hr.defers⟩
  ·simpa using hr.size
  ·simpa using hr.gM
  ·replace hl:((s.sl.map (uN id)).set d [.ah (.sl e ta) xs []])[i]? =some l:=hl
   rw[List.getElem?_set] at hl
   split at hl
   ·rename_i uW
    subst uW
    rw[if_pos (by simpa using hd)] at hl
    cases hl
    have GJ:a.tmps.getD d Go.undef=v:=by
     rw[Array.getD_eq_getD_getElem?,hx];rfl
    rw[GJ] at hv
    refine⟨[v],?_,rfl,mo⟩
    rw[hv,hn]
    refine aR.vu rfl (by omega) (fun j y hj=>⟨⟨rr,0,none⟩,_,rfl,rfl,(dN j y hj).al (fun _ _=>vD how),fun i u hi=> ?_⟩)
    have uY:=(List.getElem?_eq_some_iff.1 hj).1
    have hle:(j+1)*ta.cells<=xs.length*ta.cells:=Nat.mul_le_mul_right _ uY
    rw[Nat.add_mul,Nat.one_mul] at hle
    rw[List.getElem?_take] at hi
    split at hi
    case isFalse=>cases hi
    rename_i Mu
    rw[List.getElem?_drop] at hi
    refine⟨yi rfl _,?_,?_⟩
    ·rw[jH,Nat.zero_add]
     show X.w.cell? _=_
     simp only[World.cell?,aG]
     simpa using hi
    ·rw[jH,Nat.zero_add]
     show Ow.used (if rr=rr then .ro (xs.length*ta.cells) else X.ow rr) _
     rw[if_pos rfl]
     show j*ta.cells+i<_
     omega
   ·rw[List.getElem?_map] at hl
    obtain⟨l0,h0,rfl⟩:=Option.map_eq_some_iff.1 hl
    exact ab3 ((hr.bL i l0 v h0 hx).jQ fun j sv u hm jD=>jD.dG how)
  ·replace fA:(s.bs.set id none)[bY]? =some (some B'):=fA
   rw[List.getElem?_set] at fA
   split at fA
   ·rename_i Mt
    cases fA
   ·rename_i Mt
    obtain⟨r',g1,g2,g3⟩:=hr.boxes bY B' fA
    have cg:r'≠rr:=fun e2=>by rw[e2,how] at g2;cases g2;exact Mt rfl
    exact⟨r',g1,by simp only[aq.still];rw[if_neg cg];exact g2,g3.move (fun _ _=>vD how) rfl (fun cs h5=>h5.dG how) fun _ g o ho hw=>⟨ho,by simp only[aq.still];rw[if_neg (fun e3=>by rw[e3,how] at hw;cases hw)];exact hw⟩⟩
  ·replace hl:((s.sl.map (uN id)).set d [.ah (.sl e ta) xs []])[i]? =some l:=hl
   rw[List.getElem?_set] at hl
   split at hl
   ·rw[if_pos (by simpa using hd)] at hl
    cases hl
    simp at hm
   ·rw[List.getElem?_map] at hl
    obtain⟨l0,h0,rfl⟩:=Option.map_eq_some_iff.1 hl
    obtain⟨hm,cg⟩:=aeY hm
    obtain⟨B2,cT⟩:=hr.live i l0 j t p h0 hm
    exact⟨B2,by show(s.bs.set id none)[j]? =_;rw[List.getElem?_set,if_neg (fun e=>cg e.symm)];exact cT⟩
theorem Hm(hr:Rel X s a){id rr:Nat}{B:bm}(hb:s.bs[id]? =some (some B))(hs:B.t.bH=false)(h1:X.β id=some rr)(how:X.ow rr= .box id){cs:Array Value}{T:TypeId}(aG:X.w.heap[rr]? =some (.cells cs T (0,0)))(aM:aR X B.t B.x cs.toList){pl:List Nat->Place}{sv:SV}{v:Value}(h:au X pl sv v):au (X.still rr cs.size) pl (wi id B sv) v:=by
 have di:=h.dG (n:=cs.size) how
 cases sv with
 |ptr j t p=>
  unfold wi
  simp only
  cases hj:Nat.beq j id with
  |false=>exact di
  |true=>
   have:=Nat.eq_of_beq_eq_true hj
   subst this
   simp only[cond_true]
   split
   case isFalse=>trivial
   rename_i heq
   have:=Ty.aK heq
   subst this
   split
   case h_2=>trivial
   rename_i u y cu
   obtain⟨r0,hβ,hv⟩:=h
   rw[h1] at hβ
   cases hβ
   obtain⟨hv,fV⟩:=(oU hs).1 hv
   obtain⟨k1,k2,k3⟩:=Lo aM fV cu
   refine⟨_,_,hv,rfl,k3.al (fun _ _=>vD how),fun i w hi=>⟨yi rfl _,?_,?_⟩⟩
   ·exact Np aG hi
   ·rw[jH]
    show Ow.used (if rr=rr then .ro cs.size else X.ow rr) _
    rw[if_pos rfl]
    rw[List.getElem?_take] at hi
    split at hi
    case isFalse=>cases hi
    rw[List.getElem?_drop] at hi
    have:=(List.getElem?_eq_some_iff.1 hi).1
    show _<cs.size
    simpa using this
 |_=>exact di
theorem ZS(hr:Rel X s a){id rr:Nat}{B:bm}(hb:s.bs[id]? =some (some B))(hs:B.t.bH=false)(h1:X.β id=some rr)(how:X.ow rr= .box id){cs:Array Value}{T:TypeId}(aG:X.w.heap[rr]? =some (.cells cs T (0,0)))(aM:aR X B.t B.x cs.toList){pl:Nat->List Nat->Place}{l:List SV}{v:Value}(h:cB X pl l v):cB (X.still rr cs.size) pl (l.map (wi id B)) v:=by
 match l,h with
 | [sv],h=>exact Hm hr hb hs h1 how aG aM h
 | [],⟨vs,g1,g2,g3⟩=>exact⟨vs,g1,g2,fun j sv u kL=>by simp at kL⟩
 |x::y::r,⟨vs,g1,g2,g3⟩=>
  refine⟨vs,g1,by simpa using g2,fun j sv u kL hu=> ?_⟩
  have kL:((x::y::r).map (wi id B))[j]? =some sv:=kL
  rw[List.getElem?_map] at kL
  obtain⟨s0,fW,rfl⟩:=Option.map_eq_some_iff.1 kL
  exact Hm hr hb hs h1 how aG aM (g3 j s0 u fW hu)
theorem ac8{id:Nat}{B:bm}{l:List SV}{j:Nat}{t:Ty}{p:List Nat}(h:SV.ptr j t p∈l.map (wi id B)):SV.ptr j t p∈l/\j≠id:=by
 obtain⟨s0,fW,he⟩:=List.mem_map.1 h
 unfold wi at he
 cases s0 with
 |ptr j' t' p'=>
  simp only at he
  cases hb:Nat.beq j' id with
  |true=>
   rw[hb] at he
   simp only[cond_true] at he
   split at he
   ·split at he<;>cases he
   ·cases he
  |false=>
   rw[hb] at he
   cases he
   exact⟨fW,fun e=>Nat.ne_of_beq_eq_false hb e⟩
 |_=>simp only at he;cases he
theorem V9(hr:Rel X s a){id:Nat}{R:Type}{K:State->Option R}{z:R}(h:P4 id s K=some z):∃Y s',Y.w=X.w/\Ext X Y/\K s'=some z/\Rel Y s' a:=by
 unfold P4 at h
 split at h
 case h_2=>cases h
 rename_i B hB
 split at h
 case isTrue=>cases h
 rename_i hs
 have hs:B.t.bH=false:=by simpa using hs
 have hb:=ql hB
 obtain⟨rr,h1,uQ⟩:=hr.boxes id B hb
 obtain⟨cs,T,aG,aM,how,_⟩:=uQ.cells hs
 refine⟨X.still rr cs.size,_,rfl,zzy how,h,by simpa using hr.size,by simpa using hr.gM,fun i l v hl hx=> ?_,fun bY B' fA=> ?_,fun i l j t p hl hm=> ?_,hr.defers⟩
 ·replace hl:(s.sl.map fun l=>l.map (wi id B))[i]? =some l:=hl
  rw[List.getElem?_map] at hl
  obtain⟨l0,h0,rfl⟩:=Option.map_eq_some_iff.1 hl
  exact ZS hr hb hs h1 how aG aM (hr.bL i l0 v h0 hx)
 ·replace fA:(s.bs.set id none)[bY]? =some (some B'):=fA
  rw[List.getElem?_set] at fA
  split at fA
  ·split at fA<;>cases fA
  ·rename_i Mt
   obtain⟨r',g1,g2,g3⟩:=hr.boxes bY B' fA
   have cg:r'≠rr:=fun e2=>by rw[e2,how] at g2;cases g2;exact Mt rfl
   exact⟨r',g1,by simp only[aq.still];rw[if_neg cg];exact g2,g3.move (fun _ _=>vD how) rfl (fun cs h5=>h5.dG how) fun _ g o ho hw=>⟨ho,by simp only[aq.still];rw[if_neg (fun e3=>by rw[e3,how] at hw;cases hw)];exact hw⟩⟩
 ·replace hl:(s.sl.map fun l=>l.map (wi id B))[i]? =some l:=hl
  rw[List.getElem?_map] at hl
  obtain⟨l0,h0,rfl⟩:=Option.map_eq_some_iff.1 hl
  obtain⟨hm,cg⟩:=ac8 hm
  obtain⟨B2,cT⟩:=hr.live i l0 j t p h0 hm
  exact⟨B2,by show(s.bs.set id none)[j]? =_;rw[List.getElem?_set,if_neg (fun e=>cg e.symm)];exact cT⟩
theorem zm8{R:Type}{K:State->Option R}{z:R}:∀(l:List Nat) (X:aq) (s:State),Rel X s a->z85 l s K=some z->∃Y s',Y.w=X.w/\Ext X Y/\K s'=some z/\Rel Y s' a
 | [],X,s,hr,h=>⟨X,s,rfl,Ext.refl X,h,hr⟩
 |id::r,X,s,hr,h=>by
  obtain⟨Y,s1,h1,h2,h3,h4⟩:=V9 hr h
  obtain⟨Z,s2,k1,k2,k3,k4⟩:=zm8 r Y s1 h4 h3
  exact⟨Z,s2,k1.trans h1,h2.trans k2,k3,k4⟩
def Fr(E:Env)(X0:aq):Prop:=E.sp≠none->∀g pl n,X0.ow g≠ .row pl n
def Hr(P:Program)(E:Env)(C:ag)(k:Nat)(c:Code):Prop:=
 ∀(X0 X:aq) (s:State) (a:Act) (e:Ex) (s':State),Fr E X0->Ext X0 X->Rel X s a->ev E (C (Ex×State)) k c s (fun e s=>some (e,s))=some (e,s')->
  ∀(Q:Exit->Act->World->Prop),(∀Y a',Ext X0 Y->Rel Y s' a'->Q e.exit' a' Y.w)->c.wp P Q a X.w
theorem acC(hr:Rel X s a){k r:Nat}{R:Type}{K:State->Option R}{z:R}(h:l7 E k r s K=some z):∃s',K s'=some z/\Rel X s' a:=by
 unfold l7 at h
 split at h
 ·exact⟨s,h,hr⟩
 ·obtain⟨s',h1,h2⟩:=Kx hr h
  refine⟨s',?_,h2⟩
  unfold bT at h1
  split at h1
  ·cases h1
  ·exact h1
theorem Zd{C:ag}(hC:C.Nat){k:Nat}{b:Code}(hb:Hr P E C k b){l lx:List Nat}{Q:Exit->Act->World->Prop}{e':Ex}{s':State}{X0:aq}(hF:Fr E X0)(hQ:∀Y a',Ext X0 Y->Rel Y s' a'->Q e'.exit' a' Y.w):
 ∀(n:Nat) (a:Act) (w:World),(∃X s,X.w=w/\Ext X0 X/\Rel X s a/\av (ev E (C (Ex×State)) k b) l lx n s (fun e s=>some (e,s))=some (e',s'))->
  ∃m,n=m+1/\b.wp P (Exit.then (fun a w=>∃X s,X.w=w/\Ext X0 X/\Rel X s a/\av (ev E (C (Ex×State)) k b) l lx m s (fun e s=>some (e,s))=some (e',s')) Q) a w:=by
 rintro n a w ⟨X,s,rfl,bd,hr,h⟩
 cases n with
 |zero=>cases h
 |succ m=>
  refine⟨m,rfl,?_⟩
  simp only[av] at h
  obtain⟨⟨e1,s2⟩,h1,h2⟩:=lg (tC hC b _ (fun e s=>some (e,s)) (K:=fun z=>match z.1 with
   | .normal=>p6 l z.2 fun s=>av (ev E (C (Ex×State)) k b) l lx m s (fun e s=>some (e,s))
   |e=>p6 lx z.2 fun s=>some (e,s)) (fun e s=>by cases e<;>rfl) s) h
  refine hb X0 X s a e1 s2 hF bd hr h1 _ fun Y a' bR bq=> ?_
  cases e1 with
  |normal=>
   obtain⟨s3,h3,Am⟩:=Kx bq h2
   exact⟨Y,s3,rfl,bR,Am,h3⟩
  |exit id=>
   obtain⟨s3,h3,Am⟩:=Kx bq h2
   cases h3
   exact hQ Y a' bR Am
  |ret=>
   obtain⟨s3,h3,Am⟩:=Kx bq h2
   cases h3
   exact hQ Y a' bR Am
theorem zh8(hE:ak P E)(hm:P.follows .mixedOrders=true){C:ag}(hC:C.Nat)(hf:∀f,cN P C f){id:Nat}{ops:Array Oper}{d:Bool}{X00 X0:aq}{s0:State}{a:Act}{e:Ex}{s':State}(hx:Ext X00 X0)(hr0:Rel X0 s0 a)(h0:Dx E (C (Ex×State)) id ops d s0 ((fun e s=>some (e,s)) Ex.normal)=some (e,s')){Q:Exit->Act->World->Prop}(hQ0:∀Y a',Ext X00 Y->Rel Y s' a'->Q e.exit' a' Y.w):(Code.region id ops d).wp P Q a X0.w:=by
 unfold Dx at h0
 obtain⟨X1,s1,MD,xE,h01,eA⟩:=ac3 hr0 h0
 obtain⟨X,s,s8,bR,h,hr⟩:=zm8 _ X1 s1 eA h01
 have hw:X.w=X0.w:=s8.trans MD
 have xD:Ext X0 X:=xE.trans bR
 clear h01 eA MD s8 xE bR
 have hQ:∀Y a',Ext X Y->Rel Y s' a'->Q e.exit' a' Y.w:=fun Y a' bd bq=>hQ0 Y a' (hx.trans (xD.trans bd)) bq
 rw[<-hw]
 clear h0 hr0 hQ0 xD hw
 cases d with
 |true=>
  simp only[cond_true] at h
  obtain⟨s1,h1,h2⟩:=lg (zcv hC (F:=fun s=>some (Ex.normal,s)) (G:=some) (K:=fun s=>some (Ex.normal,s)) (fun _=>rfl) ops.toList 0 s []) h
  cases h2
  exact YY hE hm hC hf hr h1 hQ
 |false=>
  simp only[cond_false] at h
  obtain⟨s1,h1,h2⟩:=lg (KC hC (F:=fun s=>some (Ex.normal,s)) (G:=some) (K:=fun s=>some (Ex.normal,s)) (fun _=>rfl) ops.toList s) h
  cases h2
  refine wp_region (Io hE hC hf (List.range ops.size) X s a hr (fun i hi=>List.mem_range.1 hi) ?_ hQ)
  have:(List.range ops.size).map (fun i=>ops.getD i default)=ops.toList:=by
   apply List.ext_getElem?
   intro i
   rw[List.getElem?_map]
   by_cases hi:i<ops.size
   ·simp [hi]
   ·simp [hi]
  rw[this];exact h1
theorem BR(hE:ak P E)(hm:P.follows .mixedOrders=true){C:ag}(hC:C.Nat)(hf:∀f,cN P C f)(k:Nat):∀c:Code,Hr P E C k c
 | .skip=>fun X0 X s a e s' hF hx hr h Q hQ=>by
   simp only[ev,Option.some.injEq,Prod.mk.injEq] at h
   obtain⟨rfl,rfl⟩:=h
   exact wp_skip (hQ X a hx hr)
 | .region id ops d=>fun X0 X s a e s' hF hx hr h Q hQ=>by
   simp only[ev] at h
   split at h
   ·rename_i j q ll
    cases hj:Nat.beq id j with
    |true=>
     rw[hj,cond_true] at h
     cases d with
     |true=>cases h
     |false=>
      cases hq:Nat.beq q.2.2 0 with
      |true=>
       simp only[hq,cond_true] at h
       obtain⟨s1,h1,h2⟩:=lg (Ig hC (F:=fun s=>some (Ex.normal,s)) (G:=some) (K:=fun s=>some (Ex.normal,s)) (fun _=>rfl)) h
       cases h2
       exact Zq hE hC hf (hF (by rw[ll];exact fun e=>by cases e)) hx hr h1 hQ
      |false=>
      simp only[hq,cond_false] at h
      obtain⟨s1,h1,h2⟩:=lg (Ip (F:=fun s=>some (Ex.normal,s)) (G:=some) (K:=fun s=>some (Ex.normal,s)) (fun _=>rfl)) h
      cases h2
      exact ZK hE (hF (by rw[ll];exact fun e=>by cases e)) hx hr h1 hQ
    |false=>
     rw[hj,cond_false] at h
     exact zh8 hE hm hC hf hx hr h hQ
   ·exact zh8 hE hm hC hf hx hr h hQ
 | .seq x y=>fun X0 X s a e s' hF hx hr h Q hQ=>by
   simp only[ev] at h
   obtain⟨⟨e1,s1⟩,h1,h2⟩:=lg (tC hC x _ (fun e s=>some (e,s)) (K:=fun z=>match z.1 with
    | .normal=>l7 E k (sN y) z.2 fun s=>ev E (C (Ex×State)) k y s (fun e s=>some (e,s))
    |e=>some (e,z.2)) (fun e s=>by cases e<;>rfl) s) h
   refine wp_seq (BR hE hm hC hf k x X0 X s a e1 s1 hF hx hr h1 _ fun Y a' bd bq=> ?_)
   cases e1 with
   |normal=>
    obtain⟨s2,h2,bq⟩:=acC bq h2
    exact BR hE hm hC hf k y X0 Y s2 a' e s' hF bd bq h2 Q hQ
   |exit id=>cases h2;exact hQ Y a' bd bq
   |ret=>cases h2;exact hQ Y a' bd bq
 | .cond c x y=>fun X0 X s a e s' hF hx hr h Q hQ=>by
   simp only[ev] at h
   have hc:=hr.az c
   split at h
   case h_2=>cases h
   rename_i p w hs
   rw[hs] at hc
   have hv:=Km hc
   have eA:Rel X (s.aJ (sH c) (bl p)) a:=by
    cases c with
    |tmp i=>
     have jj:s.slot i=[.ah .bool p w]:=by
      have hh:one (s.slot i)= .ah .bool p w:=hs
      match hm:s.slot i,hh with
      | [sv],hh=>have Ag:sv= .ah .bool p w:=hh;rw[Ag]
      | [],hh=>cases hh
      |_::_::_,hh=>cases hh
     exact(hr.know jj).1
    |_=>exact hr
   refine wp_cond_split hv (fun hp=> ?_) (fun hp=> ?_)
   ·subst hp
    exact BR hE hm hC hf k x X0 X _ a e s' hF hx eA h Q hQ
   ·subst hp
    exact BR hE hm hC hf k y X0 X _ a e s' hF hx eA h Q hQ
 | .block id b=>fun X0 X s a e s' hF hx hr h Q hQ=>by
   simp only[ev] at h
   obtain⟨⟨e1,s1⟩,h1,h2⟩:=lg (tC hC b _ (fun e s=>some (e,s)) (K:=fun z=>match z.1 with
    | .exit j=>bif Nat.beq j id then some (.normal,z.2) else some (.exit j,z.2)
    |e=>some (e,z.2)) (fun e s=>by cases e<;>rfl) s) h
   refine wp_block (BR hE hm hC hf k b X0 X s a e1 s1 hF hx hr h1 _ fun Y a' bd bq=> ?_)
   cases e1 with
   |normal=>cases h2;exact hQ Y a' bd bq
   |ret=>cases h2;exact hQ Y a' bd bq
   |exit j=>
    simp only at h2
    show(if j=id then Q .normal a' Y.w else Q (.exit j) a' Y.w)
    cases hj:Nat.beq j id with
    |true=>
     rw[hj] at h2;cases h2
     rw[if_pos (Nat.eq_of_beq_eq_true hj)]
     exact hQ Y a' bd bq
    |false=>
     rw[hj] at h2;cases h2
     rw[if_neg (Nat.ne_of_beq_eq_false hj)]
     exact hQ Y a' bd bq
 | .loop b=>fun X0 X s a e s' hF hx hr h Q hQ=>by
   simp only[ev] at h
   obtain⟨s1,h,eA⟩:=Kx (hr.drop _) h
   exact ZX _ (Zd hC (BR hE hm hC hf k b) hF (Q:=Q) hQ) ⟨X,s1,rfl,hx,eA,h⟩
 | .exit id=>fun X0 X s a e s' hF hx hr h Q hQ=>by
   simp only[ev,Option.some.injEq,Prod.mk.injEq] at h
   obtain⟨rfl,rfl⟩:=h
   exact wp_exit (hQ X a hx hr)
 | .ret=>fun X0 X s a e s' hF hx hr h Q hQ=>by
   simp only[ev,Option.some.injEq,Prod.mk.injEq] at h
   obtain⟨rfl,rfl⟩:=h
   exact wp_ret (hQ X a hx hr)
 | .rangeFunc .. =>fun X0 X s a e s' hF hx hr h Q hQ=>by simp only[ev] at h;cases h
 | .scope _=>fun X0 X s a e s' hF hx hr h Q hQ=>by simp only[ev] at h;cases h
 | .label _=>fun X0 X s a e s' hF hx hr h Q hQ=>by simp only[ev] at h;cases h
 | .goto _=>fun X0 X s a e s' hF hx hr h Q hQ=>by simp only[ev] at h;cases h
 | .refuse _=>fun X0 X s a e s' hF hx hr h Q hQ=>by simp only[ev] at h;cases h
end Go.Ref

namespace Go.Ref
open Go
variable {P:Program} {E:Env} {X:aq} {s:State} {a:Act}
def dS(X Y:aq):Prop:=Y.w=X.w/\∀g j p n,X.ow g= .row (.r j p) n->Y.ow g= .row (.r j p) n
theorem dS.refl(X:aq):dS X X:=⟨rfl,fun _ _ _ _ h=>h⟩
theorem dS.trans{X Y Z:aq}(h:dS X Y)(k:dS Y Z):dS X Z:=⟨k.1.trans h.1,fun g j p n e=>k.2 g j p n (h.2 g j p n e)⟩
theorem au.x7{X Y:aq}(h:dS X Y)(hx:Ext X Y)(hβ:Y.β=X.β){j:Nat}{sv:SV}{v:Value}(hr:au X (.r j) sv v):au Y (.r j) sv v:=by
 cases sv with
 |undef=>trivial
 |skip=>exact hr
 |cr=>exact hr
 |gF=>exact hr
 |over=>exact hr
 |ah t x own=>
  obtain⟨cs,h1,h2,h3⟩:=hr
  refine⟨cs,h1.mono hx,h2,fun p hp=> ?_⟩
  obtain⟨e,t',xs,v,g0,g1,g2,g3⟩:=h3 p hp
  refine⟨e,t',xs,v,g0,g1,g2,?_⟩
  rcases g3 with ho|⟨g,cap,cur,k1,k2,k3,k4,k5,k6⟩
  ·exact .inl ho
  ·exact .inr ⟨g,cap,cur,k1,by rw[h.1];exact k2,k3,k4,k5,h.2 _ _ _ _ k6⟩
 |ptr id t p=>obtain⟨r,h1,h2⟩:=hr;exact⟨r,by rw[hβ];exact h1,h2⟩
 |view t x=>
  obtain⟨ad,cs,h1,h2,h3,h4⟩:=hr
  exact⟨ad,cs,h1,h2,h3.mono hx,fun i u hi=>hx.aw _ _ (h4 i u hi)⟩
 |cap f t x u y=>exact ti hx.aw hr
theorem z198{X:aq}{i j:Nat}{q:List Nat->Place}:dS X (X.turn i j q):=⟨rfl,fun g j p n h=>by simp only[aq.turn,h]⟩
theorem z167{X:aq}{id:Nat}{p:List Nat}{q:List Nat->Place}:dS X (X.fO id p q):=⟨rfl,fun g j p n h=>by simp only[aq.fO,h]⟩
theorem zxy(hE:ak P E):∀(rs:List ResultVar) (X:aq) (s s':State) (l:List SV) (j0:Nat),Rel X s a->fN E s rs=some (l,s')->
 ∃Y vs,Y.w=X.w/\Ext X Y/\dS X Y/\Y.β=X.β/\Rel Y s' a/\vs.length=l.length/\(∀(j:Nat) sv v,l[j]? =some sv->vs[j]? =some v->au Y (.r (j0+j)) sv v)/\
  (rs.mapM (m:=Sem) fun x=>match x with
    | .tmp t=>pure (a.tmps.getD t Go.undef)
    | .cell ad t=>do loadVar t (<-asAddr (a.tmps.getD ad Go.undef))).run P X.w= .ok vs X.w
 | [],X,s,s',l,j0,hr,h=>by
   simp only[fN,Option.some.injEq,Prod.mk.injEq] at h
   obtain⟨rfl,rfl⟩:=h
   exact⟨X,[],rfl,Ext.refl X,dS.refl X,rfl,hr,rfl,fun j sv v hl=>by simp at hl,by simp⟩
 | .tmp t::r,X,s,s',l,j0,hr,h=>by
   simp only[fN] at h
   split at h
   case h_2=>cases h
   rename_i l1 s1 h1
   cases h
   have key:∃Y,Y.w=X.w/\Ext X Y/\dS X Y/\Y.β=X.β/\Rel Y (s.close [(t,0)]) a/\au Y (.r j0) (one (s.slot t)) (a.tmps.getD t Go.undef):=by
    have cc:=hr.az (.tmp t)
    cases hs:one (s.slot t) with
    |ah ty x w=>
     have cc:au X (.c t 0) (one (s.slot t)) (a.tmps.getD t Go.undef):=cc
     rw[hs] at cc
     obtain⟨cs,g1,g2,g3⟩:=cc
     have hT:dn (s.close [(t,0)]) X (X.turn t 0 (.r j0)):=Hi fun p=>cA.close
     exact⟨X.turn t 0 (.r j0),rfl,hT.ext,z198,rfl,(hr.close _).mod hT.mod,cs,g1.al (fun _ _=>hT.aw.1),g2,g3.kS⟩
    |_=>
     refine⟨X,rfl,Ext.refl X,dS.refl X,rfl,hr.close _,?_⟩
     have cc:au X (.c t 0) (one (s.slot t)) (a.tmps.getD t Go.undef):=cc
     rw[hs] at cc
     exact cc
   obtain⟨Y,hw,bd,ct,hβ,bq,aM⟩:=key
   obtain⟨Z,vs,s8,bR,se,hβ2,dc,hlen,lV,aW⟩:=zxy hE r Y _ s' l1 (j0+1) bq h1
   refine⟨Z,a.tmps.getD t Go.undef::vs,s8.trans hw,bd.trans bR,ct.trans se,hβ2.trans hβ,dc,by simp [hlen],fun j sv v hl hv=> ?_,?_⟩
   ·cases j with
    |zero=>
     simp only[List.getElem?_cons_zero,Option.some.injEq] at hl hv
     subst hl hv
     exact aM.x7 se bR hβ2
    |succ j=>
     simp only[List.getElem?_cons_succ] at hl hv
     rw[show j0+(j+1)=j0+1+j by omega]
     exact lV j sv v hl hv
   ·rw[hw] at aW
    simp only[List.mapM_cons,Sem.run_bind,Sem.run_pure,Result.andThen_ok,aW]
 | .cell p T::r,X,s,s',l,j0,hr,h=>by
   simp only[fN] at h
   split at h
   case h_2=>cases h
   rename_i id tt t jj hT
   split at h
   case h_2=>cases h
   rename_i B hB
   split at h
   case isFalse=>cases h
   rename_i heq
   rw[Bool.and_eq_true] at heq
   have eX:tt.bH=false:=by simpa using heq.2
   have hte:=Ty.aK heq.1
   have hnB:B.t.bH=false:=hte▸hE.gT hT
   split at h
   case h_2=>cases h
   rename_i l1 s1 h1
   cases h
   have hb:=ql hB
   obtain⟨r0,hβ,uQ⟩:=hr.boxes id B hb
   obtain⟨cs,T',aG,aM,how,bP⟩:=uQ.cells hnB
   have lX:=hr.slot p
   rw[jj] at lX
   obtain⟨r1,hβ1,hvp⟩:au X (.c p 0) (.ptr id tt []) (a.tmps.getD p Go.undef):=lX
   obtain⟨hv,_⟩:=(oU eX).1 hvp
   rw[hβ] at hβ1
   cases hβ1
   have eA:Rel X (s.aC (some (id,{B with own:=[]}))) a:=hr.nk hb hβ ⟨how,dg.of hnB aG aM mo⟩
   have CR:∀q,¬cA (s.aC (some (id,{B with own:=[]}))) (.b id ([]++q)):=by
    rintro q ⟨B2,cT,hp⟩
    rw[zcr hb] at cT
    cases cT
    cases hp
   have lj:=ztn (X:=X) (q:= .r j0) CR
   have Gy:au (X.fO id [] (.r j0)) (.r j0) (.ah B.t B.x B.own) (dx B.t cs.toList):=by
    refine⟨cs.toList,aM.al (fun _ _=>lj.aw.1),rfl,fun q hq=> ?_⟩
    obtain⟨e,t',xs,v,g0,g1,g2,g3⟩:=bP q hq
    exact⟨e,t',xs,v,g0,g1,g2,bj.oR (p:=[]) g3⟩
   obtain⟨Z,vs,s8,bR,se,hβ2,dc,hlen,lV,aW⟩:=zxy hE r (X.fO id [] (.r j0)) _ s' l1 (j0+1) (eA.mod lj.mod) h1
   refine⟨Z,dx B.t cs.toList::vs,s8,lj.ext.trans bR,z167.trans se,hβ2,dc,by simp [hlen],fun j sv v hl hv=> ?_,?_⟩
   ·cases j with
    |zero=>
     simp only[List.getElem?_cons_zero,Option.some.injEq] at hl hv
     subst hl hv
     exact Gy.x7 se bR hβ2
    |succ j=>
     simp only[List.getElem?_cons_succ] at hl hv
     rw[show j0+(j+1)=j0+1+j by omega]
     exact lV j sv v hl hv
   ·have hl:=CY (P:=P) hE (hte▸hT:E.ty T=some B.t) aM (ad:=⟨r0,0,none⟩) (w:=X.w) (fun i v hi=>by
     rw[jH,Nat.zero_add]
     simp only[World.cell?,aG]
     simpa using hi)
    have hw3:(X.fO id [] (.r j0)).w=X.w:=rfl
    rw[hw3] at aW
    have mB:a.tmps.getD p Go.undef= .pointer (some ⟨r0,0,none⟩):=by simpa [Ty.off] using hv
    have ha:(asAddr (.pointer (some ⟨r0,0,none⟩))).run P X.w= .ok ⟨r0,0,none⟩ X.w:=by simp [asAddr]
    simp only[List.mapM_cons,Sem.run_bind,Sem.run_pure,Result.andThen_ok,aW,mB,ha,hl]
def aq.zero(X:aq)(id:Nat):aq:=
 {X with ow:=fun g=>match X.ow g with
  | .box bY=>if bY=id then .box 0 else .box bY
  | .row (.b bY p) n=>if bY=id then .row (.b 0 p) n else .row (.b bY p) n
  |w=>w}
theorem C8{id:Nat}{ad:Addr}{v:Value}(h:X.aw ad v):(X.zero id).aw ad v:=by
 refine⟨h.1,h.2.1,?_⟩
 have:=h.2.2
 simp only[aq.zero]
 cases hx:X.ow ad.block with
 |box i=>rw[hx] at this;exact this.elim
 |row pl n=>
  rw[hx] at this
  cases pl with
  |b i p=>simp only;split<;>exact this
  |_=>exact this
 |_=>rw[hx] at this;exact this
theorem ade{id:Nat}:Ext X (X.zero id) where
 aw:=fun _ _=>C8
 size:=Nat.le_refl _
 os:=rfl
 tape:=rfl
 output:=rfl
 β0:=rfl
 still:=fun g _ ct=>by
  refine⟨?_,rfl⟩
  simp only[aq.zero]
  cases hx:X.ow g with
  |box i=>rw[hx] at ct;exact ct.elim
  |row pl n=>rw[hx] at ct;exact ct.elim
  |_=>rfl
theorem bC.zero{id r:Nat}{B:bm}(h:bC X id r B):bC (X.zero id) 0 r B:=by
 obtain⟨h3,h1⟩:=h
 refine⟨by simp [aq.zero,h3],h1.move (fun _ _=>C8) rfl (fun cs h4 p hp=> ?_) fun _ g o ho hw=>⟨ho,by simp [aq.zero,hw]⟩⟩
 obtain⟨e,t',xs,v,g0,g1,g2,g3⟩:=h4 p hp
 refine⟨e,t',xs,v,g0,g1,g2,?_⟩
 rcases g3 with ho|⟨g,cap,cur,k1,k2,k3,k4,k5,k6⟩
 ·exact .inl ho
 ·exact .inr ⟨g,cap,cur,k1,k2,k3,k4,k5,by simp [aq.zero,k6]⟩
theorem au.zero{id j r0:Nat}{sv:SV}{v:Value}(hp:∀bY t p,sv= .ptr bY t p->X.β bY=some r0)(h:au X (.r j) sv v):au {X.zero id with β:=fun _=>some r0} (.r j) (sv.gH 0) v:=by
 cases sv with
 |undef=>trivial
 |skip=>exact h
 |cr=>exact h
 |gF=>exact h
 |over=>exact h
 |ah t x own=>
  obtain⟨cs,h1,h2,h3⟩:=h
  refine⟨cs,aR.al (Y:={X.zero id with β:=fun _=>some r0}) (fun ad v hs=>(C8 hs:(X.zero id).aw ad v)) h1,h2,fun p hp=> ?_⟩
  obtain⟨e,t',xs,v,g0,g1,g2,g3⟩:=h3 p hp
  refine⟨e,t',xs,v,g0,g1,g2,?_⟩
  rcases g3 with ho|⟨g,cap,cur,k1,k2,k3,k4,k5,k6⟩
  ·exact .inl ho
  ·exact .inr ⟨g,cap,cur,k1,k2,k3,k4,k5,by simp [aq.zero,k6]⟩
 |ptr bY t p=>
  obtain⟨r,h1,h2⟩:=h
  have:=hp bY t p rfl
  rw[h1] at this
  cases this
  exact⟨r0,rfl,h2⟩
 |view t x=>
  obtain⟨ad,cs,h1,h2,h3,h4⟩:=h
  exact⟨ad,cs,h1,h2,aR.al (Y:={X.zero id with β:=fun _=>some r0}) (fun ad v hs=>(C8 hs:(X.zero id).aw ad v)) h3,fun i u hi=>(C8 (h4 i u hi):(X.zero id).aw _ _)⟩
 |cap f t x u y=>exact ti (Y:={X.zero id with β:=fun _=>some r0}) (fun ad v hs=>(C8 hs:(X.zero id).aw ad v)) h
theorem au.anyβ{j r0:Nat}{sv:SV}{v:Value}(hp:∀bY t p,sv≠ .ptr bY t p)(h:au X (.r j) sv v):au {X with β:=fun _=>some r0} (.r j) sv v:=by
 cases sv with
 |undef=>trivial
 |skip=>exact h
 |cr=>exact h
 |gF=>exact h
 |over=>exact h
 |ah t x own=>
  obtain⟨cs,h1,h2,h3⟩:=h
  exact⟨cs,aR.al (X:=X) (Y:={X with β:=fun _=>some r0}) (fun ad v (hs:X.aw ad v)=>(hs:({X with β:=fun _=>some r0}:aq).aw ad v)) h1,h2,h3⟩
 |ptr bY t p=>exact absurd rfl (hp bY t p)
 |view t x=>
  obtain⟨ad,cs,h1,h2,h3,h4⟩:=h
  exact⟨ad,cs,h1,h2,aR.al (X:=X) (Y:={X with β:=fun _=>some r0}) (fun ad v (hs:X.aw ad v)=>(hs:({X with β:=fun _=>some r0}:aq).aw ad v)) h3,h4⟩
 |cap f t x u y=>exact ti (X:=X) (Y:={X with β:=fun _=>some r0}) (fun ad v (hs:X.aw ad v)=>(hs:({X with β:=fun _=>some r0}:aq).aw ad v)) h
theorem Nt:∀{l:List SV} {id:Nat} {t:Ty} {p:List Nat},SV.ptr id t p∈l->id∈yB l
 |v::r,id,t,p,h=>by
  rcases List.mem_cons.1 h with e|h
  ·subst e;simp [yB]
  ·have:=Nt h
   cases v<;>simp [yB,this]
theorem zxx{l:List SV}{vs:List Value}(hlen:vs.length=l.length)(h:∀(j:Nat) sv v,l[j]? =some sv->vs[j]? =some v->au X (.r j) sv v):cB X .r l (if h:vs.toArray.size=1 then vs.toArray[0] else .tuple vs.toArray):=by
 match l,vs,hlen with
 | [sv],[v],_=>exact h 0 sv v rfl rfl
 | [],[],_=>exact⟨#[],rfl,rfl,fun j s u hs=>by simp at hs⟩
 |x::y::r,u::v::w,hlen=>
  refine⟨(u::v::w).toArray,by simp,by simpa using hlen,fun j s z hs hz=>h j s z hs (by simpa using hz)⟩
theorem VC{Z:aq}{s':State}{b:Option bm}{l' r:List SV}{b':Option bm}{vs:List Value}(hX:Ext X Z)(dc:Rel Z s' a)(hlen:vs.length=l'.length)(gS:∀(j:Nat) sv v,l'[j]? =some sv->vs[j]? =some v->au Z (.r j) sv v)
 (dZ:DS s' b l' (fun r b=>some (r,b))=some (r,b')):∃Y',Y'.w=Z.w/\Ext X Y'/\wk X Y' b r b' (if h:vs.toArray.size=1 then vs.toArray[0] else .tuple vs.toArray):=by
 unfold DS at dZ
 cases b with
 |some B=>
  cases hp:yB l' with
  |cons _ _=>rw[hp] at dZ;cases dZ
  |nil=>
   rw[hp] at dZ
   have rS:∀id t p,SV.ptr id t p∉l':=fun id t p hm=>by
    have:=Nt hm
    rw[hp] at this;cases this
   cases fA:s'.box 0 with
   |none=>simp only[fA] at dZ;cases dZ
   |some B'=>
    simp only[fA] at dZ
    cases dZ
    obtain⟨r0,h3,h4⟩:=dc.boxes 0 B' (ql fA)
    refine⟨Z,rfl,hX,r0,zxx hlen fun j sv v h1 h2=>(gS j sv v h1 h2).anyβ (fun id t p e=>rS id t p (e▸List.mem_of_getElem? h1)),fun B2 cT=> ?_,fun _=>rS⟩
    cases cT
    exact⟨h4,fun _=>by rw[<-hX.β0];exact h3⟩
 |none=>
  cases hp:yB l' with
  |nil=>
   rw[hp] at dZ
   have rS:∀id t p,SV.ptr id t p∉l':=fun id t p hm=>by
    have:=Nt hm
    rw[hp] at this;cases this
   cases dZ
   exact⟨Z,rfl,hX,0,zxx hlen fun j sv v h1 h2=>(gS j sv v h1 h2).anyβ (fun id t p e=>rS id t p (e▸List.mem_of_getElem? h1)),(fun B2 cT=>by cases cT),fun _=>rS⟩
  |cons id rest=>
   rw[hp] at dZ
   cases rest with
   |cons _ _=>cases dZ
   |nil=>
    cases hB:s'.box id with
    |none=>simp only[hB] at dZ;cases dZ
    |some B=>
     simp only[hB] at dZ
     cases dZ
     obtain⟨r0,h3,h4⟩:=dc.boxes id B (ql hB)
     refine⟨Z.zero id,rfl,hX.trans ade,r0,?_,fun B2 cT=> ?_,fun hh=> ?_⟩
     ·refine zxx (by simpa using hlen) fun j sv v h1 h2=> ?_
      rw[List.getElem?_map] at h1
      obtain⟨s0,fW,rfl⟩:=Option.map_eq_some_iff.1 h1
      refine(gS j s0 v fW h2).zero fun bY t p e=> ?_
      have:=Nt (e▸List.mem_of_getElem? fW)
      rw[hp] at this
      simp only[List.mem_singleton] at this
      subst this
      exact h3
     ·cases cT
      exact⟨h4.zero,fun hh=>by cases hh⟩
     ·rcases hh with hh|hh<;>cases hh
theorem Nd:∀(ts:List Ty) (l:List SV),(aL ts l).length=l.length
 | [],l=>by simp [aL]
 |t::r,[]=>by simp [aL]
 |t::r,v::q=>by
  cases t<;>cases v<;>simp [aL,Nd r q]
theorem zzn{X:aq}:∀(ts:List Ty) (l:List SV) (i:Nat) (sv:SV) (v:Value),(aL ts l)[i]? =some sv->(∀sv,l[i]? =some sv->∃pl,au X pl sv v)->∀q,(∃vv,l[i]? =some vv/\(sv=vv\/sv=vv.shut\/vv= .cr))/\((∀vv,l[i]? =some vv->au X q vv v)->au X q sv v)
 | [],l,i,sv,v,h,_,q=>by
   have h:l[i]? =some sv:=by simpa [aL] using h
   exact⟨⟨sv,h,.inl rfl⟩,fun hh=>hh sv h⟩
 |t::r,[],i,sv,v,h,_,q=>by simp [aL] at h
 |t::r,x::y,i,sv,v,h,hx,q=>by
  cases i with
  |zero=>
   have key:(aL (t::r) (x::y))[0]? =some sv->(sv=x.shut)\/(x= .cr/\∃e u,sv= .ah (.sl e u) ([]:List (El u)) []):=by
    intro h
    cases t<;>cases x<;>simp only[aL,List.getElem?_cons_zero,Option.some.injEq] at h<;>first|exact .inl h.symm|exact .inr ⟨rfl,_,_,h.symm⟩
   rcases key h with rfl|⟨rfl,e,u,rfl⟩
   ·exact⟨⟨x,rfl,.inr (.inl rfl)⟩,fun hh=>(hh x rfl).shut⟩
   ·refine⟨⟨_,rfl,.inr (.inr rfl)⟩,fun hh=> ?_⟩
    have:=hh _ rfl
    exact⟨[.slice none 0 0],⟨none,0,rfl,Nat.le_refl _,fun j x hj=>by simp at hj⟩,this,mo⟩
  |succ i=>
   have h':(aL r y)[i]? =some sv:=by
    cases t<;>cases x<;>simpa [aL] using h
   have:=zzn r y i sv v h' (fun sv hs=>hx sv (by simpa using hs)) q
   simpa using this
theorem Zk{ts:List Ty}{l:List SV}{id:Nat}{t:Ty}{p:List Nat}(h:SV.ptr id t p∈aL ts l):SV.ptr id t p∈l:=by
 induction ts generalizing l with
 |nil=>simpa [aL] using h
 |cons u r ih=>
  cases l with
  |nil=>simp [aL] at h
  |cons v q=>
   have key:SV.ptr id t p=v.shut\/SV.ptr id t p∈aL r q:=by
    cases u<;>cases v<;>simp [aL,SV.shut] at h⊢ <;>first|exact h|exact .inr h|skip
   rcases key with e|hm
   ·rw[Nu e.symm];simp
   ·exact List.mem_cons_of_mem _ (ih hm)
theorem ae7(hE:ak P E)(hm:P.follows .mixedOrders=true){C C0:ag}(hC0:C0.Nat)(hf0:∀f,cN P C0 f){f:FuncId}{fn:Func}{code:Code}(jC:P.funcs[f]? =some fn)(rQ:(fn.name== "runtime.NumGoroutine")=false)(oI:fn.body=some code)
 (hC:∀(l:List SV) (b:Option bm) (r:List SV) (b':Option bm),C (List SV×Option bm) f l b (fun r b=>some (r,b))=some (r,b')->∃k,iB E (C0 (List SV×Option bm)) k fn code l b (fun r b=>some (r,b))=some (r,b')):cN P C f:=by
 intro l b r b' h
 refine⟨⟨fn,code,jC,rQ,oI⟩,fun X args gR=> ?_⟩
 obtain⟨k,h⟩:=hC l b r b' h
 unfold iB at h
 cases hg:(E.sp.isSome&&b.isSome) with
 |true=>rw[hg] at h;cases h
 |false=>
 rw[hg,cond_false] at h
 have hF:Fr E X:=fun cg=>gR.rows (by
  cases hE2:E.sp with
  |none=>exact absurd hE2 cg
  |some z=>
   cases b with
   |none=>rfl
   |some B=>rw[hE2] at hg;cases hg)
 simp only at h
 obtain⟨⟨e,s⟩,h1,h2⟩:=lg (tC hC0 code _ (fun e s=>some (e,s)) (K:=fun z=>match z.1 with
  | .exit _=>none
  |_=>match fN E z.2 fn.results.toList with
   |some (l,s')=>DS s' b (io E l) (fun r b=>some (r,b))
   |none=>none) (fun e s=>by cases e<;>rfl) _) h
 refine calls_of_wp jC oI ?_
 have dh:=gR.size
 refine BR hE hm hC0 hf0 k code X X _ _ e s hF (Ext.refl X) (?_:Rel X _ _) h1 _ fun Y a' bd bq=> ?_
 ·have m8:=Nd E.ps l
  refine⟨by simp [dh,m8],by simp [m8],fun i sl v hs hv=> ?_,fun id B hB=> ?_,fun i sl id t p hs hm=> ?_,rfl⟩
  ·by_cases hi:i<l.length
   ·rw[List.getElem?_append_left (by simpa [m8] using hi),List.getElem?_map] at hs
    obtain⟨sv,jD,rfl⟩:=Option.map_eq_some_iff.1 hs
    rw[Array.getElem?_append_left (by omega)] at hv
    exact(zzn E.ps l i sv v jD (fun sv h0=>⟨_,gR.rep i sv v h0 hv⟩) (.c i 0)).2 fun vv h0=>gR.rep i vv v h0 hv
   ·rw[List.getElem?_append_right (by simp [m8];omega),List.getElem?_replicate] at hs
    split at hs
    ·cases hs;trivial
    ·cases hs
  ·cases id with
   |zero=>
    simp only[List.getElem?_cons_zero,Option.some.injEq] at hB
    exact gR.box B hB
   |succ id=>
    simp only[List.getElem?_cons_succ,List.getElem?_replicate] at hB
    split at hB<;>cases hB
  ·by_cases hi:i<l.length
   ·rw[List.getElem?_append_left (by simpa [m8] using hi),List.getElem?_map] at hs
    obtain⟨sv,jD,rfl⟩:=Option.map_eq_some_iff.1 hs
    simp only[List.mem_singleton] at hm
    subst hm
    obtain⟨rfl,hb⟩:=gR.ptr id t p (Zk (List.mem_of_getElem? jD))
    cases b with
    |none=>cases hb
    |some B=>exact⟨B,rfl⟩
   ·rw[List.getElem?_append_right (by simp [m8];omega),List.getElem?_replicate] at hs
    split at hs
    ·cases hs;simp at hm
    ·cases hs
 ·
  have Tl:∃l s',fN E s fn.results.toList=some (l,s')/\DS s' b (io E l) (fun r b=>some (r,b))=some (r,b')/\(e= .normal\/e= .ret):=by
   cases e with
   |exit id=>cases h2
   |normal=>
    simp only at h2
    split at h2
    ·exact⟨_,_,by assumption,h2,.inl rfl⟩
    ·cases h2
   |ret=>
    simp only at h2
    split at h2
    ·exact⟨_,_,by assumption,h2,.inr rfl⟩
    ·cases h2
  obtain⟨l',s',eA,dZ,he⟩:=Tl
  obtain⟨Z,vs,hw,bR,ct,hβ,dc,hlen,lV,aW⟩:=zxy hE fn.results.toList Y s s' l' 0 bq eA
  have xJ:(results fn a'.tmps).run P Y.w= .ok (if h:vs.toArray.size=1 then vs.toArray[0] else .tuple vs.toArray) Y.w:=by
   unfold results
   simp only[Array.mapM_eq_mapM_toList,Sem.run_bind,Sem.run_map,Sem.run_pure,Result.andThen_ok]
   exact congrArg (fun r:Result (List Value)=>(r.andThen fun a w'=>Result.ok a.toArray w').andThen fun a w'=>Result.ok (if h:a.size=1 then a[0] else Value.tuple a) w') aW
  have hX:Ext X Z:=bd.trans bR
  have gS:∀(j:Nat) sv v,l'[j]? =some sv->vs[j]? =some v->au Z (.r j) sv v:=fun j sv v h1 h2=>by
   have:=lV j sv v h1 h2
   rwa [Nat.zero_add] at this
  have Gj:vs.length=(io E l').length:=by
   unfold io
   cases E.ro<;>simpa using hlen
  have An:∀(j:Nat) sv v,(io E l')[j]? =some sv->vs[j]? =some v->au Z (.r j) sv v:=fun j sv v h1 h2=>by
   unfold io at h1
   cases hro:E.ro with
   |false=>rw[hro] at h1;exact gS j sv v h1 h2
   |true=>
    rw[hro,cond_true,List.getElem?_map] at h1
    obtain⟨s0,fW,rfl⟩:=Option.map_eq_some_iff.1 h1
    exact au.eM (gS j s0 v fW h2)
  have fin:=VC (b:=b) hX dc Gj An dZ
  obtain⟨Y',MC,hX',hL⟩:=fin
  have MC:=MC.trans hw
  rcases he with rfl|rfl
  ·exact⟨bq.defers,_,xJ,Y',MC,hX',hL⟩
  ·exact⟨bq.defers,_,xJ,Y',MC,hX',hL⟩
end Go.Ref

namespace Go.Ref
open Go
variable {P:Program} {E:Env}
def Wf:(t:Ty)->El t->Prop
 | .bool,_=>True
 | .int k,n=>(Lit.int k n).wf=true
 | .str,s=>s.size<=maxLen
 | .sl _ t,xs=>List.length xs<=maxLen/\∀x∈(xs:List (El t)),Wf t x
 | .arr n t,xs=>List.length xs=n/\∀x∈(xs:List (El t)),Wf t x
 | .unit,_=>True
 | .pair a b,x=>Wf a x.1/\Wf b x.2
 | .aV _ _ _,_=>False
theorem C1(hE:ak P E){T:TypeId}{t:Ty}(ht:E.ty T=some t):P.cellsOf T=t.cells:=by
 obtain⟨i,h1,h2,_⟩:=(hE.ty T t ht).info
 simp [Program.cellsOf,h1,h2]
def Ty.fu:Ty->Bool
 | .sl _ t=> !(Nat.beq t.cells 0)&&t.fu
 | .arr _ t=>t.fu
 | .pair a b=>a.fu&&b.fu
 |_=>true
def sS(w:World)(β:Nat->Option Nat):aq:=⟨w,fun _=> .all,β⟩
theorem Zn{w:World}{β:Nat->Option Nat}{a:Addr}{v:Value}(h:w.cell? a=some v):(sS w β).aw a v:=⟨World.cell?_spot h,h,trivial⟩
theorem zm0{α:Type}{n:Nat}{p:Nat->α->Prop}(h:∀i,i<n->∃x,p i x):∃xs:List α,xs.length=n/\∀(i:Nat) x,xs[i]? =some x->p i x:=by
 induction n with
 |zero=>exact⟨[],rfl,fun i x hi=>by simp at hi⟩
 |succ n ih=>
  obtain⟨xs,h1,h2⟩:=ih fun i hi=>h i (by omega)
  obtain⟨y,hy⟩:=h n (by omega)
  refine⟨xs++ [y],by simp [h1],fun i x hi=> ?_⟩
  rw[List.getElem?_append] at hi
  split at hi
  ·exact h2 i x hi
  ·rename_i ap
   have hi2:i-xs.length=0:=by
    have:=(List.getElem?_eq_some_iff.1 hi).1
    simp at this
    omega
   rw[hi2] at hi
   simp only[List.getElem?_cons_zero,Option.some.injEq] at hi
   subst hi
   have:i=n:=by omega
   subst this
   exact hy
section
variable {H:Type} {enc:TypeId×Value->H} {w:World} {base:Nat} {spare:Nat->Bool} {held:Bool} {β:Nat->Option Nat}
theorem afd(hE:ak P E):∀t:Ty,
 (∀(T:TypeId) (cq:Nat) (cs:List Value) (x:DataW H×List MemPlace),E.ty T=some t->t.fu=true->DataW.trod enc P w base spare held cq T cs=some x->∃y:El t,aR (sS w β) t y cs/\Wf t y)/\
 (∀(fl:List Field) (off cq:Nat) (cs:List Value),iv E fl t off->t.fu=true->off+t.cells<=cs.length->(∀f∈fl,∃x,DataW.trod enc P w base spare held cq f.type ((cs.drop f.offset).take (P.cellsOf f.type))=some x)->
   ∃y:El t,aR (sS w β) t y ((cs.drop off).take t.cells)/\Wf t y):=by
 intro t
 have km:∀{t:Ty},t.cR=false->t≠ .unit->∀(fl:List Field) (off:Nat),¬iv E fl t off:=by
  intro t h1 h2 fl off h
  cases t<;>cases fl<;>simp_all [iv,Ty.cR]
 induction t with
 |aV k a b _ _=>exact⟨fun T cq cs x hT iD h=>absurd (hE.gT hT) (by simp [Ty.bH]),fun fl off cq cs hf=>absurd hf (km rfl (by simp) fl off)⟩
 |bool=>
  refine⟨fun T cq cs x hT iD h=> ?_,fun fl off cq cs hf=>absurd hf (km rfl (by simp) fl off)⟩
  have hu:=(hE.ty T _ hT).cS
  cases cq with
  |zero=>simp [DataW.trod] at h
  |succ m=>
   unfold DataW.trod at h
   rw[hu] at h
   split at h<;>try(first|cases h;done|(simp_all;done))
   rename_i b _
   exact⟨b,rfl,trivial⟩
 |int k=>
  refine⟨fun T cq cs x hT iD h=> ?_,fun fl off cq cs hf=>absurd hf (km rfl (by simp) fl off)⟩
  have hu:=(hE.ty T _ hT).cS
  cases cq with
  |zero=>simp [DataW.trod] at h
  |succ m=>
   unfold DataW.trod at h
   rw[hu] at h
   split at h<;>simp_all
   rename_i k1 k2 n hk
   subst hk
   exact⟨n,rfl,h.1.2⟩
 |str=>
  refine⟨fun T cq cs x hT iD h=> ?_,fun fl off cq cs hf=>absurd hf (km rfl (by simp) fl off)⟩
  have hu:=(hE.ty T _ hT).cS
  cases cq with
  |zero=>simp [DataW.trod] at h
  |succ m=>
   unfold DataW.trod at h
   rw[hu] at h
   split at h<;>simp_all
   rename_i s
   exact⟨s,rfl,h.1⟩
 |sl e t ih=>
  refine⟨fun T cq cs x hT iD h=> ?_,fun fl off cq cs hf=>absurd hf (km rfl (by simp) fl off)⟩
  obtain⟨hu,he⟩:=(hE.ty T _ hT).cS
  have hc:=C1 hE he
  rcases Go.Deep.open_slice hu h with⟨rfl,_⟩|⟨a,len,cap,m,n,D,Pl,rfl,hb,hl,hm,Aj,_,dN⟩
  ·exact⟨[],⟨none,0,rfl,Nat.le_refl _,fun j x hj=>by simp at hj⟩,by simp [maxLen],fun x hx=>by cases hx⟩
  ·have hlm:len<=m:=by rw[Aj];split<;>omega
   have hk:0<t.cells/\t.fu=true:=by
    simp only[Ty.fu,Bool.and_eq_true,Bool.not_eq_true'] at iD
    refine⟨?_,iD.2⟩
    rcases Nat.eq_zero_or_pos t.cells with h0|h0
    ·rw[h0] at iD;simp at iD
    ·exact h0
   obtain⟨ys,h1,h2⟩:=zm0 (n:=len) (p:=fun i (y:El t)=>∃dU,w.cells? base (a.add (i*t.cells)) t.cells=some dU/\aR (sS w β) t y dU/\Wf t y) (fun i hi=>by
    obtain⟨dU,g1,g2⟩:=dN i (by omega)
    rw[hc] at g1
    obtain⟨y,k1,k2⟩:=ih.1 e n dU _ he hk.2 g2
    exact⟨y,dU,g1,k1,k2⟩)
   refine⟨ys,aR.vu h1 hl (fun j y hj=> ?_),by show ys.length<=_;omega,fun y hy=> ?_⟩
   ·obtain⟨dU,g1,g2,g3⟩:=h2 j y hj
    obtain⟨_,hlen,gy⟩:=World.cells?_some g1
    have hj0:=(List.getElem?_eq_some_iff.1 hj).1
    obtain⟨c0,e1,_⟩:=h2 0 _ (List.getElem?_eq_getElem (by omega))
    obtain⟨_,ag4,Ab⟩:=World.cells?_some e1
    have xL:a.spot=none:=by
     have:=Ab 0 (by omega)
     rw[List.getElem?_eq_getElem (by omega)] at this
     have h3:=World.cell?_spot this
     simpa [Addr.add] using h3
    refine⟨a,dU,rfl,xL,g2,fun i v hi=>Zn ?_⟩
    have hil:=(List.getElem?_eq_some_iff.1 hi).1
    have:=gy i (by omega)
    rw[Lj a xL,hi] at this
    exact this
   ·obtain⟨i,hi⟩:=List.mem_iff_getElem?.1 hy
    obtain⟨dU,_,_,g3⟩:=h2 i y hi
    exact g3
 |arr n t ih=>
  refine⟨fun T cq cs x hT iD h=> ?_,fun fl off cq cs hf=>absurd hf (km rfl (by simp) fl off)⟩
  obtain⟨e,hu,he,_⟩:=(hE.ty T _ hT).cS
  have hc:=C1 hE he
  have F6:=C1 hE hT
  obtain⟨xs,m,rfl,_,hl,xO,dN⟩:=DataW.trod_array hu h
  obtain⟨ys,h1,h2⟩:=zm0 (n:=n) (p:=fun i (y:El t)=>aR (sS w β) t y ((cs.drop (i*t.cells)).take t.cells)/\Wf t y) (fun i hi=>by
   have g:=dN i hi
   rw[hc,List.getElem?_eq_getElem (by omega)] at g
   exact ih.1 e m _ _ he iD g)
  refine⟨ys,⟨h1,by rw[hl,F6];rfl,fun j y hj=>(h2 j y hj).1⟩,h1,fun y hy=> ?_⟩
  obtain⟨i,hi⟩:=List.mem_iff_getElem?.1 hy
  exact(h2 i y hi).2
 |unit=>
  refine⟨fun T cq cs x hT iD h=> ?_,fun fl off cq cs hf iD hle dX=>⟨(),by simp [Ty.cells,aR],trivial⟩⟩
  obtain⟨fs,hu,cQ,_⟩:=(hE.ty T _ hT).cS
  have F6:=C1 hE hT
  obtain⟨xs,m,rfl,_,hl,_⟩:=DataW.trod_struct hu h
  rw[F6] at hl
  refine⟨(),?_,trivial⟩
  exact List.eq_nil_of_length_eq_zero hl
 |pair ta tb kM kN=>
  have step:∀(fl:List Field) (off cq:Nat) (cs:List Value),iv E fl (.pair ta tb) off->(Ty.pair ta tb).fu=true->off+(Ty.pair ta tb).cells<=cs.length->(∀f∈fl,∃x,DataW.trod enc P w base spare held cq f.type ((cs.drop f.offset).take (P.cellsOf f.type))=some x)->
   ∃y:El (.pair ta tb),aR (sS w β) (.pair ta tb) y ((cs.drop off).take (Ty.pair ta tb).cells)/\Wf (.pair ta tb) y:=by
   intro fl off cq cs hf iD hle dX
   cases fl with
   |nil=>simp [iv] at hf
   |cons f fl=>
    obtain⟨f1,f2,f3,f4⟩:=hf
    simp only[Ty.fu,Bool.and_eq_true] at iD
    simp only[Ty.cells] at hle
    obtain⟨x,hx⟩:=dX f (by simp)
    rw[C1 hE f2,f1] at hx
    obtain⟨y1,r1,w1⟩:=kM.1 f.type cq _ x f2 iD.1 hx
    obtain⟨y2,r2,w2⟩:=kN.2 fl (off+ta.cells) cq cs f4 iD.2 (by omega) (fun g hg=>dX g (List.mem_cons_of_mem _ hg))
    refine⟨(y1,y2),⟨_,_,?_,r1,r2⟩,w1,w2⟩
    simp only[Ty.cells]
    rw[<-List.drop_drop]
    exact List.take_add
  refine⟨fun T cq cs x hT iD h=> ?_,step⟩
  obtain⟨fs,hu,cQ,_⟩:=(hE.ty T _ hT).cS
  have F6:=C1 hE hT
  obtain⟨xs,m,rfl,_,hl,xO,dN⟩:=DataW.trod_struct hu h
  rw[F6] at hl
  obtain⟨y,r,wf⟩:=step fs.toList 0 m cs cQ iD (by omega) (fun f hf=>by
   obtain⟨i,hi⟩:=List.mem_iff_getElem?.1 hf
   have S1:fs[i]? =some f:=by simpa using hi
   have:=dN i f S1
   have ap:=(List.getElem?_eq_some_iff.1 hi).1
   rw[List.getElem?_eq_getElem (by simp at ap;omega)] at this
   exact⟨_,this⟩)
  refine⟨y,?_,wf⟩
  rw[List.drop_zero,<-hl,List.take_length] at r
  exact r
end
end Go.Ref

namespace Go.Ref
open Go
variable {P:Program} {E:Env}
def BH:Value->Value->Bool
 | .bool a,.bool b=>a==b
 | .int k a,.int j b=>decide (k=j)&&decide (a=b)
 | .string a,.string b=>Nat.beq a.size 0&&Nat.beq b.size 0
 | .slice none 0 0,.slice none 0 0=>true
 |_,_=>false
theorem zm3{a:ByteArray}(h:a.size=0):a=⟨#[]⟩:=by
 cases a with
 |mk d=>
  have:d.size=0:=h
  have:=Array.eq_empty_of_size_eq_zero this
  rw[this]
theorem YH{a b:Value}(h:BH a b=true):a=b:=by
 unfold BH at h
 split at h
 ·simp at h;rw[h]
 ·simp at h;rw[h.1,h.2]
 ·simp only[Bool.and_eq_true] at h
  rw[zm3 (Nat.eq_of_beq_eq_true h.1),zm3 (Nat.eq_of_beq_eq_true h.2)]
 ·rfl
 ·cases h
def Lm:List Value->List Value->Bool
 | [],[]=>true
 |a::r,b::q=>BH a b&&Lm r q
 |_,_=>false
theorem zcg:∀{a b:List Value},Lm a b=true->a=b
 | [],[],_=>rfl
 |a::r,b::q,h=>by
  simp only[Lm,Bool.and_eq_true] at h
  rw[YH h.1,zcg h.2]
def BN(t:Ty)(v:Value):Bool:=
 match v with
 | .agg cs=>t.agg&&Lm cs.toList (zp t)
 |v=> !t.agg&&Lm [v] (zp t)
theorem ZY{t:Ty}{v:Value}(h:BN t v=true):v=dx t (zp t):=by
 unfold BN at h
 split at h
 ·simp only[Bool.and_eq_true] at h
  rw[iI h.1,<-zcg h.2]
 ·simp only[Bool.and_eq_true,Bool.not_eq_true'] at h
  rw[<-zcg h.2,Lr h.1]
def pM(E:Env):List Field->Ty->Nat->Bool
 | [],.unit,_=>true
 |f::r,.pair a b,off=>Nat.beq f.offset off&&((match E.ty f.type with
  |some t=>t.ci a
  |none=>false)&&(!(f.name== "_")&&pM E r b (off+a.cells)))
 |_,_,_=>false
theorem zod:∀{fl:List Field} {t:Ty} {off:Nat},pM E fl t off=true->iv E fl t off
 | [],t,off,h=>by cases t<;>simp_all [pM,iv]
 |f::r,t,off,h=>by
  cases t<;>simp only[pM,Bool.and_eq_true] at h<;>try(cases h;done)
  obtain⟨h1,h2,h3,h4⟩:=h
  refine⟨Nat.eq_of_beq_eq_true h1,?_,?_,zod h4⟩
  ·cases hf:E.ty f.type with
   |none=>rw[hf] at h2;cases h2
   |some u=>rw[hf] at h2;rw[Ty.aK h2]
  ·simpa using h3
def vB(E:Env)(T:TypeId)(t:Ty):Bool:=
 match E.ty T with
 |some u=>u.ci t
 |none=>false
theorem Js{T:TypeId}{t:Ty}(h:vB E T t=true):E.ty T=some t:=by
 unfold vB at h
 split at h
 ·rename_i u hu;rw[hu,Ty.aK h]
 ·cases h
def AG(P:Program)(E:Env)(T:TypeId)(t:Ty):Bool:=
 match P.underlying T,t with
 |some .bool,.bool=>true
 |some (.int k),.int j=>decide (k=j)
 |some .string,.str=>true
 |some (.slice e),.sl e' u=>Nat.beq e e'&&vB E e u
 |some (.array n e),.arr m u=>Nat.beq n m&&(vB E e u&& !P.eqGuardType P.depth T)
 |some (.struct fs),.unit=>pM E fs.toList .unit 0&&(!P.stoodInHeld T&& !P.eqGuardType P.depth T)
 |some (.struct fs),.pair a b=>pM E fs.toList (.pair a b) 0&&(!P.stoodInHeld T&& !P.eqGuardType P.depth T)
 |_,_=>false
theorem ac6{T:TypeId}{t:Ty}(h:AG P E T t=true):JV P E T t:=by
 unfold AG at h
 split at h
 ·assumption
 ·rename_i k j hu;rw[<-of_decide_eq_true h];exact hu
 ·assumption
 ·rename_i e e' u hu
  simp only[Bool.and_eq_true] at h
  have:=Nat.eq_of_beq_eq_true h.1
  subst this
  exact⟨hu,Js h.2⟩
 ·rename_i n e m u hu
  simp only[Bool.and_eq_true] at h
  have:=Nat.eq_of_beq_eq_true h.1
  subst this
  exact⟨e,hu,Js h.2.1,by simpa using h.2.2⟩
 ·rename_i fs hu
  simp only[Bool.and_eq_true,Bool.not_eq_true'] at h
  exact⟨fs,hu,zod h.1,h.2.1,h.2.2⟩
 ·rename_i fs a b hu
  simp only[Bool.and_eq_true,Bool.not_eq_true'] at h
  exact⟨fs,hu,zod h.1,h.2.1,h.2.2⟩
 ·cases h
def xQ(P:Program)(E:Env)(T:TypeId)(t:Ty):Bool:=
 match P.info? T with
 |some i=>Nat.beq i.size t.cells&&(Nat.beq i.bytes (E.bytes T)&&match i.zero with
  |some v=>BN t v
  |none=>false)
 |none=>false
def zP(P:Program)(E:Env)(T:TypeId):Bool:=
 match E.ty T with
 |some t=>xQ P E T t&&AG P E T t
 |none=>true
theorem acn{T:TypeId}{t:Ty}(h:zP P E T=true)(ht:E.ty T=some t):kF P E T t:=by
 unfold zP at h
 rw[ht] at h
 simp only[Bool.and_eq_true] at h
 refine⟨?_,ac6 h.2⟩
 have h1:=h.1
 unfold xQ at h1
 split at h1
 ·rename_i i hi
  simp only[Bool.and_eq_true] at h1
  obtain⟨g1,g2,g3⟩:=h1
  split at g3
  ·rename_i v hv
   exact⟨i,hi,Nat.eq_of_beq_eq_true g1,Nat.eq_of_beq_eq_true g2,by rw[hv,ZY g3]⟩
  ·cases g3
 ·cases h1
def ptB(P:Program)(T:TypeId):Bool:=
 match P.underlying T with
 |some (.pointer _)=>true
 |_=>false
structure n5 where
 CV:List (Option Ty)
 SE:List Nat
 xZ:List Bool
 MF:List (TypeId×TypeId×TypeId):=[]
def vk:List (TypeId×TypeId×TypeId)->TypeId->Option (TypeId×TypeId)
 | [],_=>none
 |q::r,T=>bif Nat.beq q.1 T then some q.2 else vk r T
def TL(P:Program)(q:TypeId×TypeId×TypeId):Bool:=
 match P.underlying q.1 with
 |some (.map k e)=>Nat.beq k q.2.1&&Nat.beq e q.2.2
 |_=>false
theorem Jc{P:Program}:∀{l:List (TypeId×TypeId×TypeId)},l.all (TL P)=true->∀{T k e:TypeId},vk l T=some (k,e)->P.underlying T=some (.map k e)
 |q::r,hl,T,k,e,h=>by
  simp only[List.all_cons,Bool.and_eq_true] at hl
  unfold vk at h
  cases hq:Nat.beq q.1 T with
  |false=>rw[hq] at h;exact Jc hl.2 h
  |true=>
   rw[hq] at h
   have:=Nat.eq_of_beq_eq_true hq
   subst this
   have h1:=hl.1
   unfold TL at h1
   split at h1
   ·rename_i k' e' hu
    simp only[Bool.and_eq_true] at h1
    have a1:=Nat.eq_of_beq_eq_true h1.1
    have a2:=Nat.eq_of_beq_eq_true h1.2
    rw[hu,a1,a2]
    have h:some q.2=some (k,e):=h
    injection h with h
    rw[h]
   ·cases h1
def n5.env(t:n5)(di kg:Nat->List Nat)(outs:List Nat)(ps:List Ty):Env:=⟨fun T=>t.CV.getD T none,fun T=>t.SE.getD T 0,fun T=>t.xZ.getD T false,di,kg,outs,ps,vk t.MF,fun _=>none,fun _=>none,fun _=>[],[],false,[],fun _=>[],fun _=>none,none⟩
def n5.rD(t:n5):Env:=t.env (fun _=>[]) (fun _=>[]) [] []
def n5.ok(P:Program)(t:n5):Bool:=(List.range t.CV.length).all (zP P t.rD)&&((List.range t.xZ.length).all (fun T=> !t.xZ.getD T false||ptB P T)&&t.MF.all (TL P))
theorem tj{E':Env}(h1:E.ty=E'.ty)(h2:E.bytes=E'.bytes){T:TypeId}{t:Ty}(h:kF P E T t):kF P E' T t:=by
 have cQ:∀(fl:List Field) (t:Ty) (off:Nat),iv E fl t off->iv E' fl t off:=by
  intro fl
  induction fl with
  |nil=>intro t off h;cases t<;>simp_all [iv]
  |cons f r ih=>
   intro t off h
   cases t<;>simp only[iv] at h⊢ <;>try exact h
   exact⟨h.1,by rw[<-h1];exact h.2.1,h.2.2.1,ih _ _ h.2.2.2⟩
 refine⟨by rw[<-h2];exact h.info,?_⟩
 have hu:=h.cS
 cases t with
 |bool=>exact hu
 |int k=>exact hu
 |str=>exact hu
 |sl e u=>exact⟨hu.1,by rw[<-h1];exact hu.2⟩
 |arr n u=>obtain⟨e,g1,g2⟩:=hu;exact⟨e,g1,by rw[<-h1];exact g2⟩
 |unit=>obtain⟨fs,g1,g2,g3⟩:=hu;exact⟨fs,g1,cQ _ _ _ g2,g3⟩
 |pair a b=>obtain⟨fs,g1,g2,g3⟩:=hu;exact⟨fs,g1,cQ _ _ _ g2,g3⟩
 |aV k a b=>exact hu.elim
theorem ak.join(h:ak P E)(j:Nat->Option (List Nat)):ak P {E with join:=j}:=
 ⟨fun T u hT=>tj (E:=E) (E':={E with join:=j}) rfl rfl (h.ty T u hT),h.pt,h.mp,h.bl⟩
theorem ak.fz(h:ak P E)(j:Nat->Option (Nat×TypeId)):ak P {E with fz:=j}:=
 ⟨fun T u hT=>tj (E:=E) (E':={E with fz:=j}) rfl rfl (h.ty T u hT),h.pt,h.mp,h.bl⟩
theorem ak.dr(h:ak P E)(j:Nat->List Nat):ak P {E with dr:=j}:=
 ⟨fun T u hT=>tj (E:=E) (E':={E with dr:=j}) rfl rfl (h.ty T u hT),h.pt,h.mp,h.bl⟩
theorem ak.sh(h:ak P E)(j:List Nat):ak P {E with sh:=j}:=
 ⟨fun T u hT=>tj (E:=E) (E':={E with sh:=j}) rfl rfl (h.ty T u hT),h.pt,h.mp,h.bl⟩
theorem ak.mv(h:ak P E)(j:List Nat):ak P {E with mv:=j}:=
 ⟨fun T u hT=>tj (E:=E) (E':={E with mv:=j}) rfl rfl (h.ty T u hT),h.pt,h.mp,h.bl⟩
theorem ak.fr(h:ak P E)(j:Nat->List Nat):ak P {E with fr:=j}:=
 ⟨fun T u hT=>tj (E:=E) (E':={E with fr:=j}) rfl rfl (h.ty T u hT),h.pt,h.mp,h.bl⟩
def blB(P:Program)(T:TypeId):Bool:=
 match P.info? T with
 |some i=>match i.zero with
  |some (.agg a)=>match a.toList with
   | [.pointer none,.slice none 0 0]=>true
   |_=>false
  |_=>false
 |none=>false
theorem ak.fF(h:ak P E)(T e:TypeId)(hT:blB P T=true):ak P {E with bl:=fun t=>bif Nat.beq t T then some e else none}:=
 ⟨fun T' u hT=>tj (E:=E) (E':={E with bl:=fun t=>bif Nat.beq t T then some e else none}) rfl rfl (h.ty T' u hT),h.pt,h.mp,fun T' e' he=>by
   have he:(bif Nat.beq T' T then some e else none)=some e':=he
   cases hb:Nat.beq T' T with
   |false=>rw[hb] at he;cases he
   |true=>
    have:=Nat.eq_of_beq_eq_true hb
    subst this
    unfold blB at hT
    split at hT
    case h_2=>cases hT
    rename_i i hi
    split at hT
    case h_2=>cases hT
    rename_i a ha
    split at hT
    case h_2=>cases hT
    rename_i hl
    exact⟨i,hi,by rw[ha];congr 1;congr 1;apply Array.ext';rw[hl]⟩⟩
theorem ak.sp(h:ak P E)(j:Option (Nat×Nat×Nat×Nat)):ak P {E with sp:=j}:=
 ⟨fun T u hT=>tj (E:=E) (E':={E with sp:=j}) rfl rfl (h.ty T u hT),h.pt,h.mp,h.bl⟩
theorem ak.ro(h:ak P E)(j:Bool):ak P {E with ro:=j}:=
 ⟨fun T u hT=>tj (E:=E) (E':={E with ro:=j}) rfl rfl (h.ty T u hT),h.pt,h.mp,h.bl⟩
theorem n5.kI{t:n5}(h:t.ok P=true)(di kg:Nat->List Nat)(outs:List Nat)(ps:List Ty):ak P (t.env di kg outs ps):=by
 unfold n5.ok at h
 simp only[Bool.and_eq_true] at h
 refine⟨fun T u hT=> ?_,fun T hT=> ?_,fun T k e hT=>Jc h.2.2 hT,fun T e hT=>by cases hT⟩
 ·refine tj (E:=t.rD) (E':=t.env di kg outs ps) rfl rfl (acn ?_ hT)
  refine List.all_eq_true.1 h.1 T (List.mem_range.2 ?_)
  have xx:t.CV.getD T none=some u:=hT
  rcases Nat.lt_or_ge T t.CV.length with h1|h1
  ·exact h1
  ·rw[List.getD_eq_getElem?_getD,List.getElem?_eq_none h1] at xx;cases xx
 ·have xx:t.xZ.getD T false=true:=hT
  have ap:T<t.xZ.length:=by
   rcases Nat.lt_or_ge T t.xZ.length with h1|h1
   ·exact h1
   ·rw[List.getD_eq_getElem?_getD,List.getElem?_eq_none h1] at xx;cases xx
  have:=List.all_eq_true.1 h.2.1 T (List.mem_range.2 ap)
  rw[xx] at this
  simp only[Bool.not_true,Bool.false_or] at this
  unfold ptB at this
  split at this
  ·rename_i e he;exact⟨e,he⟩
  ·cases this
end Go.Ref

namespace Go.Ref
open Go
variable {P:Program} {E:Env}
abbrev Pure:=(R:Type)->List SV->Option bm->(List SV->Option bm->Option R)->Option R
def Pure.Nat(g:Pure):Prop:=∀(R S:Type) l b (F:List SV->Option bm->Option R) (G:List SV->Option bm->Option S) (K:S->Option R),(∀r b,F r b=(G r b).bind K)->g R l b F=(g S l b G).bind K
def ag.none:ag:=fun _ _ _ _ _=> .none
def ag.add(C:ag)(n:FuncId)(ps:List Ty)(g:Pure):ag:=fun R f l b K=>bif Nat.beq f n then g R (aL ps l) b K else C R f l b K
theorem acG:ag.none.Nat:=fun _ _ _ _ _ _ _ _ _=>rfl
theorem Zj(f:FuncId):cN P ag.none f:=fun _ _ _ _ h=>by cases h
theorem PS{C:ag}{n:FuncId}{ps:List Ty}{g:Pure}(hC:C.Nat)(hg:g.Nat):(C.add n ps g).Nat:=fun R S f l b F G K h=>by
 unfold ag.add
 cases Nat.beq f n with
 |false=>exact hC R S f l b F G K h
 |true=>exact hg R S _ b F G K h
theorem abQ(hE:ak P E)(hm:P.follows .mixedOrders=true){C:ag}(hC:C.Nat)(h0:∀f,cN P C f){n:FuncId}{ps:List Ty}{g:Pure}{fn:Func}{code:Code}(jC:P.funcs[n]? =some fn)(rQ:(fn.name== "runtime.NumGoroutine")=false)(oI:fn.body=some code)
 (h:∀(l:List SV) (b:Option bm) (r:List SV) (b':Option bm),g (List SV×Option bm) (aL ps l) b (fun r b=>some (r,b))=some (r,b')->∃k,iB E (C (List SV×Option bm)) k fn code l b (fun r b=>some (r,b))=some (r,b')):∀f,cN P (C.add n ps g) f:=by
 intro f
 by_cases e:f=n
 ·subst e
  refine ae7 hE hm hC h0 jC rQ oI fun l b r b' hc=>h l b r b' ?_
  unfold ag.add at hc
  have:Nat.beq f f=true:=by simp
  rw[this] at hc
  exact hc
 ·intro l b r b' hc
  unfold ag.add at hc
  have:Nat.beq f n=false:=by
   cases hh:Nat.beq f n with
   |false=>rfl
   |true=>exact absurd (Nat.eq_of_beq_eq_true hh) e
  rw[this] at hc
  exact h0 f l b r b' hc
def sub:List Nat->Code->Code
 | [],c=>c
 |0::p,.seq a _=>sub p a
 |_::p,.seq _ b=>sub p b
 |0::p,.cond _ a _=>sub p a
 |_::p,.cond _ _ b=>sub p b
 |_::p,.block _ b=>sub p b
 |_::p,.loop b=>sub p b
 |_,c=>c
section
variable {R:Type}
def zk(id:Nat)(K:Ex->State->Option R):Ex->State->Option R:=fun e s=>match e with
 | .exit j=>bif Nat.beq j id then K .normal s else K (.exit j) s
 |e=>K e s
def aH(E:Env)(C:FuncId->bJ R)(k:Nat)(b:Code)(K:Ex->State->Option R):Ex->State->Option R:=fun e s=>match e with
 | .normal=>l7 E k (sN b) s fun s=>ev E C k b s K
 |e=>K e s
def aF(E:Env)(rs:List ResultVar)(bx:Option bm)(K:List SV->Option bm->Option R):Ex->State->Option R:=fun e s=>match e with
 | .exit _=>none
 |_=>match fN E s rs with
  |some (l,s')=>DS s' bx (io E l) K
  |none=>none
end
section
variable {R:Type}
def hM(l:List SV)(K:Option R):Option R:=
 match l with
 | []=>K
 |_=>none
def hN(t:Ty)(l:List SV)(K:El t->Option R):Option R:=
 match l with
 | [a]=>a.el t K
 |_=>none
def gl(t u:Ty)(l:List SV)(K:El t->El u->Option R):Option R:=
 match l with
 | [a,b]=>a.el t fun x=>b.el u fun y=>K x y
 |_=>none
def ka(t u v:Ty)(l:List SV)(K:El t->El u->El v->Option R):Option R:=
 match l with
 | [a,b,c]=>a.el t fun x=>b.el u fun y=>c.el v fun z=>K x y z
 |_=>none
def kb(t u v w:Ty)(l:List SV)(K:El t->El u->El v->El w->Option R):Option R:=
 match l with
 | [a,b,c,d]=>a.el t fun x=>b.el u fun y=>c.el v fun z=>d.el w fun z'=>K x y z z'
 |_=>none
end
theorem ae3{R:Type}{t:Ty}{v:SV}{r:List Ty}{q:List SV}{K:El t->Option R}{z:R}{v':SV}{q':List SV}(hn:aL (t::r) (v::q)=v'::q')(h:v'.el t K=some z):∃y,v'= .ah t y []/\q'=aL r q/\K y=some z:=by
 have key:v'=v.shut/\q'=aL r q\/(∃e u,t= .sl e u/\v'= .ah (.sl e u) ([]:List (El u)) []/\q'=aL r q):=by
  cases t<;>cases v<;>simp only[aL,List.cons.injEq] at hn<;>first|exact .inl ⟨hn.1.symm,hn.2.symm⟩|exact .inr ⟨_,_,rfl,hn.1.symm,hn.2.symm⟩
 rcases key with⟨rfl,rfl⟩|⟨e,u,rfl,rfl,rfl⟩
 ·cases v with
  |ah t' x own=>
   simp only[SV.shut,SV.el] at h
   split at h
   ·rename_i heq
    have:=Ty.aK heq
    subst this
    exact⟨x,rfl,rfl,h⟩
   ·cases h
  |cr=>cases t<;>first|(simp [SV.shut,SV.el] at h;done)|(simp [aL,SV.shut] at hn;done)
  |_=>simp [SV.shut,SV.el] at h
 ·simp only[SV.el,Ty.bN,dite_true] at h
  exact⟨[],rfl,rfl,h⟩
theorem zoj(hE:ak P E){H:Type}{enc:TypeId×Value->H}{w:World}{spare:Nat->Bool}{held:Bool}{β:Nat->Option Nat}{base b:Nat}{T:TypeId}{t:Ty}{v:Value}{d:DataW H}{ps:List MemPlace}(hT:E.ty T=some t)(iD:t.fu=true)
 (hv:Value.okWide P w .any b T v) (hd:DataW.Trod enc P w base spare held T v d ps):∃y:El t,Wf t y/\∀q,au (sS w β) q (.ah t y []) v:=by
 obtain⟨cq,hd⟩:=hd
 obtain⟨y,r,wf⟩:=(afd (β:=β) hE t).1 T cq _ _ hT iD hd
 refine⟨y,wf,fun q=>⟨_,r,?_,mo⟩⟩
 have hu:=(hE.ty T t hT).cS
 have hl:=r.len
 cases ht:t.agg with
 |true=>
  rw[iI ht]
  have:∃cs,v= .agg cs:=by
   unfold Value.okWide at hv
   cases t with
   |arr n t=>obtain⟨e,h1,_⟩:=hu;rw[h1] at hv;obtain⟨cs,h,_⟩:=hv;exact⟨cs,h⟩
   |unit=>obtain⟨fs,h1,_⟩:=hu;rw[h1] at hv;obtain⟨cs,h,_⟩:=hv;exact⟨cs,h⟩
   |pair a b=>obtain⟨fs,h1,_⟩:=hu;rw[h1] at hv;obtain⟨cs,h,_⟩:=hv;exact⟨cs,h⟩
   |aV k a b=>exact absurd (hE.gT hT) (by simp [Ty.bH])
   |_=>simp [Ty.agg] at ht
  obtain⟨cs,rfl⟩:=this
  rfl
 |false=>
  have Tb:∀cs,v≠ .agg cs:=by
   rintro cs rfl
   unfold Value.okWide at hv
   cases t with
   |bool=>have hu:P.underlying T=some .bool:=hu;rw[hu] at hv;unfold Cell.okWide at hv;rw[hu] at hv;unfold Cell.ok at hv;rw[hu] at hv;exact hv
   |int k=>have hu:P.underlying T=some (.int k):=hu;rw[hu] at hv;unfold Cell.okWide at hv;rw[hu] at hv;unfold Cell.ok at hv;rw[hu] at hv;exact hv
   |str=>have hu:P.underlying T=some .string:=hu;rw[hu] at hv;unfold Cell.okWide at hv;rw[hu] at hv;unfold Cell.ok at hv;rw[hu] at hv;exact hv
   |sl e t=>have hu:P.underlying T=some (.slice e):=hu.1;rw[hu] at hv;unfold Cell.okWide at hv;rw[hu] at hv;unfold Cell.ok at hv;rw[hu] at hv;exact hv
   |_=>simp [Ty.agg] at ht
  have hc:v.cells.toList=[v]:=by
   cases v<;>first|rfl|exact absurd rfl (Tb _)
  rw[hc,Lr ht]
theorem WY{w:World}{β:Nat->Option Nat}{Y:aq}(h:Ext (sS w β) Y):∀g,g<w.heap.size->Y.w.heap[g]? =w.heap[g]? :=fun g hg=>(h.still g hg trivial).2
end Go.Ref

namespace Go.Ref
open Go
theorem BM{x:Int}(h1: -9223372036854775808<=x)(h2:x<=9223372036854775807):IntKind.i64.wrap x=x:=by
 simp [IntKind.wrap,IntKind.signed,IntKind.bits]
 omega
theorem ZV{R:Type}{j n:Nat}{x:Option R}(h:j<n):zd (j:Int) n x=x:=by
 unfold zd
 rw[decide_eq_true (by omega:(0:Int)<=j),decide_eq_true (by omega:(j:Int)<n)]
 rfl
variable {P:Program} {E:Env}
def Lt(X:aq):List SV->List Value->Prop
 | [],[]=>True
 |s::l,v::vs=>(∀q,au X q s v)/\(∀id t p,s≠ .ptr id t p)/\Lt X l vs
 |_,_=>False
theorem zsk{X:aq}:∀{l:List SV} {vs:List Value},Lt X l vs->vs.length=l.length/\∀(i:Nat) s v,l[i]? =some s->vs[i]? =some v->(∀q,au X q s v)/\∀id t p,s≠ .ptr id t p
 | [],[],_=>⟨rfl,fun i s v h=>by simp at h⟩
 |s::l,v::vs,h=>by
  obtain⟨h1,h2,h3⟩:=h
  obtain⟨g1,g2⟩:=zsk h3
  refine⟨by simp [g1],fun i s' v' hs hv=> ?_⟩
  cases i with
  |zero=>
   simp only[List.getElem?_cons_zero,Option.some.injEq] at hs hv
   subst hs hv
   exact⟨h1,h2⟩
  |succ i=>
   simp only[List.getElem?_cons_succ] at hs hv
   exact g2 i s' v' hs hv
theorem acj{X:aq}{l:List SV}{args:Array Value}(h:Lt X l args.toList)(hX:∀g pl n,X.ow g≠ .row pl n):jW X l none args:=by
 obtain⟨h1,h2⟩:=zsk h
 refine⟨by simpa using h1,fun i sv v hs hv=>(h2 i sv v hs (by simpa using hv)).1 _,fun id t p hm=> ?_,fun B hB=>(by cases hB),fun _=>hX⟩
 obtain⟨i,hi⟩:=List.mem_iff_getElem?.1 hm
 have ap:=(List.getElem?_eq_some_iff.1 hi).1
 have rO:i<args.toList.length:=by omega
 exact absurd rfl ((h2 i _ _ hi (List.getElem?_eq_getElem rO)).2 id t p)
theorem Zx{C:ag}{f:FuncId}(ho:cN P C f){l:List SV}{args:Array Value}{W:World}{b:Bool}(hc:C (List SV×Option bm) f l none (fun r b=>some (r,b))=some ([.ah .bool b []],none))(gR:Lt (sS W fun _=>none) l args.toList):
 Calls P f args W fun e w'=>e= .returned (.bool b)/\RowKit.Below W.heap.size W w':=by
 refine((ho l none _ _ hc).2 (sS W fun _=>none) args (acj gR fun g pl n e=>by cases e)).mono fun e w' he=> ?_
 cases e with
 |returned v=>
  obtain⟨Y,rfl,bd,r0,aM,_,_⟩:=he
  have aM:au {Y with β:=fun _=>some r0} (.r 0) (.ah .bool b []) v:=aM
  refine⟨by rw[Km aM],bd.os,bd.tape,bd.output,bd.size,fun k hk=>WY bd k hk⟩
 |panicked c=>exact he.elim
 |outgrown=>exact he.elim
end Go.Ref

namespace Go.Ref
open Go
variable {P:Program} {E:Env}
def bs(l:List Nat):ByteArray:=⟨(l.map UInt8.ofNat).toArray⟩
@[irreducible] def ae:Nat:=18446744073709551616
theorem WQ{R:Type}(f:Unit->Option R):bT ae f=f ():=by
 have:ae=18446744073709551615+1:=by unfold ae;rfl
 rw[this];rfl
section
variable {R S:Type}
def sk(body:State->(Ex->State->Option R)->Option R)(l lx:List Nat)(k:Nat)(K:Ex->State->Option R):Ex->State->Option R:=fun e s=>match e with
 | .normal=>p6 l s fun s=>av body l lx k s K
 |e=>p6 lx s fun s=>K e s
def mY(t:Ty)(own:List (List Nat))(l:List SV)(b:Option bm)(K:El t->List SV->Option R):Option R:=
 match l,b with
 | .ptr 0 u []::r,some B=>if h:B.t.ci t=true then if(u.ci t&&B.own==own)=true then K (Ty.cast h B.x) r else none else none
 |_,_=>none
def j9(t pt bt:Ty)(own:List (List Nat))(l:List SV)(b:Option bm)(K:El t->El bt->Option R):Option R:=
 match l,b with
 | [a,.ptr 0 u []],some B=>if h:B.t.ci bt=true then if(u.ci pt&&B.own==own)=true then a.el t fun y=>K y (Ty.cast h B.x) else none else none
 |_,_=>none
def DP(t u v w:Ty)(l:List SV)(K:El t->El u->El v->El w->Option R):Option R:=
 match l with
 | [a,b,.view v' x,.view w' y]=>if h:v'.ci v=true then if h2:w'.ci w=true then a.el t fun p=>b.el u fun q=>K p q (Ty.cast h x) (Ty.cast h2 y) else none else none
 |_=>none
def fq(b:Option bm)(K:Option R):Option R:=
 match b with
 |none=>K
 |some _=>none
theorem BS{b:Option bm}{F:Option R}{G:Option S}{K:S->Option R}(h:F=G.bind K):fq b F=(fq b G).bind K:=by
 cases b
 ·exact h
 ·rfl
theorem BQ{b:Option bm}{F:Option R}{z:R}(h:fq b F=some z):b=none/\F=some z:=by
 cases b
 ·exact⟨rfl,h⟩
 ·cases h
theorem zge(c:Bool)(x y:Option S)(F:S->Option R):(bif c then x else y).bind F=bif c then x.bind F else y.bind F:=by cases c<;>rfl
theorem z168(i:Int)(n:Nat)(x:Option S)(F:S->Option R):(zd i n x).bind F=zd i n (x.bind F):=by
 unfold zd;rw[zge,zge];rfl
theorem Zi(F:S->Option R):(none:Option S).bind F=none:=Eq.trans rfl rfl
theorem zc(x:S)(F:S->Option R):(some x).bind F=F x:=Eq.trans rfl rfl
theorem acZ{α β:Type}(f:α->Option S)(g:β->Option S)(e:α⊕β)(F:S->Option R):(Sum.elim f g e).bind F=Sum.elim (fun x=>(f x).bind F) (fun x=>(g x).bind F) e:=by cases e<;>rfl
theorem Yy{α:Type}(x:Option α)(f:α->Option S)(F:S->Option R):(x.bind f).bind F=x.bind fun y=>(f y).bind F:=by cases x<;>rfl
theorem zy9{l:List SV}{F:Option R}{G:Option S}{K:S->Option R}(h:F=G.bind K):hM l F=(hM l G).bind K:=by
 unfold hM;split
 ·exact h
 ·rfl
theorem zya{t:Ty}{l:List SV}{F:El t->Option R}{G:El t->Option S}{K:S->Option R}(h:∀x,F x=(G x).bind K):hN t l F=(hN t l G).bind K:=by
 unfold hN;split
 ·exact zt h
 ·rfl
theorem zyb{t u:Ty}{l:List SV}{F:El t->El u->Option R}{G:El t->El u->Option S}{K:S->Option R}(h:∀x y,F x y=(G x y).bind K):gl t u l F=(gl t u l G).bind K:=by
 unfold gl;split
 ·exact zt fun x=>zt fun y=>h x y
 ·rfl
theorem Yt{t u v:Ty}{l:List SV}{F:El t->El u->El v->Option R}{G:El t->El u->El v->Option S}{K:S->Option R}(h:∀x y z,F x y z=(G x y z).bind K):ka t u v l F=(ka t u v l G).bind K:=by
 unfold ka;split
 ·exact zt fun x=>zt fun y=>zt fun z=>h x y z
 ·rfl
theorem Yu{t u v w:Ty}{l:List SV}{F:El t->El u->El v->El w->Option R}{G:El t->El u->El v->El w->Option S}{K:S->Option R}(h:∀x y z a,F x y z a=(G x y z a).bind K):kb t u v w l F=(kb t u v w l G).bind K:=by
 unfold kb;split
 ·exact zt fun x=>zt fun y=>zt fun z=>zt fun a=>h x y z a
 ·rfl
theorem Hw{t:Ty}{own:List (List Nat)}{l:List SV}{b:Option bm}{F:El t->List SV->Option R}{G:El t->List SV->Option S}{K:S->Option R}(h:∀x r,F x r=(G x r).bind K):mY t own l b F=(mY t own l b G).bind K:=by
 unfold mY;split
 ·split
  ·split
   ·exact h _ _
   ·rfl
  ·rfl
 ·rfl
theorem Ys{t pt bt:Ty}{own:List (List Nat)}{l:List SV}{b:Option bm}{F:El t->El bt->Option R}{G:El t->El bt->Option S}{K:S->Option R}(h:∀x y,F x y=(G x y).bind K):j9 t pt bt own l b F=(j9 t pt bt own l b G).bind K:=by
 unfold j9;split
 ·split
  ·split
   ·exact zt fun y=>h _ _
   ·rfl
  ·rfl
 ·rfl
theorem Wp{t u v w:Ty}{l:List SV}{F:El t->El u->El v->El w->Option R}{G:El t->El u->El v->El w->Option S}{K:S->Option R}(h:∀x y z a,F x y z a=(G x y z a).bind K):DP t u v w l F=(DP t u v w l G).bind K:=by
 unfold DP;split
 ·split
  ·split
   ·exact zt fun x=>zt fun y=>h x y _ _
   ·rfl
  ·rfl
 ·rfl
theorem tf{α:Type}{m:Option α}{F:α->Option R}{G:α->Option S}{K:S->Option R}(h:∀r,F r=(G r).bind K):m.bind F=(m.bind G).bind K:=by
 cases m with
 |none=>rfl
 |some x=>exact h x
theorem Jp{α β:Type}{f:α->Option R}{g:β->Option R}{f':α->Option S}{g':β->Option S}{K:S->Option R}{e:α⊕β}(h1:∀x,f x=(f' x).bind K)(h2:∀x,g x=(g' x).bind K):Sum.elim f g e=(Sum.elim f' g' e).bind K:=by
 cases e with
 |inl x=>exact h1 x
 |inr x=>exact h2 x
end
section
variable {R:Type}
theorem Y3{C:FuncId->bJ R}{k:Nat}{fn:Func}{code:Code}{l q:List SV}{b:Option bm}{K:List SV->Option bm->Option R}(h:aL E.ps l=q)(hq:aL E.ps q=q)(hl:q.length=l.length):iB E C k fn code l b K=iB E C k fn code q b K:=by
 unfold iB
 simp only[h,hq,hl]
theorem zzo:∀{ts:List Ty} {q:List SV},(∀s∈q,s.shut=s/\s≠ .cr)->aL ts q=q
 |ts,[],_=>by cases ts<;>simp [aL]
 | [],q,_=>by simp [aL]
 |t::r,v::q,h=>by
  have h1:=h v (by simp)
  have h2:=zzo (ts:=r) (q:=q) (fun s hs=>h s (by simp [hs]))
  cases t<;>cases v<;>simp [aL,h2]<;>first|exact h1.1|exact absurd rfl h1.2
theorem acH{ts:List Ty}{l:List SV}(h:aL ts l=[]):l=[]:=by
 have:=Nd ts l
 rw[h] at this
 exact List.length_eq_zero_iff.1 this.symm
theorem Zl{t:Ty}{r:List Ty}{l:List SV}{v':SV}{q':List SV}(h:aL (t::r) l=v'::q'):∃v q,l=v::q:=by
 cases l with
 |nil=>simp [aL] at h
 |cons v q=>exact⟨v,q,rfl⟩
theorem pY{t:Ty}{r:List Ty}{l:List SV}{a:SV}{q':List SV}{K:El t->Option R}{z:R}(hn:aL (t::r) l=a::q')(h:a.el t K=some z):∃y v q,a= .ah t y []/\l=v::q/\aL r q=q'/\K y=some z:=by
 obtain⟨v,q,rfl⟩:=Zl hn
 obtain⟨y,h1,h2,h3⟩:=ae3 hn h
 exact⟨y,v,q,h1,rfl,h2.symm,h3⟩
theorem BT{l q:List SV}(hn:aL E.ps l=q)(hd:∀s∈q,s.shut=s/\s≠ .cr){C:FuncId->bJ R}{k:Nat}{fn:Func}{code:Code}{b:Option bm}{K:List SV->Option bm->Option R}:iB E C k fn code l b K=iB E C k fn code q b K:=
 Y3 hn (zzo hd) (by rw[<-hn,Nd])
theorem CD{t:Ty}{x:El t}:(SV.ah t x []).shut=SV.ah t x []/\SV.ah t x []≠ .cr:=⟨rfl,by simp⟩
def kD(E:Env)(l q:List SV):Prop:=∀{R:Type} (C:FuncId->bJ R) (k:Nat) (fn:Func) (code:Code) (b:Option bm) (K:List SV->Option bm->Option R),iB E C k fn code l b K=iB E C k fn code q b K
theorem vp{l:List SV}{F:Option R}{z:R}(ji:E.ps=[])(h:hM (aL [] l) F=some z):F=some z/\kD E l []:=by
 unfold hM at h
 split at h
 ·rename_i hn
  have:=acH hn
  subst this
  exact⟨h,fun C k fn code b K=>rfl⟩
 ·cases h
theorem UP{t:Ty}{l:List SV}{F:El t->Option R}{z:R}(ji:E.ps=[t])(h:hN t (aL [t] l) F=some z):∃x,F x=some z/\kD E l [.ah t x []]:=by
 unfold hN at h
 split at h
 ·rename_i a hn
  obtain⟨x,v,q,rfl,rfl,h1,h⟩:=pY hn h
  refine⟨x,h,fun C k fn code b K=>BT (by rw[ji];exact hn) ?_⟩
  intro s hs
  simp only[List.mem_cons,List.not_mem_nil,or_false] at hs
  subst hs;exact CD
 ·cases h
theorem sw{t u:Ty}{l:List SV}{F:El t->El u->Option R}{z:R}(ji:E.ps=[t,u])(h:gl t u (aL [t,u] l) F=some z):∃x y,F x y=some z/\kD E l [.ah t x [],.ah u y []]:=by
 unfold gl at h
 split at h
 ·rename_i a b hn
  obtain⟨x,v,q,rfl,rfl,h1,h⟩:=pY hn h
  obtain⟨y,v',q',rfl,rfl,h2,h⟩:=pY h1 h
  refine⟨x,y,h,fun C k fn code b K=>BT (by rw[ji];exact hn) ?_⟩
  intro s hs
  simp only[List.mem_cons,List.not_mem_nil,or_false] at hs
  rcases hs with rfl|rfl<;>exact CD
 ·cases h
theorem UQ{t u v:Ty}{l:List SV}{F:El t->El u->El v->Option R}{z:R}(ji:E.ps=[t,u,v])(h:ka t u v (aL [t,u,v] l) F=some z):∃x y a,F x y a=some z/\kD E l [.ah t x [],.ah u y [],.ah v a []]:=by
 unfold ka at h
 split at h
 ·rename_i a b c hn
  obtain⟨x,v,q,rfl,rfl,h1,h⟩:=pY hn h
  obtain⟨y,v',q',rfl,rfl,h2,h⟩:=pY h1 h
  obtain⟨w,v',q',rfl,rfl,h3,h⟩:=pY h2 h
  refine⟨x,y,w,h,fun C k fn code b K=>BT (by rw[ji];exact hn) ?_⟩
  intro s hs
  simp only[List.mem_cons,List.not_mem_nil,or_false] at hs
  rcases hs with rfl|rfl|rfl<;>exact CD
 ·cases h
theorem UR{t u v w:Ty}{l:List SV}{F:El t->El u->El v->El w->Option R}{z:R}(ji:E.ps=[t,u,v,w])(h:kb t u v w (aL [t,u,v,w] l) F=some z):∃x y a b,F x y a b=some z/\kD E l [.ah t x [],.ah u y [],.ah v a [],.ah w b []]:=by
 unfold kb at h
 split at h
 ·rename_i a b c d hn
  obtain⟨x,v,q,rfl,rfl,h1,h⟩:=pY hn h
  obtain⟨y,v',q',rfl,rfl,h2,h⟩:=pY h1 h
  obtain⟨w,v',q',rfl,rfl,h3,h⟩:=pY h2 h
  obtain⟨w',v',q',rfl,rfl,h4,h⟩:=pY h3 h
  refine⟨x,y,w,w',h,fun C k fn code b K=>BT (by rw[ji];exact hn) ?_⟩
  intro s hs
  simp only[List.mem_cons,List.not_mem_nil,or_false] at hs
  rcases hs with rfl|rfl|rfl|rfl<;>exact CD
 ·cases h
theorem zy8{t:Ty}{own:List (List Nat)}{l:List SV}{b:Option bm}{F:El t->List SV->Option R}{z:R}(h:mY t own l b F=some z):∃x r,l= .ptr 0 t []::r/\b=some ⟨t,x,own⟩/\F x r=some z:=by
 unfold mY at h
 split at h
 ·rename_i u r B
  split at h
  ·rename_i hB
   split at h
   ·rename_i hu
    simp only[Bool.and_eq_true,beq_iff_eq] at hu
    obtain⟨h1,h2⟩:=hu
    obtain⟨Bt,Bx,Bo⟩:=B
    have:=Ty.aK hB
    have h3:=Ty.aK h1
    subst this
    subst h3
    subst h2
    exact⟨Bx,r,rfl,rfl,h⟩
   ·cases h
  ·cases h
 ·cases h
theorem Kg{t:Ty}:(SV.ptr 0 t []).shut=SV.ptr 0 t []/\SV.ptr 0 t []≠ .cr:=⟨rfl,by simp⟩
theorem kD.ptr{t:Ty}{ts:List Ty}{q q':List SV}(ji:E.ps= .unit::ts)(hn:aL ts q=q')(hd:∀s∈q',s.shut=s/\s≠ .cr):kD E (.ptr 0 t []::q) (.ptr 0 t []::q'):=fun C k fn code b K=>
 BT (by rw[ji];simp [aL,SV.shut,hn]) (fun s hs=>by
  rcases List.mem_cons.1 hs with rfl|hs
  ·exact Kg
  ·exact hd s hs)
theorem GY{t pt bt:Ty}{own:List (List Nat)}{l:List SV}{b:Option bm}{F:El t->El bt->Option R}{z:R}(ji:E.ps=[t,.unit])(h:j9 t pt bt own (aL [t,.unit] l) b F=some z):
 ∃x y,b=some ⟨bt,y,own⟩/\F x y=some z/\kD E l [.ah t x [],.ptr 0 pt []]:=by
 unfold j9 at h
 split at h
 ·rename_i a u B hn
  split at h
  ·rename_i hB
   split at h
   ·rename_i hu
    simp only[Bool.and_eq_true,beq_iff_eq] at hu
    obtain⟨h1,h2⟩:=hu
    obtain⟨Bt,Bx,Bo⟩:=B
    have:=Ty.aK hB
    have h3:=Ty.aK h1
    subst this
    subst h3
    subst h2
    obtain⟨y,v,q,rfl,rfl,h4,h⟩:=pY hn h
    refine⟨y,Bx,rfl,h,fun C k fn code b K=>BT (by rw[ji];exact hn) ?_⟩
    intro s hs
    simp only[List.mem_cons,List.not_mem_nil,or_false] at hs
    rcases hs with rfl|rfl
    ·exact CD
    ·exact Kg
   ·cases h
  ·cases h
 ·cases h
theorem Ju{t:Ty}{x:El t}:(SV.view t x).shut=SV.view t x/\SV.view t x≠ .cr:=⟨rfl,by simp⟩
theorem GX{t u v w:Ty}{l:List SV}{F:El t->El u->El v->El w->Option R}{z:R}(ji:E.ps=[t,u,.unit,.unit])(h:DP t u v w (aL [t,u,.unit,.unit] l) F=some z):
 ∃p q x y,F p q x y=some z/\kD E l [.ah t p [],.ah u q [],.view v x,.view w y]:=by
 unfold DP at h
 split at h
 ·rename_i a b v' x w' y hn
  split at h
  ·rename_i hv
   split at h
   ·rename_i hw
    have:=Ty.aK hv
    have h3:=Ty.aK hw
    subst this
    subst h3
    obtain⟨p,v1,q1,rfl,rfl,h4,h⟩:=pY hn h
    obtain⟨q,v2,q2,rfl,rfl,h5,h⟩:=pY h4 h
    refine⟨p,q,x,y,h,fun C k fn code b K=>BT (by rw[ji];exact hn) ?_⟩
    intro s hs
    simp only[List.mem_cons,List.not_mem_nil,or_false] at hs
    rcases hs with rfl|rfl|rfl|rfl
    ·exact CD
    ·exact CD
    ·exact Ju
    ·exact Ju
   ·cases h
  ·cases h
 ·cases h
end
end Go.Ref

namespace Go.Ref
open Go
variable {P:Program} {E:Env}
def aq.after(X:aq)(w:World):aq:=⟨w,fun g=>if g<X.w.heap.size then X.ow g else .ro 0,X.β⟩
theorem zs7{X:aq}{w:World}(h:RowKit.Below X.w.heap.size X.w w){a:Addr}{v:Value}(hs:X.aw a v):(X.after w).aw a v:=by
 have ap:=aq.gJ hs
 refine⟨hs.1,?_,?_⟩
 ·have:=hs.2.1
  simp only[World.cell?] at this⊢
  rw[show(X.after w).w=w from rfl,h.block _ ap];exact this
 ·simp only[aq.after];rw[if_pos ap];exact hs.2.2
theorem Yq{X:aq}{w:World}(h:RowKit.Below X.w.heap.size X.w w):Ext X (X.after w) where
 aw:=fun _ _=>zs7 h
 size:=h.size
 os:=h.os
 tape:=h.tape
 output:=h.output
 β0:=rfl
 still:=fun g hg _=>⟨by simp only[aq.after];rw[if_pos hg],h.block g hg⟩
theorem acy{C:ag}(h0:∀f,cN P C f){n:FuncId}{g:Pure}(dY:p8 P n)
 (h:∀(l:List SV) (b:Option bm) (r:List SV) (b':Option bm),g (List SV×Option bm) l b (fun r b=>some (r,b))=some (r,b')->b'=none/\(∀id t p,SV.ptr id t p∉r)/\
   ∀(X:aq) (args:Array Value),jW X l b args->Calls P n args X.w fun e w'=>∃v,e= .returned v/\RowKit.Below X.w.heap.size X.w w'/\∀Y:aq,Y.w=w'->(∀a v,X.aw a v->Y.aw a v)->cB Y .r r v):∀f,cN P (C.add n [] g) f:=by
 intro f
 by_cases e:f=n
 ·subst e
  intro l b r b' hc
  unfold ag.add at hc
  have hb:Nat.beq f f=true:=by simp
  rw[hb] at hc
  have hc:g (List SV×Option bm) (aL [] l) b (fun r b=>some (r,b))=some (r,b'):=hc
  have hl:aL [] l=l:=by cases l<;>rfl
  rw[hl] at hc
  obtain⟨rfl,hp,Aa⟩:=h l b r b' hc
  refine⟨dY,fun X args gR=>(Aa X args gR).mono fun e w' he=> ?_⟩
  obtain⟨v,rfl,hB,aM⟩:=he
  refine⟨X.after w',rfl,Yq hB,0,aM {X.after w' with β:=fun _=>some 0} rfl (fun a v hs=>(zs7 hB hs:(X.after w').aw a v)),fun B' fA=>(by cases fA),fun _=>hp⟩
 ·intro l b r b' hc
  unfold ag.add at hc
  have:Nat.beq f n=false:=by
   cases hh:Nat.beq f n with
   |false=>rfl
   |true=>exact absurd (Nat.eq_of_beq_eq_true hh) e
  rw[this] at hc
  exact h0 f l b r b' hc
theorem zz1{X:aq}{l:List SV}{b:Option bm}{args:Array Value}(h:jW X l b args){i:Nat}{sv:SV}(hs:l[i]? =some sv){x:ByteArray}(hx:∀(X:aq) (pl:List Nat->Place) (v:Value),au X pl sv v->∃cs,aR X .str x cs/\v=dx .str cs):args[i]? =some (.string x):=by
 have ap:i<args.size:=by rw[h.size];exact(List.getElem?_eq_some_iff.1 hs).1
 rw[Array.getElem?_eq_getElem ap]
 obtain⟨cs,h1,h2⟩:=hx X _ _ (h.rep i sv _ hs (Array.getElem?_eq_getElem ap))
 rw[h2,z28 h1]
theorem Y0{X:aq}{l:List SV}{b:Option bm}{args:Array Value}(h:jW X l b args){i:Nat}{sv:SV}(hs:l[i]? =some sv){k:IntKind}{n:Int}(hx:∀(X:aq) (pl:List Nat->Place) (v:Value),au X pl sv v->∃cs,aR X (.int k) n cs/\v=dx (.int k) cs):args[i]? =some (.int k n):=by
 have ap:i<args.size:=by rw[h.size];exact(List.getElem?_eq_some_iff.1 hs).1
 rw[Array.getElem?_eq_getElem ap]
 obtain⟨cs,h1,h2⟩:=hx X _ _ (h.rep i sv _ hs (Array.getElem?_eq_getElem ap))
 rw[h2,ku h1]
theorem abS{args:Array Value}{v:Value}(hs:args.size=1)(h:args[0]? =some v):args= #[v]:=by
 apply Array.ext'
 match hl:args.toList,(show args.toList.length=1 by simpa using hs) with
 | [x],_=>
   have:args.toList[0]? =some v:=by simpa using h
   rw[hl] at this
   simpa using this
theorem Hy{args:Array Value}{u v:Value}(hs:args.size=2)(h:args[0]? =some u)(h1:args[1]? =some v):args= #[u,v]:=by
 apply Array.ext'
 match hl:args.toList,(show args.toList.length=2 by simpa using hs) with
 | [x,y],_=>
   have a:args.toList[0]? =some u:=by simpa using h
   have b:args.toList[1]? =some v:=by simpa using h1
   rw[hl] at a b
   simp at a b
   rw[a,b]
theorem acz{C:ag}(h0:∀f,cN P C f){n:FuncId}(dY:p8 P n)(F:ByteArray->Int->Option ByteArray)
 (h:∀(s:ByteArray) (k:Int) (r:ByteArray),F s k=some r->∀w:World,Calls P n #[.string s,.int .i64 k] w fun e w'=>e= .returned (.string r)/\RowKit.Below w.heap.size w w'):
 ∀f,cN P (C.add n [] fun R l b K=>fq b (gl .str (.int .i64) l fun x0 x1=>(F x0 x1).bind fun r=>K [.ah .str r []] none)) f:=by
 refine acy h0 dY fun l b r b' hc=> ?_
 obtain⟨hb,hc2⟩:=BQ hc
 clear hc
 subst hb
 have hc:=hc2
 clear hc2
 unfold gl at hc
 split at hc
 case h_2=>cases hc
 rename_i sa sb
 obtain⟨s,hc,hs⟩:=zz hc
 obtain⟨k,hc,hk⟩:=zz hc
 have hc:((F s k).bind fun r=>some (([SV.ah .str r []]:List SV),(none:Option bm)))=some (r,b'):=hc
 cases hF:F s k with
 |none=>rw[hF] at hc;cases hc
 |some x=>
  rw[hF] at hc
  cases hc
  refine⟨rfl,fun id t p hm=>by simp at hm,fun X args gR=> ?_⟩
  have e:=Hy gR.size (zz1 gR rfl hs) (Y0 gR rfl hk)
  rw[e]
  exact(h s k x hF X.w).mono fun e w' ⟨he,hB⟩=>⟨_,he,hB,fun Y _ _=>yj⟩
end Go.Ref
namespace bu
open Go Go.Ref
def strings_Repeat(s:ByteArray)(k:Int):Option ByteArray:=
 bif decide (0<=k) then bif decide (k<=9223372036854775807) then bif decide ((s.size:Int)*k<=140737488355328) then some ⟨(Go.Lib.repeatL s.data.toList k.toNat).toArray⟩ else none else none else none
theorem zcw{P:Program}{ρ:Go.Shelf.Ren}(L:Go.Proofs.Lays.n105 P ρ)(B:Go.Proofs.Builder.Extra P ρ){n:FuncId}(hn:ρ.f 105=n)(s:ByteArray)(k:Int)(r:ByteArray)(h:strings_Repeat s k=some r)(w:World):
 Calls P n #[.string s,.int .i64 k] w fun e w'=>e= .returned (.string r)/\RowKit.Below w.heap.size w w':=by
 subst hn
 unfold strings_Repeat at h
 by_cases h0:0<=k
 ·by_cases h1:k<=9223372036854775807
  ·by_cases h2:(s.size:Int)*k<=140737488355328
   ·rw[decide_eq_true h0,decide_eq_true h1,decide_eq_true h2] at h
    cases h
    obtain⟨c,rfl⟩:∃c:Nat,k=(c:Int):=⟨k.toNat,by omega⟩
    exact Go.Proofs.Any.strings_Repeat L B s c w (by omega) (by rw[<-Int.natCast_mul] at h2;omega)
   ·rw[decide_eq_true h0,decide_eq_true h1,decide_eq_false h2] at h;cases h
  ·rw[decide_eq_true h0,decide_eq_false h1] at h;cases h
 ·rw[decide_eq_false h0] at h;cases h
end bu

namespace Go.Ref
open Go Go.Shelf Go.RowKit Go.Proofs
variable {P:Program} {E:Env} {ρ:Ren}
abbrev vw(T e:TypeId):Ty:= .aV (.fF T e) .unit .unit
def MP(x s:ByteArray):Option (Int×ByteArray):=bif decide (x.size+s.size<=140737488355328) then some ((s.size:Int),x++s) else none
def z55(x:ByteArray):Option (ByteArray×ByteArray):=some (x,x)
def LY(T e:TypeId):Pure:=fun R l b K=>mY (vw T e) [[]] l b fun x0 l=>hN .str l fun x1=>(MP x0 x1).bind fun r=>K [.ah (.int .i64) r.1 [],.undef] (some ⟨vw T e,r.2,[[]]⟩)
def LX(T e:TypeId):Pure:=fun R l b K=>mY (vw T e) [[]] l b fun x0 l=>hM l ((z55 x0).bind fun r=>K [.ah .str r.1 []] (some ⟨vw T e,r.2,[]⟩))
theorem agP(T e:TypeId):(LY T e).Nat:=fun R S l b F G K h=>Hw fun _ _=>zya fun _=>tf fun _=>h _ _
theorem agO(T e:TypeId):(LX T e).Nat:=fun R S l b F G K h=>Hw fun _ _=>zy9 (tf fun _=>h _ _)
theorem VM(x s:ByteArray):Lib.strCells (x++s)=Lib.strCells x++Lib.strCells s:=by
 simp [Lib.strCells,ByteArray.data_append]
def aq.fF(X:aq)(w:World)(r:Nat)(g:Option Nat):aq:=⟨w,fun k=>if k=r then .box 0 else if g=some k then .row (.b 0 []) 0 else if k<X.w.heap.size then X.ow k else .ro 0,X.β⟩
theorem I2{X:aq}{w:World}{r:Nat}{g0 g:Option Nat}(how:X.ow r= .box 0)(h0:∀k,g0=some k->X.ow k= .row (.b 0 []) 0)(h:fE r g0 X.w w)(hg:∀k,g=some k->g0=some k\/X.w.heap.size<=k):Ext X (X.fF w r g):=by
 have di:∀k,k<X.w.heap.size->X.ow k≠ .box 0->X.ow k≠ .row (.b 0 []) 0->(X.fF w r g).ow k=X.ow k/\w.heap[k]? =X.w.heap[k]? :=fun k hk h1 h2=>by
  have hr:k≠r:=fun e=>h1 (by rw[e];exact how)
  have hg1:g≠some k:=fun e=>by
   rcases hg k e with e2|e2
   ·exact h2 (h0 k e2)
   ·omega
  have hg2:some k≠g0:=fun e=>h2 (h0 k e.symm)
  refine⟨?_,h.block k hk hr hg2⟩
  simp only[aq.fF]
  rw[if_neg hr,if_neg hg1,if_pos hk]
 refine⟨fun a v hs=> ?_,h.size,h.os,h.tape,h.output,rfl,fun k hk ct=> ?_⟩
 ·have ap:=aq.gJ hs
  have hu:=hs.2.2
  obtain⟨k1,k2⟩:=di a.block ap (fun e=>by rw[e] at hu;exact hu) (fun e=>by rw[e] at hu;exact Nat.not_lt_zero _ hu)
  refine⟨hs.1,?_,by rw[k1];exact hu⟩
  have:=hs.2.1
  simp only[World.cell?] at this⊢
  rw[show(X.fF w r g).w.heap=w.heap from rfl,k2];exact this
 ·exact di k hk (fun e=>by rw[e] at ct;exact ct) (fun e=>by rw[e] at ct;exact ct)
theorem HD(n:Nat):Nat.beq n n=true:=by simp
theorem JX{f n:Nat}(e:f≠n):Nat.beq f n=false:=by
 cases hh:Nat.beq f n with
 |false=>rfl
 |true=>exact absurd (Nat.eq_of_beq_eq_true hh) e
theorem YA{C:ag}(h0:∀f,cN P C f){n T e:TypeId}(dY:p8 P n)(L:Lays.n166 P ρ)(X0:Builder.Extra P ρ)(hn:ρ.f 166=n)(hT:ρ.t 72=T)(he:ρ.t 5=e):∀f,cN P (C.add n [] (LY T e)) f:=by
 subst hT he
 intro f
 by_cases ef:f=n
 ·subst ef
  intro l b r b' hc
  unfold ag.add at hc
  rw[HD] at hc
  have hc:LY (ρ.t 72) (ρ.t 5) (List SV×Option bm) (aL [] l) b (fun r b=>some (r,b))=some (r,b'):=hc
  have hl:aL [] l=l:=by cases l<;>rfl
  rw[hl] at hc
  unfold LY at hc
  obtain⟨x,q,rfl,rfl,F5⟩:=zy8 hc
  clear hc
  have hc:=F5
  clear F5
  unfold hN at hc
  split at hc
  case h_2=>cases hc
  rename_i a
  obtain⟨s,hc,hs⟩:=zz hc
  unfold MP at hc
  cases hd:decide (ByteArray.size x+s.size<=140737488355328) with
  |false=>rw[hd] at hc;cases hc
  |true=>
   rw[hd] at hc
   cases hc
   have hlen:=of_decide_eq_true hd
   refine⟨dY,fun X args gR=> ?_⟩
   obtain⟨r0,hβ,how,⟨o,ho⟩,hb⟩:=gR.box _ rfl
   obtain⟨v,hB,hv⟩:=hb (by simp)
   have dh:args.size=2:=by rw[gR.size];rfl
   have a0:args[0]? =some (.pointer (some ⟨r0,0,none⟩)):=by
    rw[Array.getElem?_eq_getElem (by omega)]
    obtain⟨r1,g1,g2⟩:=gR.rep 0 _ _ rfl (Array.getElem?_eq_getElem (by omega))
    rw[hβ] at g1
    cases g1
    rw[((KH rfl).1 g2).1];rfl
   have a1:args[1]? =some (.string s):=zz1 gR (i:=1) rfl hs
   rw[Hy dh a0 a1,<-hn]
   refine(YC L X0 r0 v (Lib.strCells x) s X.w hB (by rw[Lib.strCells_length];exact hlen)).mono ?_
   rintro e w' ⟨rfl,v',fA,uR,jP⟩
   have hY:(X.fF w' r0 v'.ownBlock).ow r0= .box 0:=by simp [aq.fF]
   refine⟨X.fF w' r0 v'.ownBlock,rfl,I2 how hv uR jP,r0,⟨_,rfl,rfl,fun j sv u hj hu=> ?_⟩,fun B' cT=> ?_,fun _ id t p hm=>by simp at hm⟩
   ·match j with
    |0=>cases hj;cases hu;exact iH
    |1=>cases hj;trivial
    |j+2=>simp at hj
   ·cases cT
    refine⟨⟨hY,?_,fun _=>⟨v',by rw[VM];exact fA,fun g hg=> ?_⟩⟩,fun _=>hβ⟩
    ·rcases fA.mz with h|h<;>exact⟨_,h⟩
    ·simp only[aq.fF]
     rw[if_neg (fun e=>fA.ne (by rw[hg,e])),if_pos hg]
 ·intro l b r b' hc
  unfold ag.add at hc
  rw[JX ef] at hc
  exact h0 f l b r b' hc
theorem Yz{C:ag}(h0:∀f,cN P C f){n T e:TypeId}(dY:p8 P n)(L:Lays.n169 P ρ)(X0:Builder.Extra P ρ)(hn:ρ.f 169=n)(hT:ρ.t 72=T)(he:ρ.t 5=e):∀f,cN P (C.add n [] (LX T e)) f:=by
 subst hT he
 intro f
 by_cases ef:f=n
 ·subst ef
  intro l b r b' hc
  unfold ag.add at hc
  rw[HD] at hc
  have hc:LX (ρ.t 72) (ρ.t 5) (List SV×Option bm) (aL [] l) b (fun r b=>some (r,b))=some (r,b'):=hc
  have hl:aL [] l=l:=by cases l<;>rfl
  rw[hl] at hc
  unfold LX at hc
  obtain⟨x,q,rfl,rfl,F5⟩:=zy8 hc
  clear hc
  have hc:=F5
  clear F5
  unfold hM at hc
  split at hc
  case h_2=>cases hc
  cases hc
  refine⟨dY,fun X args gR=> ?_⟩
  obtain⟨r0,hβ,how,⟨o,ho⟩,hb⟩:=gR.box _ rfl
  obtain⟨v,hB,hv⟩:=hb (by simp)
  have dh:args.size=1:=by rw[gR.size];rfl
  have a0:args[0]? =some (.pointer (some ⟨r0,0,none⟩)):=by
   rw[Array.getElem?_eq_getElem (by omega)]
   obtain⟨r1,g1,g2⟩:=gR.rep 0 _ _ rfl (Array.getElem?_eq_getElem (by omega))
   rw[hβ] at g1
   cases g1
   rw[((KH rfl).1 g2).1];rfl
  rw[abS dh a0,<-hn]
  refine(abX L X0 r0 v (x:ByteArray).data.toList X.w hB).mono ?_
  rintro e w' ⟨rfl,uR⟩
  have hY:(X.fF w' r0 none).ow r0= .box 0:=by simp [aq.fF]
  refine⟨X.fF w' r0 none,rfl,I2 how hv uR (fun k hk=>by cases hk),r0,?_,fun B' cT=> ?_,fun _ id t p hm=>by simp at hm⟩
  ·exact yj
  ·cases cT
   refine⟨⟨hY,⟨_,Array.getElem?_eq_getElem (Nat.lt_of_lt_of_le hB.lt uR.size)⟩,fun hm=>by cases hm⟩,fun _=>hβ⟩
 ·intro l b r b' hc
  unfold ag.add at hc
  rw[JX ef] at hc
  exact h0 f l b r b' hc
end Go.Ref

namespace Go.Ref
open Go
variable {P:Program} {R S:Type}
structure aI(P:Program)(T:ag):Prop where
 mix:P.follows .mixedOrders=true
 nat:T.Nat
 su:∀f,cN P T f
noncomputable abbrev cd (fn:Func):Code:=fn.body.getD .skip
noncomputable abbrev zN (E:Env) (T:ag) (R:Type) (k:Nat) (fn:Func) (l:List SV) (b:Option bm) (K:List SV->Option bm->Option R):Option R:=iB E (T R) k fn (cd fn) l b K
abbrev KF(R:Type):Type:=List SV->Option bm->Option R
abbrev KX(R:Type):Type:=Ex->State->Option R
abbrev my(β:Type):Type 1:=(R:Type)->β->KF R->Option R
def my.Nat{β:Type}(o:my β):Prop:=∀(R S:Type) r (F:KF R) (G:KF S) (K:S->Option R),(∀r b,F r b=(G r b).bind K)->o R r F=(o S r G).bind K
def xq(fn:Func):Bool:= !(fn.name== "runtime.NumGoroutine")&&fn.body.isSome
def tI(x:Int):SV:= .ah (.int .i64) x []
def tU(x:Int):SV:= .ah (.int .u8) x []
def tB(x:Bool):SV:= .ah .bool x []
def tS(x:ByteArray):SV:= .ah .str x []
theorem agU{kk:Nat}(hF:kk=ae){R:Type}(f:Unit->Option R):bT kk f=f ():=by rw[hF];exact WQ f
theorem ax:(∀{R S:Type} (c:Bool) (x y:Option S) (F:S->Option R),(bif c then x else y).bind F=bif c then x.bind F else y.bind F)/\(∀{R S:Type} (i:Int) (n:Nat) (x:Option S) (F:S->Option R),(zd i n x).bind F=zd i n (x.bind F))/\
 (∀{R S:Type} (F:S->Option R),(.none:Option S).bind F= .none)/\(∀{R S:Type} (x:S) (F:S->Option R),(some x).bind F=F x)/\(∀{R S α β:Type} (f:α->Option S) (g:β->Option S) (e:α⊕β) (F:S->Option R),(Sum.elim f g e).bind F=Sum.elim (fun x=>(f x).bind F) (fun x=>(g x).bind F) e)/\
 (∀{R S α:Type} (x:Option α) (f:α->Option S) (F:S->Option R),(x.bind f).bind F=x.bind fun y=>(f y).bind F)/\(∀{α β γ:Type} (f:α->γ) (g:β->γ) (x:α),Sum.elim f g (.inl x)=f x)/\(∀{α β γ:Type} (f:α->γ) (g:β->γ) (x:β),Sum.elim f g (.inr x)=g x):=
 ⟨zge,z168,Zi,zc,acZ,Yy,fun _ _ _=>rfl,fun _ _ _=>rfl⟩
theorem aI.none(hm:P.follows .mixedOrders=true):aI P ag.none:=⟨hm,acG,Zj⟩
theorem aI.add{E:Env}{T:ag}(h:aI P T)(hE:ak P E){n:FuncId}{ps:List Ty}{g:Pure}{fn:Func}(jC:P.funcs[n]? =some fn)(hc:xq fn=true)(hg:g.Nat)
 (h1:∀(l:List SV) (b:Option bm) (r:List SV) (b':Option bm),g (List SV×Option bm) (aL ps l) b (fun r b=>some (r,b))=some (r,b')->∃k,iB E (T (List SV×Option bm)) k fn (cd fn) l b (fun r b=>some (r,b))=some (r,b')):aI P (T.add n ps g):=by
 obtain⟨h2,h3⟩:=Bool.and_eq_true_iff.1 hc
 refine⟨h.mix,PS h.nat hg,abQ hE h.mix h.nat h.su jC (by simpa using h2) ?_ h1⟩
 cases e:fn.body with
 |none=>rw[e] at h3;cases h3
 |some c=>simp [cd,e]
def Aw{β:Type}(f:Option β)(o:my β):Pure:=fun R l b K=>fq b (hM l (f.bind fun r=>o R r K))
theorem CT(E:Env){T:ag}{n:FuncId}(fn:Func){β:Type}{f:Option β}{o:my β}(m:(R:Type)->Nat->KF R->Option R)(h0:aI P T)(hE:ak P E)(jC:P.funcs[n]? =some fn)(hc:xq fn=true)(hp:E.ps=[])(ho:o.Nat)
 (h1:∀(R:Type) k (K:KF R),zN E T R k fn [] .none K=m R k K) (h2:∀(R:Type) kk (e:kk=ae) (K:KF R),m R kk K=f.bind fun r=>o R r K):aI P (T.add n [] (Aw f o)):=
 h0.add hE jC hc (fun R S l b F G K h=>BS (zy9 (tf fun _=>ho _ _ _ _ _ _ h))) fun l b r b' h=>by
  obtain⟨rfl,h5⟩:=BQ h
  obtain⟨h3,h4⟩:=vp hp h5
  exact⟨ae,(h4 _ _ _ _ _ _).trans (((h1 _ _ _).trans (h2 _ _ rfl _)).trans h3)⟩
def cG(t:Ty){β:Type}(f:El t->Option β)(o:my β):Pure:=fun R l b K=>fq b (hN t l (fun x=>(f x).bind fun r=>o R r K))
theorem cH(E:Env){T:ag}{n:FuncId}(fn:Func){t:Ty}{β:Type}{f:El t->Option β}{o:my β}(m:(R:Type)->Nat->El t->KF R->Option R)(h0:aI P T)(hE:ak P E)(jC:P.funcs[n]? =some fn)(hc:xq fn=true)(hp:E.ps=[t])(ho:o.Nat)
 (h1:∀(R:Type) k x (K:KF R),zN E T R k fn [.ah t x []] .none K=m R k x K) (h2:∀(R:Type) kk (e:kk=ae) x (K:KF R),m R kk x K=(f x).bind fun r=>o R r K):aI P (T.add n [t] (cG t f o)):=
 h0.add hE jC hc (fun R S l b F G K h=>BS (zya fun _=>tf fun _=>ho _ _ _ _ _ _ h)) fun l b r b' h=>by
  obtain⟨rfl,h5⟩:=BQ h
  obtain⟨x,h3,h4⟩:=UP hp h5
  exact⟨ae,(h4 _ _ _ _ _ _).trans (((h1 _ _ x _).trans (h2 _ _ rfl x _)).trans h3)⟩
def cU(t u:Ty){β:Type}(f:El t->El u->Option β)(o:my β):Pure:=fun R l b K=>fq b (gl t u l (fun x y=>(f x y).bind fun r=>o R r K))
theorem cW(E:Env){T:ag}{n:FuncId}(fn:Func){t u:Ty}{β:Type}{f:El t->El u->Option β}{o:my β}(m:(R:Type)->Nat->El t->El u->KF R->Option R)(h0:aI P T)(hE:ak P E)(jC:P.funcs[n]? =some fn)(hc:xq fn=true)(hp:E.ps=[t,u])(ho:o.Nat)
 (h1:∀(R:Type) k x y (K:KF R),zN E T R k fn [.ah t x [],.ah u y []] .none K=m R k x y K) (h2:∀(R:Type) kk (e:kk=ae) x y (K:KF R),m R kk x y K=(f x y).bind fun r=>o R r K):aI P (T.add n [t,u] (cU t u f o)):=
 h0.add hE jC hc (fun R S l b F G K h=>BS (zyb fun _ _=>tf fun _=>ho _ _ _ _ _ _ h)) fun l b r b' h=>by
  obtain⟨rfl,h5⟩:=BQ h
  obtain⟨x,y,h3,h4⟩:=sw hp h5
  exact⟨ae,(h4 _ _ _ _ _ _).trans (((h1 _ _ x y _).trans (h2 _ _ rfl x y _)).trans h3)⟩
def jE(t u v:Ty){β:Type}(f:El t->El u->El v->Option β)(o:my β):Pure:=fun R l b K=>fq b (ka t u v l (fun x y a=>(f x y a).bind fun r=>o R r K))
theorem jV(E:Env){T:ag}{n:FuncId}(fn:Func){t u v:Ty}{β:Type}{f:El t->El u->El v->Option β}{o:my β}(m:(R:Type)->Nat->El t->El u->El v->KF R->Option R)(h0:aI P T)(hE:ak P E)(jC:P.funcs[n]? =some fn)(hc:xq fn=true)(hp:E.ps=[t,u,v])(ho:o.Nat)
 (h1:∀(R:Type) k x y a (K:KF R),zN E T R k fn [.ah t x [],.ah u y [],.ah v a []] .none K=m R k x y a K) (h2:∀(R:Type) kk (e:kk=ae) x y a (K:KF R),m R kk x y a K=(f x y a).bind fun r=>o R r K):aI P (T.add n [t,u,v] (jE t u v f o)):=
 h0.add hE jC hc (fun R S l b F G K h=>BS (Yt fun _ _ _=>tf fun _=>ho _ _ _ _ _ _ h)) fun l b r b' h=>by
  obtain⟨rfl,h5⟩:=BQ h
  obtain⟨x,y,a,h3,h4⟩:=UQ hp h5
  exact⟨ae,(h4 _ _ _ _ _ _).trans (((h1 _ _ x y a _).trans (h2 _ _ rfl x y a _)).trans h3)⟩
def Ax(t u v w:Ty){β:Type}(f:El t->El u->El v->El w->Option β)(o:my β):Pure:=fun R l b K=>fq b (kb t u v w l (fun x y a b=>(f x y a b).bind fun r=>o R r K))
theorem CU(E:Env){T:ag}{n:FuncId}(fn:Func){t u v w:Ty}{β:Type}{f:El t->El u->El v->El w->Option β}{o:my β}(m:(R:Type)->Nat->El t->El u->El v->El w->KF R->Option R)(h0:aI P T)(hE:ak P E)(jC:P.funcs[n]? =some fn)(hc:xq fn=true)(hp:E.ps=[t,u,v,w])(ho:o.Nat)
 (h1:∀(R:Type) k x y a b (K:KF R),zN E T R k fn [.ah t x [],.ah u y [],.ah v a [],.ah w b []] .none K=m R k x y a b K) (h2:∀(R:Type) kk (e:kk=ae) x y a b (K:KF R),m R kk x y a b K=(f x y a b).bind fun r=>o R r K):aI P (T.add n [t,u,v,w] (Ax t u v w f o)):=
 h0.add hE jC hc (fun R S l b F G K h=>BS (Yu fun _ _ _ _=>tf fun _=>ho _ _ _ _ _ _ h)) fun l b r b' h=>by
  obtain⟨rfl,h5⟩:=BQ h
  obtain⟨x,y,a,b,h3,h4⟩:=UR hp h5
  exact⟨ae,(h4 _ _ _ _ _ _).trans (((h1 _ _ x y a b _).trans (h2 _ _ rfl x y a b _)).trans h3)⟩
def pz(t pt bt:Ty)(wn:List (List Nat)){β:Type}(f:El t->El bt->Option β)(o:my β):Pure:=fun R l b K=>j9 t pt bt wn l b fun x y=>(f x y).bind fun r=>o R r K
theorem sz(E:Env){T:ag}{n:FuncId}(fn:Func){t pt bt:Ty}{wn:List (List Nat)}{β:Type}{f:El t->El bt->Option β}{o:my β}(m:(R:Type)->Nat->El t->El bt->KF R->Option R)(h0:aI P T)(hE:ak P E)(jC:P.funcs[n]? =some fn)(hc:xq fn=true)(hp:E.ps=[t,.unit])(ho:o.Nat)
 (h1:∀(R:Type) k x y (K:KF R),zN E T R k fn [.ah t x [],.ptr 0 pt []] (some ⟨bt,y,wn⟩) K=m R k x y K) (h2:∀(R:Type) kk (e:kk=ae) x y (K:KF R),m R kk x y K=(f x y).bind fun r=>o R r K):aI P (T.add n [t,.unit] (pz t pt bt wn f o)):=
 h0.add hE jC hc (fun R S l b F G K h=>Ys fun _ _=>tf fun _=>ho _ _ _ _ _ _ h) fun l b r b' h=>by
  obtain⟨x,y,rfl,h3,h4⟩:=GY hp h
  exact⟨ae,(h4 _ _ _ _ _ _).trans (((h1 _ _ x y _).trans (h2 _ _ rfl x y _)).trans h3)⟩
def pv(t u v w:Ty){β:Type}(f:El t->El u->El v->El w->Option β)(o:my β):Pure:=fun R l b K=>fq b (DP t u v w l (fun x y a b=>(f x y a b).bind fun r=>o R r K))
theorem sv(E:Env){T:ag}{n:FuncId}(fn:Func){t u v w:Ty}{β:Type}{f:El t->El u->El v->El w->Option β}{o:my β}(m:(R:Type)->Nat->El t->El u->El v->El w->KF R->Option R)(h0:aI P T)(hE:ak P E)(jC:P.funcs[n]? =some fn)(hc:xq fn=true)(hp:E.ps=[t,u,.unit,.unit])(ho:o.Nat)
 (h1:∀(R:Type) k x y a b (K:KF R),zN E T R k fn [.ah t x [],.ah u y [],.view v a,.view w b] .none K=m R k x y a b K) (h2:∀(R:Type) kk (e:kk=ae) x y a b (K:KF R),m R kk x y a b K=(f x y a b).bind fun r=>o R r K):aI P (T.add n [t,u,.unit,.unit] (pv t u v w f o)):=
 h0.add hE jC hc (fun R S l b F G K h=>BS (Wp fun _ _ _ _=>tf fun _=>ho _ _ _ _ _ _ h)) fun l b r b' h=>by
  unfold pv at h
  obtain⟨rfl,h5⟩:=BQ h
  obtain⟨x,y,a,b,h3,h4⟩:=GX hp h5
  exact⟨ae,(h4 _ _ _ _ _ _).trans (((h1 _ _ x y a b _).trans (h2 _ _ rfl x y a b _)).trans h3)⟩
end Go.Ref

namespace bu
open Go.IntKind renaming wrap->zW,i64->zI,u8->zU
open Go Go.Ref
abbrev lI:Type:=(ByteArray×Nat)
abbrev lJ:Type:=(Int×Int×Int)
abbrev FP:Type:=(ByteArray×Int)
abbrev uK:Type:=(List (List Int))
abbrev Sy:Type:=(Int×ByteArray)
abbrev hJ:Type:=(ByteArray×Bool)
abbrev ay:Type:=(Int×Int×Unit)
abbrev yT:Type:=(List (Int×Bool))
abbrev iA:Type:=(ByteArray×Int×Int)
abbrev cK:Type:=(Int×ByteArray×Unit)
abbrev gk:Type:=(List hJ)
abbrev eQ:Type:=(ByteArray×ByteArray×Unit)
abbrev ar:Type:=(List cK)
abbrev aj:Type:=(Int×Int×Int×Int×Int×Unit)
abbrev aP:Type:=(List eQ)
abbrev fQ:Type:=(List aj)
abbrev iy:Type:=(ar×Int×Int)
abbrev af:Type:=(ByteArray×ar×Unit)
abbrev ai:Type:=(Int×Int×fQ×Unit)
abbrev mX:Type:=(List ai)
abbrev bD:Type:=(Int×Int×Int×ByteArray×aP×Unit)
abbrev pC:Type:=(ar×Int×Int×ar)
abbrev cn:Type:=(List bD)
abbrev pD:Type:=(af×ay×af)
abbrev aE:Type:=(aP×cn×Unit)
abbrev iz:Type:=(ByteArray×Int×af×ay×af)
abbrev aB:Type:=(ai×aE×(List Int)×ar×Unit)
abbrev lK:Type:=(List aB)
abbrev pE:Type:=(aE×ai×ai)
abbrev er:Type:=(lK×Int×Unit)
abbrev pF:Type:=(Int×Int×Int×aE×ai×ai)
def Pp{R:Type}(a:ByteArray)(b:Int)(c:ByteArray->Int->Option R):Option R:=
 c a b
def Pq{R:Type}(a:ByteArray)(b:Int)(c:ByteArray->Int->Option R)(d:ByteArray->Option R):Option R:=
 bif 0<(a.size:Int) then zd (zW zI ((a.size:Int)-1)) a.size (bif ze a (zW zI ((a.size:Int)-(1:Int))).toNat=b then bif 0<=zW zI ((a.size:Int)-1) then bif zW zI ((a.size:Int)-1)<=(a.size:Int) then c (a.extract 0 (zW zI ((a.size:Int)-(1:Int))).toNat) b else none else none else d a) else d a
def Pr{R:Type}(a:ByteArray)(b:ByteArray->Option R):Option R:=
 b a
def Dk:Nat->ByteArray->Int->Option ByteArray
 |0,_,_=>none
 |k+1,v0,v1=>Pq v0 v1 (fun a0 a1=>Dk k a0 a1) (fun a0=>some a0)
def tP(a:ByteArray)(b:Int):Option ByteArray:=
 Pp a b (fun a0 a1=>(Dk ae a0 a1).bind fun e=>Pr e (fun a0=>some a0))
def Pk{R:Type}(a:ByteArray)(b:Int)(c:ByteArray->Int->Option R):Option R:=
 c a b
def Pm{R:Type}(a:ByteArray)(b:Int)(c:ByteArray->Int->Option R)(d:ByteArray->Option R):Option R:=
 bif 0<(a.size:Int) then zd 0 a.size (bif ze a ((0:Int)).toNat=b then bif 1<=(a.size:Int) then c (a.extract ((1:Int)).toNat a.size) b else none else d a) else d a
def Pn{R:Type}(a:ByteArray)(b:ByteArray->Option R):Option R:=
 b a
def Dj:Nat->ByteArray->Int->Option ByteArray
 |0,_,_=>none
 |k+1,v0,v1=>Pm v0 v1 (fun a0 a1=>Dj k a0 a1) (fun a0=>some a0)
def tO(a:ByteArray)(b:Int):Option ByteArray:=
 Pk a b (fun a0 a1=>(Dj ae a0 a1).bind fun e=>Pn e (fun a0=>some a0))
def Ph{R:Type}(a b:ByteArray)(c:ByteArray->Option R):Option R:=
 bif a=bs [] then c a else bif b=bs [] then c a else bif(b.size:Int)=1 then zd 0 b.size (bif ze b ((0:Int)).toNat<128 then zd 0 b.size ((tP a (ze b ((0:Int)).toNat)).bind fun r1=>zd 0 b.size ((tO r1 (ze b ((0:Int)).toNat)).bind fun r2=>c r2)) else none) else none
def qW(a b:ByteArray):Option ByteArray:=
 Ph a b (fun a0=>some a0)
def QZ{R:Type}(a:ByteArray)(b:lI->Option R):Option R:=
 b (a,0)
def Ra{R:Type}(a:lI)(b:Bool->Option R)(c:lI->Option R)(d:Option R):Option R:=
 bif a.2<a.1.size then bif(((Utf8.decode a.1 a.2).1:Nat):Int)<48 then b false else bif 57<(((Utf8.decode a.1 a.2).1:Nat):Int) then b false else c (a.1,a.2+(Utf8.decode a.1 a.2).2) else d
def AW{R:Type}(a:Bool)(b:Bool->Option R):Option R:=
 b a
def AX{R:Type}(a:Bool->Option R):Option R:=
 a true
def Dz:Nat->lI->Option (Sum Bool Unit)
 |0,_=>none
 |k+1,v0=>Ra v0 (fun a0=>some (.inl a0)) (fun a0=>Dz k a0) (some (.inr ()))
def wu(a:ByteArray):Option Bool:=
 QZ a (fun a0=>(Dz ae a0).bind fun e=>Sum.elim (fun(we:Bool)=>AW we (fun a0=>some a0)) (fun(we:Unit)=>AX (fun a0=>some a0)) e)
def Rc{R:Type}(a:ByteArray)(b:Int->Bool->Option R)(c:Int->lI->Option R):Option R:=
 bif a=bs [] then b 0 false else bif 18<(a.size:Int) then b 0 false else(wu a).bind fun r1=>bif !r1 then b 0 false else c 0 (a,0)
def Rd{R:Type}(a:Int)(b:lI)(c:Int->lI->Option R)(d:Int->Option R):Option R:=
 bif b.2<b.1.size then c (zW zI (zW zI (10*a)+zW zI (IntKind.i32.wrap ((((Utf8.decode b.1 b.2).1:Nat):Int)-48)))) (b.1,b.2+(Utf8.decode b.1 b.2).2) else d a
def AY{R:Type}(a:Int)(b:Int->Bool->Option R):Option R:=
 b a true
def DA:Nat->Int->lI->Option Int
 |0,_,_=>none
 |k+1,v0,v1=>Rd v0 v1 (fun a0 a1=>DA k a0 a1) (fun a0=>some a0)
def wv(a:ByteArray):Option (Int×Bool):=
 Rc a (fun a0 a1=>some (a0,a1)) (fun a0 a1=>(DA ae a0 a1).bind fun e=>AY e (fun a0 a1=>some (a0,a1)))
def Rg{R:Type}(a b:Int)(c:ByteArray->Bool->Option R)(d:Int->Nat->Int->Nat->(List Int)->Option R):Option R:=
 bif a<0 then c (bs []) false else bif b<1 then c (bs []) false else bif 18<b then c (bs []) false else bif b=b then bif 0<=b then bif b*1<=140737488355328 then d a b.toNat (zW zI (b-1)) b.toNat (List.replicate b.toNat 0) else none else none else none
def Ly{R:Type}(a:Int)(b:Nat)(c:Int)(d:Nat)(e:(List Int))(f:Int->Nat->Int->Nat->(List Int)->Option R)(g:Int->Nat->Nat->(List Int)->Option R):Option R:=
 bif 0<=c then zd c b (bif Nat.ble (c.toNat+1) (List.length e) then f (zW zI (Int.tdiv a 10)) b (zW zI (c-1)) d (List.set e c.toNat (zW zU (zW zI (48+Int.tmod a 10)))) else none) else g a b d e
def Rh{R:Type}(a:Int)(b c:Nat)(d:(List Int))(e:ByteArray->Bool->Option R):Option R:=
 bif 0<a then e (bs []) false else bif Nat.beq b (List.length d) then e (strOf d) true else none
def Cp:Nat->Int->Nat->Int->Nat->(List Int)->Option (Int×Nat×Nat×(List Int))
 |0,_,_,_,_,_=>none
 |k+1,v0,v1,v2,v3,v4=>Ly v0 v1 v2 v3 v4 (fun a0 a1 a2 a3 a4=>Cp k a0 a1 a2 a3 a4) (fun a0 a1 a2 a3=>some (a0,a1,a2,a3))
def Eh(a b:Int):Option hJ:=
 Rg a b (fun a0 a1=>some (a0,a1)) (fun a0 a1 a2 a3 a4=>(Cp ae a0 a1 a2 a3 a4).bind fun e=>Rh e.1 e.2.1 e.2.2.1 e.2.2.2 (fun a0 a1=>some (a0,a1)))
def Re{R:Type}(a:ByteArray)(b:Int)(c:ByteArray->Bool->Option R):Option R:=
 bif a=bs [] then c (bs []) false else bif 999<(a.size:Int) then c (bs []) false else(wu a).bind fun r1=>bif !r1 then c (bs []) false else bif b<1 then c (bs []) false else bif 999<b then c (bs []) false else bif(a.size:Int)<=b then(strings_Repeat (bs [48]) (zW zI (b-(a.size:Int)))).bind fun r2=>bif r2.size+a.size<=9223372036854775807 then c (r2++a) true else none else bif 0<=zW zI ((a.size:Int)-b) then bif zW zI ((a.size:Int)-b)<=(a.size:Int) then(qW (a.extract 0 (zW zI ((a.size:Int)-b)).toNat) (bs [48])).bind fun r3=>bif !decide (r3=bs []) then c (bs []) false else bif 0<=zW zI ((a.size:Int)-b) then bif zW zI ((a.size:Int)-b)<=(a.size:Int) then c (a.extract (zW zI ((a.size:Int)-b)).toNat a.size) true else none else none else none else none
def Ef(a:ByteArray)(b:Int):Option hJ:=
 Re a b (fun a0 a1=>some (a0,a1))
def nC{R:Type}(a:Int)(b:Int->Option R):Option R:=
 bif a<1 then b 0 else b (zW zI (zW zI (Int.tdiv a 2)+Int.tmod a 2))
def Q2(a:Int):Option Int:=
 nC a (fun a0=>some a0)
def ns{R:Type}(a:ByteArray)(b:Int)(c:ByteArray->Int->Int->Option R)(d:ByteArray->Int->(List Int)->Int->Int->Option R):Option R:=
 bif b<0 then c (bs []) 1 0 else bif 999<b then c (bs []) 1 0 else(Q2 b).bind fun r1=>bif(a.size:Int)<r1 then c (bs []) 2 (a.size:Int) else bif 0<=zW zI (b+1) then bif zW zI (b+1)*1<=140737488355328 then(Q2 b).bind fun r2=>d a b [] r2 0 else none else none
def lu{R:Type}(a:ByteArray)(b:Int)(c:(List Int))(d e:Int)(f:Int->ByteArray->Int->Int->(List Int)->Option R)(g:ByteArray->Int->(List Int)->Int->Int->Option R)(h:Int->(List Int)->Option R):Option R:=
 bif e<d then zd e a.size (zd e a.size (bif e=0 then bif !decide (Int.tmod b 2=0) then bif !decide (Int.fdiv (ze a e.toNat) (2^min ((4:Int)).toNat 8)=0) then f b (bs []) 4 0 c else bif 9<Int.fdiv (ze a e.toNat) (2^min ((4:Int)).toNat 8) then f b (bs []) 3 e c else bif 9<aD .and .u8 (ze a e.toNat) 15 then f b (bs []) 3 e c else bif(List.length c+List.length ([(zW zU ((48:Int)+Int.fdiv (ze a e.toNat) (2^min ((4:Int)).toNat 8))),(zW zU ((48:Int)+aD .and .u8 (ze a e.toNat) (15:Int)))]:List Int))*1<=140737488355328 then g a b (c++([(zW zU (48+Int.fdiv (ze a e.toNat) (2^min ((4:Int)).toNat 8))),(zW zU (48+aD .and .u8 (ze a e.toNat) 15))]:List Int)) d (zW zI (e+1)) else none else bif 9<Int.fdiv (ze a e.toNat) (2^min ((4:Int)).toNat 8) then f b (bs []) 3 e c else bif 9<aD .and .u8 (ze a e.toNat) 15 then f b (bs []) 3 e c else bif(List.length c+List.length ([(zW zU ((48:Int)+Int.fdiv (ze a e.toNat) (2^min ((4:Int)).toNat 8))),(zW zU ((48:Int)+aD .and .u8 (ze a e.toNat) (15:Int)))]:List Int))*1<=140737488355328 then g a b (c++([(zW zU (48+Int.fdiv (ze a e.toNat) (2^min ((4:Int)).toNat 8))),(zW zU (48+aD .and .u8 (ze a e.toNat) 15))]:List Int)) d (zW zI (e+1)) else none else bif 9<Int.fdiv (ze a e.toNat) (2^min ((4:Int)).toNat 8) then f b (bs []) 3 e c else bif 9<aD .and .u8 (ze a e.toNat) 15 then f b (bs []) 3 e c else bif(List.length c+List.length ([(zW zU ((48:Int)+Int.fdiv (ze a e.toNat) (2^min ((4:Int)).toNat 8))),(zW zU ((48:Int)+aD .and .u8 (ze a e.toNat) (15:Int)))]:List Int))*1<=140737488355328 then g a b (c++([(zW zU (48+Int.fdiv (ze a e.toNat) (2^min ((4:Int)).toNat 8))),(zW zU (48+aD .and .u8 (ze a e.toNat) 15))]:List Int)) d (zW zI (e+1)) else none)) else h b c
def qw{R:Type}(a:Int)(b:ByteArray)(c d:Int)(e:(List Int))(f:ByteArray->Int->Int->Option R):Option R:=
 f b c d
def nu{R:Type}(a:Int)(b:(List Int))(c:ByteArray->Int->Int->Option R):Option R:=
 bif 0<=Int.tmod a 2 then bif Int.tmod a 2<=(((List.length b):Nat):Int) then c (strOf (List.drop (Int.tmod a (2:Int)).toNat (List.take (List.length b) b))) 0 0 else none else none
def gZ:Nat->ByteArray->Int->(List Int)->Int->Int->Option (Sum (Int×ByteArray×Int×Int×(List Int)) (Int×(List Int)))
 |0,_,_,_,_,_=>none
 |k+1,v0,v1,v2,v3,v4=>lu v0 v1 v2 v3 v4 (fun a0 a1 a2 a3 a4=>some (.inl (a0,a1,a2,a3,a4))) (fun a0 a1 a2 a3 a4=>gZ k a0 a1 a2 a3 a4) (fun a0 a1=>some (.inr (a0,a1)))
def Q0(a:ByteArray)(b:Int):Option iA:=
 ns a b (fun a0 a1 a2=>some (a0,a1,a2)) (fun a0 a1 a2 a3 a4=>(gZ ae a0 a1 a2 a3 a4).bind fun e=>Sum.elim (fun(we:(Int×ByteArray×Int×Int×(List Int)))=>qw we.1 we.2.1 we.2.2.1 we.2.2.2.1 we.2.2.2.2 (fun a0 a1 a2=>some (a0,a1,a2))) (fun(we:(Int×(List Int)))=>nu we.1 we.2 (fun a0 a1 a2=>some (a0,a1,a2))) e)
def jY{R:Type}(a:ByteArray)(b:ByteArray->Bool->Option R)(c:ByteArray->(List Int)->Int->Option R):Option R:=
 bif 999<(a.size:Int) then b (bs []) false else(wu a).bind fun r1=>bif !r1 then b (bs []) false else bif !decide (Int.tmod (a.size:Int) 2=0) then bif(bs [48]).size+a.size<=9223372036854775807 then bif 0<=zW zI (Int.tdiv ((bs [48]++a).size:Int) 2) then bif zW zI (Int.tdiv ((bs [48]++a).size:Int) 2)*1<=140737488355328 then c (bs [48]++a) [] 0 else none else none else none else bif 0<=zW zI (Int.tdiv (a.size:Int) 2) then bif zW zI (Int.tdiv (a.size:Int) 2)*1<=140737488355328 then c a [] 0 else none else none
theorem z183{R S:Type}(F:R->Option S)(a)(b)(c):(jY a b c).bind F=jY a (fun a0 a1=>(b a0 a1).bind F) (fun a0 a1 a2=>(c a0 a1 a2).bind F):=by
 simp only[jY,ax]
def lA{R:Type}(a:ByteArray)(b:(List Int))(c:Int)(d:ByteArray->(List Int)->Int->Option R)(e:(List Int)->Option R):Option R:=
 bif c<(a.size:Int) then zd c a.size (zd (zW zI (c+1)) a.size (bif(List.length b+List.length ([(aD .or .u8 (zW zU (zW zU (ze a c.toNat-(48:Int))*2^min ((4:Int)).toNat 8)) (zW zU (ze a (zW zI (c+(1:Int))).toNat-(48:Int))))]:List Int))*1<=140737488355328 then d a (b++([(aD .or .u8 (zW zU (zW zU (ze a c.toNat-48)*2^min ((4:Int)).toNat 8)) (zW zU (ze a (zW zI (c+(1:Int))).toNat-48)))]:List Int)) (zW zI (c+2)) else none)) else e b
def qQ{R:Type}(a:(List Int))(b:ByteArray->Bool->Option R):Option R:=
 b (strOf a) true
def iQ:Nat->ByteArray->(List Int)->Int->Option (List Int)
 |0,_,_,_=>none
 |k+1,v0,v1,v2=>lA v0 v1 v2 (fun a0 a1 a2=>iQ k a0 a1 a2) (fun a0=>some a0)
def Q1(a:ByteArray):Option hJ:=
 jY a (fun a0 a1=>some (a0,a1)) (fun a0 a1 a2=>(iQ ae a0 a1 a2).bind fun e=>qQ e (fun a0 a1=>some (a0,a1)))
def nG{R:Type}(a:Int)(b:Int->Option R):Option R:=
 bif a<0 then b 0 else bif 65535<a then b 0 else bif 255<a then b (zW zI (zW zI (zW zI (0+1)+1)+1)) else bif 127<a then b (zW zI (zW zI (0+1)+1)) else b (zW zI (0+1))
def Q4(a:Int):Option Int:=
 nG a (fun a0=>some a0)
def jZ{R:Type}(a:ByteArray)(b:Int)(c:Int->Int->Int->Option R)(d:ByteArray->Int->Int->Int->Int->Int->Option R):Option R:=
 bif b<0 then c 0 0 1 else bif(a.size:Int)<b then c 0 0 1 else bif b=(a.size:Int) then c 0 0 2 else zd b a.size (bif 127<zW zI (ze a b.toNat) then bif zW zI (ze a b.toNat)=128 then c 0 0 14 else bif 130<zW zI (ze a b.toNat) then c 0 0 14 else bif zW zI ((a.size:Int)-zW zI (b+1))<zW zI (zW zI (ze a b.toNat)-128) then c 0 0 2 else d a (zW zI (b+1)) 0 (zW zI (zW zI (ze a b.toNat)-128)) (zW zI (zW zI (ze a b.toNat)-128)) 0 else bif zW zI ((a.size:Int)-zW zI (b+1))<0 then c 0 0 2 else d a (zW zI (b+1)) (zW zI (ze a b.toNat)) 0 0 0)
theorem Wm{R S:Type}(F:R->Option S)(a)(b)(c)(d):(jZ a b c d).bind F=jZ a b (fun a0 a1 a2=>(c a0 a1 a2).bind F) (fun a0 a1 a2 a3 a4 a5=>(d a0 a1 a2 a3 a4 a5).bind F):=by
 simp only[jZ,ax]
def j4{R:Type}(a:ByteArray)(b c d e f:Int)(g:ByteArray->Int->Int->Int->Int->Int->Option R)(h:Int->Int->Int->Option R):Option R:=
 bif f<e then zd (zW zI (b+f)) a.size (g a b (aD .or .i64 (zW zI (c*2^min ((8:Int)).toNat 64)) (zW zI (ze a (zW zI (b+f)).toNat))) d e (zW zI (f+1))) else h b c d
def j5{R:Type}(a b c:Int)(d:Int->Int->Int->Option R):Option R:=
 (Q4 b).bind fun r1=>bif !decide (r1=zW zI (c+1)) then d 0 0 14 else d b (zW zI (a+c)) 0
def dQ:Nat->ByteArray->Int->Int->Int->Int->Int->Option lJ
 |0,_,_,_,_,_,_=>none
 |k+1,v0,v1,v2,v3,v4,v5=>j4 v0 v1 v2 v3 v4 v5 (fun a0 a1 a2 a3 a4 a5=>dQ k a0 a1 a2 a3 a4 a5) (fun a0 a1 a2=>some (a0,a1,a2))
def Q3(a:ByteArray)(b:Int):Option lJ:=
 jZ a b (fun a0 a1 a2=>some (a0,a1,a2)) (fun a0 a1 a2 a3 a4 a5=>(dQ ae a0 a1 a2 a3 a4 a5).bind fun e=>j5 e.1 e.2.1 e.2.2 (fun a0 a1 a2=>some (a0,a1,a2)))
def zv4{R:Type}(a:Int)(b:Int->Option R):Option R:=
 bif 4294967296<=a then bif 65536<=Int.fdiv a (2^min ((32:Int)).toNat 64) then bif 256<=Int.fdiv (Int.fdiv a (2^min ((32:Int)).toNat 64)) (2^min ((16:Int)).toNat 64) then zd (zW zU (Int.fdiv (Int.fdiv (Int.fdiv a (2^min ((32:Int)).toNat 64)) (2^min ((16:Int)).toNat 64)) (2^min ((8:Int)).toNat 64))) (bs [0,1,2,2,3,3,3,3,4,4,4,4,4,4,4,4,5,5,5,5,5,5,5,5,5,5,5,5,5,5,5,5,6,6,6,6,6,6,6,6,6,6,6,6,6,6,6,6,6,6,6,6,6,6,6,6,6,6,6,6,6,6,6,6,7,7,7,7,7,7,7,7,7,7,7,7,7,7,7,7,7,7,7,7,7,7,7,7,7,7,7,7,7,7,7,7,7,7,7,7,7,7,7,7,7,7,7,7,7,7,7,7,7,7,7,7,7,7,7,7,7,7,7,7,7,7,7,7,8,8,8,8,8,8,8,8,8,8,8,8,8,8,8,8,8,8,8,8,8,8,8,8,8,8,8,8,8,8,8,8,8,8,8,8,8,8,8,8,8,8,8,8,8,8,8,8,8,8,8,8,8,8,8,8,8,8,8,8,8,8,8,8,8,8,8,8,8,8,8,8,8,8,8,8,8,8,8,8,8,8,8,8,8,8,8,8,8,8,8,8,8,8,8,8,8,8,8,8,8,8,8,8,8,8,8,8,8,8,8,8,8,8,8,8,8,8,8,8,8,8,8,8,8,8,8,8]).size (b (zW zI (zW zI (zW zI (32+16)+8)+zW zI (ze (bs [0,1,2,2,3,3,3,3,4,4,4,4,4,4,4,4,5,5,5,5,5,5,5,5,5,5,5,5,5,5,5,5,6,6,6,6,6,6,6,6,6,6,6,6,6,6,6,6,6,6,6,6,6,6,6,6,6,6,6,6,6,6,6,6,7,7,7,7,7,7,7,7,7,7,7,7,7,7,7,7,7,7,7,7,7,7,7,7,7,7,7,7,7,7,7,7,7,7,7,7,7,7,7,7,7,7,7,7,7,7,7,7,7,7,7,7,7,7,7,7,7,7,7,7,7,7,7,7,8,8,8,8,8,8,8,8,8,8,8,8,8,8,8,8,8,8,8,8,8,8,8,8,8,8,8,8,8,8,8,8,8,8,8,8,8,8,8,8,8,8,8,8,8,8,8,8,8,8,8,8,8,8,8,8,8,8,8,8,8,8,8,8,8,8,8,8,8,8,8,8,8,8,8,8,8,8,8,8,8,8,8,8,8,8,8,8,8,8,8,8,8,8,8,8,8,8,8,8,8,8,8,8,8,8,8,8,8,8,8,8,8,8,8,8,8,8,8,8,8,8,8,8,8,8,8,8]) (zW zU (Int.fdiv (Int.fdiv (Int.fdiv a (2^min ((32:Int)).toNat 64)) (2^min ((16:Int)).toNat 64)) (2^min ((8:Int)).toNat 64))).toNat)))) else zd (zW zU (Int.fdiv (Int.fdiv a (2^min ((32:Int)).toNat 64)) (2^min ((16:Int)).toNat 64))) (bs [0,1,2,2,3,3,3,3,4,4,4,4,4,4,4,4,5,5,5,5,5,5,5,5,5,5,5,5,5,5,5,5,6,6,6,6,6,6,6,6,6,6,6,6,6,6,6,6,6,6,6,6,6,6,6,6,6,6,6,6,6,6,6,6,7,7,7,7,7,7,7,7,7,7,7,7,7,7,7,7,7,7,7,7,7,7,7,7,7,7,7,7,7,7,7,7,7,7,7,7,7,7,7,7,7,7,7,7,7,7,7,7,7,7,7,7,7,7,7,7,7,7,7,7,7,7,7,7,8,8,8,8,8,8,8,8,8,8,8,8,8,8,8,8,8,8,8,8,8,8,8,8,8,8,8,8,8,8,8,8,8,8,8,8,8,8,8,8,8,8,8,8,8,8,8,8,8,8,8,8,8,8,8,8,8,8,8,8,8,8,8,8,8,8,8,8,8,8,8,8,8,8,8,8,8,8,8,8,8,8,8,8,8,8,8,8,8,8,8,8,8,8,8,8,8,8,8,8,8,8,8,8,8,8,8,8,8,8,8,8,8,8,8,8,8,8,8,8,8,8,8,8,8,8,8,8]).size (b (zW zI (zW zI (32+16)+zW zI (ze (bs [0,1,2,2,3,3,3,3,4,4,4,4,4,4,4,4,5,5,5,5,5,5,5,5,5,5,5,5,5,5,5,5,6,6,6,6,6,6,6,6,6,6,6,6,6,6,6,6,6,6,6,6,6,6,6,6,6,6,6,6,6,6,6,6,7,7,7,7,7,7,7,7,7,7,7,7,7,7,7,7,7,7,7,7,7,7,7,7,7,7,7,7,7,7,7,7,7,7,7,7,7,7,7,7,7,7,7,7,7,7,7,7,7,7,7,7,7,7,7,7,7,7,7,7,7,7,7,7,8,8,8,8,8,8,8,8,8,8,8,8,8,8,8,8,8,8,8,8,8,8,8,8,8,8,8,8,8,8,8,8,8,8,8,8,8,8,8,8,8,8,8,8,8,8,8,8,8,8,8,8,8,8,8,8,8,8,8,8,8,8,8,8,8,8,8,8,8,8,8,8,8,8,8,8,8,8,8,8,8,8,8,8,8,8,8,8,8,8,8,8,8,8,8,8,8,8,8,8,8,8,8,8,8,8,8,8,8,8,8,8,8,8,8,8,8,8,8,8,8,8,8,8,8,8,8,8]) (zW zU (Int.fdiv (Int.fdiv a (2^min ((32:Int)).toNat 64)) (2^min ((16:Int)).toNat 64))).toNat)))) else bif 256<=Int.fdiv a (2^min ((32:Int)).toNat 64) then zd (zW zU (Int.fdiv (Int.fdiv a (2^min ((32:Int)).toNat 64)) (2^min ((8:Int)).toNat 64))) (bs [0,1,2,2,3,3,3,3,4,4,4,4,4,4,4,4,5,5,5,5,5,5,5,5,5,5,5,5,5,5,5,5,6,6,6,6,6,6,6,6,6,6,6,6,6,6,6,6,6,6,6,6,6,6,6,6,6,6,6,6,6,6,6,6,7,7,7,7,7,7,7,7,7,7,7,7,7,7,7,7,7,7,7,7,7,7,7,7,7,7,7,7,7,7,7,7,7,7,7,7,7,7,7,7,7,7,7,7,7,7,7,7,7,7,7,7,7,7,7,7,7,7,7,7,7,7,7,7,8,8,8,8,8,8,8,8,8,8,8,8,8,8,8,8,8,8,8,8,8,8,8,8,8,8,8,8,8,8,8,8,8,8,8,8,8,8,8,8,8,8,8,8,8,8,8,8,8,8,8,8,8,8,8,8,8,8,8,8,8,8,8,8,8,8,8,8,8,8,8,8,8,8,8,8,8,8,8,8,8,8,8,8,8,8,8,8,8,8,8,8,8,8,8,8,8,8,8,8,8,8,8,8,8,8,8,8,8,8,8,8,8,8,8,8,8,8,8,8,8,8,8,8,8,8,8,8]).size (b (zW zI (zW zI (32+8)+zW zI (ze (bs [0,1,2,2,3,3,3,3,4,4,4,4,4,4,4,4,5,5,5,5,5,5,5,5,5,5,5,5,5,5,5,5,6,6,6,6,6,6,6,6,6,6,6,6,6,6,6,6,6,6,6,6,6,6,6,6,6,6,6,6,6,6,6,6,7,7,7,7,7,7,7,7,7,7,7,7,7,7,7,7,7,7,7,7,7,7,7,7,7,7,7,7,7,7,7,7,7,7,7,7,7,7,7,7,7,7,7,7,7,7,7,7,7,7,7,7,7,7,7,7,7,7,7,7,7,7,7,7,8,8,8,8,8,8,8,8,8,8,8,8,8,8,8,8,8,8,8,8,8,8,8,8,8,8,8,8,8,8,8,8,8,8,8,8,8,8,8,8,8,8,8,8,8,8,8,8,8,8,8,8,8,8,8,8,8,8,8,8,8,8,8,8,8,8,8,8,8,8,8,8,8,8,8,8,8,8,8,8,8,8,8,8,8,8,8,8,8,8,8,8,8,8,8,8,8,8,8,8,8,8,8,8,8,8,8,8,8,8,8,8,8,8,8,8,8,8,8,8,8,8,8,8,8,8,8,8]) (zW zU (Int.fdiv (Int.fdiv a (2^min ((32:Int)).toNat 64)) (2^min ((8:Int)).toNat 64))).toNat)))) else zd (zW zU (Int.fdiv a (2^min ((32:Int)).toNat 64))) (bs [0,1,2,2,3,3,3,3,4,4,4,4,4,4,4,4,5,5,5,5,5,5,5,5,5,5,5,5,5,5,5,5,6,6,6,6,6,6,6,6,6,6,6,6,6,6,6,6,6,6,6,6,6,6,6,6,6,6,6,6,6,6,6,6,7,7,7,7,7,7,7,7,7,7,7,7,7,7,7,7,7,7,7,7,7,7,7,7,7,7,7,7,7,7,7,7,7,7,7,7,7,7,7,7,7,7,7,7,7,7,7,7,7,7,7,7,7,7,7,7,7,7,7,7,7,7,7,7,8,8,8,8,8,8,8,8,8,8,8,8,8,8,8,8,8,8,8,8,8,8,8,8,8,8,8,8,8,8,8,8,8,8,8,8,8,8,8,8,8,8,8,8,8,8,8,8,8,8,8,8,8,8,8,8,8,8,8,8,8,8,8,8,8,8,8,8,8,8,8,8,8,8,8,8,8,8,8,8,8,8,8,8,8,8,8,8,8,8,8,8,8,8,8,8,8,8,8,8,8,8,8,8,8,8,8,8,8,8,8,8,8,8,8,8,8,8,8,8,8,8,8,8,8,8,8,8]).size (b (zW zI (32+zW zI (ze (bs [0,1,2,2,3,3,3,3,4,4,4,4,4,4,4,4,5,5,5,5,5,5,5,5,5,5,5,5,5,5,5,5,6,6,6,6,6,6,6,6,6,6,6,6,6,6,6,6,6,6,6,6,6,6,6,6,6,6,6,6,6,6,6,6,7,7,7,7,7,7,7,7,7,7,7,7,7,7,7,7,7,7,7,7,7,7,7,7,7,7,7,7,7,7,7,7,7,7,7,7,7,7,7,7,7,7,7,7,7,7,7,7,7,7,7,7,7,7,7,7,7,7,7,7,7,7,7,7,8,8,8,8,8,8,8,8,8,8,8,8,8,8,8,8,8,8,8,8,8,8,8,8,8,8,8,8,8,8,8,8,8,8,8,8,8,8,8,8,8,8,8,8,8,8,8,8,8,8,8,8,8,8,8,8,8,8,8,8,8,8,8,8,8,8,8,8,8,8,8,8,8,8,8,8,8,8,8,8,8,8,8,8,8,8,8,8,8,8,8,8,8,8,8,8,8,8,8,8,8,8,8,8,8,8,8,8,8,8,8,8,8,8,8,8,8,8,8,8,8,8,8,8,8,8,8,8]) (zW zU (Int.fdiv a (2^min ((32:Int)).toNat 64))).toNat)))) else bif 65536<=a then bif 256<=Int.fdiv a (2^min ((16:Int)).toNat 64) then zd (zW zU (Int.fdiv (Int.fdiv a (2^min ((16:Int)).toNat 64)) (2^min ((8:Int)).toNat 64))) (bs [0,1,2,2,3,3,3,3,4,4,4,4,4,4,4,4,5,5,5,5,5,5,5,5,5,5,5,5,5,5,5,5,6,6,6,6,6,6,6,6,6,6,6,6,6,6,6,6,6,6,6,6,6,6,6,6,6,6,6,6,6,6,6,6,7,7,7,7,7,7,7,7,7,7,7,7,7,7,7,7,7,7,7,7,7,7,7,7,7,7,7,7,7,7,7,7,7,7,7,7,7,7,7,7,7,7,7,7,7,7,7,7,7,7,7,7,7,7,7,7,7,7,7,7,7,7,7,7,8,8,8,8,8,8,8,8,8,8,8,8,8,8,8,8,8,8,8,8,8,8,8,8,8,8,8,8,8,8,8,8,8,8,8,8,8,8,8,8,8,8,8,8,8,8,8,8,8,8,8,8,8,8,8,8,8,8,8,8,8,8,8,8,8,8,8,8,8,8,8,8,8,8,8,8,8,8,8,8,8,8,8,8,8,8,8,8,8,8,8,8,8,8,8,8,8,8,8,8,8,8,8,8,8,8,8,8,8,8,8,8,8,8,8,8,8,8,8,8,8,8,8,8,8,8,8,8]).size (b (zW zI (zW zI (zW zI (0+16)+8)+zW zI (ze (bs [0,1,2,2,3,3,3,3,4,4,4,4,4,4,4,4,5,5,5,5,5,5,5,5,5,5,5,5,5,5,5,5,6,6,6,6,6,6,6,6,6,6,6,6,6,6,6,6,6,6,6,6,6,6,6,6,6,6,6,6,6,6,6,6,7,7,7,7,7,7,7,7,7,7,7,7,7,7,7,7,7,7,7,7,7,7,7,7,7,7,7,7,7,7,7,7,7,7,7,7,7,7,7,7,7,7,7,7,7,7,7,7,7,7,7,7,7,7,7,7,7,7,7,7,7,7,7,7,8,8,8,8,8,8,8,8,8,8,8,8,8,8,8,8,8,8,8,8,8,8,8,8,8,8,8,8,8,8,8,8,8,8,8,8,8,8,8,8,8,8,8,8,8,8,8,8,8,8,8,8,8,8,8,8,8,8,8,8,8,8,8,8,8,8,8,8,8,8,8,8,8,8,8,8,8,8,8,8,8,8,8,8,8,8,8,8,8,8,8,8,8,8,8,8,8,8,8,8,8,8,8,8,8,8,8,8,8,8,8,8,8,8,8,8,8,8,8,8,8,8,8,8,8,8,8,8]) (zW zU (Int.fdiv (Int.fdiv a (2^min ((16:Int)).toNat 64)) (2^min ((8:Int)).toNat 64))).toNat)))) else zd (zW zU (Int.fdiv a (2^min ((16:Int)).toNat 64))) (bs [0,1,2,2,3,3,3,3,4,4,4,4,4,4,4,4,5,5,5,5,5,5,5,5,5,5,5,5,5,5,5,5,6,6,6,6,6,6,6,6,6,6,6,6,6,6,6,6,6,6,6,6,6,6,6,6,6,6,6,6,6,6,6,6,7,7,7,7,7,7,7,7,7,7,7,7,7,7,7,7,7,7,7,7,7,7,7,7,7,7,7,7,7,7,7,7,7,7,7,7,7,7,7,7,7,7,7,7,7,7,7,7,7,7,7,7,7,7,7,7,7,7,7,7,7,7,7,7,8,8,8,8,8,8,8,8,8,8,8,8,8,8,8,8,8,8,8,8,8,8,8,8,8,8,8,8,8,8,8,8,8,8,8,8,8,8,8,8,8,8,8,8,8,8,8,8,8,8,8,8,8,8,8,8,8,8,8,8,8,8,8,8,8,8,8,8,8,8,8,8,8,8,8,8,8,8,8,8,8,8,8,8,8,8,8,8,8,8,8,8,8,8,8,8,8,8,8,8,8,8,8,8,8,8,8,8,8,8,8,8,8,8,8,8,8,8,8,8,8,8,8,8,8,8,8,8]).size (b (zW zI (zW zI (0+16)+zW zI (ze (bs [0,1,2,2,3,3,3,3,4,4,4,4,4,4,4,4,5,5,5,5,5,5,5,5,5,5,5,5,5,5,5,5,6,6,6,6,6,6,6,6,6,6,6,6,6,6,6,6,6,6,6,6,6,6,6,6,6,6,6,6,6,6,6,6,7,7,7,7,7,7,7,7,7,7,7,7,7,7,7,7,7,7,7,7,7,7,7,7,7,7,7,7,7,7,7,7,7,7,7,7,7,7,7,7,7,7,7,7,7,7,7,7,7,7,7,7,7,7,7,7,7,7,7,7,7,7,7,7,8,8,8,8,8,8,8,8,8,8,8,8,8,8,8,8,8,8,8,8,8,8,8,8,8,8,8,8,8,8,8,8,8,8,8,8,8,8,8,8,8,8,8,8,8,8,8,8,8,8,8,8,8,8,8,8,8,8,8,8,8,8,8,8,8,8,8,8,8,8,8,8,8,8,8,8,8,8,8,8,8,8,8,8,8,8,8,8,8,8,8,8,8,8,8,8,8,8,8,8,8,8,8,8,8,8,8,8,8,8,8,8,8,8,8,8,8,8,8,8,8,8,8,8,8,8,8,8]) (zW zU (Int.fdiv a (2^min ((16:Int)).toNat 64))).toNat)))) else bif 256<=a then zd (zW zU (Int.fdiv a (2^min ((8:Int)).toNat 64))) (bs [0,1,2,2,3,3,3,3,4,4,4,4,4,4,4,4,5,5,5,5,5,5,5,5,5,5,5,5,5,5,5,5,6,6,6,6,6,6,6,6,6,6,6,6,6,6,6,6,6,6,6,6,6,6,6,6,6,6,6,6,6,6,6,6,7,7,7,7,7,7,7,7,7,7,7,7,7,7,7,7,7,7,7,7,7,7,7,7,7,7,7,7,7,7,7,7,7,7,7,7,7,7,7,7,7,7,7,7,7,7,7,7,7,7,7,7,7,7,7,7,7,7,7,7,7,7,7,7,8,8,8,8,8,8,8,8,8,8,8,8,8,8,8,8,8,8,8,8,8,8,8,8,8,8,8,8,8,8,8,8,8,8,8,8,8,8,8,8,8,8,8,8,8,8,8,8,8,8,8,8,8,8,8,8,8,8,8,8,8,8,8,8,8,8,8,8,8,8,8,8,8,8,8,8,8,8,8,8,8,8,8,8,8,8,8,8,8,8,8,8,8,8,8,8,8,8,8,8,8,8,8,8,8,8,8,8,8,8,8,8,8,8,8,8,8,8,8,8,8,8,8,8,8,8,8,8]).size (b (zW zI (zW zI (0+8)+zW zI (ze (bs [0,1,2,2,3,3,3,3,4,4,4,4,4,4,4,4,5,5,5,5,5,5,5,5,5,5,5,5,5,5,5,5,6,6,6,6,6,6,6,6,6,6,6,6,6,6,6,6,6,6,6,6,6,6,6,6,6,6,6,6,6,6,6,6,7,7,7,7,7,7,7,7,7,7,7,7,7,7,7,7,7,7,7,7,7,7,7,7,7,7,7,7,7,7,7,7,7,7,7,7,7,7,7,7,7,7,7,7,7,7,7,7,7,7,7,7,7,7,7,7,7,7,7,7,7,7,7,7,8,8,8,8,8,8,8,8,8,8,8,8,8,8,8,8,8,8,8,8,8,8,8,8,8,8,8,8,8,8,8,8,8,8,8,8,8,8,8,8,8,8,8,8,8,8,8,8,8,8,8,8,8,8,8,8,8,8,8,8,8,8,8,8,8,8,8,8,8,8,8,8,8,8,8,8,8,8,8,8,8,8,8,8,8,8,8,8,8,8,8,8,8,8,8,8,8,8,8,8,8,8,8,8,8,8,8,8,8,8,8,8,8,8,8,8,8,8,8,8,8,8,8,8,8,8,8,8]) (zW zU (Int.fdiv a (2^min ((8:Int)).toNat 64))).toNat)))) else zd (zW zU a) (bs [0,1,2,2,3,3,3,3,4,4,4,4,4,4,4,4,5,5,5,5,5,5,5,5,5,5,5,5,5,5,5,5,6,6,6,6,6,6,6,6,6,6,6,6,6,6,6,6,6,6,6,6,6,6,6,6,6,6,6,6,6,6,6,6,7,7,7,7,7,7,7,7,7,7,7,7,7,7,7,7,7,7,7,7,7,7,7,7,7,7,7,7,7,7,7,7,7,7,7,7,7,7,7,7,7,7,7,7,7,7,7,7,7,7,7,7,7,7,7,7,7,7,7,7,7,7,7,7,8,8,8,8,8,8,8,8,8,8,8,8,8,8,8,8,8,8,8,8,8,8,8,8,8,8,8,8,8,8,8,8,8,8,8,8,8,8,8,8,8,8,8,8,8,8,8,8,8,8,8,8,8,8,8,8,8,8,8,8,8,8,8,8,8,8,8,8,8,8,8,8,8,8,8,8,8,8,8,8,8,8,8,8,8,8,8,8,8,8,8,8,8,8,8,8,8,8,8,8,8,8,8,8,8,8,8,8,8,8,8,8,8,8,8,8,8,8,8,8,8,8,8,8,8,8,8,8]).size (b (zW zI (0+zW zI (ze (bs [0,1,2,2,3,3,3,3,4,4,4,4,4,4,4,4,5,5,5,5,5,5,5,5,5,5,5,5,5,5,5,5,6,6,6,6,6,6,6,6,6,6,6,6,6,6,6,6,6,6,6,6,6,6,6,6,6,6,6,6,6,6,6,6,7,7,7,7,7,7,7,7,7,7,7,7,7,7,7,7,7,7,7,7,7,7,7,7,7,7,7,7,7,7,7,7,7,7,7,7,7,7,7,7,7,7,7,7,7,7,7,7,7,7,7,7,7,7,7,7,7,7,7,7,7,7,7,7,8,8,8,8,8,8,8,8,8,8,8,8,8,8,8,8,8,8,8,8,8,8,8,8,8,8,8,8,8,8,8,8,8,8,8,8,8,8,8,8,8,8,8,8,8,8,8,8,8,8,8,8,8,8,8,8,8,8,8,8,8,8,8,8,8,8,8,8,8,8,8,8,8,8,8,8,8,8,8,8,8,8,8,8,8,8,8,8,8,8,8,8,8,8,8,8,8,8,8,8,8,8,8,8,8,8,8,8,8,8,8,8,8,8,8,8,8,8,8,8,8,8,8,8,8,8,8,8]) (zW zU a).toNat))))
def qF(a:Int):Option Int:=
 zv4 a (fun a0=>some a0)
def Oa{R:Type}(a:Int)(b:Int->Option R):Option R:=
 (qF a).bind fun r1=>b (zW zI (64-r1))
def ly(a:Int):Option Int:=
 Oa a (fun a0=>some a0)
def Rp{R:Type}(a:Int)(b:ay->Option R):Option R:=
 bif a<1 then b (0,0,()) else bif 128<a then b (0,0,()) else bif a<=64 then bif zW zI (64-a)<0 then none else b (IntKind.u64.wrap (1*2^min (zW zI (64-a)).toNat 64),0,()) else bif zW zI (128-a)<0 then none else b (0,IntKind.u64.wrap (1*2^min (zW zI (128-a)).toNat 64),())
def CH(a:Int):Option ay:=
 Rp a (fun a0=>some a0)
def Rl{R:Type}(a b:ay)(c:ay->Option R):Option R:=
 c (aD .or .u64 a.1 b.1,aD .or .u64 a.2.1 b.2.1,())
def re(a b:ay):Option ay:=
 Rl a b (fun a0=>some a0)
def Ro{R:Type}(a:ay)(b:Int)(c:ay->Option R):Option R:=
 (CH b).bind fun r1=>(re a r1).bind fun r2=>c r2
def wy(a:ay)(b:Int):Option ay:=
 Ro a b (fun a0=>some a0)
def Rj{R:Type}(a:(List Int))(b:(List Int)->Int->Int->ay->ay->Option R):Option R:=
 b a ((List.length a):Int) 0 (0,0,()) (0,0,())
def Lz{R:Type}(a:(List Int))(b c:Int)(d e:ay)(f:(List Int)->Int->Int->ay->ay->Option R)(g:ay->ay->Option R):Option R:=
 bif c<b then zd c (List.length a) ((wy e (List.getD a c.toNat (0:Int))).bind fun r1=>f a b (zW zI (c+1)) d r1) else g d e
def Rk{R:Type}(a b:ay)(c:ay->Option R):Option R:=
 c b
def yu:Nat->(List Int)->Int->Int->ay->ay->Option (ay×ay)
 |0,_,_,_,_,_=>none
 |k+1,v0,v1,v2,v3,v4=>Lz v0 v1 v2 v3 v4 (fun a0 a1 a2 a3 a4=>yu k a0 a1 a2 a3 a4) (fun a0 a1=>some (a0,a1))
def sW(a:(List Int)):Option ay:=
 Rj a (fun a0 a1 a2 a3 a4=>(yu ae a0 a1 a2 a3 a4).bind fun e=>Rk e.1 e.2 (fun a0=>some a0))
def A0{R:Type}(a:ay)(b:Int->Int->Option R):Option R:=
 b a.1 a.2.1
def Mc(a:ay):Option (Int×Int):=
 A0 a (fun a0 a1=>some (a0,a1))
def Rn{R:Type}(a:ay)(b:Int)(c:Int->Option R):Option R:=
 bif(if b<0 then 0 else b)<64 then bif(if b<0 then 0 else b)<0 then none else bif !decide (IntKind.u64.wrap (a.1*2^min (if b<0 then 0 else b).toNat 64)=0) then(ly (IntKind.u64.wrap (a.1*2^min (if b<0 then 0 else b).toNat 64))).bind fun r1=>c (zW zI (zW zI ((if b<0 then 0 else b)+r1)+1)) else bif(if 64<zW zI (64-64) then 64 else zW zI (64-64))<0 then none else bif !decide (IntKind.u64.wrap (a.2.1*2^min (if 64<zW zI (64-64) then 64 else zW zI (64-(64:Int))).toNat 64)=0) then(ly (IntKind.u64.wrap (a.2.1*2^min (if 64<zW zI (64-64) then 64 else zW zI (64-(64:Int))).toNat 64))).bind fun r2=>c (zW zI (zW zI (64+r2)+1)) else c 0 else bif(if 64<zW zI ((if b<0 then 0 else b)-64) then 64 else zW zI ((if b<0 then 0 else b)-64))<0 then none else bif !decide (IntKind.u64.wrap (a.2.1*2^min (if 64<zW zI ((if b<0 then 0 else b)-64) then 64 else zW zI ((if b<0 then 0 else b)-(64:Int))).toNat 64)=0) then(ly (IntKind.u64.wrap (a.2.1*2^min (if 64<zW zI ((if b<0 then 0 else b)-64) then 64 else zW zI ((if b<0 then 0 else b)-(64:Int))).toNat 64))).bind fun r3=>c (zW zI (zW zI ((if b<0 then 0 else b)+r3)+1)) else c 0
def CG(a:ay)(b:Int):Option Int:=
 Rn a b (fun a0=>some a0)
def LA{R:Type}(a b:ay)(c:ay->Option R):Option R:=
 c (aD .and .u64 a.1 b.1,aD .and .u64 a.2.1 b.2.1,())
def p9(a b:ay):Option ay:=
 LA a b (fun a0=>some a0)
def Rm{R:Type}(a:ay)(b:Int)(c:Bool->Option R):Option R:=
 (CH b).bind fun r1=>(p9 a r1).bind fun r2=>c (!(decide (r2.1=0)&&(decide (r2.2.1=0)&&true)))
def En(a:ay)(b:Int):Option Bool:=
 Rm a b (fun a0=>some a0)
def AZ{R:Type}(a b:Int)(c:ay->Option R):Option R:=
 c (a,b,())
def Mb(a b:Int):Option ay:=
 AZ a b (fun a0=>some a0)
def zv0{R:Type}(a:Int)(b:Int->Bool->Option R):Option R:=
 bif 48<=a then bif a<=57 then b (zW zI (zW zU (a-48))) true else bif 65<=a then bif a<=70 then b (zW zI (zW zI (zW zU (a-65))+10)) true else b 0 false else b 0 false else bif 65<=a then bif a<=70 then b (zW zI (zW zI (zW zU (a-65))+10)) true else b 0 false else b 0 false
def qE(a:Int):Option (Int×Bool):=
 zv0 a (fun a0 a1=>some (a0,a1))
def N7{R:Type}(a:ByteArray)(b:ByteArray->(List Int)->Int->Int->Option R):Option R:=
 bif 0<=zW zI (Int.tdiv (a.size:Int) 2) then bif zW zI (Int.tdiv (a.size:Int) 2)*1<=140737488355328 then b a [] 0 0 else none else none
def KT{R:Type}(a:ByteArray)(b:(List Int))(c d:Int)(e:ByteArray->ByteArray->Int->Bool->(List Int)->Option R)(f:ByteArray->(List Int)->Int->Int->Option R)(g:ByteArray->(List Int)->Option R):Option R:=
 bif d<(a.size:Int) then zd d a.size ((qE (ze a d.toNat)).bind fun r1=>bif !r1.2 then e a (bs []) d false b else bif Int.tmod d 2=0 then f a b r1.1 (zW zI (d+1)) else bif(List.length b+List.length ([(zW zU (aD .or .i64 (zW zI (c*2^min ((4:Int)).toNat 64)) r1.1))]:List Int))*1<=140737488355328 then f a (b++([(zW zU (aD .or .i64 (zW zI (c*2^min ((4:Int)).toNat 64)) r1.1))]:List Int)) c (zW zI (d+1)) else none) else g a b
def zv2{R:Type}(a b:ByteArray)(c:Int)(d:Bool)(e:(List Int))(f:ByteArray->Int->Bool->Option R):Option R:=
 f b c d
def N8{R:Type}(a:ByteArray)(b:(List Int))(c:ByteArray->Int->Bool->Option R):Option R:=
 bif !decide (Int.tmod (a.size:Int) 2=0) then c (bs []) (a.size:Int) false else c (strOf b) 0 true
def BX:Nat->ByteArray->(List Int)->Int->Int->Option (Sum (ByteArray×ByteArray×Int×Bool×(List Int)) (ByteArray×(List Int)))
 |0,_,_,_,_=>none
 |k+1,v0,v1,v2,v3=>KT v0 v1 v2 v3 (fun a0 a1 a2 a3 a4=>some (.inl (a0,a1,a2,a3,a4))) (fun a0 a1 a2 a3=>BX k a0 a1 a2 a3) (fun a0 a1=>some (.inr (a0,a1)))
def fP(a:ByteArray):Option (ByteArray×Int×Bool):=
 N7 a (fun a0 a1 a2 a3=>(BX ae a0 a1 a2 a3).bind fun e=>Sum.elim (fun(we:(ByteArray×ByteArray×Int×Bool×(List Int)))=>zv2 we.1 we.2.1 we.2.2.1 we.2.2.2.1 we.2.2.2.2 (fun a0 a1 a2=>some (a0,a1,a2))) (fun(we:(ByteArray×(List Int)))=>N8 we.1 we.2 (fun a0 a1 a2=>some (a0,a1,a2))) e)
def zip{R:Type}(a:ByteArray)(b:ByteArray->(List Int)->Int->Option R):Option R:=
 bif 0<=zW zI (2*(a.size:Int)) then bif zW zI (2*(a.size:Int))*1<=140737488355328 then b a [] 0 else none else none
def KU{R:Type}(a:ByteArray)(b:(List Int))(c:Int)(d:ByteArray->(List Int)->Int->Option R)(e:(List Int)->Option R):Option R:=
 bif c<(a.size:Int) then zd c a.size (zd (Int.fdiv (ze a c.toNat) (2^min ((4:Int)).toNat 8)) (bs [48,49,50,51,52,53,54,55,56,57,65,66,67,68,69,70]).size (zd c a.size (zd (aD .and .u8 (ze a c.toNat) 15) (bs [48,49,50,51,52,53,54,55,56,57,65,66,67,68,69,70]).size (bif(List.length b+List.length ([(ze (bs [48,49,50,51,52,53,54,55,56,57,65,66,67,68,69,70]) (Int.fdiv (ze a c.toNat) (2^min ((4:Int)).toNat 8)).toNat),(ze (bs [48,49,50,51,52,53,54,55,56,57,65,66,67,68,69,70]) (aD .and .u8 (ze a c.toNat) (15:Int)).toNat)]:List Int))*1<=140737488355328 then d a (b++([(ze (bs [48,49,50,51,52,53,54,55,56,57,65,66,67,68,69,70]) (Int.fdiv (ze a c.toNat) (2^min ((4:Int)).toNat 8)).toNat),(ze (bs [48,49,50,51,52,53,54,55,56,57,65,66,67,68,69,70]) (aD .and .u8 (ze a c.toNat) (15:Int)).toNat)]:List Int)) (zW zI (c+1)) else none)))) else e b
def zv3{R:Type}(a:(List Int))(b:ByteArray->Option R):Option R:=
 b (strOf a)
def BZ:Nat->ByteArray->(List Int)->Int->Option (List Int)
 |0,_,_,_=>none
 |k+1,v0,v1,v2=>KU v0 v1 v2 (fun a0 a1 a2=>BZ k a0 a1 a2) (fun a0=>some a0)
def iO(a:ByteArray):Option ByteArray:=
 zip a (fun a0 a1 a2=>(BZ ae a0 a1 a2).bind fun e=>zv3 e (fun a0=>some a0))
def lG{R:Type}(a:Int)(b:Bool->Option R):Option R:=
 bif a=1 then b true else b (decide (a=2))
def Q9(a:Int):Option Bool:=
 lG a (fun a0=>some a0)
def Qg{R:Type}(a:Int)(b:ByteArray)(c:Int)(d:(List Int)->Int->Int->Option R):Option R:=
 bif a=1 then bif zW zI ((b.size:Int)-c)<zW zI (8*2) then d (List.replicate 8 0) 0 2 else bif 0<=zW zI (c+zW zI (8*2)) then bif zW zI (c+zW zI (8*2))<=(b.size:Int) then bif 0<=c then bif c<=(((zW zI (c+zW zI (8*(2:Int)))).toNat:Nat):Int) then bif a=1 then(fP (b.extract c.toNat (zW zI (c+zW zI (8*(2:Int)))).toNat)).bind fun r1=>bif !r1.2.2 then d (List.replicate 8 0) 0 3 else bif Nat.beq 8 (List.length (List.replicate 8 (0:Int))) then bif Nat.beq 8 (List.length (bE (List.replicate 8 (0:Int)) (List.take 8 (mF r1.1)) 0)) then d (bE (List.replicate 8 0) (List.take 8 (mF r1.1)) 0) (zW zI (c+zW zI (8*2))) 0 else none else none else bif Nat.beq 8 (List.length (List.replicate 8 (0:Int))) then bif Nat.beq 8 (List.length (bE (List.replicate 8 (0:Int)) (List.take 8 (mF (b.extract c.toNat (zW zI (c+zW zI ((8:Int)*(2:Int)))).toNat))) 0)) then d (bE (List.replicate 8 0) (List.take 8 (mF (b.extract c.toNat (zW zI (c+zW zI (8*(2:Int)))).toNat))) 0) (zW zI (c+zW zI (8*2))) 0 else none else none else none else none else none else none else bif zW zI ((b.size:Int)-c)<8 then d (List.replicate 8 0) 0 2 else bif 0<=zW zI (c+8) then bif zW zI (c+8)<=(b.size:Int) then bif 0<=c then bif c<=(((zW zI (c+(8:Int))).toNat:Nat):Int) then bif a=1 then(fP (b.extract c.toNat (zW zI (c+(8:Int))).toNat)).bind fun r2=>bif !r2.2.2 then d (List.replicate 8 0) 0 3 else bif Nat.beq 8 (List.length (List.replicate 8 (0:Int))) then bif Nat.beq 8 (List.length (bE (List.replicate 8 (0:Int)) (List.take 8 (mF r2.1)) 0)) then d (bE (List.replicate 8 0) (List.take 8 (mF r2.1)) 0) (zW zI (c+8)) 0 else none else none else bif Nat.beq 8 (List.length (List.replicate 8 (0:Int))) then bif Nat.beq 8 (List.length (bE (List.replicate 8 (0:Int)) (List.take 8 (mF (b.extract c.toNat (zW zI (c+(8:Int))).toNat))) 0)) then d (bE (List.replicate 8 0) (List.take 8 (mF (b.extract c.toNat (zW zI (c+(8:Int))).toNat))) 0) (zW zI (c+8)) 0 else none else none else none else none else none else none
def CF(a:Int)(b:ByteArray)(c:Int):Option ((List Int)×Int×Int):=
 Qg a b c (fun a0 a1 a2=>some (a0,a1,a2))
def nU{R:Type}(a:(List Int))(b:Int->(List Int)->Int->Option R):Option R:=
 b 0 a 0
def lD{R:Type}(a:Int)(b:(List Int))(c:Int)(d:Int->(List Int)->Int->Option R)(e:Int->Option R):Option R:=
 bif c<8 then zd c 8 (d (aD .or .u64 (IntKind.u64.wrap (a*2^min ((8:Int)).toNat 64)) (IntKind.u64.wrap (List.getD b c.toNat 0))) b (zW zI (c+1))) else e a
def rf{R:Type}(a:Int)(b:Int->Option R):Option R:=
 b a
def iT:Nat->Int->(List Int)->Int->Option Int
 |0,_,_,_=>none
 |k+1,v0,v1,v2=>lD v0 v1 v2 (fun a0 a1 a2=>iT k a0 a1 a2) (fun a0=>some a0)
def Q7(a:(List Int)):Option Int:=
 nU a (fun a0 a1 a2=>(iT ae a0 a1 a2).bind fun e=>rf e (fun a0=>some a0))
def nH{R:Type}(a:Int)(b:ByteArray)(c:Int)(d:ay->Int->Int->Option R):Option R:=
 (Q9 a).bind fun r1=>bif !r1 then d (0,0,()) 0 1 else bif c<0 then d (0,0,()) 0 1 else bif(b.size:Int)<c then d (0,0,()) 0 1 else(CF a b c).bind fun r2=>bif !decide (r2.2.2=0) then d (0,0,()) 0 r2.2.2 else(Q7 r2.1).bind fun r3=>bif aD .and .u64 r3 9223372036854775808=0 then(Mb r3 (0:Int)).bind fun r4=>d r4 r2.2.1 0 else(CF a b r2.2.1).bind fun r5=>bif !decide (r5.2.2=0) then d (0,0,()) 0 r5.2.2 else bif r5.1=([0,0,0,0,0,0,0,0]:List Int) then d (0,0,()) 0 8 else(Q7 r5.1).bind fun r6=>(Mb (aD .andNot .u64 r3 9223372036854775808) r6).bind fun r7=>d r7 r5.2.1 0
def Q5(a:Int)(b:ByteArray)(c:Int):Option (ay×Int×Int):=
 nH a b c (fun a0 a1 a2=>some (a0,a1,a2))
def nY{R:Type}(a:Int)(b:Int->Int->(List Int)->(List Int)->Option R):Option R:=
 b a 0 (List.replicate 8 0) (List.replicate 8 0)
def lE{R:Type}(a b:Int)(c d:(List Int))(e:Int->Int->(List Int)->(List Int)->Option R)(f:(List Int)->(List Int)->Option R):Option R:=
 bif b<8 then bif zW zI (8*zW zI (7-b))<0 then none else zd b 8 (e a (zW zI (b+1)) c (List.set d b.toNat (zW zU (Int.fdiv a (2^min (zW zI (8*zW zI (7-b))).toNat 64))))) else f c d
def nZ{R:Type}(a b:(List Int))(c:(List Int)->Option R):Option R:=
 c b
def gj:Nat->Int->Int->(List Int)->(List Int)->Option ((List Int)×(List Int))
 |0,_,_,_,_=>none
 |k+1,v0,v1,v2,v3=>lE v0 v1 v2 v3 (fun a0 a1 a2 a3=>gj k a0 a1 a2 a3) (fun a0 a1=>some (a0,a1))
def Q8(a:Int):Option (List Int):=
 nY a (fun a0 a1 a2 a3=>(gj ae a0 a1 a2 a3).bind fun e=>nZ e.1 e.2 (fun a0=>some a0))
def nL{R:Type}(a:Int)(b:ay)(c:ByteArray->Int->Option R):Option R:=
 (Q9 a).bind fun r1=>bif !r1 then c (bs []) 1 else(En b (1:Int)).bind fun r2=>bif r2 then c (bs []) 1 else(Mc b).bind fun r3=>(Q8 r3.2).bind fun r4=>bif !decide (r4=([0,0,0,0,0,0,0,0]:List Int)) then bif Nat.beq 8 (List.length r4) then(Q8 (aD .or .u64 r3.1 (9223372036854775808:Int))).bind fun r5=>bif Nat.beq 8 (List.length r5) then bif(strOf r5).size+(strOf r4).size<=9223372036854775807 then bif a=1 then(iO (strOf r5++strOf r4)).bind fun r6=>c r6 0 else c (strOf r5++strOf r4) 0 else none else none else none else(Q8 r3.1).bind fun r7=>bif Nat.beq 8 (List.length r7) then bif(strOf r7).size+(bs []).size<=9223372036854775807 then bif a=1 then(iO (strOf r7++bs [])).bind fun r8=>c r8 0 else c (strOf r7++bs []) 0 else none else none
def Q6(a:Int)(b:ay):Option FP:=
 nL a b (fun a0 a1=>some (a0,a1))
def K1{R:Type}(a:Int)(b:Int->Option R):Option R:=
 bif a=2 then b 2 else bif a=3 then b 3 else b 0
def iP(a:Int):Option Int:=
 K1 a (fun a0=>some a0)
def zvi{R:Type}(a:Int)(b:Int->Int->Int->Option R):Option R:=
 (iP a).bind fun r1=>b 0 r1 0
def zvj{R:Type}(a b c:Int)(d:Int->Int->Int->Option R)(e:Int->Option R):Option R:=
 bif c<b then d (zW zI (zW zI (10*a)+9)) b (zW zI (c+1)) else e a
def zvk{R:Type}(a:Int)(b:Int->Option R):Option R:=
 b a
def Ou:Nat->Int->Int->Int->Option Int
 |0,_,_,_=>none
 |k+1,v0,v1,v2=>zvj v0 v1 v2 (fun a0 a1 a2=>Ou k a0 a1 a2) (fun a0=>some a0)
def pj(a:Int):Option Int:=
 zvi a (fun a0 a1 a2=>(Ou ae a0 a1 a2).bind fun e=>zvk e (fun a0=>some a0))
def K0{R:Type}(a b:Int)(c:Bool->Option R):Option R:=
 bif a=1 then(iP b).bind fun r1=>c (decide (0<r1)) else bif a=2 then(iP b).bind fun r2=>c (decide (0<r2)) else c false
def pn(a b:Int):Option Bool:=
 K0 a b (fun a0=>some a0)
def Oq{R:Type}(a b:Int)(c:ByteArray)(d:Int)(e:Int->Int->Int->Option R):Option R:=
 (pn a b).bind fun r1=>bif !r1 then e 0 0 1 else bif d<0 then e 0 0 1 else bif(c.size:Int)<d then e 0 0 1 else(iP b).bind fun r2=>bif a=2 then(Q2 r2).bind fun r3=>bif zW zI ((c.size:Int)-d)<r3 then e 0 0 2 else bif 0<=zW zI (d+r3) then bif zW zI (d+r3)<=(c.size:Int) then bif 0<=d then bif d<=(((zW zI (d+r3)).toNat:Nat):Int) then bif a=2 then(iP b).bind fun r4=>(Q0 (c.extract d.toNat (zW zI (d+r3)).toNat) r4).bind fun r5=>bif !decide (r5.2.1=0) then e 0 0 3 else(wv r5.1).bind fun r6=>bif !r6.2 then e 0 0 3 else e r6.1 (zW zI (d+r3)) 0 else(wv (c.extract d.toNat (zW zI (d+r3)).toNat)).bind fun r7=>bif !r7.2 then e 0 0 3 else e r7.1 (zW zI (d+r3)) 0 else none else none else none else none else bif zW zI ((c.size:Int)-d)<r2 then e 0 0 2 else bif 0<=zW zI (d+r2) then bif zW zI (d+r2)<=(c.size:Int) then bif 0<=d then bif d<=(((zW zI (d+r2)).toNat:Nat):Int) then bif a=2 then(iP b).bind fun r8=>(Q0 (c.extract d.toNat (zW zI (d+r2)).toNat) r8).bind fun r9=>bif !decide (r9.2.1=0) then e 0 0 3 else(wv r9.1).bind fun jF=>bif !jF.2 then e 0 0 3 else e jF.1 (zW zI (d+r2)) 0 else(wv (c.extract d.toNat (zW zI (d+r2)).toNat)).bind fun jv=>bif !jv.2 then e 0 0 3 else e jv.1 (zW zI (d+r2)) 0 else none else none else none else none
def qK(a b:Int)(c:ByteArray)(d:Int):Option lJ:=
 Oq a b c d (fun a0 a1 a2=>some (a0,a1,a2))
def Ov{R:Type}(a b c:Int)(d:ByteArray->Int->Option R):Option R:=
 (pn a b).bind fun r1=>bif !r1 then d (bs []) 1 else(iP b).bind fun r2=>(Eh c r2).bind fun r3=>bif !r3.2 then d (bs []) 5 else bif a=2 then(Q1 r3.1).bind fun r4=>d r4.1 0 else d r3.1 0
def pk(a b c:Int):Option FP:=
 Ov a b c (fun a0 a1=>some (a0,a1))
def QG{R:Type}(a:Int)(b:Int->Option R):Option R:=
 bif a=1 then b 1 else bif a=2 then b 2 else bif a=3 then b 3 else bif a=4 then b 7 else bif a=5 then b 15 else bif a=6 then b 15 else b 0
def wo(a:Int):Option Int:=
 QG a (fun a0=>some a0)
def Qx{R:Type}(a:Int)(b:Bool->Option R):Option R:=
 (wo a).bind fun r1=>b (!decide (r1=0))
def yL(a:Int):Option Bool:=
 Qx a (fun a0=>some a0)
def AN{R:Type}(a:Int)(b:Int->Option R):Option R:=
 bif 48<=a then bif a<=57 then b 1 else bif 65<=a then bif a<=90 then b 2 else bif 97<=a then bif a<=122 then b 2 else bif 32<=a then bif a<=126 then b 4 else b 8 else b 8 else bif 32<=a then bif a<=126 then b 4 else b 8 else b 8 else bif 97<=a then bif a<=122 then b 2 else bif 32<=a then bif a<=126 then b 4 else b 8 else b 8 else bif 32<=a then bif a<=126 then b 4 else b 8 else b 8 else bif 65<=a then bif a<=90 then b 2 else bif 97<=a then bif a<=122 then b 2 else bif 32<=a then bif a<=126 then b 4 else b 8 else b 8 else bif 32<=a then bif a<=126 then b 4 else b 8 else b 8 else bif 97<=a then bif a<=122 then b 2 else bif 32<=a then bif a<=126 then b 4 else b 8 else b 8 else bif 32<=a then bif a<=126 then b 4 else b 8 else b 8
def yM(a:Int):Option Int:=
 AN a (fun a0=>some a0)
def Qu{R:Type}(a:Int)(b:ByteArray)(c:ByteArray->Int->Int->Option R):Option R:=
 (wo a).bind fun r1=>c b r1 0
def Lv{R:Type}(a:ByteArray)(b c:Int)(d:Int->Option R)(e:ByteArray->Int->Int->Option R)(f:Option R):Option R:=
 bif c<(a.size:Int) then zd c a.size ((yM (ze a c.toNat)).bind fun r2=>bif aD .and .i64 b r2=0 then d c else e a b (zW zI (c+1))) else f
def AL{R:Type}(a:Int)(b:Int->Option R):Option R:=
 b a
def AM{R:Type}(a:Int->Option R):Option R:=
 a (-1:Int)
def Cl:Nat->ByteArray->Int->Int->Option (Sum Int Unit)
 |0,_,_,_=>none
 |k+1,v0,v1,v2=>Lv v0 v1 v2 (fun a0=>some (.inl a0)) (fun a0 a1 a2=>Cl k a0 a1 a2) (some (.inr ()))
def D6(a:Int)(b:ByteArray):Option Int:=
 Qu a b (fun a0 a1 a2=>(Cl ae a0 a1 a2).bind fun e=>Sum.elim (fun(we:Int)=>AL we (fun a0=>some a0)) (fun(we:Unit)=>AM (fun a0=>some a0)) e)
def QC{R:Type}(a b:Int)(c:Bool->Option R):Option R:=
 (yL a).bind fun r1=>bif r1 then(yL b).bind fun r2=>bif r2 then(wo b).bind fun r3=>(wo a).bind fun r4=>c (decide (aD .andNot .i64 r3 r4=0)) else c false else c false
def D8(a b:Int):Option Bool:=
 QC a b (fun a0=>some a0)
def zwo{R:Type}(a:Int)(b:Bool->Option R):Option R:=
 bif 0<a then bif a<=255 then b (decide (aD .and .i64 a 32=0)) else b false else b false
def mR(a:Int):Option Bool:=
 zwo a (fun a0=>some a0)
def Pt{R:Type}(a:Int)(b:Bool->Option R):Option R:=
 bif a<=255 then(mR a).bind fun r1=>bif r1 then b (!decide (aD .and .i64 a 31=31)) else b false else bif a<=65535 then(mR (Int.fdiv a (2^min ((8:Int)).toNat 64))).bind fun r2=>bif r2 then bif aD .and .i64 (Int.fdiv a (2^min ((8:Int)).toNat 64)) 31=31 then bif 1<=aD .and .i64 a 255 then b (decide (aD .and .i64 a 255<=127)) else b false else b false else b false else b false
def qY(a:Int):Option Bool:=
 Pt a (fun a0=>some a0)
def Ps{R:Type}(a:ByteArray)(b:Int)(c:Int->Int->Int->Option R):Option R:=
 bif b<0 then c 0 0 1 else bif(a.size:Int)<b then c 0 0 1 else bif b=(a.size:Int) then c 0 0 2 else zd b a.size ((mR (zW zI (ze a b.toNat))).bind fun r1=>bif !r1 then c 0 0 13 else bif !decide (aD .and .i64 (zW zI (ze a b.toNat)) 31=31) then c (zW zI (ze a b.toNat)) (zW zI (b+1)) 0 else bif zW zI (b+1)=(a.size:Int) then c 0 0 2 else zd (zW zI (b+1)) a.size ((qY (aD .or .i64 (zW zI (zW zI (ze a b.toNat)*2^min ((8:Int)).toNat 64)) (zW zI (ze a (zW zI (b+(1:Int))).toNat)))).bind fun r2=>bif !r2 then c 0 0 13 else c (aD .or .i64 (zW zI (zW zI (ze a b.toNat)*2^min ((8:Int)).toNat 64)) (zW zI (ze a (zW zI (b+(1:Int))).toNat))) (zW zI (b+2)) 0))
def qX(a:ByteArray)(b:Int):Option lJ:=
 Ps a b (fun a0 a1 a2=>some (a0,a1,a2))
def Pv{R:Type}(a:ByteArray)(b:ByteArray->ar->Int->yT->Option R):Option R:=
 b a [] 0 []
def Pw{R:Type}(a:ByteArray)(b:ar)(c:Int)(d:yT)(e:ar->Int->Int->ar->Option R)(f:ByteArray->ar->Int->yT->Option R)(g:ar->Option R):Option R:=
 bif c<(a.size:Int) then(qX a c).bind fun r1=>bif !decide (r1.2.2=(0:Int)) then e ([]:List cK) r1.2.2 c b else(Q3 a r1.2.1).bind fun r2=>bif !decide (r2.2.2=(0:Int)) then e ([]:List cK) r2.2.2 r1.2.1 b else bif zW zI ((a.size:Int)-r2.2.1)<r2.1 then e ([]:List cK) (2:Int) (a.size:Int) b else bif ea (ff (.int .i64)) false d r1.1 then e ([]:List cK) (10:Int) c b else bif eb (ff (.int .i64)) d r1.1 then none else bif(0:Int)<=zW zI (r2.2.1+r2.1) then bif zW zI (r2.2.1+r2.1)<=((a.size:Nat):Int) then bif(0:Int)<=r2.2.1 then bif r2.2.1<=(((zW zI (r2.2.1+r2.1)).toNat:Nat):Int) then bif(List.length b+List.length ([(r1.1,a.extract r2.2.1.toNat (zW zI (r2.2.1+r2.1)).toNat,())]:List cK))*24<=140737488355328 then f a (b++([(r1.1,a.extract r2.2.1.toNat (zW zI (r2.2.1+r2.1)).toNat,())]:List cK)) (zW zI (r2.2.1+r2.1)) (d++ [(r1.1,true)]) else none else none else none else none else none else g b
def zwq{R:Type}(a:ar)(b c:Int)(d:ar)(e:ar->Int->Int->Option R):Option R:=
 e a b c
def zwr{R:Type}(a:ar)(b:ar->Int->Int->Option R):Option R:=
 b a 0 0
def Dl:Nat->ByteArray->ar->Int->yT->Option (Sum pC ar)
 |0,_,_,_,_=>none
 |k+1,v0,v1,v2,v3=>Pw v0 v1 v2 v3 (fun a0 a1 a2 a3=>some (.inl (a0,a1,a2,a3))) (fun a0 a1 a2 a3=>Dl k a0 a1 a2 a3) (fun a0=>some (.inr a0))
def qZ(a:ByteArray):Option (Sum iy iy):=
 Pv a (fun a0 a1 a2 a3=>(Dl ae a0 a1 a2 a3).bind fun e=>Sum.elim (fun(we:pC)=>zwq we.1 we.2.1 we.2.2.1 we.2.2.2 (fun a0 a1 a2=>some (.inl (a0,a1,a2)))) (fun(we:ar)=>zwr we (fun a0 a1 a2=>some (.inr (a0,a1,a2)))) e)
def Pa{R:Type}(a:aj)(b:Int->Option R):Option R:=
 bif a.1<2 then b 1 else bif 128<a.1 then b 1 else(yL a.2.1).bind fun r1=>bif !r1 then b 6 else bif a.2.2.1<1 then b 3 else bif 3<a.2.2.1 then b 3 else bif a.2.2.2.1<1 then b 5 else bif a.2.2.2.2.1<a.2.2.2.1 then b 5 else bif 999<a.2.2.2.2.1 then b 5 else bif a.2.2.1=1 then bif !decide (a.2.2.2.1=a.2.2.2.2.1) then b 5 else bif !decide (a.2.2.1=1) then(pj a.2.2.1).bind fun r2=>bif r2<a.2.2.2.2.1 then b 5 else bif a.2.2.1=1 then bif a.2.1=6 then b 13 else b 0 else b 0 else bif a.2.2.1=1 then bif a.2.1=6 then b 13 else b 0 else b 0 else bif !decide (a.2.2.1=1) then(pj a.2.2.1).bind fun r3=>bif r3<a.2.2.2.2.1 then b 5 else bif a.2.2.1=1 then bif a.2.1=6 then b 13 else b 0 else b 0 else bif a.2.2.1=1 then bif a.2.1=6 then b 13 else b 0 else b 0
def kB(a:aj):Option Int:=
 Pa a (fun a0=>some a0)
def Pb{R:Type}(a:aj)(b:ByteArray)(c:Int->Option R):Option R:=
 (kB a).bind fun r1=>bif !decide (r1=0) then c 1 else bif(b.size:Int)<a.2.2.2.1 then c 5 else bif a.2.2.2.2.1<(b.size:Int) then c 5 else(D6 a.2.1 b).bind fun r2=>bif 0<=r2 then c 6 else bif a.2.1=6 then(qZ b).bind fun r3=>Sum.elim (fun(AH:iy)=>bif !decide (AH.2.1=0) then c 13 else c 0) (fun(AH:iy)=>bif !decide (AH.2.1=0) then c 13 else c 0) r3 else c 0
def bB(a:aj)(b:ByteArray):Option Int:=
 Pb a b (fun a0=>some a0)
def Pd{R:Type}(a b:Int)(c:Bool->Option R):Option R:=
 bif a=5 then c true else bif a=6 then c (decide (a=b)) else bif b=6 then c (decide (a=b)) else(D8 a b).bind fun r1=>c r1
def tN(a b:Int):Option Bool:=
 Pd a b (fun a0=>some a0)
def Pc{R:Type}(a b:aj)(c:Bool->Option R):Option R:=
 (kB a).bind fun r1=>bif r1=0 then(kB b).bind fun r2=>bif r2=0 then bif a.2.2.2.1<=b.2.2.2.1 then bif b.2.2.2.2.1<=a.2.2.2.2.1 then(tN a.2.1 b.2.1).bind fun r3=>c r3 else c false else c false else c false else c false
def kC(a b:aj):Option Bool:=
 Pc a b (fun a0=>some a0)
end bu

