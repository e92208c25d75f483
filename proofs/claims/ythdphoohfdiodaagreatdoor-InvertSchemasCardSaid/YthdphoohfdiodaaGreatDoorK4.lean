/- No condition. -/
import Derived.Test.YthdphoohfdiodaaGreatDoorK3
set_option linter.unusedVariables false
set_option linter.unusedSimpArgs false
set_option maxRecDepth 100000
namespace Go.Proofs.YthdphoohfdiodaaGreatDoor
open Go Go.Ref Groat
theorem slices_IndexFunc_api_Value_api_Value_at_msg_With_1_d0 (R : Type) (kk k : Nat) (a_0 : Zt9) (t7 : Int) (t8 : Int) (recv : Int) (K : Ex → State → Option R) : loopR (ev slices_IndexFunc_api_Value_api_Value_at_msg_With_1_E (Tb54 R) kk (sub [1, 0, 1, 0, 0] slices_IndexFunc_api_Value_api_Value_at_msg_With_1_c)) [0, 1, 7, 8] [4] (k + 1) (slices_IndexFunc_api_Value_api_Value_at_msg_With_1_h0 a_0 t7 t8 recv) K =
  slices_IndexFunc_api_Value_api_Value_at_msg_With_1_s1 a_0 t7 t8 recv (fun a0 a1 => K .ret (slices_IndexFunc_api_Value_api_Value_at_msg_With_1_x0_0 a0 a1)) (fun a0 a1 a2 a3 => loopR (ev slices_IndexFunc_api_Value_api_Value_at_msg_With_1_E (Tb54 R) kk (sub [1, 0, 1, 0, 0] slices_IndexFunc_api_Value_api_Value_at_msg_With_1_c)) [0, 1, 7, 8] [4] k (slices_IndexFunc_api_Value_api_Value_at_msg_With_1_h0 a0 a1 a2 a3) K) (fun a0 => K (.exit 0) (slices_IndexFunc_api_Value_api_Value_at_msg_With_1_x0_1 a0)) := by kernel_rfl
theorem slices_IndexFunc_api_Value_api_Value_at_msg_With_1_y0_0 (R : Type) (kk : Nat) (x0 : Int) (t4 : Int) (recv : Int) (K : List SV → Option Box → Option R) : (kBlock 0 (kSeq slices_IndexFunc_api_Value_api_Value_at_msg_With_1_E (Tb54 R) kk (sub [1, 1] slices_IndexFunc_api_Value_api_Value_at_msg_With_1_c) (kFin slices_IndexFunc_api_Value_api_Value_at_msg_With_1_E Tryz.f57.results.toList (some ⟨(.int .i64), x0, []⟩) K))) .ret (slices_IndexFunc_api_Value_api_Value_at_msg_With_1_x0_0 t4 recv) =
  slices_IndexFunc_api_Value_api_Value_at_msg_With_1_s2 t4 recv (fun a0 a1 => K [.dat (.int .i64) a0 []] (some ⟨(.int .i64), a1, []⟩)) := by kernel_rfl
theorem slices_IndexFunc_api_Value_api_Value_at_msg_With_1_y0_1 (R : Type) (kk : Nat) (x0 : Int) (recv : Int) (K : List SV → Option Box → Option R) : (kBlock 0 (kSeq slices_IndexFunc_api_Value_api_Value_at_msg_With_1_E (Tb54 R) kk (sub [1, 1] slices_IndexFunc_api_Value_api_Value_at_msg_With_1_c) (kFin slices_IndexFunc_api_Value_api_Value_at_msg_With_1_E Tryz.f57.results.toList (some ⟨(.int .i64), x0, []⟩) K))) (.exit 0) (slices_IndexFunc_api_Value_api_Value_at_msg_With_1_x0_1 recv) =
  slices_IndexFunc_api_Value_api_Value_at_msg_With_1_s3 recv (fun a0 a1 => K [.dat (.int .i64) a0 []] (some ⟨(.int .i64), a1, []⟩)) := by kernel_rfl
theorem slices_IndexFunc_api_Value_api_Value_at_msg_With_1_lp0 (R : Type) (k : Nat) (a_0 : Zt9) (t7 : Int) (t8 : Int) (recv : Int) (K : Ex → State → Option R) : loopR (ev slices_IndexFunc_api_Value_api_Value_at_msg_With_1_E (Tb54 R) FUEL (sub [1, 0, 1, 0, 0] slices_IndexFunc_api_Value_api_Value_at_msg_With_1_c)) [0, 1, 7, 8] [4] k (slices_IndexFunc_api_Value_api_Value_at_msg_With_1_h0 a_0 t7 t8 recv) K = (slices_IndexFunc_api_Value_api_Value_at_msg_With_1_l0 k a_0 t7 t8 recv).bind fun e => (Sum.elim (fun (we : (Int × Int)) => K .ret (slices_IndexFunc_api_Value_api_Value_at_msg_With_1_x0_0 we.1 we.2)) (fun (we : Int) => K (.exit 0) (slices_IndexFunc_api_Value_api_Value_at_msg_With_1_x0_1 we)) e) := by
  induction k generalizing a_0 t7 t8 recv with
  | zero => rfl
  | succ k ih =>
    rw [slices_IndexFunc_api_Value_api_Value_at_msg_With_1_d0]
    simp only [slices_IndexFunc_api_Value_api_Value_at_msg_With_1_l0, slices_IndexFunc_api_Value_api_Value_at_msg_With_1_s0_bind, slices_IndexFunc_api_Value_api_Value_at_msg_With_1_s1_bind, slices_IndexFunc_api_Value_api_Value_at_msg_With_1_s2_bind, slices_IndexFunc_api_Value_api_Value_at_msg_With_1_s3_bind, ih, cond_bind, within_bind, none_bind, some_bind, sum_bind, bind_bind, Sum.elim_inl, Sum.elim_inr]
theorem slices_IndexFunc_api_Value_api_Value_at_msg_With_1_eq (R : Type) (a_0 : Zt9) (a_1 : Int) (K : List SV → Option Box → Option R) : evFn slices_IndexFunc_api_Value_api_Value_at_msg_With_1_E (Tb54 R) FUEL Tryz.f57 slices_IndexFunc_api_Value_api_Value_at_msg_With_1_c [.dat (.sl 44 (.pair (.int .i64) (.pair .str .unit))) a_0 [], .ptr 0 (.spc (.clo 58) (.int .i64) .unit) []] (some ⟨(.int .i64), a_1, []⟩) K = (slices_IndexFunc_api_Value_api_Value_at_msg_With_1 a_0 a_1).bind fun r => K [.dat (.int .i64) r.1 []] (some ⟨(.int .i64), r.2, []⟩) := by
  rw [slices_IndexFunc_api_Value_api_Value_at_msg_With_1_t]
  simp only [slices_IndexFunc_api_Value_api_Value_at_msg_With_1, slices_IndexFunc_api_Value_api_Value_at_msg_With_1_s0_bind, slices_IndexFunc_api_Value_api_Value_at_msg_With_1_s1_bind, slices_IndexFunc_api_Value_api_Value_at_msg_With_1_s2_bind, slices_IndexFunc_api_Value_api_Value_at_msg_With_1_s3_bind, slices_IndexFunc_api_Value_api_Value_at_msg_With_1_lp0, slices_IndexFunc_api_Value_api_Value_at_msg_With_1_y0_0, slices_IndexFunc_api_Value_api_Value_at_msg_With_1_y0_1, cond_bind, within_bind, none_bind, some_bind, sum_bind, bind_bind, Sum.elim_inl, Sum.elim_inr]
def slices_IndexFunc_api_Value_api_Value_at_msg_With_1_g : Pure := fun R l b K => argZ1 (.sl 44 (.pair (.int .i64) (.pair .str .unit))) (.spc (.clo 58) (.int .i64) .unit) (.int .i64) [] l b fun x0 x => (slices_IndexFunc_api_Value_api_Value_at_msg_With_1 x0 x).bind fun r => K [.dat (.int .i64) r.1 []] (some ⟨(.int .i64), r.2, []⟩)
theorem slices_IndexFunc_api_Value_api_Value_at_msg_With_1_n : slices_IndexFunc_api_Value_api_Value_at_msg_With_1_g.Nat := fun R S l b F G K h => argZ1_nat fun _ _ => bindr_nat fun _ => h _ _
def Tb55 : Funs := Tb54.add 57 [(.sl 44 (.pair (.int .i64) (.pair .str .unit))), .unit] slices_IndexFunc_api_Value_api_Value_at_msg_With_1_g
theorem Tb55_nat : Tb55.Nat := add_nat Tb54_nat slices_IndexFunc_api_Value_api_Value_at_msg_With_1_n
theorem Tb55_owes : ∀ f, Owes Tryz.prog Tb55 f := add_owes (E := slices_IndexFunc_api_Value_api_Value_at_msg_With_1_E) (Tab.env_ok tab_ok _ _ _ _) mixed Tb54_nat Tb54_owes (fn := Tryz.f57) (code := slices_IndexFunc_api_Value_api_Value_at_msg_With_1_c) Tryz.func57 (by kernel_rfl) (by kernel_rfl) fun l b r b' h => by
  obtain ⟨x0, x, rfl, h1, h2⟩ := ownZ1 (E := slices_IndexFunc_api_Value_api_Value_at_msg_With_1_E) rfl h
  exact ⟨FUEL, (h2 _ _ _ _ _ _).trans ((slices_IndexFunc_api_Value_api_Value_at_msg_With_1_eq _ x0 x _).trans h1)⟩
noncomputable abbrev msg_With_c : Code := Tryz.f30.body.getD .skip
def msg_With_E : Env := { tab.env (fun _ => []) (fun _ => []) [6] [y4, (.int .i64), .str] with fz := fun i => bif Nat.beq i 9 then some (9, 30) else none }
theorem msg_With_t (R : Type) (kk : Nat) (m_0 : Zt15) (no_1 : Int) (text_2 : ByteArray) (K : List SV → Option Box → Option R) : evFn msg_With_E (Tb55 R) kk Tryz.f30 msg_With_c [.dat y4 m_0 [], .dat (.int .i64) no_1 [], .dat .str text_2 []] none K =
  msg_With_s0 m_0 no_1 text_2 (fun a0 => K [.dat y4 a0 []] none) := by kernel_rfl
theorem msg_With_eq (R : Type) (m_0 : Zt15) (no_1 : Int) (text_2 : ByteArray) (K : List SV → Option Box → Option R) : evFn msg_With_E (Tb55 R) FUEL Tryz.f30 msg_With_c [.dat y4 m_0 [], .dat (.int .i64) no_1 [], .dat .str text_2 []] none K = (msg_With m_0 no_1 text_2).bind fun r => K [.dat y4 r []] none := by
  rw [msg_With_t]
  simp only [msg_With, msg_With_s0_bind, cond_bind, within_bind, none_bind, some_bind, sum_bind, bind_bind, Sum.elim_inl, Sum.elim_inr]
def msg_With_g : Pure := fun R l b K => noBox b (args3 y4 (.int .i64) .str l (fun x0 x1 x2 => (msg_With x0 x1 x2).bind fun r => K [.dat y4 r []] none))
theorem msg_With_n : msg_With_g.Nat := fun R S l b F G K h => noBox_nat (args3_nat fun _ _ _ => bindr_nat fun _ => h _ _)
def Tb56 : Funs := Tb55.add 30 [y4, (.int .i64), .str] msg_With_g
theorem Tb56_nat : Tb56.Nat := add_nat Tb55_nat msg_With_n
theorem Tb56_owes : ∀ f, Owes Tryz.prog Tb56 f := add_owes (E := msg_With_E) ((Tab.env_ok tab_ok _ _ _ _).fz _) mixed Tb55_nat Tb55_owes (fn := Tryz.f30) (code := msg_With_c) Tryz.func30 (by kernel_rfl) (by kernel_rfl) fun l b r b' h => by
  obtain ⟨rfl, h⟩ := noBox_some h
  obtain ⟨x0, x1, x2, h1, h2⟩ := own3 (E := msg_With_E) rfl h
  exact ⟨FUEL, (h2 _ _ _ _ _ _).trans ((msg_With_eq _ x0 x1 x2 _).trans h1)⟩
noncomputable abbrev xlate_find_c : Code := Tryz.f31.body.getD .skip
def xlate_find_E : Env := { tab.env (fun i => bif Nat.beq i 2 then [1, 4, 9, 10, 11] else []) (fun i => bif Nat.beq i 2 then [4, 5] else []) [4] [y14, (.int .i64)] with ro := true }
def xlate_find_h0 (no_1 : Int) (t9 : Zt20) (t10 : Int) (t11 : Int) (bt4 : Zt18) : State := ⟨uS 1 ([.dat (.int .i64) no_1 []]::(uS 2 ([.ptr 5 y9 []]::(uS 4 ([.dat (.sl 46 y9) t9 []]::[.dat (.int .i64) t10 []]::[.dat (.int .i64) t11 []]::(uS 10 ([]))))))), nS 5 ((some ⟨y9, bt4, [[4]]⟩)::(nS 17 ([])))⟩
def xlate_find_x0_0 (t5 : Bool) (bt4 : Zt18) : State := ⟨uS 4 ([.ptr 5 y9 []]::[.dat .bool t5 []]::(uS 16 ([]))), nS 5 ((some ⟨y9, bt4, []⟩)::(nS 17 ([])))⟩
def xlate_find_x0_1 (bt4 : Zt18) : State := ⟨uS 4 ([.ptr 5 y9 []]::(uS 17 ([]))), nS 5 ((some ⟨y9, bt4, [[4]]⟩)::(nS 17 ([])))⟩
theorem xlate_find_t (R : Type) (kk : Nat) (m_0 : Zt22) (no_1 : Int) (K : List SV → Option Box → Option R) : evFn xlate_find_E (Tb56 R) kk Tryz.f31 xlate_find_c [.dat y14 m_0 [], .dat (.int .i64) no_1 []] none K =
  xlate_find_s0 m_0 no_1 (fun a0 a1 a2 a3 a4 => loopR (ev xlate_find_E (Tb56 R) kk (sub [1, 0, 1, 0, 0] xlate_find_c)) [1, 4, 9, 10, 11] [4, 5] kk (xlate_find_h0 a0 a1 a2 a3 a4) (kBlock 0 (kSeq xlate_find_E (Tb56 R) kk (sub [1, 1] xlate_find_c) (kFin xlate_find_E Tryz.f31.results.toList none K)))) := by kernel_rfl
theorem xlate_find_d0 (R : Type) (kk k : Nat) (no_1 : Int) (t9 : Zt20) (t10 : Int) (t11 : Int) (bt4 : Zt18) (K : Ex → State → Option R) : loopR (ev xlate_find_E (Tb56 R) kk (sub [1, 0, 1, 0, 0] xlate_find_c)) [1, 4, 9, 10, 11] [4, 5] (k + 1) (xlate_find_h0 no_1 t9 t10 t11 bt4) K =
  xlate_find_s1 no_1 t9 t10 t11 bt4 (fun a0 a1 => K .ret (xlate_find_x0_0 a0 a1)) (fun a0 a1 a2 a3 a4 => loopR (ev xlate_find_E (Tb56 R) kk (sub [1, 0, 1, 0, 0] xlate_find_c)) [1, 4, 9, 10, 11] [4, 5] k (xlate_find_h0 a0 a1 a2 a3 a4) K) (fun a0 => K (.exit 0) (xlate_find_x0_1 a0)) := by kernel_rfl
theorem xlate_find_y0_0 (R : Type) (kk : Nat) (t5 : Bool) (bt4 : Zt18) (K : List SV → Option Box → Option R) : (kBlock 0 (kSeq xlate_find_E (Tb56 R) kk (sub [1, 1] xlate_find_c) (kFin xlate_find_E Tryz.f31.results.toList none K))) .ret (xlate_find_x0_0 t5 bt4) =
  xlate_find_s2 t5 bt4 (fun a0 a1 => K [.dat y9 a0 [], .dat .bool a1 []] none) := by kernel_rfl
theorem xlate_find_y0_1 (R : Type) (kk : Nat) (bt4 : Zt18) (K : List SV → Option Box → Option R) : (kBlock 0 (kSeq xlate_find_E (Tb56 R) kk (sub [1, 1] xlate_find_c) (kFin xlate_find_E Tryz.f31.results.toList none K))) (.exit 0) (xlate_find_x0_1 bt4) =
  xlate_find_s3 bt4 (fun a0 a1 => K [.dat y9 a0 [], .dat .bool a1 []] none) := by kernel_rfl
theorem xlate_find_lp0 (R : Type) (k : Nat) (no_1 : Int) (t9 : Zt20) (t10 : Int) (t11 : Int) (bt4 : Zt18) (K : Ex → State → Option R) : loopR (ev xlate_find_E (Tb56 R) FUEL (sub [1, 0, 1, 0, 0] xlate_find_c)) [1, 4, 9, 10, 11] [4, 5] k (xlate_find_h0 no_1 t9 t10 t11 bt4) K = (xlate_find_l0 k no_1 t9 t10 t11 bt4).bind fun e => (Sum.elim (fun (we : (Bool × Zt18)) => K .ret (xlate_find_x0_0 we.1 we.2)) (fun (we : Zt18) => K (.exit 0) (xlate_find_x0_1 we)) e) := by
  induction k generalizing no_1 t9 t10 t11 bt4 with
  | zero => rfl
  | succ k ih =>
    rw [xlate_find_d0]
    simp only [xlate_find_l0, xlate_find_s0_bind, xlate_find_s1_bind, xlate_find_s2_bind, xlate_find_s3_bind, ih, cond_bind, within_bind, none_bind, some_bind, sum_bind, bind_bind, Sum.elim_inl, Sum.elim_inr]
theorem xlate_find_eq (R : Type) (m_0 : Zt22) (no_1 : Int) (K : List SV → Option Box → Option R) : evFn xlate_find_E (Tb56 R) FUEL Tryz.f31 xlate_find_c [.dat y14 m_0 [], .dat (.int .i64) no_1 []] none K = (xlate_find m_0 no_1).bind fun r => K [.dat y9 r.1 [], .dat .bool r.2 []] none := by
  rw [xlate_find_t]
  simp only [xlate_find, xlate_find_s0_bind, xlate_find_s1_bind, xlate_find_s2_bind, xlate_find_s3_bind, xlate_find_lp0, xlate_find_y0_0, xlate_find_y0_1, cond_bind, within_bind, none_bind, some_bind, sum_bind, bind_bind, Sum.elim_inl, Sum.elim_inr]
def xlate_find_g : Pure := fun R l b K => noBox b (args2 y14 (.int .i64) l (fun x0 x1 => (xlate_find x0 x1).bind fun r => K [.dat y9 r.1 [], .dat .bool r.2 []] none))
theorem xlate_find_n : xlate_find_g.Nat := fun R S l b F G K h => noBox_nat (args2_nat fun _ _ => bindr_nat fun _ => h _ _)
def Tb57 : Funs := Tb56.add 31 [y14, (.int .i64)] xlate_find_g
theorem Tb57_nat : Tb57.Nat := add_nat Tb56_nat xlate_find_n
theorem Tb57_owes : ∀ f, Owes Tryz.prog Tb57 f := add_owes (E := xlate_find_E) ((Tab.env_ok tab_ok _ _ _ _).ro _) mixed Tb56_nat Tb56_owes (fn := Tryz.f31) (code := xlate_find_c) Tryz.func31 (by kernel_rfl) (by kernel_rfl) fun l b r b' h => by
  obtain ⟨rfl, h⟩ := noBox_some h
  obtain ⟨x0, x1, h1, h2⟩ := own2 (E := xlate_find_E) rfl h
  exact ⟨FUEL, (h2 _ _ _ _ _ _).trans ((xlate_find_eq _ x0 x1 _).trans h1)⟩
def Tryz.laysRepeat_ren : Go.Shelf.Ren := ⟨fun | 105 => 77 | 212 => 87 | 99 => 88 | 165 => 89 | 166 => 90 | 170 => 91 | 169 => 92 | 263 => 104 | 264 => 105 | 206 => 106 | 240 => 107 | 241 => 108 | 276 => 113 | 277 => 114 | n => n, fun | 9 => 9 | 3 => 3 | 4 => 4 | 20 => 20 | 0 => 0 | 46 => 138 | 109 => 139 | 5 => 5 | 72 => 145 | 76 => 149 | 51 => 160 | 146 => 161 | 53 => 50 | 148 => 163 | 70 => 142 | 37 => 143 | 75 => 148 | 127 => 165 | 164 => 169 | 80 => 152 | n => n, fun n => n⟩
theorem Tryz.laysRepeat : Go.Proofs.Lays.n105 Go.Proofs.Tryz.prog Tryz.laysRepeat_ren := {
  mixed := by kernel_rfl,
  f99 := Go.Proofs.Tryz.func88.trans (congrArg some (by kernel_rfl)),
  f105 := Go.Proofs.Tryz.func77.trans (congrArg some (by kernel_rfl)),
  f165 := Go.Proofs.Tryz.func89.trans (congrArg some (by kernel_rfl)),
  f166 := Go.Proofs.Tryz.func90.trans (congrArg some (by kernel_rfl)),
  f169 := Go.Proofs.Tryz.func92.trans (congrArg some (by kernel_rfl)),
  f170 := Go.Proofs.Tryz.func91.trans (congrArg some (by kernel_rfl)),
  f206 := Go.Proofs.Tryz.func106.trans (congrArg some (by kernel_rfl)),
  f212 := Go.Proofs.Tryz.func87.trans (congrArg some (by kernel_rfl)),
  f240 := Go.Proofs.Tryz.func107.trans (congrArg some (by kernel_rfl)),
  f241 := Go.Proofs.Tryz.func108.trans (congrArg some (by kernel_rfl)),
  f263 := Go.Proofs.Tryz.func104.trans (congrArg some (by kernel_rfl)),
  f264 := Go.Proofs.Tryz.func105.trans (congrArg some (by kernel_rfl)),
  f276 := Go.Proofs.Tryz.func113.trans (congrArg some (by kernel_rfl)),
  f277 := Go.Proofs.Tryz.func114.trans (congrArg some (by kernel_rfl)),
  t0 := Go.Proofs.Tryz.underlying0,
  a0 := Go.Proofs.Tryz.isAgg0,
  z0 := Go.Proofs.Tryz.sizeOf0,
  v0 := Go.Proofs.Tryz.zeroValue0,
  t3 := Go.Proofs.Tryz.underlying3,
  a3 := Go.Proofs.Tryz.isAgg3,
  z3 := Go.Proofs.Tryz.sizeOf3,
  v3 := Go.Proofs.Tryz.zeroValue3,
  t4 := Go.Proofs.Tryz.underlying4,
  a4 := Go.Proofs.Tryz.isAgg4,
  z4 := Go.Proofs.Tryz.sizeOf4,
  v4 := Go.Proofs.Tryz.zeroValue4,
  t5 := Go.Proofs.Tryz.underlying5,
  a5 := Go.Proofs.Tryz.isAgg5,
  z5 := Go.Proofs.Tryz.sizeOf5,
  v5 := Go.Proofs.Tryz.zeroValue5,
  t9 := Go.Proofs.Tryz.underlying9,
  a9 := Go.Proofs.Tryz.isAgg9,
  z9 := Go.Proofs.Tryz.sizeOf9,
  v9 := Go.Proofs.Tryz.zeroValue9,
  t20 := Go.Proofs.Tryz.underlying20,
  a20 := Go.Proofs.Tryz.isAgg20,
  z20 := Go.Proofs.Tryz.sizeOf20,
  v20 := Go.Proofs.Tryz.zeroValue20,
  t37 := Go.Proofs.Tryz.underlying143,
  a37 := Go.Proofs.Tryz.isAgg143,
  z37 := Go.Proofs.Tryz.sizeOf143,
  v37 := Go.Proofs.Tryz.zeroValue143,
  t46 := Go.Proofs.Tryz.underlying138,
  a46 := Go.Proofs.Tryz.isAgg138,
  z46 := Go.Proofs.Tryz.sizeOf138,
  v46 := Go.Proofs.Tryz.zeroValue138,
  t51 := Go.Proofs.Tryz.underlying160,
  a51 := Go.Proofs.Tryz.isAgg160,
  z51 := Go.Proofs.Tryz.sizeOf160,
  v51 := Go.Proofs.Tryz.zeroValue160,
  t53 := Go.Proofs.Tryz.underlying50,
  a53 := Go.Proofs.Tryz.isAgg50,
  z53 := Go.Proofs.Tryz.sizeOf50,
  v53 := Go.Proofs.Tryz.zeroValue50,
  t70 := Go.Proofs.Tryz.underlying142,
  a70 := Go.Proofs.Tryz.isAgg142,
  z70 := Go.Proofs.Tryz.sizeOf142,
  v70 := Go.Proofs.Tryz.zeroValue142,
  t72 := Go.Proofs.Tryz.underlying145,
  a72 := Go.Proofs.Tryz.isAgg145,
  z72 := Go.Proofs.Tryz.sizeOf145,
  v72 := Go.Proofs.Tryz.zeroValue145,
  t75 := Go.Proofs.Tryz.underlying148,
  a75 := Go.Proofs.Tryz.isAgg148,
  z75 := Go.Proofs.Tryz.sizeOf148,
  v75 := Go.Proofs.Tryz.zeroValue148,
  t76 := Go.Proofs.Tryz.underlying149,
  a76 := Go.Proofs.Tryz.isAgg149,
  z76 := Go.Proofs.Tryz.sizeOf149,
  v76 := Go.Proofs.Tryz.zeroValue149,
  t109 := Go.Proofs.Tryz.underlying139,
  a109 := Go.Proofs.Tryz.isAgg139,
  z109 := Go.Proofs.Tryz.sizeOf139,
  v109 := Go.Proofs.Tryz.zeroValue139,
  t127 := Go.Proofs.Tryz.underlying165,
  a127 := Go.Proofs.Tryz.isAgg165,
  z127 := Go.Proofs.Tryz.sizeOf165,
  v127 := Go.Proofs.Tryz.zeroValue165,
  t146 := Go.Proofs.Tryz.underlying161,
  a146 := Go.Proofs.Tryz.isAgg161,
  z146 := Go.Proofs.Tryz.sizeOf161,
  v146 := Go.Proofs.Tryz.zeroValue161,
  t148 := Go.Proofs.Tryz.underlying163,
  a148 := Go.Proofs.Tryz.isAgg163,
  z148 := Go.Proofs.Tryz.sizeOf163,
  v148 := Go.Proofs.Tryz.zeroValue163,
  t164 := Go.Proofs.Tryz.underlying169,
  a164 := Go.Proofs.Tryz.isAgg169,
  z164 := Go.Proofs.Tryz.sizeOf169,
  v164 := Go.Proofs.Tryz.zeroValue169 }
theorem Tryz.extraRepeat : Go.Proofs.Builder.Extra Go.Proofs.Tryz.prog Tryz.laysRepeat_ren := {
  sizeBuilder := by kernel_rfl,
  liesBuilder := by kernel_rfl,
  t5 := Tryz.laysRepeat.t5,
  a5 := Tryz.laysRepeat.a5,
  z5 := Tryz.laysRepeat.z5,
  v5 := Tryz.laysRepeat.v5,
  infoByte := by kernel_rfl,
  cellsByte := by kernel_rfl,
  sizeByte := by kernel_rfl,
  neB5 := by decide }
noncomputable abbrev strings_Repeat_c : Code := Tryz.f77.body.getD .skip
theorem strings_Repeat_ent : Ent Tryz.prog 77 := ⟨Tryz.f77, strings_Repeat_c, Tryz.func77, by kernel_rfl, by kernel_rfl⟩
def strings_Repeat_g : Pure := fun R l b K => noBox b (args2 .str (.int .i64) l fun x0 x1 => (strings_Repeat x0 x1).bind fun r => K [.dat .str r []] none)
theorem strings_Repeat_n : strings_Repeat_g.Nat := fun R S l b F G K h => noBox_nat (args2_nat fun _ _ => bindr_nat fun _ => h _ _)
def Tb58 : Funs := Tb57.add 77 [] strings_Repeat_g
theorem Tb58_nat : Tb58.Nat := add_nat Tb57_nat strings_Repeat_n
theorem Tb58_owes : ∀ f, Owes Tryz.prog Tb58 f := lib_si_s Tb57_owes strings_Repeat_ent strings_Repeat (strings_Repeat_calls Tryz.laysRepeat Tryz.extraRepeat (by kernel_rfl))
noncomputable abbrev strings_trimRightByte_c : Code := Tryz.f94.body.getD .skip
def strings_trimRightByte_E : Env := tab.env (fun i => bif Nat.beq i 1 then [0, 1] else []) (fun i => bif Nat.beq i 1 then [0] else []) [] [.str, (.int .u8)]
def strings_trimRightByte_h0 (s_0 : ByteArray) (c_1 : Int) : State := ⟨[.dat .str s_0 []]::[.dat (.int .u8) c_1 []]::(uS 21 ([])), nS 24 []⟩
def strings_trimRightByte_x0_0 (s_0 : ByteArray) : State := ⟨[.dat .str s_0 []]::(uS 22 ([])), nS 24 []⟩
theorem strings_trimRightByte_t (R : Type) (kk : Nat) (s_0 : ByteArray) (c_1 : Int) (K : List SV → Option Box → Option R) : evFn strings_trimRightByte_E (Tb58 R) kk Tryz.f94 strings_trimRightByte_c [.dat .str s_0 [], .dat (.int .u8) c_1 []] none K =
  strings_trimRightByte_s0 s_0 c_1 (fun a0 a1 => loopR (ev strings_trimRightByte_E (Tb58 R) kk (sub [1, 0, 0, 0] strings_trimRightByte_c)) [0, 1] [0] kk (strings_trimRightByte_h0 a0 a1) (kBlock 0 (kSeq strings_trimRightByte_E (Tb58 R) kk (sub [1, 1] strings_trimRightByte_c) (kFin strings_trimRightByte_E Tryz.f94.results.toList none K)))) := by kernel_rfl
theorem strings_trimRightByte_d0 (R : Type) (kk k : Nat) (s_0 : ByteArray) (c_1 : Int) (K : Ex → State → Option R) : loopR (ev strings_trimRightByte_E (Tb58 R) kk (sub [1, 0, 0, 0] strings_trimRightByte_c)) [0, 1] [0] (k + 1) (strings_trimRightByte_h0 s_0 c_1) K =
  strings_trimRightByte_s1 s_0 c_1 (fun a0 a1 => loopR (ev strings_trimRightByte_E (Tb58 R) kk (sub [1, 0, 0, 0] strings_trimRightByte_c)) [0, 1] [0] k (strings_trimRightByte_h0 a0 a1) K) (fun a0 => K (.exit 0) (strings_trimRightByte_x0_0 a0)) := by kernel_rfl
theorem strings_trimRightByte_y0_0 (R : Type) (kk : Nat) (s_0 : ByteArray) (K : List SV → Option Box → Option R) : (kBlock 0 (kSeq strings_trimRightByte_E (Tb58 R) kk (sub [1, 1] strings_trimRightByte_c) (kFin strings_trimRightByte_E Tryz.f94.results.toList none K))) (.exit 0) (strings_trimRightByte_x0_0 s_0) =
  strings_trimRightByte_s2 s_0 (fun a0 => K [.dat .str a0 []] none) := by kernel_rfl
theorem strings_trimRightByte_lp0 (R : Type) (k : Nat) (s_0 : ByteArray) (c_1 : Int) (K : Ex → State → Option R) : loopR (ev strings_trimRightByte_E (Tb58 R) FUEL (sub [1, 0, 0, 0] strings_trimRightByte_c)) [0, 1] [0] k (strings_trimRightByte_h0 s_0 c_1) K = (strings_trimRightByte_l0 k s_0 c_1).bind fun e => K (.exit 0) (strings_trimRightByte_x0_0 e) := by
  induction k generalizing s_0 c_1 with
  | zero => rfl
  | succ k ih =>
    rw [strings_trimRightByte_d0]
    simp only [strings_trimRightByte_l0, strings_trimRightByte_s0_bind, strings_trimRightByte_s1_bind, strings_trimRightByte_s2_bind, ih, cond_bind, within_bind, none_bind, some_bind, sum_bind, bind_bind, Sum.elim_inl, Sum.elim_inr]
theorem strings_trimRightByte_eq (R : Type) (s_0 : ByteArray) (c_1 : Int) (K : List SV → Option Box → Option R) : evFn strings_trimRightByte_E (Tb58 R) FUEL Tryz.f94 strings_trimRightByte_c [.dat .str s_0 [], .dat (.int .u8) c_1 []] none K = (strings_trimRightByte s_0 c_1).bind fun r => K [.dat .str r []] none := by
  rw [strings_trimRightByte_t]
  simp only [strings_trimRightByte, strings_trimRightByte_s0_bind, strings_trimRightByte_s1_bind, strings_trimRightByte_s2_bind, strings_trimRightByte_lp0, strings_trimRightByte_y0_0, cond_bind, within_bind, none_bind, some_bind, sum_bind, bind_bind, Sum.elim_inl, Sum.elim_inr]
def strings_trimRightByte_g : Pure := fun R l b K => noBox b (args2 .str (.int .u8) l (fun x0 x1 => (strings_trimRightByte x0 x1).bind fun r => K [.dat .str r []] none))
theorem strings_trimRightByte_n : strings_trimRightByte_g.Nat := fun R S l b F G K h => noBox_nat (args2_nat fun _ _ => bindr_nat fun _ => h _ _)
def Tb59 : Funs := Tb58.add 94 [.str, (.int .u8)] strings_trimRightByte_g
theorem Tb59_nat : Tb59.Nat := add_nat Tb58_nat strings_trimRightByte_n
theorem Tb59_owes : ∀ f, Owes Tryz.prog Tb59 f := add_owes (E := strings_trimRightByte_E) (Tab.env_ok tab_ok _ _ _ _) mixed Tb58_nat Tb58_owes (fn := Tryz.f94) (code := strings_trimRightByte_c) Tryz.func94 (by kernel_rfl) (by kernel_rfl) fun l b r b' h => by
  obtain ⟨rfl, h⟩ := noBox_some h
  obtain ⟨x0, x1, h1, h2⟩ := own2 (E := strings_trimRightByte_E) rfl h
  exact ⟨FUEL, (h2 _ _ _ _ _ _).trans ((strings_trimRightByte_eq _ x0 x1 _).trans h1)⟩
noncomputable abbrev strings_trimLeftByte_c : Code := Tryz.f93.body.getD .skip
def strings_trimLeftByte_E : Env := tab.env (fun i => bif Nat.beq i 1 then [0, 1] else []) (fun i => bif Nat.beq i 1 then [0] else []) [] [.str, (.int .u8)]
def strings_trimLeftByte_h0 (s_0 : ByteArray) (c_1 : Int) : State := ⟨[.dat .str s_0 []]::[.dat (.int .u8) c_1 []]::(uS 15 ([])), nS 18 []⟩
def strings_trimLeftByte_x0_0 (s_0 : ByteArray) : State := ⟨[.dat .str s_0 []]::(uS 16 ([])), nS 18 []⟩
theorem strings_trimLeftByte_t (R : Type) (kk : Nat) (s_0 : ByteArray) (c_1 : Int) (K : List SV → Option Box → Option R) : evFn strings_trimLeftByte_E (Tb59 R) kk Tryz.f93 strings_trimLeftByte_c [.dat .str s_0 [], .dat (.int .u8) c_1 []] none K =
  strings_trimLeftByte_s0 s_0 c_1 (fun a0 a1 => loopR (ev strings_trimLeftByte_E (Tb59 R) kk (sub [1, 0, 0, 0] strings_trimLeftByte_c)) [0, 1] [0] kk (strings_trimLeftByte_h0 a0 a1) (kBlock 0 (kSeq strings_trimLeftByte_E (Tb59 R) kk (sub [1, 1] strings_trimLeftByte_c) (kFin strings_trimLeftByte_E Tryz.f93.results.toList none K)))) := by kernel_rfl
theorem strings_trimLeftByte_d0 (R : Type) (kk k : Nat) (s_0 : ByteArray) (c_1 : Int) (K : Ex → State → Option R) : loopR (ev strings_trimLeftByte_E (Tb59 R) kk (sub [1, 0, 0, 0] strings_trimLeftByte_c)) [0, 1] [0] (k + 1) (strings_trimLeftByte_h0 s_0 c_1) K =
  strings_trimLeftByte_s1 s_0 c_1 (fun a0 a1 => loopR (ev strings_trimLeftByte_E (Tb59 R) kk (sub [1, 0, 0, 0] strings_trimLeftByte_c)) [0, 1] [0] k (strings_trimLeftByte_h0 a0 a1) K) (fun a0 => K (.exit 0) (strings_trimLeftByte_x0_0 a0)) := by kernel_rfl
theorem strings_trimLeftByte_y0_0 (R : Type) (kk : Nat) (s_0 : ByteArray) (K : List SV → Option Box → Option R) : (kBlock 0 (kSeq strings_trimLeftByte_E (Tb59 R) kk (sub [1, 1] strings_trimLeftByte_c) (kFin strings_trimLeftByte_E Tryz.f93.results.toList none K))) (.exit 0) (strings_trimLeftByte_x0_0 s_0) =
  strings_trimLeftByte_s2 s_0 (fun a0 => K [.dat .str a0 []] none) := by kernel_rfl
theorem strings_trimLeftByte_lp0 (R : Type) (k : Nat) (s_0 : ByteArray) (c_1 : Int) (K : Ex → State → Option R) : loopR (ev strings_trimLeftByte_E (Tb59 R) FUEL (sub [1, 0, 0, 0] strings_trimLeftByte_c)) [0, 1] [0] k (strings_trimLeftByte_h0 s_0 c_1) K = (strings_trimLeftByte_l0 k s_0 c_1).bind fun e => K (.exit 0) (strings_trimLeftByte_x0_0 e) := by
  induction k generalizing s_0 c_1 with
  | zero => rfl
  | succ k ih =>
    rw [strings_trimLeftByte_d0]
    simp only [strings_trimLeftByte_l0, strings_trimLeftByte_s0_bind, strings_trimLeftByte_s1_bind, strings_trimLeftByte_s2_bind, ih, cond_bind, within_bind, none_bind, some_bind, sum_bind, bind_bind, Sum.elim_inl, Sum.elim_inr]
theorem strings_trimLeftByte_eq (R : Type) (s_0 : ByteArray) (c_1 : Int) (K : List SV → Option Box → Option R) : evFn strings_trimLeftByte_E (Tb59 R) FUEL Tryz.f93 strings_trimLeftByte_c [.dat .str s_0 [], .dat (.int .u8) c_1 []] none K = (strings_trimLeftByte s_0 c_1).bind fun r => K [.dat .str r []] none := by
  rw [strings_trimLeftByte_t]
  simp only [strings_trimLeftByte, strings_trimLeftByte_s0_bind, strings_trimLeftByte_s1_bind, strings_trimLeftByte_s2_bind, strings_trimLeftByte_lp0, strings_trimLeftByte_y0_0, cond_bind, within_bind, none_bind, some_bind, sum_bind, bind_bind, Sum.elim_inl, Sum.elim_inr]
def strings_trimLeftByte_g : Pure := fun R l b K => noBox b (args2 .str (.int .u8) l (fun x0 x1 => (strings_trimLeftByte x0 x1).bind fun r => K [.dat .str r []] none))
theorem strings_trimLeftByte_n : strings_trimLeftByte_g.Nat := fun R S l b F G K h => noBox_nat (args2_nat fun _ _ => bindr_nat fun _ => h _ _)
def Tb60 : Funs := Tb59.add 93 [.str, (.int .u8)] strings_trimLeftByte_g
theorem Tb60_nat : Tb60.Nat := add_nat Tb59_nat strings_trimLeftByte_n
theorem Tb60_owes : ∀ f, Owes Tryz.prog Tb60 f := add_owes (E := strings_trimLeftByte_E) (Tab.env_ok tab_ok _ _ _ _) mixed Tb59_nat Tb59_owes (fn := Tryz.f93) (code := strings_trimLeftByte_c) Tryz.func93 (by kernel_rfl) (by kernel_rfl) fun l b r b' h => by
  obtain ⟨rfl, h⟩ := noBox_some h
  obtain ⟨x0, x1, h1, h2⟩ := own2 (E := strings_trimLeftByte_E) rfl h
  exact ⟨FUEL, (h2 _ _ _ _ _ _).trans ((strings_trimLeftByte_eq _ x0 x1 _).trans h1)⟩
noncomputable abbrev strings_Trim_c : Code := Tryz.f78.body.getD .skip
def strings_Trim_E : Env := tab.env (fun _ => []) (fun _ => []) [] [.str, .str]
theorem strings_Trim_t (R : Type) (kk : Nat) (s_0 : ByteArray) (cutset_1 : ByteArray) (K : List SV → Option Box → Option R) : evFn strings_Trim_E (Tb60 R) kk Tryz.f78 strings_Trim_c [.dat .str s_0 [], .dat .str cutset_1 []] none K =
  strings_Trim_s0 s_0 cutset_1 (fun a0 => K [.dat .str a0 []] none) := by kernel_rfl
theorem strings_Trim_eq (R : Type) (s_0 : ByteArray) (cutset_1 : ByteArray) (K : List SV → Option Box → Option R) : evFn strings_Trim_E (Tb60 R) FUEL Tryz.f78 strings_Trim_c [.dat .str s_0 [], .dat .str cutset_1 []] none K = (strings_Trim s_0 cutset_1).bind fun r => K [.dat .str r []] none := by
  rw [strings_Trim_t]
  simp only [strings_Trim, strings_Trim_s0_bind, cond_bind, within_bind, none_bind, some_bind, sum_bind, bind_bind, Sum.elim_inl, Sum.elim_inr]
def strings_Trim_g : Pure := fun R l b K => noBox b (args2 .str .str l (fun x0 x1 => (strings_Trim x0 x1).bind fun r => K [.dat .str r []] none))
theorem strings_Trim_n : strings_Trim_g.Nat := fun R S l b F G K h => noBox_nat (args2_nat fun _ _ => bindr_nat fun _ => h _ _)
def Tb61 : Funs := Tb60.add 78 [.str, .str] strings_Trim_g
theorem Tb61_nat : Tb61.Nat := add_nat Tb60_nat strings_Trim_n
theorem Tb61_owes : ∀ f, Owes Tryz.prog Tb61 f := add_owes (E := strings_Trim_E) (Tab.env_ok tab_ok _ _ _ _) mixed Tb60_nat Tb60_owes (fn := Tryz.f78) (code := strings_Trim_c) Tryz.func78 (by kernel_rfl) (by kernel_rfl) fun l b r b' h => by
  obtain ⟨rfl, h⟩ := noBox_some h
  obtain ⟨x0, x1, h1, h2⟩ := own2 (E := strings_Trim_E) rfl h
  exact ⟨FUEL, (h2 _ _ _ _ _ _).trans ((strings_Trim_eq _ x0 x1 _).trans h1)⟩
noncomputable abbrev digits_Pad_c : Code := Tryz.f59.body.getD .skip
def digits_Pad_E : Env := tab.env (fun _ => []) (fun _ => []) [] [.str, (.int .i64)]
theorem digits_Pad_t (R : Type) (kk : Nat) (s_0 : ByteArray) (width_1 : Int) (K : List SV → Option Box → Option R) : evFn digits_Pad_E (Tb61 R) kk Tryz.f59 digits_Pad_c [.dat .str s_0 [], .dat (.int .i64) width_1 []] none K =
  digits_Pad_s0 s_0 width_1 (fun a0 a1 => K [.dat .str a0 [], .dat .bool a1 []] none) := by kernel_rfl
theorem digits_Pad_eq (R : Type) (s_0 : ByteArray) (width_1 : Int) (K : List SV → Option Box → Option R) : evFn digits_Pad_E (Tb61 R) FUEL Tryz.f59 digits_Pad_c [.dat .str s_0 [], .dat (.int .i64) width_1 []] none K = (digits_Pad s_0 width_1).bind fun r => K [.dat .str r.1 [], .dat .bool r.2 []] none := by
  rw [digits_Pad_t]
  simp only [digits_Pad, digits_Pad_s0_bind, cond_bind, within_bind, none_bind, some_bind, sum_bind, bind_bind, Sum.elim_inl, Sum.elim_inr]
def digits_Pad_g : Pure := fun R l b K => noBox b (args2 .str (.int .i64) l (fun x0 x1 => (digits_Pad x0 x1).bind fun r => K [.dat .str r.1 [], .dat .bool r.2 []] none))
theorem digits_Pad_n : digits_Pad_g.Nat := fun R S l b F G K h => noBox_nat (args2_nat fun _ _ => bindr_nat fun _ => h _ _)
def Tb62 : Funs := Tb61.add 59 [.str, (.int .i64)] digits_Pad_g
theorem Tb62_nat : Tb62.Nat := add_nat Tb61_nat digits_Pad_n
theorem Tb62_owes : ∀ f, Owes Tryz.prog Tb62 f := add_owes (E := digits_Pad_E) (Tab.env_ok tab_ok _ _ _ _) mixed Tb61_nat Tb61_owes (fn := Tryz.f59) (code := digits_Pad_c) Tryz.func59 (by kernel_rfl) (by kernel_rfl) fun l b r b' h => by
  obtain ⟨rfl, h⟩ := noBox_some h
  obtain ⟨x0, x1, h1, h2⟩ := own2 (E := digits_Pad_E) rfl h
  exact ⟨FUEL, (h2 _ _ _ _ _ _).trans ((digits_Pad_eq _ x0 x1 _).trans h1)⟩
noncomputable abbrev codes_Apply_c : Code := Tryz.f60.body.getD .skip
def codes_Apply_E : Env := tab.env (fun i => bif Nat.beq i 2 then [1, 8, 9, 10] else []) (fun i => bif Nat.beq i 2 then [4, 5] else []) [] [(.sl 42 (.pair .str (.pair .str .unit))), .str]
def codes_Apply_h0 (text_1 : ByteArray) (t8 : Zt12) (t9 : Int) (t10 : Int) : State := ⟨uS 1 ([.dat .str text_1 []]::(uS 6 ([.dat (.sl 42 (.pair .str (.pair .str .unit))) t8 []]::[.dat (.int .i64) t9 []]::[.dat (.int .i64) t10 []]::(uS 10 ([]))))), nS 22 []⟩
def codes_Apply_x0_0 (t4 : ByteArray) (t5 : Bool) : State := ⟨uS 4 ([.dat .str t4 []]::[.dat .bool t5 []]::(uS 15 ([]))), nS 22 []⟩
def codes_Apply_x0_1  : State := ⟨uS 21 [], nS 22 []⟩
theorem codes_Apply_t (R : Type) (kk : Nat) (l_0 : Zt12) (text_1 : ByteArray) (K : List SV → Option Box → Option R) : evFn codes_Apply_E (Tb62 R) kk Tryz.f60 codes_Apply_c [.dat (.sl 42 (.pair .str (.pair .str .unit))) l_0 [], .dat .str text_1 []] none K =
  codes_Apply_s0 l_0 text_1 (fun a0 a1 a2 a3 => loopR (ev codes_Apply_E (Tb62 R) kk (sub [1, 0, 1, 0, 0] codes_Apply_c)) [1, 8, 9, 10] [4, 5] kk (codes_Apply_h0 a0 a1 a2 a3) (kBlock 0 (kSeq codes_Apply_E (Tb62 R) kk (sub [1, 1] codes_Apply_c) (kFin codes_Apply_E Tryz.f60.results.toList none K)))) := by kernel_rfl
theorem codes_Apply_d0 (R : Type) (kk k : Nat) (text_1 : ByteArray) (t8 : Zt12) (t9 : Int) (t10 : Int) (K : Ex → State → Option R) : loopR (ev codes_Apply_E (Tb62 R) kk (sub [1, 0, 1, 0, 0] codes_Apply_c)) [1, 8, 9, 10] [4, 5] (k + 1) (codes_Apply_h0 text_1 t8 t9 t10) K =
  codes_Apply_s1 text_1 t8 t9 t10 (fun a0 a1 => K .ret (codes_Apply_x0_0 a0 a1)) (fun a0 a1 a2 a3 => loopR (ev codes_Apply_E (Tb62 R) kk (sub [1, 0, 1, 0, 0] codes_Apply_c)) [1, 8, 9, 10] [4, 5] k (codes_Apply_h0 a0 a1 a2 a3) K) (K (.exit 0) (codes_Apply_x0_1)) := by kernel_rfl
theorem codes_Apply_y0_0 (R : Type) (kk : Nat) (t4 : ByteArray) (t5 : Bool) (K : List SV → Option Box → Option R) : (kBlock 0 (kSeq codes_Apply_E (Tb62 R) kk (sub [1, 1] codes_Apply_c) (kFin codes_Apply_E Tryz.f60.results.toList none K))) .ret (codes_Apply_x0_0 t4 t5) =
  codes_Apply_s2 t4 t5 (fun a0 a1 => K [.dat .str a0 [], .dat .bool a1 []] none) := by kernel_rfl
theorem codes_Apply_y0_1 (R : Type) (kk : Nat)  (K : List SV → Option Box → Option R) : (kBlock 0 (kSeq codes_Apply_E (Tb62 R) kk (sub [1, 1] codes_Apply_c) (kFin codes_Apply_E Tryz.f60.results.toList none K))) (.exit 0) (codes_Apply_x0_1) =
  codes_Apply_s3 (fun a0 a1 => K [.dat .str a0 [], .dat .bool a1 []] none) := by kernel_rfl
theorem codes_Apply_lp0 (R : Type) (k : Nat) (text_1 : ByteArray) (t8 : Zt12) (t9 : Int) (t10 : Int) (K : Ex → State → Option R) : loopR (ev codes_Apply_E (Tb62 R) FUEL (sub [1, 0, 1, 0, 0] codes_Apply_c)) [1, 8, 9, 10] [4, 5] k (codes_Apply_h0 text_1 t8 t9 t10) K = (codes_Apply_l0 k text_1 t8 t9 t10).bind fun e => (Sum.elim (fun (we : Zt3) => K .ret (codes_Apply_x0_0 we.1 we.2)) (fun (we : Unit) => K (.exit 0) (codes_Apply_x0_1)) e) := by
  induction k generalizing text_1 t8 t9 t10 with
  | zero => rfl
  | succ k ih =>
    rw [codes_Apply_d0]
    simp only [codes_Apply_l0, codes_Apply_s0_bind, codes_Apply_s1_bind, codes_Apply_s2_bind, codes_Apply_s3_bind, ih, cond_bind, within_bind, none_bind, some_bind, sum_bind, bind_bind, Sum.elim_inl, Sum.elim_inr]
theorem codes_Apply_eq (R : Type) (l_0 : Zt12) (text_1 : ByteArray) (K : List SV → Option Box → Option R) : evFn codes_Apply_E (Tb62 R) FUEL Tryz.f60 codes_Apply_c [.dat (.sl 42 (.pair .str (.pair .str .unit))) l_0 [], .dat .str text_1 []] none K = (codes_Apply l_0 text_1).bind fun r => K [.dat .str r.1 [], .dat .bool r.2 []] none := by
  rw [codes_Apply_t]
  simp only [codes_Apply, codes_Apply_s0_bind, codes_Apply_s1_bind, codes_Apply_s2_bind, codes_Apply_s3_bind, codes_Apply_lp0, codes_Apply_y0_0, codes_Apply_y0_1, cond_bind, within_bind, none_bind, some_bind, sum_bind, bind_bind, Sum.elim_inl, Sum.elim_inr]
def codes_Apply_g : Pure := fun R l b K => noBox b (args2 (.sl 42 (.pair .str (.pair .str .unit))) .str l (fun x0 x1 => (codes_Apply x0 x1).bind fun r => K [.dat .str r.1 [], .dat .bool r.2 []] none))
theorem codes_Apply_n : codes_Apply_g.Nat := fun R S l b F G K h => noBox_nat (args2_nat fun _ _ => bindr_nat fun _ => h _ _)
def Tb63 : Funs := Tb62.add 60 [(.sl 42 (.pair .str (.pair .str .unit))), .str] codes_Apply_g
theorem Tb63_nat : Tb63.Nat := add_nat Tb62_nat codes_Apply_n
theorem Tb63_owes : ∀ f, Owes Tryz.prog Tb63 f := add_owes (E := codes_Apply_E) (Tab.env_ok tab_ok _ _ _ _) mixed Tb62_nat Tb62_owes (fn := Tryz.f60) (code := codes_Apply_c) Tryz.func60 (by kernel_rfl) (by kernel_rfl) fun l b r b' h => by
  obtain ⟨rfl, h⟩ := noBox_some h
  obtain ⟨x0, x1, h1, h2⟩ := own2 (E := codes_Apply_E) rfl h
  exact ⟨FUEL, (h2 _ _ _ _ _ _).trans ((codes_Apply_eq _ x0 x1 _).trans h1)⟩
noncomputable abbrev rule_Apply_c : Code := Tryz.f32.body.getD .skip
def rule_Apply_E : Env := tab.env (fun _ => []) (fun _ => []) [6] [y9, y13, .str]
theorem rule_Apply_t (R : Type) (kk : Nat) (r_0 : Zt18) (b_1 : Zt16) (text_2 : ByteArray) (K : List SV → Option Box → Option R) : evFn rule_Apply_E (Tb63 R) kk Tryz.f32 rule_Apply_c [.dat y9 r_0 [], .dat y13 b_1 [], .dat .str text_2 []] none K =
  rule_Apply_s0 r_0 b_1 text_2 (fun a0 a1 => K [.dat (.pair (.int .i64) (.pair .str .unit)) a0 [], .dat (.int .i64) a1 []] none) := by kernel_rfl
theorem rule_Apply_eq (R : Type) (r_0 : Zt18) (b_1 : Zt16) (text_2 : ByteArray) (K : List SV → Option Box → Option R) : evFn rule_Apply_E (Tb63 R) FUEL Tryz.f32 rule_Apply_c [.dat y9 r_0 [], .dat y13 b_1 [], .dat .str text_2 []] none K = (rule_Apply r_0 b_1 text_2).bind fun r => K [.dat (.pair (.int .i64) (.pair .str .unit)) r.1 [], .dat (.int .i64) r.2 []] none := by
  rw [rule_Apply_t]
  simp only [rule_Apply, rule_Apply_s0_bind, cond_bind, within_bind, none_bind, some_bind, sum_bind, bind_bind, Sum.elim_inl, Sum.elim_inr]
def rule_Apply_g : Pure := fun R l b K => noBox b (args3 y9 y13 .str l (fun x0 x1 x2 => (rule_Apply x0 x1 x2).bind fun r => K [.dat (.pair (.int .i64) (.pair .str .unit)) r.1 [], .dat (.int .i64) r.2 []] none))
theorem rule_Apply_n : rule_Apply_g.Nat := fun R S l b F G K h => noBox_nat (args3_nat fun _ _ _ => bindr_nat fun _ => h _ _)
def Tb64 : Funs := Tb63.add 32 [y9, y13, .str] rule_Apply_g
theorem Tb64_nat : Tb64.Nat := add_nat Tb63_nat rule_Apply_n
theorem Tb64_owes : ∀ f, Owes Tryz.prog Tb64 f := add_owes (E := rule_Apply_E) (Tab.env_ok tab_ok _ _ _ _) mixed Tb63_nat Tb63_owes (fn := Tryz.f32) (code := rule_Apply_c) Tryz.func32 (by kernel_rfl) (by kernel_rfl) fun l b r b' h => by
  obtain ⟨rfl, h⟩ := noBox_some h
  obtain ⟨x0, x1, x2, h1, h2⟩ := own3 (E := rule_Apply_E) rfl h
  exact ⟨FUEL, (h2 _ _ _ _ _ _).trans ((rule_Apply_eq _ x0 x1 x2 _).trans h1)⟩
noncomputable abbrev xlate_Translate_c : Code := Tryz.f10.body.getD .skip
def xlate_Translate_E : Env := { { tab.env (fun i => bif Nat.beq i 12 then [4, 6, 7, 8, 9, 16, 59, 60, 61] else bif Nat.beq i 18 then [4, 6, 8, 9, 16, 76, 77, 78] else []) (fun i => bif Nat.beq i 12 then [4, 6, 7, 8, 9, 16] else bif Nat.beq i 18 then [8, 9, 16] else []) [8, 9] [y14, y13, y13, y4] with dr := fun i => bif Nat.beq i 12 then [17] else [] } with ro := true }
def xlate_Translate_h0 (t59 : Zt20) (t60 : Int) (t61 : Int) (bt4 : Zt22) (bt6 : Zt16) (bt7 : Zt15) (bt8 : Zt15) (bt9 : Zt4) (bt16 : Zt15) : State := ⟨uS 4 ([.ptr 5 y14 []]::(uS 1 ([.ptr 7 y13 []]::[.ptr 8 y4 []]::[.ptr 9 y4 []]::[.ptr 10 (.pair (.int .i64) (.pair (.int .i64) .unit)) []]::(uS 6 ([.ptr 17 y4 []]::(uS 42 ([.dat (.sl 46 y9) t59 []]::[.dat (.int .i64) t60 []]::[.dat (.int .i64) t61 []]::(uS 60 ([]))))))))), nS 5 ((some ⟨y14, bt4, []⟩)::(nS 1 ((some ⟨y13, bt6, []⟩)::(some ⟨y4, bt7, []⟩)::(some ⟨y4, bt8, [[1]]⟩)::(some ⟨(.pair (.int .i64) (.pair (.int .i64) .unit)), bt9, []⟩)::(nS 6 ((some ⟨y4, bt16, []⟩)::(nS 105 ([])))))))⟩
def xlate_Translate_x0_0 (bt4 : Zt22) (bt6 : Zt16) (bt7 : Zt15) (bt8 : Zt15) (bt9 : Zt4) (bt16 : Zt15) : State := ⟨uS 4 ([.ptr 5 y14 []]::(uS 1 ([.ptr 7 y13 []]::[.ptr 8 y4 []]::[.ptr 9 y4 []]::[.ptr 10 (.pair (.int .i64) (.pair (.int .i64) .unit)) []]::(uS 6 ([.ptr 17 y4 []]::(uS 105 ([]))))))), nS 5 ((some ⟨y14, bt4, []⟩)::(nS 1 ((some ⟨y13, bt6, []⟩)::(some ⟨y4, bt7, []⟩)::(some ⟨y4, bt8, [[1]]⟩)::(some ⟨(.pair (.int .i64) (.pair (.int .i64) .unit)), bt9, []⟩)::(nS 6 ((some ⟨y4, bt16, []⟩)::(nS 105 ([])))))))⟩
def xlate_Translate_h1 (t76 : Zt9) (t77 : Int) (t78 : Int) (bt4 : Zt22) (bt6 : Zt16) (bt8 : Zt15) (bt9 : Zt4) (bt16 : Zt15) : State := ⟨uS 4 ([.ptr 5 y14 []]::(uS 1 ([.ptr 7 y13 []]::(uS 1 ([.ptr 9 y4 []]::[.ptr 10 (.pair (.int .i64) (.pair (.int .i64) .unit)) []]::(uS 6 ([.ptr 17 y4 []]::(uS 59 ([.dat (.sl 44 (.pair (.int .i64) (.pair .str .unit))) t76 []]::[.dat (.int .i64) t77 []]::[.dat (.int .i64) t78 []]::(uS 43 ([]))))))))))), nS 5 ((some ⟨y14, bt4, []⟩)::(nS 1 ((some ⟨y13, bt6, []⟩)::(nS 1 ((some ⟨y4, bt8, [[1]]⟩)::(some ⟨(.pair (.int .i64) (.pair (.int .i64) .unit)), bt9, []⟩)::(nS 6 ((some ⟨y4, bt16, []⟩)::(nS 105 ([])))))))))⟩
def xlate_Translate_x1_0 (bt8 : Zt15) (bt9 : Zt4) (bt16 : Zt15) : State := ⟨uS 8 ([.ptr 9 y4 []]::[.ptr 10 (.pair (.int .i64) (.pair (.int .i64) .unit)) []]::(uS 6 ([.ptr 17 y4 []]::(uS 105 ([]))))), nS 9 ((some ⟨y4, bt8, [[1]]⟩)::(some ⟨(.pair (.int .i64) (.pair (.int .i64) .unit)), bt9, []⟩)::(nS 6 ((some ⟨y4, bt16, []⟩)::(nS 105 ([])))))⟩
def xlate_Translate_x1_1 (bt8 : Zt15) (bt9 : Zt4) (bt16 : Zt15) : State := ⟨uS 8 ([.ptr 9 y4 []]::[.ptr 10 (.pair (.int .i64) (.pair (.int .i64) .unit)) []]::(uS 6 ([.ptr 17 y4 []]::(uS 105 ([]))))), nS 9 ((some ⟨y4, bt8, [[1]]⟩)::(some ⟨(.pair (.int .i64) (.pair (.int .i64) .unit)), bt9, []⟩)::(nS 6 ((some ⟨y4, bt16, []⟩)::(nS 105 ([])))))⟩
theorem xlate_Translate_t (R : Type) (kk : Nat) (m_0 : Zt22) (a_1 : Zt16) (b_2 : Zt16) (x_3 : Zt15) (K : List SV → Option Box → Option R) : evFn xlate_Translate_E (Tb64 R) kk Tryz.f10 xlate_Translate_c [.dat y14 m_0 [], .dat y13 a_1 [], .dat y13 b_2 [], .dat y4 x_3 []] none K =
  xlate_Translate_s0 m_0 a_1 b_2 x_3 (fun a0 a1 => K [.dat y4 a0 [], .dat (.pair (.int .i64) (.pair (.int .i64) .unit)) a1 []] none) (fun a0 a1 a2 a3 a4 a5 a6 a7 a8 => loopR (ev xlate_Translate_E (Tb64 R) kk (sub [1, 1, 1, 1, 1, 1, 0, 1, 0, 0] xlate_Translate_c)) [4, 6, 7, 8, 9, 16, 59, 60, 61] [4, 6, 7, 8, 9, 16] kk (xlate_Translate_h0 a0 a1 a2 a3 a4 a5 a6 a7 a8) (kBlock 0 (kSeq xlate_Translate_E (Tb64 R) kk (sub [1, 1, 1, 1, 1, 1, 1] xlate_Translate_c) (kFin xlate_Translate_E Tryz.f10.results.toList none K)))) := by kernel_rfl
theorem xlate_Translate_d0 (R : Type) (kk k : Nat) (t59 : Zt20) (t60 : Int) (t61 : Int) (bt4 : Zt22) (bt6 : Zt16) (bt7 : Zt15) (bt8 : Zt15) (bt9 : Zt4) (bt16 : Zt15) (K : Ex → State → Option R) : loopR (ev xlate_Translate_E (Tb64 R) kk (sub [1, 1, 1, 1, 1, 1, 0, 1, 0, 0] xlate_Translate_c)) [4, 6, 7, 8, 9, 16, 59, 60, 61] [4, 6, 7, 8, 9, 16] (k + 1) (xlate_Translate_h0 t59 t60 t61 bt4 bt6 bt7 bt8 bt9 bt16) K =
  xlate_Translate_s1 t59 t60 t61 bt4 bt6 bt7 bt8 bt9 bt16 (fun a0 a1 a2 a3 a4 a5 a6 a7 a8 => loopR (ev xlate_Translate_E (Tb64 R) kk (sub [1, 1, 1, 1, 1, 1, 0, 1, 0, 0] xlate_Translate_c)) [4, 6, 7, 8, 9, 16, 59, 60, 61] [4, 6, 7, 8, 9, 16] k (xlate_Translate_h0 a0 a1 a2 a3 a4 a5 a6 a7 a8) K) (fun a0 a1 a2 a3 a4 a5 => K (.exit 0) (xlate_Translate_x0_0 a0 a1 a2 a3 a4 a5)) := by kernel_rfl
theorem xlate_Translate_y0_0 (R : Type) (kk : Nat) (bt4 : Zt22) (bt6 : Zt16) (bt7 : Zt15) (bt8 : Zt15) (bt9 : Zt4) (bt16 : Zt15) (K : List SV → Option Box → Option R) : (kBlock 0 (kSeq xlate_Translate_E (Tb64 R) kk (sub [1, 1, 1, 1, 1, 1, 1] xlate_Translate_c) (kFin xlate_Translate_E Tryz.f10.results.toList none K))) (.exit 0) (xlate_Translate_x0_0 bt4 bt6 bt7 bt8 bt9 bt16) =
  xlate_Translate_s2 bt4 bt6 bt7 bt8 bt9 bt16 (fun a0 a1 a2 a3 a4 a5 a6 a7 => loopR (ev xlate_Translate_E (Tb64 R) kk (sub [1, 1, 1, 1, 1, 1, 1, 0, 1, 0, 0] xlate_Translate_c)) [4, 6, 8, 9, 16, 76, 77, 78] [8, 9, 16] kk (xlate_Translate_h1 a0 a1 a2 a3 a4 a5 a6 a7) (kBlock 2 (kSeq xlate_Translate_E (Tb64 R) kk (sub [1, 1, 1, 1, 1, 1, 1, 1] xlate_Translate_c) (kFin xlate_Translate_E Tryz.f10.results.toList none K)))) := by kernel_rfl
theorem xlate_Translate_d1 (R : Type) (kk k : Nat) (t76 : Zt9) (t77 : Int) (t78 : Int) (bt4 : Zt22) (bt6 : Zt16) (bt8 : Zt15) (bt9 : Zt4) (bt16 : Zt15) (K : Ex → State → Option R) : loopR (ev xlate_Translate_E (Tb64 R) kk (sub [1, 1, 1, 1, 1, 1, 1, 0, 1, 0, 0] xlate_Translate_c)) [4, 6, 8, 9, 16, 76, 77, 78] [8, 9, 16] (k + 1) (xlate_Translate_h1 t76 t77 t78 bt4 bt6 bt8 bt9 bt16) K =
  xlate_Translate_s3 t76 t77 t78 bt4 bt6 bt8 bt9 bt16 (fun a0 a1 a2 => K .ret (xlate_Translate_x1_0 a0 a1 a2)) (fun a0 a1 a2 a3 a4 a5 a6 a7 => loopR (ev xlate_Translate_E (Tb64 R) kk (sub [1, 1, 1, 1, 1, 1, 1, 0, 1, 0, 0] xlate_Translate_c)) [4, 6, 8, 9, 16, 76, 77, 78] [8, 9, 16] k (xlate_Translate_h1 a0 a1 a2 a3 a4 a5 a6 a7) K) (fun a0 a1 a2 => K (.exit 2) (xlate_Translate_x1_1 a0 a1 a2)) := by kernel_rfl
theorem xlate_Translate_y1_0 (R : Type) (kk : Nat) (bt8 : Zt15) (bt9 : Zt4) (bt16 : Zt15) (K : List SV → Option Box → Option R) : (kBlock 2 (kSeq xlate_Translate_E (Tb64 R) kk (sub [1, 1, 1, 1, 1, 1, 1, 1] xlate_Translate_c) (kFin xlate_Translate_E Tryz.f10.results.toList none K))) .ret (xlate_Translate_x1_0 bt8 bt9 bt16) =
  xlate_Translate_s4 bt8 bt9 bt16 (fun a0 a1 => K [.dat y4 a0 [], .dat (.pair (.int .i64) (.pair (.int .i64) .unit)) a1 []] none) := by kernel_rfl
theorem xlate_Translate_y1_1 (R : Type) (kk : Nat) (bt8 : Zt15) (bt9 : Zt4) (bt16 : Zt15) (K : List SV → Option Box → Option R) : (kBlock 2 (kSeq xlate_Translate_E (Tb64 R) kk (sub [1, 1, 1, 1, 1, 1, 1, 1] xlate_Translate_c) (kFin xlate_Translate_E Tryz.f10.results.toList none K))) (.exit 2) (xlate_Translate_x1_1 bt8 bt9 bt16) =
  xlate_Translate_s5 bt8 bt9 bt16 (fun a0 a1 => K [.dat y4 a0 [], .dat (.pair (.int .i64) (.pair (.int .i64) .unit)) a1 []] none) := by kernel_rfl
theorem xlate_Translate_lp0 (R : Type) (k : Nat) (t59 : Zt20) (t60 : Int) (t61 : Int) (bt4 : Zt22) (bt6 : Zt16) (bt7 : Zt15) (bt8 : Zt15) (bt9 : Zt4) (bt16 : Zt15) (K : Ex → State → Option R) : loopR (ev xlate_Translate_E (Tb64 R) FUEL (sub [1, 1, 1, 1, 1, 1, 0, 1, 0, 0] xlate_Translate_c)) [4, 6, 7, 8, 9, 16, 59, 60, 61] [4, 6, 7, 8, 9, 16] k (xlate_Translate_h0 t59 t60 t61 bt4 bt6 bt7 bt8 bt9 bt16) K = (xlate_Translate_l0 k t59 t60 t61 bt4 bt6 bt7 bt8 bt9 bt16).bind fun e => K (.exit 0) (xlate_Translate_x0_0 e.1 e.2.1 e.2.2.1 e.2.2.2.1 e.2.2.2.2.1 e.2.2.2.2.2) := by
  induction k generalizing t59 t60 t61 bt4 bt6 bt7 bt8 bt9 bt16 with
  | zero => rfl
  | succ k ih =>
    rw [xlate_Translate_d0]
    simp only [xlate_Translate_l0, xlate_Translate_s0_bind, xlate_Translate_s1_bind, xlate_Translate_s2_bind, xlate_Translate_s3_bind, xlate_Translate_s4_bind, xlate_Translate_s5_bind, ih, cond_bind, within_bind, none_bind, some_bind, sum_bind, bind_bind, Sum.elim_inl, Sum.elim_inr]
theorem xlate_Translate_lp1 (R : Type) (k : Nat) (t76 : Zt9) (t77 : Int) (t78 : Int) (bt4 : Zt22) (bt6 : Zt16) (bt8 : Zt15) (bt9 : Zt4) (bt16 : Zt15) (K : Ex → State → Option R) : loopR (ev xlate_Translate_E (Tb64 R) FUEL (sub [1, 1, 1, 1, 1, 1, 1, 0, 1, 0, 0] xlate_Translate_c)) [4, 6, 8, 9, 16, 76, 77, 78] [8, 9, 16] k (xlate_Translate_h1 t76 t77 t78 bt4 bt6 bt8 bt9 bt16) K = (xlate_Translate_l1 k t76 t77 t78 bt4 bt6 bt8 bt9 bt16).bind fun e => (Sum.elim (fun (we : Zt21) => K .ret (xlate_Translate_x1_0 we.1 we.2.1 we.2.2)) (fun (we : Zt21) => K (.exit 2) (xlate_Translate_x1_1 we.1 we.2.1 we.2.2)) e) := by
  induction k generalizing t76 t77 t78 bt4 bt6 bt8 bt9 bt16 with
  | zero => rfl
  | succ k ih =>
    rw [xlate_Translate_d1]
    simp only [xlate_Translate_l1, xlate_Translate_s0_bind, xlate_Translate_s1_bind, xlate_Translate_s2_bind, xlate_Translate_s3_bind, xlate_Translate_s4_bind, xlate_Translate_s5_bind, ih, cond_bind, within_bind, none_bind, some_bind, sum_bind, bind_bind, Sum.elim_inl, Sum.elim_inr]
theorem xlate_Translate_eq (R : Type) (m_0 : Zt22) (a_1 : Zt16) (b_2 : Zt16) (x_3 : Zt15) (K : List SV → Option Box → Option R) : evFn xlate_Translate_E (Tb64 R) FUEL Tryz.f10 xlate_Translate_c [.dat y14 m_0 [], .dat y13 a_1 [], .dat y13 b_2 [], .dat y4 x_3 []] none K = (xlate_Translate m_0 a_1 b_2 x_3).bind fun r => K [.dat y4 r.1 [], .dat (.pair (.int .i64) (.pair (.int .i64) .unit)) r.2 []] none := by
  rw [xlate_Translate_t]
  simp only [xlate_Translate, xlate_Translate_s0_bind, xlate_Translate_s1_bind, xlate_Translate_s2_bind, xlate_Translate_s3_bind, xlate_Translate_s4_bind, xlate_Translate_s5_bind, xlate_Translate_lp0, xlate_Translate_lp1, xlate_Translate_y0_0, xlate_Translate_y1_0, xlate_Translate_y1_1, cond_bind, within_bind, none_bind, some_bind, sum_bind, bind_bind, Sum.elim_inl, Sum.elim_inr]
def xlate_Translate_g : Pure := fun R l b K => noBox b (args4 y14 y13 y13 y4 l (fun x0 x1 x2 x3 => (xlate_Translate x0 x1 x2 x3).bind fun r => K [.dat y4 r.1 [], .dat (.pair (.int .i64) (.pair (.int .i64) .unit)) r.2 []] none))
theorem xlate_Translate_n : xlate_Translate_g.Nat := fun R S l b F G K h => noBox_nat (args4_nat fun _ _ _ _ => bindr_nat fun _ => h _ _)
def Tb65 : Funs := Tb64.add 10 [y14, y13, y13, y4] xlate_Translate_g
theorem Tb65_nat : Tb65.Nat := add_nat Tb64_nat xlate_Translate_n
theorem Tb65_owes : ∀ f, Owes Tryz.prog Tb65 f := add_owes (E := xlate_Translate_E) (((Tab.env_ok tab_ok _ _ _ _).dr _).ro _) mixed Tb64_nat Tb64_owes (fn := Tryz.f10) (code := xlate_Translate_c) Tryz.func10 (by kernel_rfl) (by kernel_rfl) fun l b r b' h => by
  obtain ⟨rfl, h⟩ := noBox_some h
  obtain ⟨x0, x1, x2, x3, h1, h2⟩ := own4 (E := xlate_Translate_E) rfl h
  exact ⟨FUEL, (h2 _ _ _ _ _ _).trans ((xlate_Translate_eq _ x0 x1 x2 x3 _).trans h1)⟩
noncomputable abbrev schema_Set_c : Code := Tryz.f17.body.getD .skip
def schema_Set_E : Env := tab.env (fun i => bif Nat.beq i 3 then [2, 3, 7, 8, 9] else []) (fun i => bif Nat.beq i 3 then [2, 3] else []) [2] [y13]
def schema_Set_h0 (t7 : Zt13) (t8 : Int) (t9 : Int) (bt2 : Zt4) (bt3 : Zt4) : State := ⟨uS 2 ([.ptr 3 (.pair (.int .u64) (.pair (.int .u64) .unit)) []]::[.ptr 4 (.pair (.int .u64) (.pair (.int .u64) .unit)) []]::(uS 3 ([.dat (.sl 72 y7) t7 []]::[.dat (.int .i64) t8 []]::[.dat (.int .i64) t9 []]::(uS 9 ([]))))), nS 3 ((some ⟨(.pair (.int .u64) (.pair (.int .u64) .unit)), bt2, []⟩)::(some ⟨(.pair (.int .u64) (.pair (.int .u64) .unit)), bt3, []⟩)::(nS 15 ([])))⟩
def schema_Set_x0_0 (bt2 : Zt4) (bt3 : Zt4) : State := ⟨uS 2 ([.ptr 3 (.pair (.int .u64) (.pair (.int .u64) .unit)) []]::[.ptr 4 (.pair (.int .u64) (.pair (.int .u64) .unit)) []]::(uS 15 ([]))), nS 3 ((some ⟨(.pair (.int .u64) (.pair (.int .u64) .unit)), bt2, []⟩)::(some ⟨(.pair (.int .u64) (.pair (.int .u64) .unit)), bt3, []⟩)::(nS 15 ([])))⟩
theorem schema_Set_t (R : Type) (kk : Nat) (s_0 : Zt16) (K : List SV → Option Box → Option R) : evFn schema_Set_E (Tb65 R) kk Tryz.f17 schema_Set_c [.dat y13 s_0 []] none K =
  schema_Set_s0 s_0 (fun a0 a1 a2 a3 a4 => loopR (ev schema_Set_E (Tb65 R) kk (sub [1, 1, 0, 1, 0, 0] schema_Set_c)) [2, 3, 7, 8, 9] [2, 3] kk (schema_Set_h0 a0 a1 a2 a3 a4) (kBlock 0 (kSeq schema_Set_E (Tb65 R) kk (sub [1, 1, 1] schema_Set_c) (kFin schema_Set_E Tryz.f17.results.toList none K)))) := by kernel_rfl
theorem schema_Set_d0 (R : Type) (kk k : Nat) (t7 : Zt13) (t8 : Int) (t9 : Int) (bt2 : Zt4) (bt3 : Zt4) (K : Ex → State → Option R) : loopR (ev schema_Set_E (Tb65 R) kk (sub [1, 1, 0, 1, 0, 0] schema_Set_c)) [2, 3, 7, 8, 9] [2, 3] (k + 1) (schema_Set_h0 t7 t8 t9 bt2 bt3) K =
  schema_Set_s1 t7 t8 t9 bt2 bt3 (fun a0 a1 a2 a3 a4 => loopR (ev schema_Set_E (Tb65 R) kk (sub [1, 1, 0, 1, 0, 0] schema_Set_c)) [2, 3, 7, 8, 9] [2, 3] k (schema_Set_h0 a0 a1 a2 a3 a4) K) (fun a0 a1 => K (.exit 0) (schema_Set_x0_0 a0 a1)) := by kernel_rfl
theorem schema_Set_y0_0 (R : Type) (kk : Nat) (bt2 : Zt4) (bt3 : Zt4) (K : List SV → Option Box → Option R) : (kBlock 0 (kSeq schema_Set_E (Tb65 R) kk (sub [1, 1, 1] schema_Set_c) (kFin schema_Set_E Tryz.f17.results.toList none K))) (.exit 0) (schema_Set_x0_0 bt2 bt3) =
  schema_Set_s2 bt2 bt3 (fun a0 => K [.dat (.pair (.int .u64) (.pair (.int .u64) .unit)) a0 []] none) := by kernel_rfl
theorem schema_Set_lp0 (R : Type) (k : Nat) (t7 : Zt13) (t8 : Int) (t9 : Int) (bt2 : Zt4) (bt3 : Zt4) (K : Ex → State → Option R) : loopR (ev schema_Set_E (Tb65 R) FUEL (sub [1, 1, 0, 1, 0, 0] schema_Set_c)) [2, 3, 7, 8, 9] [2, 3] k (schema_Set_h0 t7 t8 t9 bt2 bt3) K = (schema_Set_l0 k t7 t8 t9 bt2 bt3).bind fun e => K (.exit 0) (schema_Set_x0_0 e.1 e.2) := by
  induction k generalizing t7 t8 t9 bt2 bt3 with
  | zero => rfl
  | succ k ih =>
    rw [schema_Set_d0]
    simp only [schema_Set_l0, schema_Set_s0_bind, schema_Set_s1_bind, schema_Set_s2_bind, ih, cond_bind, within_bind, none_bind, some_bind, sum_bind, bind_bind, Sum.elim_inl, Sum.elim_inr]
theorem schema_Set_eq (R : Type) (s_0 : Zt16) (K : List SV → Option Box → Option R) : evFn schema_Set_E (Tb65 R) FUEL Tryz.f17 schema_Set_c [.dat y13 s_0 []] none K = (schema_Set s_0).bind fun r => K [.dat (.pair (.int .u64) (.pair (.int .u64) .unit)) r []] none := by
  rw [schema_Set_t]
  simp only [schema_Set, schema_Set_s0_bind, schema_Set_s1_bind, schema_Set_s2_bind, schema_Set_lp0, schema_Set_y0_0, cond_bind, within_bind, none_bind, some_bind, sum_bind, bind_bind, Sum.elim_inl, Sum.elim_inr]
def schema_Set_g : Pure := fun R l b K => noBox b (args1 y13 l (fun x0 => (schema_Set x0).bind fun r => K [.dat (.pair (.int .u64) (.pair (.int .u64) .unit)) r []] none))
theorem schema_Set_n : schema_Set_g.Nat := fun R S l b F G K h => noBox_nat (args1_nat fun _ => bindr_nat fun _ => h _ _)
def Tb66 : Funs := Tb65.add 17 [y13] schema_Set_g
theorem Tb66_nat : Tb66.Nat := add_nat Tb65_nat schema_Set_n
theorem Tb66_owes : ∀ f, Owes Tryz.prog Tb66 f := add_owes (E := schema_Set_E) (Tab.env_ok tab_ok _ _ _ _) mixed Tb65_nat Tb65_owes (fn := Tryz.f17) (code := schema_Set_c) Tryz.func17 (by kernel_rfl) (by kernel_rfl) fun l b r b' h => by
  obtain ⟨rfl, h⟩ := noBox_some h
  obtain ⟨x0, h1, h2⟩ := own1 (E := schema_Set_E) rfl h
  exact ⟨FUEL, (h2 _ _ _ _ _ _).trans ((schema_Set_eq _ x0 _).trans h1)⟩
noncomputable abbrev fields_Set_Has_c : Code := Tryz.f36.body.getD .skip
def fields_Set_Has_E : Env := tab.env (fun _ => []) (fun _ => []) [] [(.pair (.int .u64) (.pair (.int .u64) .unit)), (.int .i64)]
theorem fields_Set_Has_t (R : Type) (kk : Nat) (s_0 : Zt4) (n_1 : Int) (K : List SV → Option Box → Option R) : evFn fields_Set_Has_E (Tb66 R) kk Tryz.f36 fields_Set_Has_c [.dat (.pair (.int .u64) (.pair (.int .u64) .unit)) s_0 [], .dat (.int .i64) n_1 []] none K =
  fields_Set_Has_s0 s_0 n_1 (fun a0 => K [.dat .bool a0 []] none) := by kernel_rfl
theorem fields_Set_Has_eq (R : Type) (s_0 : Zt4) (n_1 : Int) (K : List SV → Option Box → Option R) : evFn fields_Set_Has_E (Tb66 R) FUEL Tryz.f36 fields_Set_Has_c [.dat (.pair (.int .u64) (.pair (.int .u64) .unit)) s_0 [], .dat (.int .i64) n_1 []] none K = (fields_Set_Has s_0 n_1).bind fun r => K [.dat .bool r []] none := by
  rw [fields_Set_Has_t]
  simp only [fields_Set_Has, fields_Set_Has_s0_bind, cond_bind, within_bind, none_bind, some_bind, sum_bind, bind_bind, Sum.elim_inl, Sum.elim_inr]
def fields_Set_Has_g : Pure := fun R l b K => noBox b (args2 (.pair (.int .u64) (.pair (.int .u64) .unit)) (.int .i64) l (fun x0 x1 => (fields_Set_Has x0 x1).bind fun r => K [.dat .bool r []] none))
theorem fields_Set_Has_n : fields_Set_Has_g.Nat := fun R S l b F G K h => noBox_nat (args2_nat fun _ _ => bindr_nat fun _ => h _ _)
def Tb67 : Funs := Tb66.add 36 [(.pair (.int .u64) (.pair (.int .u64) .unit)), (.int .i64)] fields_Set_Has_g
theorem Tb67_nat : Tb67.Nat := add_nat Tb66_nat fields_Set_Has_n
theorem Tb67_owes : ∀ f, Owes Tryz.prog Tb67 f := add_owes (E := fields_Set_Has_E) (Tab.env_ok tab_ok _ _ _ _) mixed Tb66_nat Tb66_owes (fn := Tryz.f36) (code := fields_Set_Has_c) Tryz.func36 (by kernel_rfl) (by kernel_rfl) fun l b r b' h => by
  obtain ⟨rfl, h⟩ := noBox_some h
  obtain ⟨x0, x1, h1, h2⟩ := own2 (E := fields_Set_Has_E) rfl h
  exact ⟨FUEL, (h2 _ _ _ _ _ _).trans ((fields_Set_Has_eq _ x0 x1 _).trans h1)⟩
noncomputable abbrev schema_Restrict_c : Code := Tryz.f16.body.getD .skip
def schema_Restrict_E : Env := tab.env (fun i => bif Nat.beq i 5 then [3, 4, 5, 18, 19, 20] else []) (fun i => bif Nat.beq i 5 then [4, 5] else []) [4] [y13, (.pair (.int .u64) (.pair (.int .u64) .unit))]
def schema_Restrict_h0 (t18 : Zt13) (t19 : Int) (t20 : Int) (bt3 : Zt4) (bt4 : Zt16) (bt5 : Zt16) : State := ⟨uS 3 ([.ptr 4 (.pair (.int .u64) (.pair (.int .u64) .unit)) []]::[.ptr 5 y13 []]::[.ptr 6 y13 []]::(uS 12 ([.dat (.sl 72 y7) t18 []]::[.dat (.int .i64) t19 []]::[.dat (.int .i64) t20 []]::(uS 15 ([]))))), nS 4 ((some ⟨(.pair (.int .u64) (.pair (.int .u64) .unit)), bt3, []⟩)::(some ⟨y13, bt4, [[2]]⟩)::(some ⟨y13, bt5, [[2]]⟩)::(nS 30 ([])))⟩
def schema_Restrict_x0_0 (bt4 : Zt16) (bt5 : Zt16) : State := ⟨uS 4 ([.ptr 5 y13 []]::[.ptr 6 y13 []]::(uS 30 ([]))), nS 5 ((some ⟨y13, bt4, [[2]]⟩)::(some ⟨y13, bt5, [[2]]⟩)::(nS 30 ([])))⟩
theorem schema_Restrict_t (R : Type) (kk : Nat) (s_0 : Zt16) (keep_1 : Zt4) (K : List SV → Option Box → Option R) : evFn schema_Restrict_E (Tb67 R) kk Tryz.f16 schema_Restrict_c [.dat y13 s_0 [], .dat (.pair (.int .u64) (.pair (.int .u64) .unit)) keep_1 []] none K =
  schema_Restrict_s0 s_0 keep_1 (fun a0 => K [.dat y13 a0 [[2]]] none) (fun a0 a1 a2 a3 a4 a5 => loopR (ev schema_Restrict_E (Tb67 R) kk (sub [1, 1, 1, 0, 1, 0, 0] schema_Restrict_c)) [3, 4, 5, 18, 19, 20] [4, 5] kk (schema_Restrict_h0 a0 a1 a2 a3 a4 a5) (kBlock 0 (kSeq schema_Restrict_E (Tb67 R) kk (sub [1, 1, 1, 1] schema_Restrict_c) (kFin schema_Restrict_E Tryz.f16.results.toList none K)))) := by kernel_rfl
theorem schema_Restrict_d0 (R : Type) (kk k : Nat) (t18 : Zt13) (t19 : Int) (t20 : Int) (bt3 : Zt4) (bt4 : Zt16) (bt5 : Zt16) (K : Ex → State → Option R) : loopR (ev schema_Restrict_E (Tb67 R) kk (sub [1, 1, 1, 0, 1, 0, 0] schema_Restrict_c)) [3, 4, 5, 18, 19, 20] [4, 5] (k + 1) (schema_Restrict_h0 t18 t19 t20 bt3 bt4 bt5) K =
  schema_Restrict_s1 t18 t19 t20 bt3 bt4 bt5 (fun a0 a1 a2 a3 a4 a5 => loopR (ev schema_Restrict_E (Tb67 R) kk (sub [1, 1, 1, 0, 1, 0, 0] schema_Restrict_c)) [3, 4, 5, 18, 19, 20] [4, 5] k (schema_Restrict_h0 a0 a1 a2 a3 a4 a5) K) (fun a0 a1 => K (.exit 0) (schema_Restrict_x0_0 a0 a1)) := by kernel_rfl
theorem schema_Restrict_y0_0 (R : Type) (kk : Nat) (bt4 : Zt16) (bt5 : Zt16) (K : List SV → Option Box → Option R) : (kBlock 0 (kSeq schema_Restrict_E (Tb67 R) kk (sub [1, 1, 1, 1] schema_Restrict_c) (kFin schema_Restrict_E Tryz.f16.results.toList none K))) (.exit 0) (schema_Restrict_x0_0 bt4 bt5) =
  schema_Restrict_s2 bt4 bt5 (fun a0 => K [.dat y13 a0 [[2]]] none) := by kernel_rfl
theorem schema_Restrict_lp0 (R : Type) (k : Nat) (t18 : Zt13) (t19 : Int) (t20 : Int) (bt3 : Zt4) (bt4 : Zt16) (bt5 : Zt16) (K : Ex → State → Option R) : loopR (ev schema_Restrict_E (Tb67 R) FUEL (sub [1, 1, 1, 0, 1, 0, 0] schema_Restrict_c)) [3, 4, 5, 18, 19, 20] [4, 5] k (schema_Restrict_h0 t18 t19 t20 bt3 bt4 bt5) K = (schema_Restrict_l0 k t18 t19 t20 bt3 bt4 bt5).bind fun e => K (.exit 0) (schema_Restrict_x0_0 e.1 e.2) := by
  induction k generalizing t18 t19 t20 bt3 bt4 bt5 with
  | zero => rfl
  | succ k ih =>
    rw [schema_Restrict_d0]
    simp only [schema_Restrict_l0, schema_Restrict_s0_bind, schema_Restrict_s1_bind, schema_Restrict_s2_bind, ih, cond_bind, within_bind, none_bind, some_bind, sum_bind, bind_bind, Sum.elim_inl, Sum.elim_inr]
theorem schema_Restrict_eq (R : Type) (s_0 : Zt16) (keep_1 : Zt4) (K : List SV → Option Box → Option R) : evFn schema_Restrict_E (Tb67 R) FUEL Tryz.f16 schema_Restrict_c [.dat y13 s_0 [], .dat (.pair (.int .u64) (.pair (.int .u64) .unit)) keep_1 []] none K = (schema_Restrict s_0 keep_1).bind fun r => K [.dat y13 r [[2]]] none := by
  rw [schema_Restrict_t]
  simp only [schema_Restrict, schema_Restrict_s0_bind, schema_Restrict_s1_bind, schema_Restrict_s2_bind, schema_Restrict_lp0, schema_Restrict_y0_0, cond_bind, within_bind, none_bind, some_bind, sum_bind, bind_bind, Sum.elim_inl, Sum.elim_inr]
def schema_Restrict_g : Pure := fun R l b K => noBox b (args2 y13 (.pair (.int .u64) (.pair (.int .u64) .unit)) l (fun x0 x1 => (schema_Restrict x0 x1).bind fun r => K [.dat y13 r [[2]]] none))
theorem schema_Restrict_n : schema_Restrict_g.Nat := fun R S l b F G K h => noBox_nat (args2_nat fun _ _ => bindr_nat fun _ => h _ _)
def Tb68 : Funs := Tb67.add 16 [y13, (.pair (.int .u64) (.pair (.int .u64) .unit))] schema_Restrict_g
theorem Tb68_nat : Tb68.Nat := add_nat Tb67_nat schema_Restrict_n
theorem Tb68_owes : ∀ f, Owes Tryz.prog Tb68 f := add_owes (E := schema_Restrict_E) (Tab.env_ok tab_ok _ _ _ _) mixed Tb67_nat Tb67_owes (fn := Tryz.f16) (code := schema_Restrict_c) Tryz.func16 (by kernel_rfl) (by kernel_rfl) fun l b r b' h => by
  obtain ⟨rfl, h⟩ := noBox_some h
  obtain ⟨x0, x1, h1, h2⟩ := own2 (E := schema_Restrict_E) rfl h
  exact ⟨FUEL, (h2 _ _ _ _ _ _).trans ((schema_Restrict_eq _ x0 x1 _).trans h1)⟩
noncomputable abbrev r16_Same_c : Code := Tryz.f18.body.getD .skip
def r16_Same_E : Env := tab.env (fun i => bif Nat.beq i 4 then [2, 3, 5] else []) (fun i => bif Nat.beq i 4 then [4] else []) [] [y4, y4]
def r16_Same_h0 (t5 : Int) (bt2 : Zt15) (bt3 : Zt15) : State := ⟨uS 2 ([.ptr 3 y4 []]::[.ptr 4 y4 []]::(uS 1 ([.dat (.int .i64) t5 []]::(uS 32 ([]))))), nS 3 ((some ⟨y4, bt2, []⟩)::(some ⟨y4, bt3, []⟩)::(nS 34 ([])))⟩
def r16_Same_x0_0 (t4 : Bool) : State := ⟨uS 4 ([.dat .bool t4 []]::(uS 33 ([]))), nS 39 []⟩
def r16_Same_x0_1  : State := ⟨uS 38 [], nS 39 []⟩
theorem r16_Same_t (R : Type) (kk : Nat) (a_0 : Zt15) (b_1 : Zt15) (K : List SV → Option Box → Option R) : evFn r16_Same_E (Tb68 R) kk Tryz.f18 r16_Same_c [.dat y4 a_0 [], .dat y4 b_1 []] none K =
  r16_Same_s0 a_0 b_1 (fun a0 => K [.dat .bool a0 []] none) (fun a0 a1 a2 => loopR (ev r16_Same_E (Tb68 R) kk (sub [1, 1, 0, 1, 0, 0] r16_Same_c)) [2, 3, 5] [4] kk (r16_Same_h0 a0 a1 a2) (kBlock 0 (kSeq r16_Same_E (Tb68 R) kk (sub [1, 1, 1] r16_Same_c) (kFin r16_Same_E Tryz.f18.results.toList none K)))) := by kernel_rfl
theorem r16_Same_d0 (R : Type) (kk k : Nat) (t5 : Int) (bt2 : Zt15) (bt3 : Zt15) (K : Ex → State → Option R) : loopR (ev r16_Same_E (Tb68 R) kk (sub [1, 1, 0, 1, 0, 0] r16_Same_c)) [2, 3, 5] [4] (k + 1) (r16_Same_h0 t5 bt2 bt3) K =
  r16_Same_s1 t5 bt2 bt3 (fun a0 => K .ret (r16_Same_x0_0 a0)) (fun a0 a1 a2 => loopR (ev r16_Same_E (Tb68 R) kk (sub [1, 1, 0, 1, 0, 0] r16_Same_c)) [2, 3, 5] [4] k (r16_Same_h0 a0 a1 a2) K) (K (.exit 0) (r16_Same_x0_1)) := by kernel_rfl
theorem r16_Same_y0_0 (R : Type) (kk : Nat) (t4 : Bool) (K : List SV → Option Box → Option R) : (kBlock 0 (kSeq r16_Same_E (Tb68 R) kk (sub [1, 1, 1] r16_Same_c) (kFin r16_Same_E Tryz.f18.results.toList none K))) .ret (r16_Same_x0_0 t4) =
  r16_Same_s2 t4 (fun a0 => K [.dat .bool a0 []] none) := by kernel_rfl
theorem r16_Same_y0_1 (R : Type) (kk : Nat)  (K : List SV → Option Box → Option R) : (kBlock 0 (kSeq r16_Same_E (Tb68 R) kk (sub [1, 1, 1] r16_Same_c) (kFin r16_Same_E Tryz.f18.results.toList none K))) (.exit 0) (r16_Same_x0_1) =
  r16_Same_s3 (fun a0 => K [.dat .bool a0 []] none) := by kernel_rfl
theorem r16_Same_lp0 (R : Type) (k : Nat) (t5 : Int) (bt2 : Zt15) (bt3 : Zt15) (K : Ex → State → Option R) : loopR (ev r16_Same_E (Tb68 R) FUEL (sub [1, 1, 0, 1, 0, 0] r16_Same_c)) [2, 3, 5] [4] k (r16_Same_h0 t5 bt2 bt3) K = (r16_Same_l0 k t5 bt2 bt3).bind fun e => (Sum.elim (fun (we : Bool) => K .ret (r16_Same_x0_0 we)) (fun (we : Unit) => K (.exit 0) (r16_Same_x0_1)) e) := by
  induction k generalizing t5 bt2 bt3 with
  | zero => rfl
  | succ k ih =>
    rw [r16_Same_d0]
    simp only [r16_Same_l0, r16_Same_s0_bind, r16_Same_s1_bind, r16_Same_s2_bind, r16_Same_s3_bind, ih, cond_bind, within_bind, none_bind, some_bind, sum_bind, bind_bind, Sum.elim_inl, Sum.elim_inr]
theorem r16_Same_eq (R : Type) (a_0 : Zt15) (b_1 : Zt15) (K : List SV → Option Box → Option R) : evFn r16_Same_E (Tb68 R) FUEL Tryz.f18 r16_Same_c [.dat y4 a_0 [], .dat y4 b_1 []] none K = (r16_Same a_0 b_1).bind fun r => K [.dat .bool r []] none := by
  rw [r16_Same_t]
  simp only [r16_Same, r16_Same_s0_bind, r16_Same_s1_bind, r16_Same_s2_bind, r16_Same_s3_bind, r16_Same_lp0, r16_Same_y0_0, r16_Same_y0_1, cond_bind, within_bind, none_bind, some_bind, sum_bind, bind_bind, Sum.elim_inl, Sum.elim_inr]
def r16_Same_g : Pure := fun R l b K => noBox b (args2 y4 y4 l (fun x0 x1 => (r16_Same x0 x1).bind fun r => K [.dat .bool r []] none))
theorem r16_Same_n : r16_Same_g.Nat := fun R S l b F G K h => noBox_nat (args2_nat fun _ _ => bindr_nat fun _ => h _ _)
def Tb69 : Funs := Tb68.add 18 [y4, y4] r16_Same_g
theorem Tb69_nat : Tb69.Nat := add_nat Tb68_nat r16_Same_n
theorem Tb69_owes : ∀ f, Owes Tryz.prog Tb69 f := add_owes (E := r16_Same_E) (Tab.env_ok tab_ok _ _ _ _) mixed Tb68_nat Tb68_owes (fn := Tryz.f18) (code := r16_Same_c) Tryz.func18 (by kernel_rfl) (by kernel_rfl) fun l b r b' h => by
  obtain ⟨rfl, h⟩ := noBox_some h
  obtain ⟨x0, x1, h1, h2⟩ := own2 (E := r16_Same_E) rfl h
  exact ⟨FUEL, (h2 _ _ _ _ _ _).trans ((r16_Same_eq _ x0 x1 _).trans h1)⟩
noncomputable abbrev w22_InvertSchemas_c : Code := Tryz.f4.body.getD .skip
def w22_InvertSchemas_E : Env := tab.env (fun i => bif Nat.beq i 7 then [0, 1, 5, 7, 8, 9, 10, 28, 29, 30] else []) (fun i => bif Nat.beq i 7 then [5, 7, 8, 9, 10] else []) [] [(.int .u64), (.int .u64), y4]
def w22_InvertSchemas_h0 (high_0 : Int) (low_1 : Int) (t10 : Zt20) (t28 : Zt20) (t29 : Int) (t30 : Int) (bt5 : Zt15) (bt7 : Zt16) (bt8 : Zt16) (bt9 : Zt22) : State := ⟨[.dat (.int .u64) high_0 []]::[.dat (.int .u64) low_1 []]::(uS 3 ([.ptr 6 y4 []]::(uS 1 ([.ptr 8 y13 []]::[.ptr 9 y13 []]::[.ptr 10 y14 []]::[.dat (.sl 46 y9) t10 [[]]]::(uS 17 ([.dat (.sl 46 y9) t28 []]::[.dat (.int .i64) t29 []]::[.dat (.int .i64) t30 []]::(uS 51 ([])))))))), nS 6 ((some ⟨y4, bt5, []⟩)::(nS 1 ((some ⟨y13, bt7, [[2]]⟩)::(some ⟨y13, bt8, [[2]]⟩)::(some ⟨y14, bt9, [[0], [1]]⟩)::(nS 72 ([])))))⟩
def w22_InvertSchemas_x0_0 (t10 : Zt20) (bt5 : Zt15) (bt7 : Zt16) (bt8 : Zt16) (bt9 : Zt22) : State := ⟨uS 5 ([.ptr 6 y4 []]::(uS 1 ([.ptr 8 y13 []]::[.ptr 9 y13 []]::[.ptr 10 y14 []]::[.dat (.sl 46 y9) t10 [[]]]::(uS 71 ([]))))), nS 6 ((some ⟨y4, bt5, []⟩)::(nS 1 ((some ⟨y13, bt7, [[2]]⟩)::(some ⟨y13, bt8, [[2]]⟩)::(some ⟨y14, bt9, [[0], [1]]⟩)::(nS 72 ([])))))⟩
theorem w22_InvertSchemas_t (R : Type) (kk : Nat) (high_0 : Int) (low_1 : Int) (x_2 : Zt15) (K : List SV → Option Box → Option R) : evFn w22_InvertSchemas_E (Tb69 R) kk Tryz.f4 w22_InvertSchemas_c [.dat (.int .u64) high_0 [], .dat (.int .u64) low_1 [], .dat y4 x_2 []] none K =
  w22_InvertSchemas_s0 high_0 low_1 x_2 (fun a0 => K [.dat .bool a0 []] none) (fun a0 a1 a2 a3 a4 a5 a6 a7 a8 a9 => loopR (ev w22_InvertSchemas_E (Tb69 R) kk (sub [1, 1, 1, 1, 1, 0, 1, 0, 0] w22_InvertSchemas_c)) [0, 1, 5, 7, 8, 9, 10, 28, 29, 30] [5, 7, 8, 9, 10] kk (w22_InvertSchemas_h0 a0 a1 a2 a3 a4 a5 a6 a7 a8 a9) (kBlock 0 (kSeq w22_InvertSchemas_E (Tb69 R) kk (sub [1, 1, 1, 1, 1, 1] w22_InvertSchemas_c) (kFin w22_InvertSchemas_E Tryz.f4.results.toList none K)))) := by kernel_rfl
theorem w22_InvertSchemas_d0 (R : Type) (kk k : Nat) (high_0 : Int) (low_1 : Int) (t10 : Zt20) (t28 : Zt20) (t29 : Int) (t30 : Int) (bt5 : Zt15) (bt7 : Zt16) (bt8 : Zt16) (bt9 : Zt22) (K : Ex → State → Option R) : loopR (ev w22_InvertSchemas_E (Tb69 R) kk (sub [1, 1, 1, 1, 1, 0, 1, 0, 0] w22_InvertSchemas_c)) [0, 1, 5, 7, 8, 9, 10, 28, 29, 30] [5, 7, 8, 9, 10] (k + 1) (w22_InvertSchemas_h0 high_0 low_1 t10 t28 t29 t30 bt5 bt7 bt8 bt9) K =
  w22_InvertSchemas_s1 high_0 low_1 t10 t28 t29 t30 bt5 bt7 bt8 bt9 (fun a0 a1 a2 a3 a4 a5 a6 a7 a8 a9 => loopR (ev w22_InvertSchemas_E (Tb69 R) kk (sub [1, 1, 1, 1, 1, 0, 1, 0, 0] w22_InvertSchemas_c)) [0, 1, 5, 7, 8, 9, 10, 28, 29, 30] [5, 7, 8, 9, 10] k (w22_InvertSchemas_h0 a0 a1 a2 a3 a4 a5 a6 a7 a8 a9) K) (fun a0 a1 a2 a3 a4 => K (.exit 0) (w22_InvertSchemas_x0_0 a0 a1 a2 a3 a4)) := by kernel_rfl
theorem w22_InvertSchemas_y0_0 (R : Type) (kk : Nat) (t10 : Zt20) (bt5 : Zt15) (bt7 : Zt16) (bt8 : Zt16) (bt9 : Zt22) (K : List SV → Option Box → Option R) : (kBlock 0 (kSeq w22_InvertSchemas_E (Tb69 R) kk (sub [1, 1, 1, 1, 1, 1] w22_InvertSchemas_c) (kFin w22_InvertSchemas_E Tryz.f4.results.toList none K))) (.exit 0) (w22_InvertSchemas_x0_0 t10 bt5 bt7 bt8 bt9) =
  w22_InvertSchemas_s2 t10 bt5 bt7 bt8 bt9 (fun a0 => K [.dat .bool a0 []] none) := by kernel_rfl
theorem w22_InvertSchemas_lp0 (R : Type) (k : Nat) (high_0 : Int) (low_1 : Int) (t10 : Zt20) (t28 : Zt20) (t29 : Int) (t30 : Int) (bt5 : Zt15) (bt7 : Zt16) (bt8 : Zt16) (bt9 : Zt22) (K : Ex → State → Option R) : loopR (ev w22_InvertSchemas_E (Tb69 R) FUEL (sub [1, 1, 1, 1, 1, 0, 1, 0, 0] w22_InvertSchemas_c)) [0, 1, 5, 7, 8, 9, 10, 28, 29, 30] [5, 7, 8, 9, 10] k (w22_InvertSchemas_h0 high_0 low_1 t10 t28 t29 t30 bt5 bt7 bt8 bt9) K = (w22_InvertSchemas_l0 k high_0 low_1 t10 t28 t29 t30 bt5 bt7 bt8 bt9).bind fun e => K (.exit 0) (w22_InvertSchemas_x0_0 e.1 e.2.1 e.2.2.1 e.2.2.2.1 e.2.2.2.2) := by
  induction k generalizing high_0 low_1 t10 t28 t29 t30 bt5 bt7 bt8 bt9 with
  | zero => rfl
  | succ k ih =>
    rw [w22_InvertSchemas_d0]
    simp only [w22_InvertSchemas_l0, w22_InvertSchemas_s0_bind, w22_InvertSchemas_s1_bind, w22_InvertSchemas_s2_bind, ih, cond_bind, within_bind, none_bind, some_bind, sum_bind, bind_bind, Sum.elim_inl, Sum.elim_inr]
theorem w22_InvertSchemas_eq (R : Type) (high_0 : Int) (low_1 : Int) (x_2 : Zt15) (K : List SV → Option Box → Option R) : evFn w22_InvertSchemas_E (Tb69 R) FUEL Tryz.f4 w22_InvertSchemas_c [.dat (.int .u64) high_0 [], .dat (.int .u64) low_1 [], .dat y4 x_2 []] none K = (w22_InvertSchemas high_0 low_1 x_2).bind fun r => K [.dat .bool r []] none := by
  rw [w22_InvertSchemas_t]
  simp only [w22_InvertSchemas, w22_InvertSchemas_s0_bind, w22_InvertSchemas_s1_bind, w22_InvertSchemas_s2_bind, w22_InvertSchemas_lp0, w22_InvertSchemas_y0_0, cond_bind, within_bind, none_bind, some_bind, sum_bind, bind_bind, Sum.elim_inl, Sum.elim_inr]
def w22_InvertSchemas_g : Pure := fun R l b K => noBox b (args3 (.int .u64) (.int .u64) y4 l (fun x0 x1 x2 => (w22_InvertSchemas x0 x1 x2).bind fun r => K [.dat .bool r []] none))
def Tb70 : Funs := Tb69.add 4 [(.int .u64), (.int .u64), y4] w22_InvertSchemas_g
theorem Tb70_owes : ∀ f, Owes Tryz.prog Tb70 f := add_owes (E := w22_InvertSchemas_E) (Tab.env_ok tab_ok _ _ _ _) mixed Tb69_nat Tb69_owes (fn := Tryz.f4) (code := w22_InvertSchemas_c) Tryz.func4 (by kernel_rfl) (by kernel_rfl) fun l b r b' h => by
  obtain ⟨rfl, h⟩ := noBox_some h
  obtain ⟨x0, x1, x2, h1, h2⟩ := own3 (E := w22_InvertSchemas_E) rfl h
  exact ⟨FUEL, (h2 _ _ _ _ _ _).trans ((w22_InvertSchemas_eq _ x0 x1 x2 _).trans h1)⟩
end Go.Proofs.YthdphoohfdiodaaGreatDoor
