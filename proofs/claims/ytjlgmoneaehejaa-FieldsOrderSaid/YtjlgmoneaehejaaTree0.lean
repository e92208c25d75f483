/- The plain functions are what the code does. -/
import Derived.Test.YtjlgmoneaehejaaProg
import Derived.KernelRfl
import Derived.Test.YtjlgmoneaehejaaK1
set_option linter.unusedVariables false
set_option linter.unusedSimpArgs false
set_option maxRecDepth 100000
namespace Go.Proofs.Ytjlgmoneaehejaa
open Go Go.Ref Groat
def tys : List (Option Ty) := [none, none, some (.int .i64), some (.int .i64), some .bool, some (.int .u8), some (.int .u8), some (.pair (.int .i64) (.pair (.int .i64) (.pair .bool (.pair (.int .u8) .unit)))), some (.pair (.int .i64) (.pair (.int .i64) (.pair .bool (.pair (.int .u8) .unit)))), some .str, some .str, some .str, some (.int .u64), none, none, none, none, none, none, none, none, some (.int .i32), some (.sl 3 (.int .i64)), none, some (.int .u64), some (.pair (.int .u64) (.pair (.int .u64) .unit)), some (.pair (.int .u64) (.pair (.int .u64) .unit)), none, none, none, none, none, none, none, none, none, none, none, none, none, none, none, none, none, some (.arr 2 (.int .u64)), none, none, none, none, none, some (.int .u64), none, none, none, none, none, none, some (.int .u32), some (.int .u8), some (.int .u8), none, none, some (.int .i32), some (.int .i32), none, none, none]
def bts : List Nat := [0, 8, 8, 8, 1, 1, 1, 24, 24, 16, 16, 16, 8, 24, 24, 8, 8, 8, 8, 8, 16, 4, 24, 8, 8, 16, 16, 8, 0, 8, 8, 8, 8, 8, 8, 8, 8, 0, 8, 8, 8, 8, 8, 8, 16, 8, 8, 8, 8, 8, 8, 8, 40, 40, 0, 0, 0, 4, 1, 1, 8, 8, 4, 4, 48, 48, 8]
def pts : List Bool := [false, false, false, false, false, false, false, false, false, false, false, false, false, false, false, true, true, true, false, false, false, false, false, false, false, false, false, false, false, false, false, false, false, false, false, false, false, false, false, false, false, false, false, false, false, false, false, false, false, false, false, false, false, false, false, false, false, false, false, false, false, true, false, false, false, false, false]
def tab : Tab := ⟨tys, bts, pts⟩
theorem tab_ok : tab.ok Try.prog = true := by kernel_rfl
theorem mixed : Try.prog.follows .mixedOrders = true := by kernel_rfl
def Tb0 : Funs := Funs.none
theorem Tb0_nat : Tb0.Nat := none_nat
theorem Tb0_owes : ∀ f, Owes Try.prog Tb0 f := none_owes
noncomputable abbrev fields_bit_c : Code := Try.f26.body.getD .skip
def fields_bit_E : Env := tab.env (fun _ => []) (fun _ => []) [2] [(.int .i64)]
theorem fields_bit_t (R : Type) (kk : Nat) (n_0 : Int) (K : List SV → Option Box → Option R) : evFn fields_bit_E (Tb0 R) kk Try.f26 fields_bit_c [.dat (.int .i64) n_0 []] none K =
  fields_bit_s0 n_0 (fun a0 => K [.dat (.pair (.int .u64) (.pair (.int .u64) .unit)) a0 []] none) := by kernel_rfl
theorem fields_bit_eq (R : Type) (n_0 : Int) (K : List SV → Option Box → Option R) : evFn fields_bit_E (Tb0 R) FUEL Try.f26 fields_bit_c [.dat (.int .i64) n_0 []] none K = (fields_bit n_0).bind fun r => K [.dat (.pair (.int .u64) (.pair (.int .u64) .unit)) r []] none := by
  rw [fields_bit_t]
  simp only [fields_bit, fields_bit_s0_bind, cond_bind, within_bind, none_bind, some_bind, sum_bind, bind_bind, Sum.elim_inl, Sum.elim_inr]
def fields_bit_g : Pure := fun R l b K => noBox b (args1 (.int .i64) l (fun x0 => (fields_bit x0).bind fun r => K [.dat (.pair (.int .u64) (.pair (.int .u64) .unit)) r []] none))
theorem fields_bit_n : fields_bit_g.Nat := fun R S l b F G K h => noBox_nat (args1_nat fun _ => bindr_nat fun _ => h _ _)
def Tb1 : Funs := Tb0.add 26 [(.int .i64)] fields_bit_g
theorem Tb1_nat : Tb1.Nat := add_nat Tb0_nat fields_bit_n
theorem Tb1_owes : ∀ f, Owes Try.prog Tb1 f := add_owes (E := fields_bit_E) (Tab.env_ok tab_ok _ _ _ _) mixed Tb0_nat Tb0_owes (fn := Try.f26) (code := fields_bit_c) Try.func26 (by kernel_rfl) (by kernel_rfl) fun l b r b' h => by
  obtain ⟨rfl, h⟩ := noBox_some h
  obtain ⟨x0, h1, h2⟩ := own1 (E := fields_bit_E) rfl h
  exact ⟨FUEL, (h2 _ _ _ _ _ _).trans ((fields_bit_eq _ x0 _).trans h1)⟩
noncomputable abbrev fields_Set_Either_c : Code := Try.f24.body.getD .skip
def fields_Set_Either_E : Env := tab.env (fun _ => []) (fun _ => []) [4] [(.pair (.int .u64) (.pair (.int .u64) .unit)), (.pair (.int .u64) (.pair (.int .u64) .unit))]
theorem fields_Set_Either_t (R : Type) (kk : Nat) (s_0 : (Int × Int × Unit)) (t_1 : (Int × Int × Unit)) (K : List SV → Option Box → Option R) : evFn fields_Set_Either_E (Tb1 R) kk Try.f24 fields_Set_Either_c [.dat (.pair (.int .u64) (.pair (.int .u64) .unit)) s_0 [], .dat (.pair (.int .u64) (.pair (.int .u64) .unit)) t_1 []] none K =
  fields_Set_Either_s0 s_0 t_1 (fun a0 => K [.dat (.pair (.int .u64) (.pair (.int .u64) .unit)) a0 []] none) := by kernel_rfl
theorem fields_Set_Either_eq (R : Type) (s_0 : (Int × Int × Unit)) (t_1 : (Int × Int × Unit)) (K : List SV → Option Box → Option R) : evFn fields_Set_Either_E (Tb1 R) FUEL Try.f24 fields_Set_Either_c [.dat (.pair (.int .u64) (.pair (.int .u64) .unit)) s_0 [], .dat (.pair (.int .u64) (.pair (.int .u64) .unit)) t_1 []] none K = (fields_Set_Either s_0 t_1).bind fun r => K [.dat (.pair (.int .u64) (.pair (.int .u64) .unit)) r []] none := by
  rw [fields_Set_Either_t]
  simp only [fields_Set_Either, fields_Set_Either_s0_bind, cond_bind, within_bind, none_bind, some_bind, sum_bind, bind_bind, Sum.elim_inl, Sum.elim_inr]
def fields_Set_Either_g : Pure := fun R l b K => noBox b (args2 (.pair (.int .u64) (.pair (.int .u64) .unit)) (.pair (.int .u64) (.pair (.int .u64) .unit)) l (fun x0 x1 => (fields_Set_Either x0 x1).bind fun r => K [.dat (.pair (.int .u64) (.pair (.int .u64) .unit)) r []] none))
theorem fields_Set_Either_n : fields_Set_Either_g.Nat := fun R S l b F G K h => noBox_nat (args2_nat fun _ _ => bindr_nat fun _ => h _ _)
def Tb2 : Funs := Tb1.add 24 [(.pair (.int .u64) (.pair (.int .u64) .unit)), (.pair (.int .u64) (.pair (.int .u64) .unit))] fields_Set_Either_g
theorem Tb2_nat : Tb2.Nat := add_nat Tb1_nat fields_Set_Either_n
theorem Tb2_owes : ∀ f, Owes Try.prog Tb2 f := add_owes (E := fields_Set_Either_E) (Tab.env_ok tab_ok _ _ _ _) mixed Tb1_nat Tb1_owes (fn := Try.f24) (code := fields_Set_Either_c) Try.func24 (by kernel_rfl) (by kernel_rfl) fun l b r b' h => by
  obtain ⟨rfl, h⟩ := noBox_some h
  obtain ⟨x0, x1, h1, h2⟩ := own2 (E := fields_Set_Either_E) rfl h
  exact ⟨FUEL, (h2 _ _ _ _ _ _).trans ((fields_Set_Either_eq _ x0 x1 _).trans h1)⟩
noncomputable abbrev fields_Set_With_c : Code := Try.f12.body.getD .skip
def fields_Set_With_E : Env := tab.env (fun _ => []) (fun _ => []) [4] [(.pair (.int .u64) (.pair (.int .u64) .unit)), (.int .i64)]
theorem fields_Set_With_t (R : Type) (kk : Nat) (s_0 : (Int × Int × Unit)) (n_1 : Int) (K : List SV → Option Box → Option R) : evFn fields_Set_With_E (Tb2 R) kk Try.f12 fields_Set_With_c [.dat (.pair (.int .u64) (.pair (.int .u64) .unit)) s_0 [], .dat (.int .i64) n_1 []] none K =
  fields_Set_With_s0 s_0 n_1 (fun a0 => K [.dat (.pair (.int .u64) (.pair (.int .u64) .unit)) a0 []] none) := by kernel_rfl
theorem fields_Set_With_eq (R : Type) (s_0 : (Int × Int × Unit)) (n_1 : Int) (K : List SV → Option Box → Option R) : evFn fields_Set_With_E (Tb2 R) FUEL Try.f12 fields_Set_With_c [.dat (.pair (.int .u64) (.pair (.int .u64) .unit)) s_0 [], .dat (.int .i64) n_1 []] none K = (fields_Set_With s_0 n_1).bind fun r => K [.dat (.pair (.int .u64) (.pair (.int .u64) .unit)) r []] none := by
  rw [fields_Set_With_t]
  simp only [fields_Set_With, fields_Set_With_s0_bind, cond_bind, within_bind, none_bind, some_bind, sum_bind, bind_bind, Sum.elim_inl, Sum.elim_inr]
def fields_Set_With_g : Pure := fun R l b K => noBox b (args2 (.pair (.int .u64) (.pair (.int .u64) .unit)) (.int .i64) l (fun x0 x1 => (fields_Set_With x0 x1).bind fun r => K [.dat (.pair (.int .u64) (.pair (.int .u64) .unit)) r []] none))
theorem fields_Set_With_n : fields_Set_With_g.Nat := fun R S l b F G K h => noBox_nat (args2_nat fun _ _ => bindr_nat fun _ => h _ _)
def Tb3 : Funs := Tb2.add 12 [(.pair (.int .u64) (.pair (.int .u64) .unit)), (.int .i64)] fields_Set_With_g
theorem Tb3_nat : Tb3.Nat := add_nat Tb2_nat fields_Set_With_n
theorem Tb3_owes : ∀ f, Owes Try.prog Tb3 f := add_owes (E := fields_Set_With_E) (Tab.env_ok tab_ok _ _ _ _) mixed Tb2_nat Tb2_owes (fn := Try.f12) (code := fields_Set_With_c) Try.func12 (by kernel_rfl) (by kernel_rfl) fun l b r b' h => by
  obtain ⟨rfl, h⟩ := noBox_some h
  obtain ⟨x0, x1, h1, h2⟩ := own2 (E := fields_Set_With_E) rfl h
  exact ⟨FUEL, (h2 _ _ _ _ _ _).trans ((fields_Set_With_eq _ x0 x1 _).trans h1)⟩
noncomputable abbrev fields_Of_c : Code := Try.f9.body.getD .skip
def fields_Of_E : Env := tab.env (fun i => bif Nat.beq i 3 then [2, 3, 6, 7, 8] else []) (fun i => bif Nat.beq i 3 then [2, 3] else []) [2] [(.sl 3 (.int .i64))]
def fields_Of_h0 (t6 : (List Int)) (t7 : Int) (t8 : Int) (bt2 : (Int × Int × Unit)) (bt3 : (Int × Int × Unit)) : State := ⟨[[.undef], [.undef], [.ptr 3 (.pair (.int .u64) (.pair (.int .u64) .unit)) []], [.ptr 4 (.pair (.int .u64) (.pair (.int .u64) .unit)) []], [.undef], [.undef], [.dat (.sl 3 (.int .i64)) t6 []], [.dat (.int .i64) t7 []], [.dat (.int .i64) t8 []], [.undef], [.undef], [.undef], [.undef], [.undef], [.undef], [.undef], [.undef]], [none, none, none, some ⟨(.pair (.int .u64) (.pair (.int .u64) .unit)), bt2, []⟩, some ⟨(.pair (.int .u64) (.pair (.int .u64) .unit)), bt3, []⟩, none, none, none, none, none, none, none, none, none, none, none, none, none]⟩
def fields_Of_x0_0 (bt2 : (Int × Int × Unit)) (bt3 : (Int × Int × Unit)) : State := ⟨[[.undef], [.undef], [.ptr 3 (.pair (.int .u64) (.pair (.int .u64) .unit)) []], [.ptr 4 (.pair (.int .u64) (.pair (.int .u64) .unit)) []], [.undef], [.undef], [.undef], [.undef], [.undef], [.undef], [.undef], [.undef], [.undef], [.undef], [.undef], [.undef], [.undef]], [none, none, none, some ⟨(.pair (.int .u64) (.pair (.int .u64) .unit)), bt2, []⟩, some ⟨(.pair (.int .u64) (.pair (.int .u64) .unit)), bt3, []⟩, none, none, none, none, none, none, none, none, none, none, none, none, none]⟩
theorem fields_Of_t (R : Type) (kk : Nat) (n_0 : (List Int)) (K : List SV → Option Box → Option R) : evFn fields_Of_E (Tb3 R) kk Try.f9 fields_Of_c [.dat (.sl 3 (.int .i64)) n_0 []] none K =
  fields_Of_s0 n_0 (fun a0 a1 a2 a3 a4 => loopR (ev fields_Of_E (Tb3 R) kk (sub [1, 1, 0, 1, 0, 0] fields_Of_c)) [2, 3, 6, 7, 8] [2, 3] kk (fields_Of_h0 a0 a1 a2 a3 a4) (kBlock 0 (kSeq fields_Of_E (Tb3 R) kk (sub [1, 1, 1] fields_Of_c) (kFin fields_Of_E Try.f9.results.toList none K)))) := by kernel_rfl
theorem fields_Of_d0 (R : Type) (kk k : Nat) (t6 : (List Int)) (t7 : Int) (t8 : Int) (bt2 : (Int × Int × Unit)) (bt3 : (Int × Int × Unit)) (K : Ex → State → Option R) : loopR (ev fields_Of_E (Tb3 R) kk (sub [1, 1, 0, 1, 0, 0] fields_Of_c)) [2, 3, 6, 7, 8] [2, 3] (k + 1) (fields_Of_h0 t6 t7 t8 bt2 bt3) K =
  fields_Of_s1 t6 t7 t8 bt2 bt3 (fun a0 a1 a2 a3 a4 => loopR (ev fields_Of_E (Tb3 R) kk (sub [1, 1, 0, 1, 0, 0] fields_Of_c)) [2, 3, 6, 7, 8] [2, 3] k (fields_Of_h0 a0 a1 a2 a3 a4) K) (fun a0 a1 => K (.exit 0) (fields_Of_x0_0 a0 a1)) := by kernel_rfl
theorem fields_Of_y0_0 (R : Type) (kk : Nat) (bt2 : (Int × Int × Unit)) (bt3 : (Int × Int × Unit)) (K : List SV → Option Box → Option R) : (kBlock 0 (kSeq fields_Of_E (Tb3 R) kk (sub [1, 1, 1] fields_Of_c) (kFin fields_Of_E Try.f9.results.toList none K))) (.exit 0) (fields_Of_x0_0 bt2 bt3) =
  fields_Of_s2 bt2 bt3 (fun a0 => K [.dat (.pair (.int .u64) (.pair (.int .u64) .unit)) a0 []] none) := by kernel_rfl
theorem fields_Of_lp0 (R : Type) (k : Nat) (t6 : (List Int)) (t7 : Int) (t8 : Int) (bt2 : (Int × Int × Unit)) (bt3 : (Int × Int × Unit)) (K : Ex → State → Option R) : loopR (ev fields_Of_E (Tb3 R) FUEL (sub [1, 1, 0, 1, 0, 0] fields_Of_c)) [2, 3, 6, 7, 8] [2, 3] k (fields_Of_h0 t6 t7 t8 bt2 bt3) K = (fields_Of_l0 k t6 t7 t8 bt2 bt3).bind fun e => K (.exit 0) (fields_Of_x0_0 e.1 e.2) := by
  induction k generalizing t6 t7 t8 bt2 bt3 with
  | zero => rfl
  | succ k ih =>
    rw [fields_Of_d0]
    simp only [fields_Of_l0, fields_Of_s0_bind, fields_Of_s1_bind, fields_Of_s2_bind, ih, cond_bind, within_bind, none_bind, some_bind, sum_bind, bind_bind, Sum.elim_inl, Sum.elim_inr]
theorem fields_Of_eq (R : Type) (n_0 : (List Int)) (K : List SV → Option Box → Option R) : evFn fields_Of_E (Tb3 R) FUEL Try.f9 fields_Of_c [.dat (.sl 3 (.int .i64)) n_0 []] none K = (fields_Of n_0).bind fun r => K [.dat (.pair (.int .u64) (.pair (.int .u64) .unit)) r []] none := by
  rw [fields_Of_t]
  simp only [fields_Of, fields_Of_s0_bind, fields_Of_s1_bind, fields_Of_s2_bind, fields_Of_lp0, fields_Of_y0_0, cond_bind, within_bind, none_bind, some_bind, sum_bind, bind_bind, Sum.elim_inl, Sum.elim_inr]
def fields_Of_g : Pure := fun R l b K => noBox b (args1 (.sl 3 (.int .i64)) l (fun x0 => (fields_Of x0).bind fun r => K [.dat (.pair (.int .u64) (.pair (.int .u64) .unit)) r []] none))
theorem fields_Of_n : fields_Of_g.Nat := fun R S l b F G K h => noBox_nat (args1_nat fun _ => bindr_nat fun _ => h _ _)
def Tb4 : Funs := Tb3.add 9 [(.sl 3 (.int .i64))] fields_Of_g
theorem Tb4_nat : Tb4.Nat := add_nat Tb3_nat fields_Of_n
theorem Tb4_owes : ∀ f, Owes Try.prog Tb4 f := add_owes (E := fields_Of_E) (Tab.env_ok tab_ok _ _ _ _) mixed Tb3_nat Tb3_owes (fn := Try.f9) (code := fields_Of_c) Try.func9 (by kernel_rfl) (by kernel_rfl) fun l b r b' h => by
  obtain ⟨rfl, h⟩ := noBox_some h
  obtain ⟨x0, h1, h2⟩ := own1 (E := fields_Of_E) rfl h
  exact ⟨FUEL, (h2 _ _ _ _ _ _).trans ((fields_Of_eq _ x0 _).trans h1)⟩
noncomputable abbrev fields_Set_Halves_c : Code := Try.f10.body.getD .skip
def fields_Set_Halves_E : Env := tab.env (fun _ => []) (fun _ => []) [] [(.pair (.int .u64) (.pair (.int .u64) .unit))]
theorem fields_Set_Halves_t (R : Type) (kk : Nat) (s_0 : (Int × Int × Unit)) (K : List SV → Option Box → Option R) : evFn fields_Set_Halves_E (Tb4 R) kk Try.f10 fields_Set_Halves_c [.dat (.pair (.int .u64) (.pair (.int .u64) .unit)) s_0 []] none K =
  fields_Set_Halves_s0 s_0 (fun a0 a1 => K [.dat (.int .u64) a0 [], .dat (.int .u64) a1 []] none) := by kernel_rfl
theorem fields_Set_Halves_eq (R : Type) (s_0 : (Int × Int × Unit)) (K : List SV → Option Box → Option R) : evFn fields_Set_Halves_E (Tb4 R) FUEL Try.f10 fields_Set_Halves_c [.dat (.pair (.int .u64) (.pair (.int .u64) .unit)) s_0 []] none K = (fields_Set_Halves s_0).bind fun r => K [.dat (.int .u64) r.1 [], .dat (.int .u64) r.2 []] none := by
  rw [fields_Set_Halves_t]
  simp only [fields_Set_Halves, fields_Set_Halves_s0_bind, cond_bind, within_bind, none_bind, some_bind, sum_bind, bind_bind, Sum.elim_inl, Sum.elim_inr]
def fields_Set_Halves_g : Pure := fun R l b K => noBox b (args1 (.pair (.int .u64) (.pair (.int .u64) .unit)) l (fun x0 => (fields_Set_Halves x0).bind fun r => K [.dat (.int .u64) r.1 [], .dat (.int .u64) r.2 []] none))
theorem fields_Set_Halves_n : fields_Set_Halves_g.Nat := fun R S l b F G K h => noBox_nat (args1_nat fun _ => bindr_nat fun _ => h _ _)
def Tb5 : Funs := Tb4.add 10 [(.pair (.int .u64) (.pair (.int .u64) .unit))] fields_Set_Halves_g
theorem Tb5_nat : Tb5.Nat := add_nat Tb4_nat fields_Set_Halves_n
theorem Tb5_owes : ∀ f, Owes Try.prog Tb5 f := add_owes (E := fields_Set_Halves_E) (Tab.env_ok tab_ok _ _ _ _) mixed Tb4_nat Tb4_owes (fn := Try.f10) (code := fields_Set_Halves_c) Try.func10 (by kernel_rfl) (by kernel_rfl) fun l b r b' h => by
  obtain ⟨rfl, h⟩ := noBox_some h
  obtain ⟨x0, h1, h2⟩ := own1 (E := fields_Set_Halves_E) rfl h
  exact ⟨FUEL, (h2 _ _ _ _ _ _).trans ((fields_Set_Halves_eq _ x0 _).trans h1)⟩
noncomputable abbrev math_bits_Len64_c : Code := Try.f29.body.getD .skip
def math_bits_Len64_E : Env := tab.env (fun _ => []) (fun _ => []) [] [(.int .u64)]
theorem math_bits_Len64_t (R : Type) (kk : Nat) (x_0 : Int) (K : List SV → Option Box → Option R) : evFn math_bits_Len64_E (Tb5 R) kk Try.f29 math_bits_Len64_c [.dat (.int .u64) x_0 []] none K =
  math_bits_Len64_s0 x_0 (fun a0 => K [.dat (.int .i64) a0 []] none) := by kernel_rfl
theorem math_bits_Len64_eq (R : Type) (x_0 : Int) (K : List SV → Option Box → Option R) : evFn math_bits_Len64_E (Tb5 R) FUEL Try.f29 math_bits_Len64_c [.dat (.int .u64) x_0 []] none K = (math_bits_Len64 x_0).bind fun r => K [.dat (.int .i64) r []] none := by
  rw [math_bits_Len64_t]
  simp only [math_bits_Len64, math_bits_Len64_s0_bind, cond_bind, within_bind, none_bind, some_bind, sum_bind, bind_bind, Sum.elim_inl, Sum.elim_inr]
def math_bits_Len64_g : Pure := fun R l b K => noBox b (args1 (.int .u64) l (fun x0 => (math_bits_Len64 x0).bind fun r => K [.dat (.int .i64) r []] none))
theorem math_bits_Len64_n : math_bits_Len64_g.Nat := fun R S l b F G K h => noBox_nat (args1_nat fun _ => bindr_nat fun _ => h _ _)
def Tb6 : Funs := Tb5.add 29 [(.int .u64)] math_bits_Len64_g
theorem Tb6_nat : Tb6.Nat := add_nat Tb5_nat math_bits_Len64_n
theorem Tb6_owes : ∀ f, Owes Try.prog Tb6 f := add_owes (E := math_bits_Len64_E) (Tab.env_ok tab_ok _ _ _ _) mixed Tb5_nat Tb5_owes (fn := Try.f29) (code := math_bits_Len64_c) Try.func29 (by kernel_rfl) (by kernel_rfl) fun l b r b' h => by
  obtain ⟨rfl, h⟩ := noBox_some h
  obtain ⟨x0, h1, h2⟩ := own1 (E := math_bits_Len64_E) rfl h
  exact ⟨FUEL, (h2 _ _ _ _ _ _).trans ((math_bits_Len64_eq _ x0 _).trans h1)⟩
noncomputable abbrev math_bits_LeadingZeros64_c : Code := Try.f28.body.getD .skip
def math_bits_LeadingZeros64_E : Env := tab.env (fun _ => []) (fun _ => []) [] [(.int .u64)]
theorem math_bits_LeadingZeros64_t (R : Type) (kk : Nat) (x_0 : Int) (K : List SV → Option Box → Option R) : evFn math_bits_LeadingZeros64_E (Tb6 R) kk Try.f28 math_bits_LeadingZeros64_c [.dat (.int .u64) x_0 []] none K =
  math_bits_LeadingZeros64_s0 x_0 (fun a0 => K [.dat (.int .i64) a0 []] none) := by kernel_rfl
theorem math_bits_LeadingZeros64_eq (R : Type) (x_0 : Int) (K : List SV → Option Box → Option R) : evFn math_bits_LeadingZeros64_E (Tb6 R) FUEL Try.f28 math_bits_LeadingZeros64_c [.dat (.int .u64) x_0 []] none K = (math_bits_LeadingZeros64 x_0).bind fun r => K [.dat (.int .i64) r []] none := by
  rw [math_bits_LeadingZeros64_t]
  simp only [math_bits_LeadingZeros64, math_bits_LeadingZeros64_s0_bind, cond_bind, within_bind, none_bind, some_bind, sum_bind, bind_bind, Sum.elim_inl, Sum.elim_inr]
def math_bits_LeadingZeros64_g : Pure := fun R l b K => noBox b (args1 (.int .u64) l (fun x0 => (math_bits_LeadingZeros64 x0).bind fun r => K [.dat (.int .i64) r []] none))
theorem math_bits_LeadingZeros64_n : math_bits_LeadingZeros64_g.Nat := fun R S l b F G K h => noBox_nat (args1_nat fun _ => bindr_nat fun _ => h _ _)
def Tb7 : Funs := Tb6.add 28 [(.int .u64)] math_bits_LeadingZeros64_g
theorem Tb7_nat : Tb7.Nat := add_nat Tb6_nat math_bits_LeadingZeros64_n
theorem Tb7_owes : ∀ f, Owes Try.prog Tb7 f := add_owes (E := math_bits_LeadingZeros64_E) (Tab.env_ok tab_ok _ _ _ _) mixed Tb6_nat Tb6_owes (fn := Try.f28) (code := math_bits_LeadingZeros64_c) Try.func28 (by kernel_rfl) (by kernel_rfl) fun l b r b' h => by
  obtain ⟨rfl, h⟩ := noBox_some h
  obtain ⟨x0, h1, h2⟩ := own1 (E := math_bits_LeadingZeros64_E) rfl h
  exact ⟨FUEL, (h2 _ _ _ _ _ _).trans ((math_bits_LeadingZeros64_eq _ x0 _).trans h1)⟩
noncomputable abbrev fields_Set_Next_c : Code := Try.f19.body.getD .skip
def fields_Set_Next_E : Env := tab.env (fun _ => []) (fun _ => []) [] [(.pair (.int .u64) (.pair (.int .u64) .unit)), (.int .i64)]
theorem fields_Set_Next_t (R : Type) (kk : Nat) (s_0 : (Int × Int × Unit)) (n_1 : Int) (K : List SV → Option Box → Option R) : evFn fields_Set_Next_E (Tb7 R) kk Try.f19 fields_Set_Next_c [.dat (.pair (.int .u64) (.pair (.int .u64) .unit)) s_0 [], .dat (.int .i64) n_1 []] none K =
  fields_Set_Next_s0 s_0 n_1 (fun a0 => K [.dat (.int .i64) a0 []] none) := by kernel_rfl
theorem fields_Set_Next_eq (R : Type) (s_0 : (Int × Int × Unit)) (n_1 : Int) (K : List SV → Option Box → Option R) : evFn fields_Set_Next_E (Tb7 R) FUEL Try.f19 fields_Set_Next_c [.dat (.pair (.int .u64) (.pair (.int .u64) .unit)) s_0 [], .dat (.int .i64) n_1 []] none K = (fields_Set_Next s_0 n_1).bind fun r => K [.dat (.int .i64) r []] none := by
  rw [fields_Set_Next_t]
  simp only [fields_Set_Next, fields_Set_Next_s0_bind, cond_bind, within_bind, none_bind, some_bind, sum_bind, bind_bind, Sum.elim_inl, Sum.elim_inr]
def fields_Set_Next_g : Pure := fun R l b K => noBox b (args2 (.pair (.int .u64) (.pair (.int .u64) .unit)) (.int .i64) l (fun x0 x1 => (fields_Set_Next x0 x1).bind fun r => K [.dat (.int .i64) r []] none))
theorem fields_Set_Next_n : fields_Set_Next_g.Nat := fun R S l b F G K h => noBox_nat (args2_nat fun _ _ => bindr_nat fun _ => h _ _)
def Tb8 : Funs := Tb7.add 19 [(.pair (.int .u64) (.pair (.int .u64) .unit)), (.int .i64)] fields_Set_Next_g
theorem Tb8_nat : Tb8.Nat := add_nat Tb7_nat fields_Set_Next_n
theorem Tb8_owes : ∀ f, Owes Try.prog Tb8 f := add_owes (E := fields_Set_Next_E) (Tab.env_ok tab_ok _ _ _ _) mixed Tb7_nat Tb7_owes (fn := Try.f19) (code := fields_Set_Next_c) Try.func19 (by kernel_rfl) (by kernel_rfl) fun l b r b' h => by
  obtain ⟨rfl, h⟩ := noBox_some h
  obtain ⟨x0, x1, h1, h2⟩ := own2 (E := fields_Set_Next_E) rfl h
  exact ⟨FUEL, (h2 _ _ _ _ _ _).trans ((fields_Set_Next_eq _ x0 x1 _).trans h1)⟩
noncomputable abbrev fields_Set_Both_c : Code := Try.f23.body.getD .skip
def fields_Set_Both_E : Env := tab.env (fun _ => []) (fun _ => []) [4] [(.pair (.int .u64) (.pair (.int .u64) .unit)), (.pair (.int .u64) (.pair (.int .u64) .unit))]
theorem fields_Set_Both_t (R : Type) (kk : Nat) (s_0 : (Int × Int × Unit)) (t_1 : (Int × Int × Unit)) (K : List SV → Option Box → Option R) : evFn fields_Set_Both_E (Tb8 R) kk Try.f23 fields_Set_Both_c [.dat (.pair (.int .u64) (.pair (.int .u64) .unit)) s_0 [], .dat (.pair (.int .u64) (.pair (.int .u64) .unit)) t_1 []] none K =
  fields_Set_Both_s0 s_0 t_1 (fun a0 => K [.dat (.pair (.int .u64) (.pair (.int .u64) .unit)) a0 []] none) := by kernel_rfl
theorem fields_Set_Both_eq (R : Type) (s_0 : (Int × Int × Unit)) (t_1 : (Int × Int × Unit)) (K : List SV → Option Box → Option R) : evFn fields_Set_Both_E (Tb8 R) FUEL Try.f23 fields_Set_Both_c [.dat (.pair (.int .u64) (.pair (.int .u64) .unit)) s_0 [], .dat (.pair (.int .u64) (.pair (.int .u64) .unit)) t_1 []] none K = (fields_Set_Both s_0 t_1).bind fun r => K [.dat (.pair (.int .u64) (.pair (.int .u64) .unit)) r []] none := by
  rw [fields_Set_Both_t]
  simp only [fields_Set_Both, fields_Set_Both_s0_bind, cond_bind, within_bind, none_bind, some_bind, sum_bind, bind_bind, Sum.elim_inl, Sum.elim_inr]
def fields_Set_Both_g : Pure := fun R l b K => noBox b (args2 (.pair (.int .u64) (.pair (.int .u64) .unit)) (.pair (.int .u64) (.pair (.int .u64) .unit)) l (fun x0 x1 => (fields_Set_Both x0 x1).bind fun r => K [.dat (.pair (.int .u64) (.pair (.int .u64) .unit)) r []] none))
theorem fields_Set_Both_n : fields_Set_Both_g.Nat := fun R S l b F G K h => noBox_nat (args2_nat fun _ _ => bindr_nat fun _ => h _ _)
def Tb9 : Funs := Tb8.add 23 [(.pair (.int .u64) (.pair (.int .u64) .unit)), (.pair (.int .u64) (.pair (.int .u64) .unit))] fields_Set_Both_g
theorem Tb9_nat : Tb9.Nat := add_nat Tb8_nat fields_Set_Both_n
theorem Tb9_owes : ∀ f, Owes Try.prog Tb9 f := add_owes (E := fields_Set_Both_E) (Tab.env_ok tab_ok _ _ _ _) mixed Tb8_nat Tb8_owes (fn := Try.f23) (code := fields_Set_Both_c) Try.func23 (by kernel_rfl) (by kernel_rfl) fun l b r b' h => by
  obtain ⟨rfl, h⟩ := noBox_some h
  obtain ⟨x0, x1, h1, h2⟩ := own2 (E := fields_Set_Both_E) rfl h
  exact ⟨FUEL, (h2 _ _ _ _ _ _).trans ((fields_Set_Both_eq _ x0 x1 _).trans h1)⟩
noncomputable abbrev fields_Set_Has_c : Code := Try.f16.body.getD .skip
def fields_Set_Has_E : Env := tab.env (fun _ => []) (fun _ => []) [] [(.pair (.int .u64) (.pair (.int .u64) .unit)), (.int .i64)]
theorem fields_Set_Has_t (R : Type) (kk : Nat) (s_0 : (Int × Int × Unit)) (n_1 : Int) (K : List SV → Option Box → Option R) : evFn fields_Set_Has_E (Tb9 R) kk Try.f16 fields_Set_Has_c [.dat (.pair (.int .u64) (.pair (.int .u64) .unit)) s_0 [], .dat (.int .i64) n_1 []] none K =
  fields_Set_Has_s0 s_0 n_1 (fun a0 => K [.dat .bool a0 []] none) := by kernel_rfl
theorem fields_Set_Has_eq (R : Type) (s_0 : (Int × Int × Unit)) (n_1 : Int) (K : List SV → Option Box → Option R) : evFn fields_Set_Has_E (Tb9 R) FUEL Try.f16 fields_Set_Has_c [.dat (.pair (.int .u64) (.pair (.int .u64) .unit)) s_0 [], .dat (.int .i64) n_1 []] none K = (fields_Set_Has s_0 n_1).bind fun r => K [.dat .bool r []] none := by
  rw [fields_Set_Has_t]
  simp only [fields_Set_Has, fields_Set_Has_s0_bind, cond_bind, within_bind, none_bind, some_bind, sum_bind, bind_bind, Sum.elim_inl, Sum.elim_inr]
def fields_Set_Has_g : Pure := fun R l b K => noBox b (args2 (.pair (.int .u64) (.pair (.int .u64) .unit)) (.int .i64) l (fun x0 x1 => (fields_Set_Has x0 x1).bind fun r => K [.dat .bool r []] none))
theorem fields_Set_Has_n : fields_Set_Has_g.Nat := fun R S l b F G K h => noBox_nat (args2_nat fun _ _ => bindr_nat fun _ => h _ _)
def Tb10 : Funs := Tb9.add 16 [(.pair (.int .u64) (.pair (.int .u64) .unit)), (.int .i64)] fields_Set_Has_g
theorem Tb10_nat : Tb10.Nat := add_nat Tb9_nat fields_Set_Has_n
theorem Tb10_owes : ∀ f, Owes Try.prog Tb10 f := add_owes (E := fields_Set_Has_E) (Tab.env_ok tab_ok _ _ _ _) mixed Tb9_nat Tb9_owes (fn := Try.f16) (code := fields_Set_Has_c) Try.func16 (by kernel_rfl) (by kernel_rfl) fun l b r b' h => by
  obtain ⟨rfl, h⟩ := noBox_some h
  obtain ⟨x0, x1, h1, h2⟩ := own2 (E := fields_Set_Has_E) rfl h
  exact ⟨FUEL, (h2 _ _ _ _ _ _).trans ((fields_Set_Has_eq _ x0 x1 _).trans h1)⟩
noncomputable abbrev math_bits_OnesCount64_c : Code := Try.f27.body.getD .skip
def math_bits_OnesCount64_E : Env := tab.env (fun _ => []) (fun _ => []) [] [(.int .u64)]
theorem math_bits_OnesCount64_t (R : Type) (kk : Nat) (x_0 : Int) (K : List SV → Option Box → Option R) : evFn math_bits_OnesCount64_E (Tb10 R) kk Try.f27 math_bits_OnesCount64_c [.dat (.int .u64) x_0 []] none K =
  math_bits_OnesCount64_s0 x_0 (fun a0 => K [.dat (.int .i64) a0 []] none) := by kernel_rfl
theorem math_bits_OnesCount64_eq (R : Type) (x_0 : Int) (K : List SV → Option Box → Option R) : evFn math_bits_OnesCount64_E (Tb10 R) FUEL Try.f27 math_bits_OnesCount64_c [.dat (.int .u64) x_0 []] none K = (math_bits_OnesCount64 x_0).bind fun r => K [.dat (.int .i64) r []] none := by
  rw [math_bits_OnesCount64_t]
  simp only [math_bits_OnesCount64, math_bits_OnesCount64_s0_bind, cond_bind, within_bind, none_bind, some_bind, sum_bind, bind_bind, Sum.elim_inl, Sum.elim_inr]
def math_bits_OnesCount64_g : Pure := fun R l b K => noBox b (args1 (.int .u64) l (fun x0 => (math_bits_OnesCount64 x0).bind fun r => K [.dat (.int .i64) r []] none))
theorem math_bits_OnesCount64_n : math_bits_OnesCount64_g.Nat := fun R S l b F G K h => noBox_nat (args1_nat fun _ => bindr_nat fun _ => h _ _)
def Tb11 : Funs := Tb10.add 27 [(.int .u64)] math_bits_OnesCount64_g
theorem Tb11_nat : Tb11.Nat := add_nat Tb10_nat math_bits_OnesCount64_n
theorem Tb11_owes : ∀ f, Owes Try.prog Tb11 f := add_owes (E := math_bits_OnesCount64_E) (Tab.env_ok tab_ok _ _ _ _) mixed Tb10_nat Tb10_owes (fn := Try.f27) (code := math_bits_OnesCount64_c) Try.func27 (by kernel_rfl) (by kernel_rfl) fun l b r b' h => by
  obtain ⟨rfl, h⟩ := noBox_some h
  obtain ⟨x0, h1, h2⟩ := own1 (E := math_bits_OnesCount64_E) rfl h
  exact ⟨FUEL, (h2 _ _ _ _ _ _).trans ((math_bits_OnesCount64_eq _ x0 _).trans h1)⟩
noncomputable abbrev fields_Set_Len_c : Code := Try.f18.body.getD .skip
def fields_Set_Len_E : Env := tab.env (fun _ => []) (fun _ => []) [] [(.pair (.int .u64) (.pair (.int .u64) .unit))]
theorem fields_Set_Len_t (R : Type) (kk : Nat) (s_0 : (Int × Int × Unit)) (K : List SV → Option Box → Option R) : evFn fields_Set_Len_E (Tb11 R) kk Try.f18 fields_Set_Len_c [.dat (.pair (.int .u64) (.pair (.int .u64) .unit)) s_0 []] none K =
  fields_Set_Len_s0 s_0 (fun a0 => K [.dat (.int .i64) a0 []] none) := by kernel_rfl
theorem fields_Set_Len_eq (R : Type) (s_0 : (Int × Int × Unit)) (K : List SV → Option Box → Option R) : evFn fields_Set_Len_E (Tb11 R) FUEL Try.f18 fields_Set_Len_c [.dat (.pair (.int .u64) (.pair (.int .u64) .unit)) s_0 []] none K = (fields_Set_Len s_0).bind fun r => K [.dat (.int .i64) r []] none := by
  rw [fields_Set_Len_t]
  simp only [fields_Set_Len, fields_Set_Len_s0_bind, cond_bind, within_bind, none_bind, some_bind, sum_bind, bind_bind, Sum.elim_inl, Sum.elim_inr]
def fields_Set_Len_g : Pure := fun R l b K => noBox b (args1 (.pair (.int .u64) (.pair (.int .u64) .unit)) l (fun x0 => (fields_Set_Len x0).bind fun r => K [.dat (.int .i64) r []] none))
theorem fields_Set_Len_n : fields_Set_Len_g.Nat := fun R S l b F G K h => noBox_nat (args1_nat fun _ => bindr_nat fun _ => h _ _)
def Tb12 : Funs := Tb11.add 18 [(.pair (.int .u64) (.pair (.int .u64) .unit))] fields_Set_Len_g
theorem Tb12_nat : Tb12.Nat := add_nat Tb11_nat fields_Set_Len_n
theorem Tb12_owes : ∀ f, Owes Try.prog Tb12 f := add_owes (E := fields_Set_Len_E) (Tab.env_ok tab_ok _ _ _ _) mixed Tb11_nat Tb11_owes (fn := Try.f18) (code := fields_Set_Len_c) Try.func18 (by kernel_rfl) (by kernel_rfl) fun l b r b' h => by
  obtain ⟨rfl, h⟩ := noBox_some h
  obtain ⟨x0, h1, h2⟩ := own1 (E := fields_Set_Len_E) rfl h
  exact ⟨FUEL, (h2 _ _ _ _ _ _).trans ((fields_Set_Len_eq _ x0 _).trans h1)⟩
noncomputable abbrev fields_Set_Without_c : Code := Try.f22.body.getD .skip
def fields_Set_Without_E : Env := tab.env (fun _ => []) (fun _ => []) [4] [(.pair (.int .u64) (.pair (.int .u64) .unit)), (.int .i64)]
theorem fields_Set_Without_t (R : Type) (kk : Nat) (s_0 : (Int × Int × Unit)) (n_1 : Int) (K : List SV → Option Box → Option R) : evFn fields_Set_Without_E (Tb12 R) kk Try.f22 fields_Set_Without_c [.dat (.pair (.int .u64) (.pair (.int .u64) .unit)) s_0 [], .dat (.int .i64) n_1 []] none K =
  fields_Set_Without_s0 s_0 n_1 (fun a0 => K [.dat (.pair (.int .u64) (.pair (.int .u64) .unit)) a0 []] none) := by kernel_rfl
theorem fields_Set_Without_eq (R : Type) (s_0 : (Int × Int × Unit)) (n_1 : Int) (K : List SV → Option Box → Option R) : evFn fields_Set_Without_E (Tb12 R) FUEL Try.f22 fields_Set_Without_c [.dat (.pair (.int .u64) (.pair (.int .u64) .unit)) s_0 [], .dat (.int .i64) n_1 []] none K = (fields_Set_Without s_0 n_1).bind fun r => K [.dat (.pair (.int .u64) (.pair (.int .u64) .unit)) r []] none := by
  rw [fields_Set_Without_t]
  simp only [fields_Set_Without, fields_Set_Without_s0_bind, cond_bind, within_bind, none_bind, some_bind, sum_bind, bind_bind, Sum.elim_inl, Sum.elim_inr]
def fields_Set_Without_g : Pure := fun R l b K => noBox b (args2 (.pair (.int .u64) (.pair (.int .u64) .unit)) (.int .i64) l (fun x0 x1 => (fields_Set_Without x0 x1).bind fun r => K [.dat (.pair (.int .u64) (.pair (.int .u64) .unit)) r []] none))
theorem fields_Set_Without_n : fields_Set_Without_g.Nat := fun R S l b F G K h => noBox_nat (args2_nat fun _ _ => bindr_nat fun _ => h _ _)
def Tb13 : Funs := Tb12.add 22 [(.pair (.int .u64) (.pair (.int .u64) .unit)), (.int .i64)] fields_Set_Without_g
theorem Tb13_nat : Tb13.Nat := add_nat Tb12_nat fields_Set_Without_n
theorem Tb13_owes : ∀ f, Owes Try.prog Tb13 f := add_owes (E := fields_Set_Without_E) (Tab.env_ok tab_ok _ _ _ _) mixed Tb12_nat Tb12_owes (fn := Try.f22) (code := fields_Set_Without_c) Try.func22 (by kernel_rfl) (by kernel_rfl) fun l b r b' h => by
  obtain ⟨rfl, h⟩ := noBox_some h
  obtain ⟨x0, x1, h1, h2⟩ := own2 (E := fields_Set_Without_E) rfl h
  exact ⟨FUEL, (h2 _ _ _ _ _ _).trans ((fields_Set_Without_eq _ x0 x1 _).trans h1)⟩
noncomputable abbrev groatlaw05_awake_c : Code := Try.f8.body.getD .skip
def groatlaw05_awake_E : Env := tab.env (fun _ => []) (fun _ => []) [] []
theorem groatlaw05_awake_t (R : Type) (kk : Nat)  (K : List SV → Option Box → Option R) : evFn groatlaw05_awake_E (Tb13 R) kk Try.f8 groatlaw05_awake_c [] none K =
  groatlaw05_awake_s0 (fun a0 => K [.dat .bool a0 []] none) := by kernel_rfl
theorem groatlaw05_awake_eq (R : Type)  (K : List SV → Option Box → Option R) : evFn groatlaw05_awake_E (Tb13 R) FUEL Try.f8 groatlaw05_awake_c [] none K = (groatlaw05_awake).bind fun r => K [.dat .bool r []] none := by
  rw [groatlaw05_awake_t]
  simp only [groatlaw05_awake, groatlaw05_awake_s0_bind, cond_bind, within_bind, none_bind, some_bind, sum_bind, bind_bind, Sum.elim_inl, Sum.elim_inr]
def groatlaw05_awake_g : Pure := fun R l b K => noBox b (args0 l ((groatlaw05_awake).bind fun r => K [.dat .bool r []] none))
theorem groatlaw05_awake_n : groatlaw05_awake_g.Nat := fun R S l b F G K h => noBox_nat (args0_nat (bindr_nat fun _ => h _ _))
def Tb14 : Funs := Tb13.add 8 [] groatlaw05_awake_g
theorem Tb14_nat : Tb14.Nat := add_nat Tb13_nat groatlaw05_awake_n
theorem Tb14_owes : ∀ f, Owes Try.prog Tb14 f := add_owes (E := groatlaw05_awake_E) (Tab.env_ok tab_ok _ _ _ _) mixed Tb13_nat Tb13_owes (fn := Try.f8) (code := groatlaw05_awake_c) Try.func8 (by kernel_rfl) (by kernel_rfl) fun l b r b' h => by
  obtain ⟨rfl, h⟩ := noBox_some h
  obtain ⟨h1, h2⟩ := own0 (E := groatlaw05_awake_E) rfl h
  exact ⟨FUEL, (h2 _ _ _ _ _ _).trans ((groatlaw05_awake_eq _  _).trans h1)⟩
noncomputable abbrev groatref05_In_c : Code := Try.f25.body.getD .skip
def groatref05_In_E : Env := tab.env (fun i => bif Nat.beq i 2 then [0, 1, 5] else []) (fun i => bif Nat.beq i 2 then [4] else []) [] [(.sl 3 (.int .i64)), (.int .i64)]
def groatref05_In_h0 (l_0 : (List Int)) (n_1 : Int) (t5 : Int) : State := ⟨[[.dat (.sl 3 (.int .i64)) l_0 []], [.dat (.int .i64) n_1 []], [.undef], [.undef], [.undef], [.dat (.int .i64) t5 []], [.undef], [.undef], [.undef], [.undef], [.undef], [.undef], [.undef], [.undef], [.undef], [.undef], [.undef], [.undef]], [none, none, none, none, none, none, none, none, none, none, none, none, none, none, none, none, none, none, none]⟩
def groatref05_In_x0_0 (t4 : Bool) : State := ⟨[[.undef], [.undef], [.undef], [.undef], [.dat .bool t4 []], [.undef], [.undef], [.undef], [.undef], [.undef], [.undef], [.undef], [.undef], [.undef], [.undef], [.undef], [.undef], [.undef]], [none, none, none, none, none, none, none, none, none, none, none, none, none, none, none, none, none, none, none]⟩
def groatref05_In_x0_1  : State := ⟨[[.undef], [.undef], [.undef], [.undef], [.undef], [.undef], [.undef], [.undef], [.undef], [.undef], [.undef], [.undef], [.undef], [.undef], [.undef], [.undef], [.undef], [.undef]], [none, none, none, none, none, none, none, none, none, none, none, none, none, none, none, none, none, none, none]⟩
theorem groatref05_In_t (R : Type) (kk : Nat) (l_0 : (List Int)) (n_1 : Int) (K : List SV → Option Box → Option R) : evFn groatref05_In_E (Tb14 R) kk Try.f25 groatref05_In_c [.dat (.sl 3 (.int .i64)) l_0 [], .dat (.int .i64) n_1 []] none K =
  groatref05_In_s0 l_0 n_1 (fun a0 a1 a2 => loopR (ev groatref05_In_E (Tb14 R) kk (sub [1, 0, 1, 0, 0] groatref05_In_c)) [0, 1, 5] [4] kk (groatref05_In_h0 a0 a1 a2) (kBlock 0 (kSeq groatref05_In_E (Tb14 R) kk (sub [1, 1] groatref05_In_c) (kFin groatref05_In_E Try.f25.results.toList none K)))) := by kernel_rfl
theorem groatref05_In_d0 (R : Type) (kk k : Nat) (l_0 : (List Int)) (n_1 : Int) (t5 : Int) (K : Ex → State → Option R) : loopR (ev groatref05_In_E (Tb14 R) kk (sub [1, 0, 1, 0, 0] groatref05_In_c)) [0, 1, 5] [4] (k + 1) (groatref05_In_h0 l_0 n_1 t5) K =
  groatref05_In_s1 l_0 n_1 t5 (fun a0 => K .ret (groatref05_In_x0_0 a0)) (fun a0 a1 a2 => loopR (ev groatref05_In_E (Tb14 R) kk (sub [1, 0, 1, 0, 0] groatref05_In_c)) [0, 1, 5] [4] k (groatref05_In_h0 a0 a1 a2) K) (K (.exit 0) (groatref05_In_x0_1)) := by kernel_rfl
theorem groatref05_In_y0_0 (R : Type) (kk : Nat) (t4 : Bool) (K : List SV → Option Box → Option R) : (kBlock 0 (kSeq groatref05_In_E (Tb14 R) kk (sub [1, 1] groatref05_In_c) (kFin groatref05_In_E Try.f25.results.toList none K))) .ret (groatref05_In_x0_0 t4) =
  groatref05_In_s2 t4 (fun a0 => K [.dat .bool a0 []] none) := by kernel_rfl
theorem groatref05_In_y0_1 (R : Type) (kk : Nat)  (K : List SV → Option Box → Option R) : (kBlock 0 (kSeq groatref05_In_E (Tb14 R) kk (sub [1, 1] groatref05_In_c) (kFin groatref05_In_E Try.f25.results.toList none K))) (.exit 0) (groatref05_In_x0_1) =
  groatref05_In_s3 (fun a0 => K [.dat .bool a0 []] none) := by kernel_rfl
theorem groatref05_In_lp0 (R : Type) (k : Nat) (l_0 : (List Int)) (n_1 : Int) (t5 : Int) (K : Ex → State → Option R) : loopR (ev groatref05_In_E (Tb14 R) FUEL (sub [1, 0, 1, 0, 0] groatref05_In_c)) [0, 1, 5] [4] k (groatref05_In_h0 l_0 n_1 t5) K = (groatref05_In_l0 k l_0 n_1 t5).bind fun e => (Sum.elim (fun (we : Bool) => K .ret (groatref05_In_x0_0 we)) (fun (we : Unit) => K (.exit 0) (groatref05_In_x0_1)) e) := by
  induction k generalizing l_0 n_1 t5 with
  | zero => rfl
  | succ k ih =>
    rw [groatref05_In_d0]
    simp only [groatref05_In_l0, groatref05_In_s0_bind, groatref05_In_s1_bind, groatref05_In_s2_bind, groatref05_In_s3_bind, ih, cond_bind, within_bind, none_bind, some_bind, sum_bind, bind_bind, Sum.elim_inl, Sum.elim_inr]
theorem groatref05_In_eq (R : Type) (l_0 : (List Int)) (n_1 : Int) (K : List SV → Option Box → Option R) : evFn groatref05_In_E (Tb14 R) FUEL Try.f25 groatref05_In_c [.dat (.sl 3 (.int .i64)) l_0 [], .dat (.int .i64) n_1 []] none K = (groatref05_In l_0 n_1).bind fun r => K [.dat .bool r []] none := by
  rw [groatref05_In_t]
  simp only [groatref05_In, groatref05_In_s0_bind, groatref05_In_s1_bind, groatref05_In_s2_bind, groatref05_In_s3_bind, groatref05_In_lp0, groatref05_In_y0_0, groatref05_In_y0_1, cond_bind, within_bind, none_bind, some_bind, sum_bind, bind_bind, Sum.elim_inl, Sum.elim_inr]
def groatref05_In_g : Pure := fun R l b K => noBox b (args2 (.sl 3 (.int .i64)) (.int .i64) l (fun x0 x1 => (groatref05_In x0 x1).bind fun r => K [.dat .bool r []] none))
theorem groatref05_In_n : groatref05_In_g.Nat := fun R S l b F G K h => noBox_nat (args2_nat fun _ _ => bindr_nat fun _ => h _ _)
def Tb15 : Funs := Tb14.add 25 [(.sl 3 (.int .i64)), (.int .i64)] groatref05_In_g
theorem Tb15_nat : Tb15.Nat := add_nat Tb14_nat groatref05_In_n
theorem Tb15_owes : ∀ f, Owes Try.prog Tb15 f := add_owes (E := groatref05_In_E) (Tab.env_ok tab_ok _ _ _ _) mixed Tb14_nat Tb14_owes (fn := Try.f25) (code := groatref05_In_c) Try.func25 (by kernel_rfl) (by kernel_rfl) fun l b r b' h => by
  obtain ⟨rfl, h⟩ := noBox_some h
  obtain ⟨x0, x1, h1, h2⟩ := own2 (E := groatref05_In_E) rfl h
  exact ⟨FUEL, (h2 _ _ _ _ _ _).trans ((groatref05_In_eq _ x0 x1 _).trans h1)⟩
noncomputable abbrev groatref05_Halves_c : Code := Try.f11.body.getD .skip
def groatref05_Halves_E : Env := tab.env (fun i => bif Nat.beq i 4 then [0, 4, 5, 6] else []) (fun i => bif Nat.beq i 4 then [4, 5] else []) [] [(.sl 3 (.int .i64))]
def groatref05_Halves_h0 (l_0 : (List Int)) (t4 : Int) (t5 : Int) (t6 : Int) : State := ⟨[[.dat (.sl 3 (.int .i64)) l_0 []], [.undef], [.undef], [.undef], [.dat (.int .u64) t4 []], [.dat (.int .u64) t5 []], [.dat (.int .i64) t6 []], [.undef], [.undef], [.undef], [.undef], [.undef], [.undef], [.undef], [.undef], [.undef], [.undef], [.undef], [.undef], [.undef], [.undef], [.undef], [.undef], [.undef], [.undef], [.undef], [.undef], [.undef], [.undef]], [none, none, none, none, none, none, none, none, none, none, none, none, none, none, none, none, none, none, none, none, none, none, none, none, none, none, none, none, none, none]⟩
def groatref05_Halves_x0_0 (t4 : Int) (t5 : Int) : State := ⟨[[.undef], [.undef], [.undef], [.undef], [.dat (.int .u64) t4 []], [.dat (.int .u64) t5 []], [.undef], [.undef], [.undef], [.undef], [.undef], [.undef], [.undef], [.undef], [.undef], [.undef], [.undef], [.undef], [.undef], [.undef], [.undef], [.undef], [.undef], [.undef], [.undef], [.undef], [.undef], [.undef], [.undef]], [none, none, none, none, none, none, none, none, none, none, none, none, none, none, none, none, none, none, none, none, none, none, none, none, none, none, none, none, none, none]⟩
theorem groatref05_Halves_t (R : Type) (kk : Nat) (l_0 : (List Int)) (K : List SV → Option Box → Option R) : evFn groatref05_Halves_E (Tb15 R) kk Try.f11 groatref05_Halves_c [.dat (.sl 3 (.int .i64)) l_0 []] none K =
  groatref05_Halves_s0 l_0 (fun a0 a1 a2 a3 => loopR (ev groatref05_Halves_E (Tb15 R) kk (sub [1, 1, 1, 0, 1, 0, 0] groatref05_Halves_c)) [0, 4, 5, 6] [4, 5] kk (groatref05_Halves_h0 a0 a1 a2 a3) (kBlock 0 (kSeq groatref05_Halves_E (Tb15 R) kk (sub [1, 1, 1, 1] groatref05_Halves_c) (kFin groatref05_Halves_E Try.f11.results.toList none K)))) := by kernel_rfl
theorem groatref05_Halves_d0 (R : Type) (kk k : Nat) (l_0 : (List Int)) (t4 : Int) (t5 : Int) (t6 : Int) (K : Ex → State → Option R) : loopR (ev groatref05_Halves_E (Tb15 R) kk (sub [1, 1, 1, 0, 1, 0, 0] groatref05_Halves_c)) [0, 4, 5, 6] [4, 5] (k + 1) (groatref05_Halves_h0 l_0 t4 t5 t6) K =
  groatref05_Halves_s1 l_0 t4 t5 t6 (fun a0 a1 a2 a3 => loopR (ev groatref05_Halves_E (Tb15 R) kk (sub [1, 1, 1, 0, 1, 0, 0] groatref05_Halves_c)) [0, 4, 5, 6] [4, 5] k (groatref05_Halves_h0 a0 a1 a2 a3) K) (fun a0 a1 => K (.exit 0) (groatref05_Halves_x0_0 a0 a1)) := by kernel_rfl
theorem groatref05_Halves_y0_0 (R : Type) (kk : Nat) (t4 : Int) (t5 : Int) (K : List SV → Option Box → Option R) : (kBlock 0 (kSeq groatref05_Halves_E (Tb15 R) kk (sub [1, 1, 1, 1] groatref05_Halves_c) (kFin groatref05_Halves_E Try.f11.results.toList none K))) (.exit 0) (groatref05_Halves_x0_0 t4 t5) =
  groatref05_Halves_s2 t4 t5 (fun a0 a1 => K [.dat (.int .u64) a0 [], .dat (.int .u64) a1 []] none) := by kernel_rfl
theorem groatref05_Halves_lp0 (R : Type) (k : Nat) (l_0 : (List Int)) (t4 : Int) (t5 : Int) (t6 : Int) (K : Ex → State → Option R) : loopR (ev groatref05_Halves_E (Tb15 R) FUEL (sub [1, 1, 1, 0, 1, 0, 0] groatref05_Halves_c)) [0, 4, 5, 6] [4, 5] k (groatref05_Halves_h0 l_0 t4 t5 t6) K = (groatref05_Halves_l0 k l_0 t4 t5 t6).bind fun e => K (.exit 0) (groatref05_Halves_x0_0 e.1 e.2) := by
  induction k generalizing l_0 t4 t5 t6 with
  | zero => rfl
  | succ k ih =>
    rw [groatref05_Halves_d0]
    simp only [groatref05_Halves_l0, groatref05_Halves_s0_bind, groatref05_Halves_s1_bind, groatref05_Halves_s2_bind, ih, cond_bind, within_bind, none_bind, some_bind, sum_bind, bind_bind, Sum.elim_inl, Sum.elim_inr]
theorem groatref05_Halves_eq (R : Type) (l_0 : (List Int)) (K : List SV → Option Box → Option R) : evFn groatref05_Halves_E (Tb15 R) FUEL Try.f11 groatref05_Halves_c [.dat (.sl 3 (.int .i64)) l_0 []] none K = (groatref05_Halves l_0).bind fun r => K [.dat (.int .u64) r.1 [], .dat (.int .u64) r.2 []] none := by
  rw [groatref05_Halves_t]
  simp only [groatref05_Halves, groatref05_Halves_s0_bind, groatref05_Halves_s1_bind, groatref05_Halves_s2_bind, groatref05_Halves_lp0, groatref05_Halves_y0_0, cond_bind, within_bind, none_bind, some_bind, sum_bind, bind_bind, Sum.elim_inl, Sum.elim_inr]
def groatref05_Halves_g : Pure := fun R l b K => noBox b (args1 (.sl 3 (.int .i64)) l (fun x0 => (groatref05_Halves x0).bind fun r => K [.dat (.int .u64) r.1 [], .dat (.int .u64) r.2 []] none))
theorem groatref05_Halves_n : groatref05_Halves_g.Nat := fun R S l b F G K h => noBox_nat (args1_nat fun _ => bindr_nat fun _ => h _ _)
def Tb16 : Funs := Tb15.add 11 [(.sl 3 (.int .i64))] groatref05_Halves_g
theorem Tb16_nat : Tb16.Nat := add_nat Tb15_nat groatref05_Halves_n
theorem Tb16_owes : ∀ f, Owes Try.prog Tb16 f := add_owes (E := groatref05_Halves_E) (Tab.env_ok tab_ok _ _ _ _) mixed Tb15_nat Tb15_owes (fn := Try.f11) (code := groatref05_Halves_c) Try.func11 (by kernel_rfl) (by kernel_rfl) fun l b r b' h => by
  obtain ⟨rfl, h⟩ := noBox_some h
  obtain ⟨x0, h1, h2⟩ := own1 (E := groatref05_Halves_E) rfl h
  exact ⟨FUEL, (h2 _ _ _ _ _ _).trans ((groatref05_Halves_eq _ x0 _).trans h1)⟩
noncomputable abbrev groatlaw05_FieldsOf_c : Code := Try.f3.body.getD .skip
def groatlaw05_FieldsOf_E : Env := tab.env (fun _ => []) (fun _ => []) [] [(.sl 3 (.int .i64))]
theorem groatlaw05_FieldsOf_t (R : Type) (kk : Nat) (l_0 : (List Int)) (K : List SV → Option Box → Option R) : evFn groatlaw05_FieldsOf_E (Tb16 R) kk Try.f3 groatlaw05_FieldsOf_c [.dat (.sl 3 (.int .i64)) l_0 []] none K =
  groatlaw05_FieldsOf_s0 l_0 (fun a0 => K [.dat .bool a0 []] none) := by kernel_rfl
theorem groatlaw05_FieldsOf_eq (R : Type) (l_0 : (List Int)) (K : List SV → Option Box → Option R) : evFn groatlaw05_FieldsOf_E (Tb16 R) FUEL Try.f3 groatlaw05_FieldsOf_c [.dat (.sl 3 (.int .i64)) l_0 []] none K = (groatlaw05_FieldsOf l_0).bind fun r => K [.dat .bool r []] none := by
  rw [groatlaw05_FieldsOf_t]
  simp only [groatlaw05_FieldsOf, groatlaw05_FieldsOf_s0_bind, cond_bind, within_bind, none_bind, some_bind, sum_bind, bind_bind, Sum.elim_inl, Sum.elim_inr]
def groatlaw05_FieldsOf_g : Pure := fun R l b K => noBox b (args1 (.sl 3 (.int .i64)) l (fun x0 => (groatlaw05_FieldsOf x0).bind fun r => K [.dat .bool r []] none))
theorem groatlaw05_FieldsOf_n : groatlaw05_FieldsOf_g.Nat := fun R S l b F G K h => noBox_nat (args1_nat fun _ => bindr_nat fun _ => h _ _)
def Tb17 : Funs := Tb16.add 3 [(.sl 3 (.int .i64))] groatlaw05_FieldsOf_g
theorem Tb17_nat : Tb17.Nat := add_nat Tb16_nat groatlaw05_FieldsOf_n
theorem Tb17_owes : ∀ f, Owes Try.prog Tb17 f := add_owes (E := groatlaw05_FieldsOf_E) (Tab.env_ok tab_ok _ _ _ _) mixed Tb16_nat Tb16_owes (fn := Try.f3) (code := groatlaw05_FieldsOf_c) Try.func3 (by kernel_rfl) (by kernel_rfl) fun l b r b' h => by
  obtain ⟨rfl, h⟩ := noBox_some h
  obtain ⟨x0, h1, h2⟩ := own1 (E := groatlaw05_FieldsOf_E) rfl h
  exact ⟨FUEL, (h2 _ _ _ _ _ _).trans ((groatlaw05_FieldsOf_eq _ x0 _).trans h1)⟩
noncomputable abbrev fields_Bits_c : Code := Try.f13.body.getD .skip
def fields_Bits_E : Env := tab.env (fun _ => []) (fun _ => []) [4] [(.int .u64), (.int .u64)]
theorem fields_Bits_t (R : Type) (kk : Nat) (high_0 : Int) (low_1 : Int) (K : List SV → Option Box → Option R) : evFn fields_Bits_E (Tb17 R) kk Try.f13 fields_Bits_c [.dat (.int .u64) high_0 [], .dat (.int .u64) low_1 []] none K =
  fields_Bits_s0 high_0 low_1 (fun a0 => K [.dat (.pair (.int .u64) (.pair (.int .u64) .unit)) a0 []] none) := by kernel_rfl
theorem fields_Bits_eq (R : Type) (high_0 : Int) (low_1 : Int) (K : List SV → Option Box → Option R) : evFn fields_Bits_E (Tb17 R) FUEL Try.f13 fields_Bits_c [.dat (.int .u64) high_0 [], .dat (.int .u64) low_1 []] none K = (fields_Bits high_0 low_1).bind fun r => K [.dat (.pair (.int .u64) (.pair (.int .u64) .unit)) r []] none := by
  rw [fields_Bits_t]
  simp only [fields_Bits, fields_Bits_s0_bind, cond_bind, within_bind, none_bind, some_bind, sum_bind, bind_bind, Sum.elim_inl, Sum.elim_inr]
def fields_Bits_g : Pure := fun R l b K => noBox b (args2 (.int .u64) (.int .u64) l (fun x0 x1 => (fields_Bits x0 x1).bind fun r => K [.dat (.pair (.int .u64) (.pair (.int .u64) .unit)) r []] none))
theorem fields_Bits_n : fields_Bits_g.Nat := fun R S l b F G K h => noBox_nat (args2_nat fun _ _ => bindr_nat fun _ => h _ _)
def Tb18 : Funs := Tb17.add 13 [(.int .u64), (.int .u64)] fields_Bits_g
theorem Tb18_nat : Tb18.Nat := add_nat Tb17_nat fields_Bits_n
theorem Tb18_owes : ∀ f, Owes Try.prog Tb18 f := add_owes (E := fields_Bits_E) (Tab.env_ok tab_ok _ _ _ _) mixed Tb17_nat Tb17_owes (fn := Try.f13) (code := fields_Bits_c) Try.func13 (by kernel_rfl) (by kernel_rfl) fun l b r b' h => by
  obtain ⟨rfl, h⟩ := noBox_some h
  obtain ⟨x0, x1, h1, h2⟩ := own2 (E := fields_Bits_E) rfl h
  exact ⟨FUEL, (h2 _ _ _ _ _ _).trans ((fields_Bits_eq _ x0 x1 _).trans h1)⟩
noncomputable abbrev groatref05_Has_c : Code := Try.f17.body.getD .skip
def groatref05_Has_E : Env := tab.env (fun i => bif Nat.beq i 9 then [7, 8, 9] else []) (fun i => bif Nat.beq i 9 then [7] else []) [] [(.int .u64), (.int .u64), (.int .i64)]
def groatref05_Has_h0 (t7 : Int) (t8 : Int) (t9 : Int) : State := ⟨[[.undef], [.undef], [.undef], [.undef], [.undef], [.undef], [.undef], [.dat (.int .u64) t7 []], [.dat (.int .i64) t8 []], [.dat (.int .i64) t9 []], [.undef], [.undef], [.undef], [.undef], [.undef], [.undef], [.undef], [.undef], [.undef], [.undef], [.undef], [.undef], [.undef], [.undef], [.undef], [.undef], [.undef], [.undef], [.undef], [.undef], [.undef], [.undef], [.undef], [.undef]], [none, none, none, none, none, none, none, none, none, none, none, none, none, none, none, none, none, none, none, none, none, none, none, none, none, none, none, none, none, none, none, none, none, none, none]⟩
def groatref05_Has_x0_0 (t7 : Int) : State := ⟨[[.undef], [.undef], [.undef], [.undef], [.undef], [.undef], [.undef], [.dat (.int .u64) t7 []], [.undef], [.undef], [.undef], [.undef], [.undef], [.undef], [.undef], [.undef], [.undef], [.undef], [.undef], [.undef], [.undef], [.undef], [.undef], [.undef], [.undef], [.undef], [.undef], [.undef], [.undef], [.undef], [.undef], [.undef], [.undef], [.undef]], [none, none, none, none, none, none, none, none, none, none, none, none, none, none, none, none, none, none, none, none, none, none, none, none, none, none, none, none, none, none, none, none, none, none, none]⟩
theorem groatref05_Has_t (R : Type) (kk : Nat) (high_0 : Int) (low_1 : Int) (n_2 : Int) (K : List SV → Option Box → Option R) : evFn groatref05_Has_E (Tb18 R) kk Try.f17 groatref05_Has_c [.dat (.int .u64) high_0 [], .dat (.int .u64) low_1 [], .dat (.int .i64) n_2 []] none K =
  groatref05_Has_s0 high_0 low_1 n_2 (fun a0 => K [.dat .bool a0 []] none) (fun a0 a1 a2 => loopR (ev groatref05_Has_E (Tb18 R) kk (sub [1, 1, 1, 1, 1, 0, 1, 0, 0] groatref05_Has_c)) [7, 8, 9] [7] kk (groatref05_Has_h0 a0 a1 a2) (kBlock 0 (kSeq groatref05_Has_E (Tb18 R) kk (sub [1, 1, 1, 1, 1, 1] groatref05_Has_c) (kFin groatref05_Has_E Try.f17.results.toList none K)))) := by kernel_rfl
theorem groatref05_Has_d0 (R : Type) (kk k : Nat) (t7 : Int) (t8 : Int) (t9 : Int) (K : Ex → State → Option R) : loopR (ev groatref05_Has_E (Tb18 R) kk (sub [1, 1, 1, 1, 1, 0, 1, 0, 0] groatref05_Has_c)) [7, 8, 9] [7] (k + 1) (groatref05_Has_h0 t7 t8 t9) K =
  groatref05_Has_s1 t7 t8 t9 (fun a0 a1 a2 => loopR (ev groatref05_Has_E (Tb18 R) kk (sub [1, 1, 1, 1, 1, 0, 1, 0, 0] groatref05_Has_c)) [7, 8, 9] [7] k (groatref05_Has_h0 a0 a1 a2) K) (fun a0 => K (.exit 0) (groatref05_Has_x0_0 a0)) := by kernel_rfl
theorem groatref05_Has_y0_0 (R : Type) (kk : Nat) (t7 : Int) (K : List SV → Option Box → Option R) : (kBlock 0 (kSeq groatref05_Has_E (Tb18 R) kk (sub [1, 1, 1, 1, 1, 1] groatref05_Has_c) (kFin groatref05_Has_E Try.f17.results.toList none K))) (.exit 0) (groatref05_Has_x0_0 t7) =
  groatref05_Has_s2 t7 (fun a0 => K [.dat .bool a0 []] none) := by kernel_rfl
theorem groatref05_Has_lp0 (R : Type) (k : Nat) (t7 : Int) (t8 : Int) (t9 : Int) (K : Ex → State → Option R) : loopR (ev groatref05_Has_E (Tb18 R) FUEL (sub [1, 1, 1, 1, 1, 0, 1, 0, 0] groatref05_Has_c)) [7, 8, 9] [7] k (groatref05_Has_h0 t7 t8 t9) K = (groatref05_Has_l0 k t7 t8 t9).bind fun e => K (.exit 0) (groatref05_Has_x0_0 e) := by
  induction k generalizing t7 t8 t9 with
  | zero => rfl
  | succ k ih =>
    rw [groatref05_Has_d0]
    simp only [groatref05_Has_l0, groatref05_Has_s0_bind, groatref05_Has_s1_bind, groatref05_Has_s2_bind, ih, cond_bind, within_bind, none_bind, some_bind, sum_bind, bind_bind, Sum.elim_inl, Sum.elim_inr]
theorem groatref05_Has_eq (R : Type) (high_0 : Int) (low_1 : Int) (n_2 : Int) (K : List SV → Option Box → Option R) : evFn groatref05_Has_E (Tb18 R) FUEL Try.f17 groatref05_Has_c [.dat (.int .u64) high_0 [], .dat (.int .u64) low_1 [], .dat (.int .i64) n_2 []] none K = (groatref05_Has high_0 low_1 n_2).bind fun r => K [.dat .bool r []] none := by
  rw [groatref05_Has_t]
  simp only [groatref05_Has, groatref05_Has_s0_bind, groatref05_Has_s1_bind, groatref05_Has_s2_bind, groatref05_Has_lp0, groatref05_Has_y0_0, cond_bind, within_bind, none_bind, some_bind, sum_bind, bind_bind, Sum.elim_inl, Sum.elim_inr]
def groatref05_Has_g : Pure := fun R l b K => noBox b (args3 (.int .u64) (.int .u64) (.int .i64) l (fun x0 x1 x2 => (groatref05_Has x0 x1 x2).bind fun r => K [.dat .bool r []] none))
theorem groatref05_Has_n : groatref05_Has_g.Nat := fun R S l b F G K h => noBox_nat (args3_nat fun _ _ _ => bindr_nat fun _ => h _ _)
def Tb19 : Funs := Tb18.add 17 [(.int .u64), (.int .u64), (.int .i64)] groatref05_Has_g
theorem Tb19_nat : Tb19.Nat := add_nat Tb18_nat groatref05_Has_n
theorem Tb19_owes : ∀ f, Owes Try.prog Tb19 f := add_owes (E := groatref05_Has_E) (Tab.env_ok tab_ok _ _ _ _) mixed Tb18_nat Tb18_owes (fn := Try.f17) (code := groatref05_Has_c) Try.func17 (by kernel_rfl) (by kernel_rfl) fun l b r b' h => by
  obtain ⟨rfl, h⟩ := noBox_some h
  obtain ⟨x0, x1, x2, h1, h2⟩ := own3 (E := groatref05_Has_E) rfl h
  exact ⟨FUEL, (h2 _ _ _ _ _ _).trans ((groatref05_Has_eq _ x0 x1 x2 _).trans h1)⟩
noncomputable abbrev groatref05_List_c : Code := Try.f14.body.getD .skip
def groatref05_List_E : Env := tab.env (fun i => bif Nat.beq i 3 then [0, 1, 5, 6] else []) (fun i => bif Nat.beq i 3 then [5] else []) [] [(.int .u64), (.int .u64)]
def groatref05_List_h0 (high_0 : Int) (low_1 : Int) (t5 : (List Int)) (t6 : Int) : State := ⟨[[.dat (.int .u64) high_0 []], [.dat (.int .u64) low_1 []], [.undef], [.undef], [.undef], [.dat (.sl 3 (.int .i64)) t5 [[]]], [.dat (.int .i64) t6 []], [.undef], [.undef], [.undef], [.undef], [.undef], [.undef], [.undef], [.undef], [.undef], [.undef], [.undef], [.undef], [.undef], [.undef]], [none, none, none, none, none, none, none, none, none, none, none, none, none, none, none, none, none, none, none, none, none, none]⟩
def groatref05_List_x0_0 (t5 : (List Int)) : State := ⟨[[.undef], [.undef], [.undef], [.undef], [.undef], [.dat (.sl 3 (.int .i64)) t5 [[]]], [.undef], [.undef], [.undef], [.undef], [.undef], [.undef], [.undef], [.undef], [.undef], [.undef], [.undef], [.undef], [.undef], [.undef], [.undef]], [none, none, none, none, none, none, none, none, none, none, none, none, none, none, none, none, none, none, none, none, none, none]⟩
theorem groatref05_List_t (R : Type) (kk : Nat) (high_0 : Int) (low_1 : Int) (K : List SV → Option Box → Option R) : evFn groatref05_List_E (Tb19 R) kk Try.f14 groatref05_List_c [.dat (.int .u64) high_0 [], .dat (.int .u64) low_1 []] none K =
  groatref05_List_s0 high_0 low_1 (fun a0 a1 a2 a3 => loopR (ev groatref05_List_E (Tb19 R) kk (sub [1, 1, 0, 1, 0, 0] groatref05_List_c)) [0, 1, 5, 6] [5] kk (groatref05_List_h0 a0 a1 a2 a3) (kBlock 0 (kSeq groatref05_List_E (Tb19 R) kk (sub [1, 1, 1] groatref05_List_c) (kFin groatref05_List_E Try.f14.results.toList none K)))) := by kernel_rfl
theorem groatref05_List_d0 (R : Type) (kk k : Nat) (high_0 : Int) (low_1 : Int) (t5 : (List Int)) (t6 : Int) (K : Ex → State → Option R) : loopR (ev groatref05_List_E (Tb19 R) kk (sub [1, 1, 0, 1, 0, 0] groatref05_List_c)) [0, 1, 5, 6] [5] (k + 1) (groatref05_List_h0 high_0 low_1 t5 t6) K =
  groatref05_List_s1 high_0 low_1 t5 t6 (fun a0 a1 a2 a3 => loopR (ev groatref05_List_E (Tb19 R) kk (sub [1, 1, 0, 1, 0, 0] groatref05_List_c)) [0, 1, 5, 6] [5] k (groatref05_List_h0 a0 a1 a2 a3) K) (fun a0 => K (.exit 0) (groatref05_List_x0_0 a0)) := by kernel_rfl
theorem groatref05_List_y0_0 (R : Type) (kk : Nat) (t5 : (List Int)) (K : List SV → Option Box → Option R) : (kBlock 0 (kSeq groatref05_List_E (Tb19 R) kk (sub [1, 1, 1] groatref05_List_c) (kFin groatref05_List_E Try.f14.results.toList none K))) (.exit 0) (groatref05_List_x0_0 t5) =
  groatref05_List_s2 t5 (fun a0 => K [.dat (.sl 3 (.int .i64)) a0 []] none) := by kernel_rfl
theorem groatref05_List_lp0 (R : Type) (k : Nat) (high_0 : Int) (low_1 : Int) (t5 : (List Int)) (t6 : Int) (K : Ex → State → Option R) : loopR (ev groatref05_List_E (Tb19 R) FUEL (sub [1, 1, 0, 1, 0, 0] groatref05_List_c)) [0, 1, 5, 6] [5] k (groatref05_List_h0 high_0 low_1 t5 t6) K = (groatref05_List_l0 k high_0 low_1 t5 t6).bind fun e => K (.exit 0) (groatref05_List_x0_0 e) := by
  induction k generalizing high_0 low_1 t5 t6 with
  | zero => rfl
  | succ k ih =>
    rw [groatref05_List_d0]
    simp only [groatref05_List_l0, groatref05_List_s0_bind, groatref05_List_s1_bind, groatref05_List_s2_bind, ih, cond_bind, within_bind, none_bind, some_bind, sum_bind, bind_bind, Sum.elim_inl, Sum.elim_inr]
theorem groatref05_List_eq (R : Type) (high_0 : Int) (low_1 : Int) (K : List SV → Option Box → Option R) : evFn groatref05_List_E (Tb19 R) FUEL Try.f14 groatref05_List_c [.dat (.int .u64) high_0 [], .dat (.int .u64) low_1 []] none K = (groatref05_List high_0 low_1).bind fun r => K [.dat (.sl 3 (.int .i64)) r []] none := by
  rw [groatref05_List_t]
  simp only [groatref05_List, groatref05_List_s0_bind, groatref05_List_s1_bind, groatref05_List_s2_bind, groatref05_List_lp0, groatref05_List_y0_0, cond_bind, within_bind, none_bind, some_bind, sum_bind, bind_bind, Sum.elim_inl, Sum.elim_inr]
def groatref05_List_g : Pure := fun R l b K => noBox b (args2 (.int .u64) (.int .u64) l (fun x0 x1 => (groatref05_List x0 x1).bind fun r => K [.dat (.sl 3 (.int .i64)) r []] none))
theorem groatref05_List_n : groatref05_List_g.Nat := fun R S l b F G K h => noBox_nat (args2_nat fun _ _ => bindr_nat fun _ => h _ _)
def Tb20 : Funs := Tb19.add 14 [(.int .u64), (.int .u64)] groatref05_List_g
theorem Tb20_nat : Tb20.Nat := add_nat Tb19_nat groatref05_List_n
theorem Tb20_owes : ∀ f, Owes Try.prog Tb20 f := add_owes (E := groatref05_List_E) (Tab.env_ok tab_ok _ _ _ _) mixed Tb19_nat Tb19_owes (fn := Try.f14) (code := groatref05_List_c) Try.func14 (by kernel_rfl) (by kernel_rfl) fun l b r b' h => by
  obtain ⟨rfl, h⟩ := noBox_some h
  obtain ⟨x0, x1, h1, h2⟩ := own2 (E := groatref05_List_E) rfl h
  exact ⟨FUEL, (h2 _ _ _ _ _ _).trans ((groatref05_List_eq _ x0 x1 _).trans h1)⟩
noncomputable abbrev groatlaw05_list_c : Code := Try.f15.body.getD .skip
def groatlaw05_list_E : Env := tab.env (fun i => bif Nat.beq i 3 then [1, 4, 5] else []) (fun i => bif Nat.beq i 3 then [2, 3, 4] else []) [] [(.pair (.int .u64) (.pair (.int .u64) .unit))]
def groatlaw05_list_h0 (t4 : (List Int)) (t5 : Int) (bt1 : (Int × Int × Unit)) : State := ⟨[[.undef], [.ptr 2 (.pair (.int .u64) (.pair (.int .u64) .unit)) []], [.undef], [.undef], [.dat (.sl 3 (.int .i64)) t4 [[]]], [.dat (.int .i64) t5 []], [.undef], [.undef], [.undef], [.undef], [.undef], [.undef], [.undef], [.undef], [.undef], [.undef], [.undef], [.undef], [.undef], [.undef], [.undef], [.undef], [.undef], [.undef], [.undef], [.undef], [.undef], [.undef], [.undef], [.undef], [.undef], [.undef], [.undef], [.undef], [.undef], [.undef], [.undef], [.undef], [.undef], [.undef]], [none, none, some ⟨(.pair (.int .u64) (.pair (.int .u64) .unit)), bt1, []⟩, none, none, none, none, none, none, none, none, none, none, none, none, none, none, none, none, none, none, none, none, none, none, none, none, none, none, none, none, none, none, none, none, none, none, none, none, none, none]⟩
def groatlaw05_list_x0_0 (t2 : (List Int)) (t3 : Bool) (t4 : (List Int)) : State := ⟨[[.undef], [.undef], [.dat (.sl 3 (.int .i64)) t2 [[]]], [.dat .bool t3 []], [.dat (.sl 3 (.int .i64)) t4 [[]]], [.undef], [.undef], [.undef], [.undef], [.undef], [.undef], [.undef], [.undef], [.undef], [.undef], [.undef], [.undef], [.undef], [.undef], [.undef], [.undef], [.undef], [.undef], [.undef], [.undef], [.undef], [.undef], [.undef], [.undef], [.undef], [.undef], [.undef], [.undef], [.undef], [.undef], [.undef], [.undef], [.undef], [.undef], [.undef]], [none, none, none, none, none, none, none, none, none, none, none, none, none, none, none, none, none, none, none, none, none, none, none, none, none, none, none, none, none, none, none, none, none, none, none, none, none, none, none, none, none]⟩
def groatlaw05_list_x0_1 (t4 : (List Int)) : State := ⟨[[.undef], [.undef], [.undef], [.undef], [.dat (.sl 3 (.int .i64)) t4 [[]]], [.undef], [.undef], [.undef], [.undef], [.undef], [.undef], [.undef], [.undef], [.undef], [.undef], [.undef], [.undef], [.undef], [.undef], [.undef], [.undef], [.undef], [.undef], [.undef], [.undef], [.undef], [.undef], [.undef], [.undef], [.undef], [.undef], [.undef], [.undef], [.undef], [.undef], [.undef], [.undef], [.undef], [.undef], [.undef]], [none, none, none, none, none, none, none, none, none, none, none, none, none, none, none, none, none, none, none, none, none, none, none, none, none, none, none, none, none, none, none, none, none, none, none, none, none, none, none, none, none]⟩
theorem groatlaw05_list_t (R : Type) (kk : Nat) (s_0 : (Int × Int × Unit)) (K : List SV → Option Box → Option R) : evFn groatlaw05_list_E (Tb20 R) kk Try.f15 groatlaw05_list_c [.dat (.pair (.int .u64) (.pair (.int .u64) .unit)) s_0 []] none K =
  groatlaw05_list_s0 s_0 (fun a0 a1 a2 => loopR (ev groatlaw05_list_E (Tb20 R) kk (sub [1, 1, 0, 1, 0, 0] groatlaw05_list_c)) [1, 4, 5] [2, 3, 4] kk (groatlaw05_list_h0 a0 a1 a2) (kBlock 0 (kSeq groatlaw05_list_E (Tb20 R) kk (sub [1, 1, 1] groatlaw05_list_c) (kFin groatlaw05_list_E Try.f15.results.toList none K)))) := by kernel_rfl
theorem groatlaw05_list_d0 (R : Type) (kk k : Nat) (t4 : (List Int)) (t5 : Int) (bt1 : (Int × Int × Unit)) (K : Ex → State → Option R) : loopR (ev groatlaw05_list_E (Tb20 R) kk (sub [1, 1, 0, 1, 0, 0] groatlaw05_list_c)) [1, 4, 5] [2, 3, 4] (k + 1) (groatlaw05_list_h0 t4 t5 bt1) K =
  groatlaw05_list_s1 t4 t5 bt1 (fun a0 a1 a2 => K .ret (groatlaw05_list_x0_0 a0 a1 a2)) (fun a0 a1 a2 => loopR (ev groatlaw05_list_E (Tb20 R) kk (sub [1, 1, 0, 1, 0, 0] groatlaw05_list_c)) [1, 4, 5] [2, 3, 4] k (groatlaw05_list_h0 a0 a1 a2) K) (fun a0 => K (.exit 0) (groatlaw05_list_x0_1 a0)) := by kernel_rfl
theorem groatlaw05_list_y0_0 (R : Type) (kk : Nat) (t2 : (List Int)) (t3 : Bool) (t4 : (List Int)) (K : List SV → Option Box → Option R) : (kBlock 0 (kSeq groatlaw05_list_E (Tb20 R) kk (sub [1, 1, 1] groatlaw05_list_c) (kFin groatlaw05_list_E Try.f15.results.toList none K))) .ret (groatlaw05_list_x0_0 t2 t3 t4) =
  groatlaw05_list_s2 t2 t3 t4 (fun a0 a1 => K [.dat (.sl 3 (.int .i64)) a0 [[]], .dat .bool a1 []] none) := by kernel_rfl
theorem groatlaw05_list_y0_1 (R : Type) (kk : Nat) (t4 : (List Int)) (K : List SV → Option Box → Option R) : (kBlock 0 (kSeq groatlaw05_list_E (Tb20 R) kk (sub [1, 1, 1] groatlaw05_list_c) (kFin groatlaw05_list_E Try.f15.results.toList none K))) (.exit 0) (groatlaw05_list_x0_1 t4) =
  groatlaw05_list_s3 t4 (fun a0 a1 => K [.dat (.sl 3 (.int .i64)) a0 [], .dat .bool a1 []] none) := by kernel_rfl
theorem groatlaw05_list_lp0 (R : Type) (k : Nat) (t4 : (List Int)) (t5 : Int) (bt1 : (Int × Int × Unit)) (K : Ex → State → Option R) : loopR (ev groatlaw05_list_E (Tb20 R) FUEL (sub [1, 1, 0, 1, 0, 0] groatlaw05_list_c)) [1, 4, 5] [2, 3, 4] k (groatlaw05_list_h0 t4 t5 bt1) K = (groatlaw05_list_l0 k t4 t5 bt1).bind fun e => (Sum.elim (fun (we : ((List Int) × Bool × (List Int))) => K .ret (groatlaw05_list_x0_0 we.1 we.2.1 we.2.2)) (fun (we : (List Int)) => K (.exit 0) (groatlaw05_list_x0_1 we)) e) := by
  induction k generalizing t4 t5 bt1 with
  | zero => rfl
  | succ k ih =>
    rw [groatlaw05_list_d0]
    simp only [groatlaw05_list_l0, groatlaw05_list_s0_bind, groatlaw05_list_s1_bind, groatlaw05_list_s2_bind, groatlaw05_list_s3_bind, ih, cond_bind, within_bind, none_bind, some_bind, sum_bind, bind_bind, Sum.elim_inl, Sum.elim_inr]
theorem groatlaw05_list_eq (R : Type) (s_0 : (Int × Int × Unit)) (K : List SV → Option Box → Option R) : evFn groatlaw05_list_E (Tb20 R) FUEL Try.f15 groatlaw05_list_c [.dat (.pair (.int .u64) (.pair (.int .u64) .unit)) s_0 []] none K = (groatlaw05_list s_0).bind fun r => (Sum.elim (fun (wr : ((List Int) × Bool)) => K [.dat (.sl 3 (.int .i64)) wr.1 [[]], .dat .bool wr.2 []] none) (fun (wr : ((List Int) × Bool)) => K [.dat (.sl 3 (.int .i64)) wr.1 [], .dat .bool wr.2 []] none) r) := by
  rw [groatlaw05_list_t]
  simp only [groatlaw05_list, groatlaw05_list_s0_bind, groatlaw05_list_s1_bind, groatlaw05_list_s2_bind, groatlaw05_list_s3_bind, groatlaw05_list_lp0, groatlaw05_list_y0_0, groatlaw05_list_y0_1, cond_bind, within_bind, none_bind, some_bind, sum_bind, bind_bind, Sum.elim_inl, Sum.elim_inr]
def groatlaw05_list_g : Pure := fun R l b K => noBox b (args1 (.pair (.int .u64) (.pair (.int .u64) .unit)) l (fun x0 => (groatlaw05_list x0).bind fun r => (Sum.elim (fun (wr : ((List Int) × Bool)) => K [.dat (.sl 3 (.int .i64)) wr.1 [[]], .dat .bool wr.2 []] none) (fun (wr : ((List Int) × Bool)) => K [.dat (.sl 3 (.int .i64)) wr.1 [], .dat .bool wr.2 []] none) r)))
theorem groatlaw05_list_n : groatlaw05_list_g.Nat := fun R S l b F G K h => noBox_nat (args1_nat fun _ => bindr_nat fun _ => sum_nat (fun _ => h _ _) (fun _ => h _ _))
def Tb21 : Funs := Tb20.add 15 [(.pair (.int .u64) (.pair (.int .u64) .unit))] groatlaw05_list_g
theorem Tb21_nat : Tb21.Nat := add_nat Tb20_nat groatlaw05_list_n
theorem Tb21_owes : ∀ f, Owes Try.prog Tb21 f := add_owes (E := groatlaw05_list_E) (Tab.env_ok tab_ok _ _ _ _) mixed Tb20_nat Tb20_owes (fn := Try.f15) (code := groatlaw05_list_c) Try.func15 (by kernel_rfl) (by kernel_rfl) fun l b r b' h => by
  obtain ⟨rfl, h⟩ := noBox_some h
  obtain ⟨x0, h1, h2⟩ := own1 (E := groatlaw05_list_E) rfl h
  exact ⟨FUEL, (h2 _ _ _ _ _ _).trans ((groatlaw05_list_eq _ x0 _).trans h1)⟩
noncomputable abbrev groatref05_Next_c : Code := Try.f20.body.getD .skip
def groatref05_Next_E : Env := tab.env (fun i => bif Nat.beq i 2 then [0, 1, 2, 7] else []) (fun i => bif Nat.beq i 2 then [6] else []) [] [(.int .u64), (.int .u64), (.int .i64)]
def groatref05_Next_h0 (high_0 : Int) (low_1 : Int) (n_2 : Int) (t7 : Int) : State := ⟨[[.dat (.int .u64) high_0 []], [.dat (.int .u64) low_1 []], [.dat (.int .i64) n_2 []], [.undef], [.undef], [.undef], [.undef], [.dat (.int .i64) t7 []], [.undef], [.undef], [.undef], [.undef], [.undef], [.undef], [.undef], [.undef], [.undef], [.undef], [.undef], [.undef], [.undef], [.undef]], [none, none, none, none, none, none, none, none, none, none, none, none, none, none, none, none, none, none, none, none, none, none, none]⟩
def groatref05_Next_x0_0 (t6 : Int) : State := ⟨[[.undef], [.undef], [.undef], [.undef], [.undef], [.undef], [.dat (.int .i64) t6 []], [.undef], [.undef], [.undef], [.undef], [.undef], [.undef], [.undef], [.undef], [.undef], [.undef], [.undef], [.undef], [.undef], [.undef], [.undef]], [none, none, none, none, none, none, none, none, none, none, none, none, none, none, none, none, none, none, none, none, none, none, none]⟩
def groatref05_Next_x0_1  : State := ⟨[[.undef], [.undef], [.undef], [.undef], [.undef], [.undef], [.undef], [.undef], [.undef], [.undef], [.undef], [.undef], [.undef], [.undef], [.undef], [.undef], [.undef], [.undef], [.undef], [.undef], [.undef], [.undef]], [none, none, none, none, none, none, none, none, none, none, none, none, none, none, none, none, none, none, none, none, none, none, none]⟩
theorem groatref05_Next_t (R : Type) (kk : Nat) (high_0 : Int) (low_1 : Int) (n_2 : Int) (K : List SV → Option Box → Option R) : evFn groatref05_Next_E (Tb21 R) kk Try.f20 groatref05_Next_c [.dat (.int .u64) high_0 [], .dat (.int .u64) low_1 [], .dat (.int .i64) n_2 []] none K =
  groatref05_Next_s0 high_0 low_1 n_2 (fun a0 a1 a2 a3 => loopR (ev groatref05_Next_E (Tb21 R) kk (sub [1, 0, 1, 0, 0] groatref05_Next_c)) [0, 1, 2, 7] [6] kk (groatref05_Next_h0 a0 a1 a2 a3) (kBlock 0 (kSeq groatref05_Next_E (Tb21 R) kk (sub [1, 1] groatref05_Next_c) (kFin groatref05_Next_E Try.f20.results.toList none K)))) := by kernel_rfl
theorem groatref05_Next_d0 (R : Type) (kk k : Nat) (high_0 : Int) (low_1 : Int) (n_2 : Int) (t7 : Int) (K : Ex → State → Option R) : loopR (ev groatref05_Next_E (Tb21 R) kk (sub [1, 0, 1, 0, 0] groatref05_Next_c)) [0, 1, 2, 7] [6] (k + 1) (groatref05_Next_h0 high_0 low_1 n_2 t7) K =
  groatref05_Next_s1 high_0 low_1 n_2 t7 (fun a0 => K .ret (groatref05_Next_x0_0 a0)) (fun a0 a1 a2 a3 => loopR (ev groatref05_Next_E (Tb21 R) kk (sub [1, 0, 1, 0, 0] groatref05_Next_c)) [0, 1, 2, 7] [6] k (groatref05_Next_h0 a0 a1 a2 a3) K) (K (.exit 0) (groatref05_Next_x0_1)) := by kernel_rfl
theorem groatref05_Next_y0_0 (R : Type) (kk : Nat) (t6 : Int) (K : List SV → Option Box → Option R) : (kBlock 0 (kSeq groatref05_Next_E (Tb21 R) kk (sub [1, 1] groatref05_Next_c) (kFin groatref05_Next_E Try.f20.results.toList none K))) .ret (groatref05_Next_x0_0 t6) =
  groatref05_Next_s2 t6 (fun a0 => K [.dat (.int .i64) a0 []] none) := by kernel_rfl
theorem groatref05_Next_y0_1 (R : Type) (kk : Nat)  (K : List SV → Option Box → Option R) : (kBlock 0 (kSeq groatref05_Next_E (Tb21 R) kk (sub [1, 1] groatref05_Next_c) (kFin groatref05_Next_E Try.f20.results.toList none K))) (.exit 0) (groatref05_Next_x0_1) =
  groatref05_Next_s3 (fun a0 => K [.dat (.int .i64) a0 []] none) := by kernel_rfl
theorem groatref05_Next_lp0 (R : Type) (k : Nat) (high_0 : Int) (low_1 : Int) (n_2 : Int) (t7 : Int) (K : Ex → State → Option R) : loopR (ev groatref05_Next_E (Tb21 R) FUEL (sub [1, 0, 1, 0, 0] groatref05_Next_c)) [0, 1, 2, 7] [6] k (groatref05_Next_h0 high_0 low_1 n_2 t7) K = (groatref05_Next_l0 k high_0 low_1 n_2 t7).bind fun e => (Sum.elim (fun (we : Int) => K .ret (groatref05_Next_x0_0 we)) (fun (we : Unit) => K (.exit 0) (groatref05_Next_x0_1)) e) := by
  induction k generalizing high_0 low_1 n_2 t7 with
  | zero => rfl
  | succ k ih =>
    rw [groatref05_Next_d0]
    simp only [groatref05_Next_l0, groatref05_Next_s0_bind, groatref05_Next_s1_bind, groatref05_Next_s2_bind, groatref05_Next_s3_bind, ih, cond_bind, within_bind, none_bind, some_bind, sum_bind, bind_bind, Sum.elim_inl, Sum.elim_inr]
theorem groatref05_Next_eq (R : Type) (high_0 : Int) (low_1 : Int) (n_2 : Int) (K : List SV → Option Box → Option R) : evFn groatref05_Next_E (Tb21 R) FUEL Try.f20 groatref05_Next_c [.dat (.int .u64) high_0 [], .dat (.int .u64) low_1 [], .dat (.int .i64) n_2 []] none K = (groatref05_Next high_0 low_1 n_2).bind fun r => K [.dat (.int .i64) r []] none := by
  rw [groatref05_Next_t]
  simp only [groatref05_Next, groatref05_Next_s0_bind, groatref05_Next_s1_bind, groatref05_Next_s2_bind, groatref05_Next_s3_bind, groatref05_Next_lp0, groatref05_Next_y0_0, groatref05_Next_y0_1, cond_bind, within_bind, none_bind, some_bind, sum_bind, bind_bind, Sum.elim_inl, Sum.elim_inr]
def groatref05_Next_g : Pure := fun R l b K => noBox b (args3 (.int .u64) (.int .u64) (.int .i64) l (fun x0 x1 x2 => (groatref05_Next x0 x1 x2).bind fun r => K [.dat (.int .i64) r []] none))
theorem groatref05_Next_n : groatref05_Next_g.Nat := fun R S l b F G K h => noBox_nat (args3_nat fun _ _ _ => bindr_nat fun _ => h _ _)
def Tb22 : Funs := Tb21.add 20 [(.int .u64), (.int .u64), (.int .i64)] groatref05_Next_g
theorem Tb22_nat : Tb22.Nat := add_nat Tb21_nat groatref05_Next_n
theorem Tb22_owes : ∀ f, Owes Try.prog Tb22 f := add_owes (E := groatref05_Next_E) (Tab.env_ok tab_ok _ _ _ _) mixed Tb21_nat Tb21_owes (fn := Try.f20) (code := groatref05_Next_c) Try.func20 (by kernel_rfl) (by kernel_rfl) fun l b r b' h => by
  obtain ⟨rfl, h⟩ := noBox_some h
  obtain ⟨x0, x1, x2, h1, h2⟩ := own3 (E := groatref05_Next_E) rfl h
  exact ⟨FUEL, (h2 _ _ _ _ _ _).trans ((groatref05_Next_eq _ x0 x1 x2 _).trans h1)⟩
noncomputable abbrev groatref05_Same_c : Code := Try.f21.body.getD .skip
def groatref05_Same_E : Env := tab.env (fun i => bif Nat.beq i 4 then [0, 1, 5] else []) (fun i => bif Nat.beq i 4 then [4] else []) [] [(.sl 3 (.int .i64)), (.sl 3 (.int .i64))]
def groatref05_Same_h0 (a_0 : (List Int)) (b_1 : (List Int)) (t5 : Int) : State := ⟨[[.dat (.sl 3 (.int .i64)) a_0 []], [.dat (.sl 3 (.int .i64)) b_1 []], [.undef], [.undef], [.undef], [.dat (.int .i64) t5 []], [.undef], [.undef], [.undef], [.undef], [.undef], [.undef], [.undef], [.undef], [.undef], [.undef], [.undef], [.undef], [.undef], [.undef], [.undef], [.undef], [.undef], [.undef], [.undef], [.undef]], [none, none, none, none, none, none, none, none, none, none, none, none, none, none, none, none, none, none, none, none, none, none, none, none, none, none, none]⟩
def groatref05_Same_x0_0 (t4 : Bool) : State := ⟨[[.undef], [.undef], [.undef], [.undef], [.dat .bool t4 []], [.undef], [.undef], [.undef], [.undef], [.undef], [.undef], [.undef], [.undef], [.undef], [.undef], [.undef], [.undef], [.undef], [.undef], [.undef], [.undef], [.undef], [.undef], [.undef], [.undef], [.undef]], [none, none, none, none, none, none, none, none, none, none, none, none, none, none, none, none, none, none, none, none, none, none, none, none, none, none, none]⟩
def groatref05_Same_x0_1  : State := ⟨[[.undef], [.undef], [.undef], [.undef], [.undef], [.undef], [.undef], [.undef], [.undef], [.undef], [.undef], [.undef], [.undef], [.undef], [.undef], [.undef], [.undef], [.undef], [.undef], [.undef], [.undef], [.undef], [.undef], [.undef], [.undef], [.undef]], [none, none, none, none, none, none, none, none, none, none, none, none, none, none, none, none, none, none, none, none, none, none, none, none, none, none, none]⟩
theorem groatref05_Same_t (R : Type) (kk : Nat) (a_0 : (List Int)) (b_1 : (List Int)) (K : List SV → Option Box → Option R) : evFn groatref05_Same_E (Tb22 R) kk Try.f21 groatref05_Same_c [.dat (.sl 3 (.int .i64)) a_0 [], .dat (.sl 3 (.int .i64)) b_1 []] none K =
  groatref05_Same_s0 a_0 b_1 (fun a0 => K [.dat .bool a0 []] none) (fun a0 a1 a2 => loopR (ev groatref05_Same_E (Tb22 R) kk (sub [1, 1, 0, 1, 0, 0] groatref05_Same_c)) [0, 1, 5] [4] kk (groatref05_Same_h0 a0 a1 a2) (kBlock 0 (kSeq groatref05_Same_E (Tb22 R) kk (sub [1, 1, 1] groatref05_Same_c) (kFin groatref05_Same_E Try.f21.results.toList none K)))) := by kernel_rfl
theorem groatref05_Same_d0 (R : Type) (kk k : Nat) (a_0 : (List Int)) (b_1 : (List Int)) (t5 : Int) (K : Ex → State → Option R) : loopR (ev groatref05_Same_E (Tb22 R) kk (sub [1, 1, 0, 1, 0, 0] groatref05_Same_c)) [0, 1, 5] [4] (k + 1) (groatref05_Same_h0 a_0 b_1 t5) K =
  groatref05_Same_s1 a_0 b_1 t5 (fun a0 => K .ret (groatref05_Same_x0_0 a0)) (fun a0 a1 a2 => loopR (ev groatref05_Same_E (Tb22 R) kk (sub [1, 1, 0, 1, 0, 0] groatref05_Same_c)) [0, 1, 5] [4] k (groatref05_Same_h0 a0 a1 a2) K) (K (.exit 0) (groatref05_Same_x0_1)) := by kernel_rfl
theorem groatref05_Same_y0_0 (R : Type) (kk : Nat) (t4 : Bool) (K : List SV → Option Box → Option R) : (kBlock 0 (kSeq groatref05_Same_E (Tb22 R) kk (sub [1, 1, 1] groatref05_Same_c) (kFin groatref05_Same_E Try.f21.results.toList none K))) .ret (groatref05_Same_x0_0 t4) =
  groatref05_Same_s2 t4 (fun a0 => K [.dat .bool a0 []] none) := by kernel_rfl
theorem groatref05_Same_y0_1 (R : Type) (kk : Nat)  (K : List SV → Option Box → Option R) : (kBlock 0 (kSeq groatref05_Same_E (Tb22 R) kk (sub [1, 1, 1] groatref05_Same_c) (kFin groatref05_Same_E Try.f21.results.toList none K))) (.exit 0) (groatref05_Same_x0_1) =
  groatref05_Same_s3 (fun a0 => K [.dat .bool a0 []] none) := by kernel_rfl
theorem groatref05_Same_lp0 (R : Type) (k : Nat) (a_0 : (List Int)) (b_1 : (List Int)) (t5 : Int) (K : Ex → State → Option R) : loopR (ev groatref05_Same_E (Tb22 R) FUEL (sub [1, 1, 0, 1, 0, 0] groatref05_Same_c)) [0, 1, 5] [4] k (groatref05_Same_h0 a_0 b_1 t5) K = (groatref05_Same_l0 k a_0 b_1 t5).bind fun e => (Sum.elim (fun (we : Bool) => K .ret (groatref05_Same_x0_0 we)) (fun (we : Unit) => K (.exit 0) (groatref05_Same_x0_1)) e) := by
  induction k generalizing a_0 b_1 t5 with
  | zero => rfl
  | succ k ih =>
    rw [groatref05_Same_d0]
    simp only [groatref05_Same_l0, groatref05_Same_s0_bind, groatref05_Same_s1_bind, groatref05_Same_s2_bind, groatref05_Same_s3_bind, ih, cond_bind, within_bind, none_bind, some_bind, sum_bind, bind_bind, Sum.elim_inl, Sum.elim_inr]
theorem groatref05_Same_eq (R : Type) (a_0 : (List Int)) (b_1 : (List Int)) (K : List SV → Option Box → Option R) : evFn groatref05_Same_E (Tb22 R) FUEL Try.f21 groatref05_Same_c [.dat (.sl 3 (.int .i64)) a_0 [], .dat (.sl 3 (.int .i64)) b_1 []] none K = (groatref05_Same a_0 b_1).bind fun r => K [.dat .bool r []] none := by
  rw [groatref05_Same_t]
  simp only [groatref05_Same, groatref05_Same_s0_bind, groatref05_Same_s1_bind, groatref05_Same_s2_bind, groatref05_Same_s3_bind, groatref05_Same_lp0, groatref05_Same_y0_0, groatref05_Same_y0_1, cond_bind, within_bind, none_bind, some_bind, sum_bind, bind_bind, Sum.elim_inl, Sum.elim_inr]
def groatref05_Same_g : Pure := fun R l b K => noBox b (args2 (.sl 3 (.int .i64)) (.sl 3 (.int .i64)) l (fun x0 x1 => (groatref05_Same x0 x1).bind fun r => K [.dat .bool r []] none))
theorem groatref05_Same_n : groatref05_Same_g.Nat := fun R S l b F G K h => noBox_nat (args2_nat fun _ _ => bindr_nat fun _ => h _ _)
def Tb23 : Funs := Tb22.add 21 [(.sl 3 (.int .i64)), (.sl 3 (.int .i64))] groatref05_Same_g
theorem Tb23_nat : Tb23.Nat := add_nat Tb22_nat groatref05_Same_n
theorem Tb23_owes : ∀ f, Owes Try.prog Tb23 f := add_owes (E := groatref05_Same_E) (Tab.env_ok tab_ok _ _ _ _) mixed Tb22_nat Tb22_owes (fn := Try.f21) (code := groatref05_Same_c) Try.func21 (by kernel_rfl) (by kernel_rfl) fun l b r b' h => by
  obtain ⟨rfl, h⟩ := noBox_some h
  obtain ⟨x0, x1, h1, h2⟩ := own2 (E := groatref05_Same_E) rfl h
  exact ⟨FUEL, (h2 _ _ _ _ _ _).trans ((groatref05_Same_eq _ x0 x1 _).trans h1)⟩
noncomputable abbrev groatlaw05_FieldsBits_c : Code := Try.f5.body.getD .skip
def groatlaw05_FieldsBits_E : Env := tab.env (fun _ => []) (fun _ => []) [] [(.int .u64), (.int .u64), (.int .i64)]
theorem groatlaw05_FieldsBits_t (R : Type) (kk : Nat) (high_0 : Int) (low_1 : Int) (n_2 : Int) (K : List SV → Option Box → Option R) : evFn groatlaw05_FieldsBits_E (Tb23 R) kk Try.f5 groatlaw05_FieldsBits_c [.dat (.int .u64) high_0 [], .dat (.int .u64) low_1 [], .dat (.int .i64) n_2 []] none K =
  groatlaw05_FieldsBits_s0 high_0 low_1 n_2 (fun a0 => K [.dat .bool a0 []] none) := by kernel_rfl
theorem groatlaw05_FieldsBits_eq (R : Type) (high_0 : Int) (low_1 : Int) (n_2 : Int) (K : List SV → Option Box → Option R) : evFn groatlaw05_FieldsBits_E (Tb23 R) FUEL Try.f5 groatlaw05_FieldsBits_c [.dat (.int .u64) high_0 [], .dat (.int .u64) low_1 [], .dat (.int .i64) n_2 []] none K = (groatlaw05_FieldsBits high_0 low_1 n_2).bind fun r => K [.dat .bool r []] none := by
  rw [groatlaw05_FieldsBits_t]
  simp only [groatlaw05_FieldsBits, groatlaw05_FieldsBits_s0_bind, cond_bind, within_bind, none_bind, some_bind, sum_bind, bind_bind, Sum.elim_inl, Sum.elim_inr]
def groatlaw05_FieldsBits_g : Pure := fun R l b K => noBox b (args3 (.int .u64) (.int .u64) (.int .i64) l (fun x0 x1 x2 => (groatlaw05_FieldsBits x0 x1 x2).bind fun r => K [.dat .bool r []] none))
theorem groatlaw05_FieldsBits_n : groatlaw05_FieldsBits_g.Nat := fun R S l b F G K h => noBox_nat (args3_nat fun _ _ _ => bindr_nat fun _ => h _ _)
def Tb24 : Funs := Tb23.add 5 [(.int .u64), (.int .u64), (.int .i64)] groatlaw05_FieldsBits_g
theorem Tb24_nat : Tb24.Nat := add_nat Tb23_nat groatlaw05_FieldsBits_n
theorem Tb24_owes : ∀ f, Owes Try.prog Tb24 f := add_owes (E := groatlaw05_FieldsBits_E) (Tab.env_ok tab_ok _ _ _ _) mixed Tb23_nat Tb23_owes (fn := Try.f5) (code := groatlaw05_FieldsBits_c) Try.func5 (by kernel_rfl) (by kernel_rfl) fun l b r b' h => by
  obtain ⟨rfl, h⟩ := noBox_some h
  obtain ⟨x0, x1, x2, h1, h2⟩ := own3 (E := groatlaw05_FieldsBits_E) rfl h
  exact ⟨FUEL, (h2 _ _ _ _ _ _).trans ((groatlaw05_FieldsBits_eq _ x0 x1 x2 _).trans h1)⟩
noncomputable abbrev groatlaw05_FieldsOrder_c : Code := Try.f6.body.getD .skip
def groatlaw05_FieldsOrder_E : Env := tab.env (fun _ => []) (fun _ => []) [] [(.arr 2 (.int .u64)), (.int .i64), (.int .i64)]
theorem groatlaw05_FieldsOrder_t (R : Type) (kk : Nat) (halves_0 : (List Int)) (n_1 : Int) (m_2 : Int) (K : List SV → Option Box → Option R) : evFn groatlaw05_FieldsOrder_E (Tb24 R) kk Try.f6 groatlaw05_FieldsOrder_c [.dat (.arr 2 (.int .u64)) halves_0 [], .dat (.int .i64) n_1 [], .dat (.int .i64) m_2 []] none K =
  groatlaw05_FieldsOrder_s0 halves_0 n_1 m_2 (fun a0 => K [.dat .bool a0 []] none) := by kernel_rfl
theorem groatlaw05_FieldsOrder_eq (R : Type) (halves_0 : (List Int)) (n_1 : Int) (m_2 : Int) (K : List SV → Option Box → Option R) : evFn groatlaw05_FieldsOrder_E (Tb24 R) FUEL Try.f6 groatlaw05_FieldsOrder_c [.dat (.arr 2 (.int .u64)) halves_0 [], .dat (.int .i64) n_1 [], .dat (.int .i64) m_2 []] none K = (groatlaw05_FieldsOrder halves_0 n_1 m_2).bind fun r => K [.dat .bool r []] none := by
  rw [groatlaw05_FieldsOrder_t]
  simp only [groatlaw05_FieldsOrder, groatlaw05_FieldsOrder_s0_bind, cond_bind, within_bind, none_bind, some_bind, sum_bind, bind_bind, Sum.elim_inl, Sum.elim_inr]
def groatlaw05_FieldsOrder_g : Pure := fun R l b K => noBox b (args3 (.arr 2 (.int .u64)) (.int .i64) (.int .i64) l (fun x0 x1 x2 => (groatlaw05_FieldsOrder x0 x1 x2).bind fun r => K [.dat .bool r []] none))
theorem groatlaw05_FieldsOrder_n : groatlaw05_FieldsOrder_g.Nat := fun R S l b F G K h => noBox_nat (args3_nat fun _ _ _ => bindr_nat fun _ => h _ _)
def Tb25 : Funs := Tb24.add 6 [(.arr 2 (.int .u64)), (.int .i64), (.int .i64)] groatlaw05_FieldsOrder_g
theorem Tb25_nat : Tb25.Nat := add_nat Tb24_nat groatlaw05_FieldsOrder_n
theorem Tb25_owes : ∀ f, Owes Try.prog Tb25 f := add_owes (E := groatlaw05_FieldsOrder_E) (Tab.env_ok tab_ok _ _ _ _) mixed Tb24_nat Tb24_owes (fn := Try.f6) (code := groatlaw05_FieldsOrder_c) Try.func6 (by kernel_rfl) (by kernel_rfl) fun l b r b' h => by
  obtain ⟨rfl, h⟩ := noBox_some h
  obtain ⟨x0, x1, x2, h1, h2⟩ := own3 (E := groatlaw05_FieldsOrder_E) rfl h
  exact ⟨FUEL, (h2 _ _ _ _ _ _).trans ((groatlaw05_FieldsOrder_eq _ x0 x1 x2 _).trans h1)⟩
noncomputable abbrev groatlaw05_FieldsJoin_c : Code := Try.f7.body.getD .skip
def groatlaw05_FieldsJoin_E : Env := tab.env (fun _ => []) (fun _ => []) [] [(.arr 2 (.int .u64)), (.arr 2 (.int .u64)), (.int .i64)]
theorem groatlaw05_FieldsJoin_t (R : Type) (kk : Nat) (a_0 : (List Int)) (b_1 : (List Int)) (n_2 : Int) (K : List SV → Option Box → Option R) : evFn groatlaw05_FieldsJoin_E (Tb25 R) kk Try.f7 groatlaw05_FieldsJoin_c [.dat (.arr 2 (.int .u64)) a_0 [], .dat (.arr 2 (.int .u64)) b_1 [], .dat (.int .i64) n_2 []] none K =
  groatlaw05_FieldsJoin_s0 a_0 b_1 n_2 (fun a0 => K [.dat .bool a0 []] none) := by kernel_rfl
theorem groatlaw05_FieldsJoin_eq (R : Type) (a_0 : (List Int)) (b_1 : (List Int)) (n_2 : Int) (K : List SV → Option Box → Option R) : evFn groatlaw05_FieldsJoin_E (Tb25 R) FUEL Try.f7 groatlaw05_FieldsJoin_c [.dat (.arr 2 (.int .u64)) a_0 [], .dat (.arr 2 (.int .u64)) b_1 [], .dat (.int .i64) n_2 []] none K = (groatlaw05_FieldsJoin a_0 b_1 n_2).bind fun r => K [.dat .bool r []] none := by
  rw [groatlaw05_FieldsJoin_t]
  simp only [groatlaw05_FieldsJoin, groatlaw05_FieldsJoin_s0_bind, cond_bind, within_bind, none_bind, some_bind, sum_bind, bind_bind, Sum.elim_inl, Sum.elim_inr]
def groatlaw05_FieldsJoin_g : Pure := fun R l b K => noBox b (args3 (.arr 2 (.int .u64)) (.arr 2 (.int .u64)) (.int .i64) l (fun x0 x1 x2 => (groatlaw05_FieldsJoin x0 x1 x2).bind fun r => K [.dat .bool r []] none))
theorem groatlaw05_FieldsJoin_n : groatlaw05_FieldsJoin_g.Nat := fun R S l b F G K h => noBox_nat (args3_nat fun _ _ _ => bindr_nat fun _ => h _ _)
def Tb26 : Funs := Tb25.add 7 [(.arr 2 (.int .u64)), (.arr 2 (.int .u64)), (.int .i64)] groatlaw05_FieldsJoin_g
theorem Tb26_nat : Tb26.Nat := add_nat Tb25_nat groatlaw05_FieldsJoin_n
theorem Tb26_owes : ∀ f, Owes Try.prog Tb26 f := add_owes (E := groatlaw05_FieldsJoin_E) (Tab.env_ok tab_ok _ _ _ _) mixed Tb25_nat Tb25_owes (fn := Try.f7) (code := groatlaw05_FieldsJoin_c) Try.func7 (by kernel_rfl) (by kernel_rfl) fun l b r b' h => by
  obtain ⟨rfl, h⟩ := noBox_some h
  obtain ⟨x0, x1, x2, h1, h2⟩ := own3 (E := groatlaw05_FieldsJoin_E) rfl h
  exact ⟨FUEL, (h2 _ _ _ _ _ _).trans ((groatlaw05_FieldsJoin_eq _ x0 x1 x2 _).trans h1)⟩
end Go.Proofs.Ytjlgmoneaehejaa
-- GD GDfields
-- GD GDgroatlaw05
-- GD GDgroatref05
-- GD GDmathbits
