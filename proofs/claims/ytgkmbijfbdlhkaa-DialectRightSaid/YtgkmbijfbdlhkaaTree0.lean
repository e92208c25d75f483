/- The plain functions are what the code does. -/
import Derived.Test.YtgkmbijfbdlhkaaProg
import Derived.KernelRfl
import Derived.Test.YtgkmbijfbdlhkaaK2
set_option linter.unusedVariables false
set_option linter.unusedSimpArgs false
set_option maxRecDepth 100000
namespace Go.Proofs.Ytgkmbijfbdlhkaa
open Go Go.Ref Groat
def tys : List (Option Ty) := [none, none, some (.int .i64), some (.int .i64), some .bool, some (.int .u8), some (.int .u8), some (.pair (.int .i64) (.pair (.int .i64) (.pair .bool (.pair (.int .u8) .unit)))), some (.pair (.int .i64) (.pair (.int .i64) (.pair .bool (.pair (.int .u8) .unit)))), some .str, some .str, some .str, some (.int .u64), none, none, none, none, none, none, none, none, some (.int .i32), some (.sl 28 (.pair (.int .i64) (.pair (.int .i64) (.pair (.int .i64) (.pair (.int .i64) (.pair (.int .i64) .unit)))))), some (.pair (.int .i64) (.pair (.int .i64) (.pair (.sl 28 (.pair (.int .i64) (.pair (.int .i64) (.pair (.int .i64) (.pair (.int .i64) (.pair (.int .i64) .unit)))))) .unit))), some (.pair (.int .i64) (.pair (.int .i64) (.pair (.sl 28 (.pair (.int .i64) (.pair (.int .i64) (.pair (.int .i64) (.pair (.int .i64) (.pair (.int .i64) .unit)))))) .unit))), none, none, some (.pair (.int .i64) (.pair (.int .i64) (.pair (.int .i64) (.pair (.int .i64) (.pair (.int .i64) .unit))))), some (.pair (.int .i64) (.pair (.int .i64) (.pair (.int .i64) (.pair (.int .i64) (.pair (.int .i64) .unit))))), none, none, none, none, none, none, none, some (.int .u64), some (.pair (.int .u64) (.pair (.int .u64) .unit)), some (.pair (.int .u64) (.pair (.int .u64) .unit)), none, none, none, some (.sl 3 (.int .i64)), none, none, some (.int .i64), none, none, none, none, none, none, none, none, none, none, none, some (.sl 42 (.sl 3 (.int .i64))), none, none, none, none, none, none, none, none, none, some (.int .u32), some (.int .u8), some (.int .u8), none, none, some (.int .i32), some (.int .i32), none, none, none]
def bts : List Nat := [0, 8, 8, 8, 1, 1, 1, 24, 24, 16, 16, 16, 8, 24, 24, 8, 8, 8, 8, 8, 16, 4, 24, 40, 40, 0, 8, 40, 40, 0, 8, 8, 8, 8, 8, 8, 8, 16, 16, 8, 8, 8, 24, 8, 8, 8, 0, 8, 8, 8, 8, 8, 8, 8, 8, 8, 8, 24, 8, 8, 8, 40, 40, 0, 0, 0, 8, 4, 1, 1, 8, 8, 4, 4, 48, 48, 8]
def pts : List Bool := [false, false, false, false, false, false, false, false, false, false, false, false, false, false, false, true, true, true, false, false, false, false, false, false, false, false, false, false, false, false, false, false, false, false, false, false, false, false, false, false, false, false, false, false, false, false, false, false, false, false, false, false, false, false, false, false, false, false, false, false, false, false, false, false, false, false, false, false, false, false, false, true, false, false, false, false, false]
def tab : Tab := ⟨tys, bts, pts⟩
theorem tab_ok : tab.ok Try.prog = true := by kernel_rfl
theorem mixed : Try.prog.follows .mixedOrders = true := by kernel_rfl
def Tb0 : Funs := Funs.none
theorem Tb0_nat : Tb0.Nat := none_nat
theorem Tb0_owes : ∀ f, Owes Try.prog Tb0 f := none_owes
noncomputable abbrev dialect_fixed_c : Code := Try.f25.body.getD .skip
def dialect_fixed_E : Env := tab.env (fun _ => []) (fun _ => []) [6] [(.int .i64), (.int .i64), (.int .i64)]
theorem dialect_fixed_t (R : Type) (kk : Nat) (no_0 : Int) (class_1 : Int) (n_2 : Int) (K : List SV → Option Box → Option R) : evFn dialect_fixed_E (Tb0 R) kk Try.f25 dialect_fixed_c [.dat (.int .i64) no_0 [], .dat (.int .i64) class_1 [], .dat (.int .i64) n_2 []] none K =
  dialect_fixed_s0 no_0 class_1 n_2 (fun a0 => K [.dat (.pair (.int .i64) (.pair (.int .i64) (.pair (.int .i64) (.pair (.int .i64) (.pair (.int .i64) .unit))))) a0 []] none) := by kernel_rfl
theorem dialect_fixed_eq (R : Type) (no_0 : Int) (class_1 : Int) (n_2 : Int) (K : List SV → Option Box → Option R) : evFn dialect_fixed_E (Tb0 R) FUEL Try.f25 dialect_fixed_c [.dat (.int .i64) no_0 [], .dat (.int .i64) class_1 [], .dat (.int .i64) n_2 []] none K = (dialect_fixed no_0 class_1 n_2).bind fun r => K [.dat (.pair (.int .i64) (.pair (.int .i64) (.pair (.int .i64) (.pair (.int .i64) (.pair (.int .i64) .unit))))) r []] none := by
  rw [dialect_fixed_t]
  simp only [dialect_fixed, dialect_fixed_s0_bind, cond_bind, within_bind, none_bind, some_bind, sum_bind, bind_bind, Sum.elim_inl, Sum.elim_inr]
def dialect_fixed_g : Pure := fun R l b K => noBox b (args3 (.int .i64) (.int .i64) (.int .i64) l (fun x0 x1 x2 => (dialect_fixed x0 x1 x2).bind fun r => K [.dat (.pair (.int .i64) (.pair (.int .i64) (.pair (.int .i64) (.pair (.int .i64) (.pair (.int .i64) .unit))))) r []] none))
theorem dialect_fixed_n : dialect_fixed_g.Nat := fun R S l b F G K h => noBox_nat (args3_nat fun _ _ _ => bindr_nat fun _ => h _ _)
def Tb1 : Funs := Tb0.add 25 [(.int .i64), (.int .i64), (.int .i64)] dialect_fixed_g
theorem Tb1_nat : Tb1.Nat := add_nat Tb0_nat dialect_fixed_n
theorem Tb1_owes : ∀ f, Owes Try.prog Tb1 f := add_owes (E := dialect_fixed_E) (Tab.env_ok tab_ok _ _ _ _) mixed Tb0_nat Tb0_owes (fn := Try.f25) (code := dialect_fixed_c) Try.func25 (by kernel_rfl) (by kernel_rfl) fun l b r b' h => by
  obtain ⟨rfl, h⟩ := noBox_some h
  obtain ⟨x0, x1, x2, h1, h2⟩ := own3 (E := dialect_fixed_E) rfl h
  exact ⟨FUEL, (h2 _ _ _ _ _ _).trans ((dialect_fixed_eq _ x0 x1 x2 _).trans h1)⟩
noncomputable abbrev dialect_Issuer_c : Code := Try.f17.body.getD .skip
def dialect_Issuer_E : Env := tab.env (fun _ => []) (fun _ => []) [0] []
theorem dialect_Issuer_t (R : Type) (kk : Nat)  (K : List SV → Option Box → Option R) : evFn dialect_Issuer_E (Tb1 R) kk Try.f17 dialect_Issuer_c [] none K =
  dialect_Issuer_s0 (fun a0 => K [.dat (.pair (.int .i64) (.pair (.int .i64) (.pair (.sl 28 (.pair (.int .i64) (.pair (.int .i64) (.pair (.int .i64) (.pair (.int .i64) (.pair (.int .i64) .unit)))))) .unit))) a0 [[2]]] none) := by kernel_rfl
theorem dialect_Issuer_eq (R : Type)  (K : List SV → Option Box → Option R) : evFn dialect_Issuer_E (Tb1 R) FUEL Try.f17 dialect_Issuer_c [] none K = (dialect_Issuer).bind fun r => K [.dat (.pair (.int .i64) (.pair (.int .i64) (.pair (.sl 28 (.pair (.int .i64) (.pair (.int .i64) (.pair (.int .i64) (.pair (.int .i64) (.pair (.int .i64) .unit)))))) .unit))) r [[2]]] none := by
  rw [dialect_Issuer_t]
  simp only [dialect_Issuer, dialect_Issuer_s0_bind, cond_bind, within_bind, none_bind, some_bind, sum_bind, bind_bind, Sum.elim_inl, Sum.elim_inr]
def dialect_Issuer_g : Pure := fun R l b K => noBox b (args0 l ((dialect_Issuer).bind fun r => K [.dat (.pair (.int .i64) (.pair (.int .i64) (.pair (.sl 28 (.pair (.int .i64) (.pair (.int .i64) (.pair (.int .i64) (.pair (.int .i64) (.pair (.int .i64) .unit)))))) .unit))) r [[2]]] none))
theorem dialect_Issuer_n : dialect_Issuer_g.Nat := fun R S l b F G K h => noBox_nat (args0_nat (bindr_nat fun _ => h _ _))
def Tb2 : Funs := Tb1.add 17 [] dialect_Issuer_g
theorem Tb2_nat : Tb2.Nat := add_nat Tb1_nat dialect_Issuer_n
theorem Tb2_owes : ∀ f, Owes Try.prog Tb2 f := add_owes (E := dialect_Issuer_E) (Tab.env_ok tab_ok _ _ _ _) mixed Tb1_nat Tb1_owes (fn := Try.f17) (code := dialect_Issuer_c) Try.func17 (by kernel_rfl) (by kernel_rfl) fun l b r b' h => by
  obtain ⟨rfl, h⟩ := noBox_some h
  obtain ⟨h1, h2⟩ := own0 (E := dialect_Issuer_E) rfl h
  exact ⟨FUEL, (h2 _ _ _ _ _ _).trans ((dialect_Issuer_eq _  _).trans h1)⟩
noncomputable abbrev groatref14_both_c : Code := Try.f27.body.getD .skip
def groatref14_both_E : Env := tab.env (fun _ => []) (fun _ => []) [] []
theorem groatref14_both_t (R : Type) (kk : Nat)  (K : List SV → Option Box → Option R) : evFn groatref14_both_E (Tb2 R) kk Try.f27 groatref14_both_c [] none K =
  groatref14_both_s0 (fun a0 => K [.dat (.sl 42 (.sl 3 (.int .i64))) a0 [[]]] none) := by kernel_rfl
theorem groatref14_both_eq (R : Type)  (K : List SV → Option Box → Option R) : evFn groatref14_both_E (Tb2 R) FUEL Try.f27 groatref14_both_c [] none K = (groatref14_both).bind fun r => K [.dat (.sl 42 (.sl 3 (.int .i64))) r [[]]] none := by
  rw [groatref14_both_t]
  simp only [groatref14_both, groatref14_both_s0_bind, cond_bind, within_bind, none_bind, some_bind, sum_bind, bind_bind, Sum.elim_inl, Sum.elim_inr]
def groatref14_both_g : Pure := fun R l b K => noBox b (args0 l ((groatref14_both).bind fun r => K [.dat (.sl 42 (.sl 3 (.int .i64))) r [[]]] none))
theorem groatref14_both_n : groatref14_both_g.Nat := fun R S l b F G K h => noBox_nat (args0_nat (bindr_nat fun _ => h _ _))
def Tb3 : Funs := Tb2.add 27 [] groatref14_both_g
theorem Tb3_nat : Tb3.Nat := add_nat Tb2_nat groatref14_both_n
theorem Tb3_owes : ∀ f, Owes Try.prog Tb3 f := add_owes (E := groatref14_both_E) (Tab.env_ok tab_ok _ _ _ _) mixed Tb2_nat Tb2_owes (fn := Try.f27) (code := groatref14_both_c) Try.func27 (by kernel_rfl) (by kernel_rfl) fun l b r b' h => by
  obtain ⟨rfl, h⟩ := noBox_some h
  obtain ⟨h1, h2⟩ := own0 (E := groatref14_both_E) rfl h
  exact ⟨FUEL, (h2 _ _ _ _ _ _).trans ((groatref14_both_eq _  _).trans h1)⟩
noncomputable abbrev groatref14_Schema_c : Code := Try.f21.body.getD .skip
def groatref14_Schema_E : Env := tab.env (fun i => bif Nat.beq i 4 then [0, 2, 3, 4, 5] else []) (fun i => bif Nat.beq i 4 then [2, 3] else []) [2] [(.int .i64)]
def groatref14_Schema_h0 (which_0 : Int) (t4 : (List (List Int))) (t5 : Int) (bt2 : (Int × Int × (List (Int × Int × Int × Int × Int × Unit)) × Unit)) (bt3 : (Int × Int × (List (Int × Int × Int × Int × Int × Unit)) × Unit)) : State := ⟨[[.dat (.int .i64) which_0 []], [.undef], [.ptr 3 (.pair (.int .i64) (.pair (.int .i64) (.pair (.sl 28 (.pair (.int .i64) (.pair (.int .i64) (.pair (.int .i64) (.pair (.int .i64) (.pair (.int .i64) .unit)))))) .unit))) []], [.ptr 4 (.pair (.int .i64) (.pair (.int .i64) (.pair (.sl 28 (.pair (.int .i64) (.pair (.int .i64) (.pair (.int .i64) (.pair (.int .i64) (.pair (.int .i64) .unit)))))) .unit))) []], [.dat (.sl 42 (.sl 3 (.int .i64))) t4 [[]]], [.dat (.int .i64) t5 []], [.undef], [.undef], [.undef], [.undef], [.undef], [.undef], [.undef], [.undef], [.undef], [.undef], [.undef], [.undef], [.undef], [.undef], [.undef], [.undef], [.undef], [.undef], [.undef], [.undef], [.undef], [.undef], [.undef], [.undef], [.undef], [.undef], [.undef], [.undef], [.undef], [.undef], [.undef], [.undef], [.undef], [.undef], [.undef], [.undef], [.undef], [.undef], [.undef], [.undef], [.undef], [.undef], [.undef], [.undef], [.undef], [.undef], [.undef], [.undef], [.undef], [.undef], [.undef], [.undef]], [none, none, none, some ⟨(.pair (.int .i64) (.pair (.int .i64) (.pair (.sl 28 (.pair (.int .i64) (.pair (.int .i64) (.pair (.int .i64) (.pair (.int .i64) (.pair (.int .i64) .unit)))))) .unit))), bt2, [[2]]⟩, some ⟨(.pair (.int .i64) (.pair (.int .i64) (.pair (.sl 28 (.pair (.int .i64) (.pair (.int .i64) (.pair (.int .i64) (.pair (.int .i64) (.pair (.int .i64) .unit)))))) .unit))), bt3, [[2]]⟩, none, none, none, none, none, none, none, none, none, none, none, none, none, none, none, none, none, none, none, none, none, none, none, none, none, none, none, none, none, none, none, none, none, none, none, none, none, none, none, none, none, none, none, none, none, none, none, none, none, none, none, none, none, none]⟩
def groatref14_Schema_x0_0 (bt2 : (Int × Int × (List (Int × Int × Int × Int × Int × Unit)) × Unit)) (bt3 : (Int × Int × (List (Int × Int × Int × Int × Int × Unit)) × Unit)) : State := ⟨[[.undef], [.undef], [.ptr 3 (.pair (.int .i64) (.pair (.int .i64) (.pair (.sl 28 (.pair (.int .i64) (.pair (.int .i64) (.pair (.int .i64) (.pair (.int .i64) (.pair (.int .i64) .unit)))))) .unit))) []], [.ptr 4 (.pair (.int .i64) (.pair (.int .i64) (.pair (.sl 28 (.pair (.int .i64) (.pair (.int .i64) (.pair (.int .i64) (.pair (.int .i64) (.pair (.int .i64) .unit)))))) .unit))) []], [.undef], [.undef], [.undef], [.undef], [.undef], [.undef], [.undef], [.undef], [.undef], [.undef], [.undef], [.undef], [.undef], [.undef], [.undef], [.undef], [.undef], [.undef], [.undef], [.undef], [.undef], [.undef], [.undef], [.undef], [.undef], [.undef], [.undef], [.undef], [.undef], [.undef], [.undef], [.undef], [.undef], [.undef], [.undef], [.undef], [.undef], [.undef], [.undef], [.undef], [.undef], [.undef], [.undef], [.undef], [.undef], [.undef], [.undef], [.undef], [.undef], [.undef], [.undef], [.undef], [.undef], [.undef]], [none, none, none, some ⟨(.pair (.int .i64) (.pair (.int .i64) (.pair (.sl 28 (.pair (.int .i64) (.pair (.int .i64) (.pair (.int .i64) (.pair (.int .i64) (.pair (.int .i64) .unit)))))) .unit))), bt2, [[2]]⟩, some ⟨(.pair (.int .i64) (.pair (.int .i64) (.pair (.sl 28 (.pair (.int .i64) (.pair (.int .i64) (.pair (.int .i64) (.pair (.int .i64) (.pair (.int .i64) .unit)))))) .unit))), bt3, [[2]]⟩, none, none, none, none, none, none, none, none, none, none, none, none, none, none, none, none, none, none, none, none, none, none, none, none, none, none, none, none, none, none, none, none, none, none, none, none, none, none, none, none, none, none, none, none, none, none, none, none, none, none, none, none, none, none]⟩
theorem groatref14_Schema_t (R : Type) (kk : Nat) (which_0 : Int) (K : List SV → Option Box → Option R) : evFn groatref14_Schema_E (Tb3 R) kk Try.f21 groatref14_Schema_c [.dat (.int .i64) which_0 []] none K =
  groatref14_Schema_s0 which_0 (fun a0 a1 a2 a3 a4 => loopR (ev groatref14_Schema_E (Tb3 R) kk (sub [1, 1, 1, 0, 1, 0, 0] groatref14_Schema_c)) [0, 2, 3, 4, 5] [2, 3] kk (groatref14_Schema_h0 a0 a1 a2 a3 a4) (kBlock 0 (kSeq groatref14_Schema_E (Tb3 R) kk (sub [1, 1, 1, 1] groatref14_Schema_c) (kFin groatref14_Schema_E Try.f21.results.toList none K)))) := by kernel_rfl
theorem groatref14_Schema_d0 (R : Type) (kk k : Nat) (which_0 : Int) (t4 : (List (List Int))) (t5 : Int) (bt2 : (Int × Int × (List (Int × Int × Int × Int × Int × Unit)) × Unit)) (bt3 : (Int × Int × (List (Int × Int × Int × Int × Int × Unit)) × Unit)) (K : Ex → State → Option R) : loopR (ev groatref14_Schema_E (Tb3 R) kk (sub [1, 1, 1, 0, 1, 0, 0] groatref14_Schema_c)) [0, 2, 3, 4, 5] [2, 3] (k + 1) (groatref14_Schema_h0 which_0 t4 t5 bt2 bt3) K =
  groatref14_Schema_s1 which_0 t4 t5 bt2 bt3 (fun a0 a1 a2 a3 a4 => loopR (ev groatref14_Schema_E (Tb3 R) kk (sub [1, 1, 1, 0, 1, 0, 0] groatref14_Schema_c)) [0, 2, 3, 4, 5] [2, 3] k (groatref14_Schema_h0 a0 a1 a2 a3 a4) K) (fun a0 a1 => K (.exit 0) (groatref14_Schema_x0_0 a0 a1)) := by kernel_rfl
theorem groatref14_Schema_y0_0 (R : Type) (kk : Nat) (bt2 : (Int × Int × (List (Int × Int × Int × Int × Int × Unit)) × Unit)) (bt3 : (Int × Int × (List (Int × Int × Int × Int × Int × Unit)) × Unit)) (K : List SV → Option Box → Option R) : (kBlock 0 (kSeq groatref14_Schema_E (Tb3 R) kk (sub [1, 1, 1, 1] groatref14_Schema_c) (kFin groatref14_Schema_E Try.f21.results.toList none K))) (.exit 0) (groatref14_Schema_x0_0 bt2 bt3) =
  groatref14_Schema_s2 bt2 bt3 (fun a0 => K [.dat (.pair (.int .i64) (.pair (.int .i64) (.pair (.sl 28 (.pair (.int .i64) (.pair (.int .i64) (.pair (.int .i64) (.pair (.int .i64) (.pair (.int .i64) .unit)))))) .unit))) a0 [[2]]] none) := by kernel_rfl
theorem groatref14_Schema_lp0 (R : Type) (k : Nat) (which_0 : Int) (t4 : (List (List Int))) (t5 : Int) (bt2 : (Int × Int × (List (Int × Int × Int × Int × Int × Unit)) × Unit)) (bt3 : (Int × Int × (List (Int × Int × Int × Int × Int × Unit)) × Unit)) (K : Ex → State → Option R) : loopR (ev groatref14_Schema_E (Tb3 R) FUEL (sub [1, 1, 1, 0, 1, 0, 0] groatref14_Schema_c)) [0, 2, 3, 4, 5] [2, 3] k (groatref14_Schema_h0 which_0 t4 t5 bt2 bt3) K = (groatref14_Schema_l0 k which_0 t4 t5 bt2 bt3).bind fun e => K (.exit 0) (groatref14_Schema_x0_0 e.1 e.2) := by
  induction k generalizing which_0 t4 t5 bt2 bt3 with
  | zero => rfl
  | succ k ih =>
    rw [groatref14_Schema_d0]
    simp only [groatref14_Schema_l0, groatref14_Schema_s0_bind, groatref14_Schema_s1_bind, groatref14_Schema_s2_bind, ih, cond_bind, within_bind, none_bind, some_bind, sum_bind, bind_bind, Sum.elim_inl, Sum.elim_inr]
theorem groatref14_Schema_eq (R : Type) (which_0 : Int) (K : List SV → Option Box → Option R) : evFn groatref14_Schema_E (Tb3 R) FUEL Try.f21 groatref14_Schema_c [.dat (.int .i64) which_0 []] none K = (groatref14_Schema which_0).bind fun r => K [.dat (.pair (.int .i64) (.pair (.int .i64) (.pair (.sl 28 (.pair (.int .i64) (.pair (.int .i64) (.pair (.int .i64) (.pair (.int .i64) (.pair (.int .i64) .unit)))))) .unit))) r [[2]]] none := by
  rw [groatref14_Schema_t]
  simp only [groatref14_Schema, groatref14_Schema_s0_bind, groatref14_Schema_s1_bind, groatref14_Schema_s2_bind, groatref14_Schema_lp0, groatref14_Schema_y0_0, cond_bind, within_bind, none_bind, some_bind, sum_bind, bind_bind, Sum.elim_inl, Sum.elim_inr]
def groatref14_Schema_g : Pure := fun R l b K => noBox b (args1 (.int .i64) l (fun x0 => (groatref14_Schema x0).bind fun r => K [.dat (.pair (.int .i64) (.pair (.int .i64) (.pair (.sl 28 (.pair (.int .i64) (.pair (.int .i64) (.pair (.int .i64) (.pair (.int .i64) (.pair (.int .i64) .unit)))))) .unit))) r [[2]]] none))
theorem groatref14_Schema_n : groatref14_Schema_g.Nat := fun R S l b F G K h => noBox_nat (args1_nat fun _ => bindr_nat fun _ => h _ _)
def Tb4 : Funs := Tb3.add 21 [(.int .i64)] groatref14_Schema_g
theorem Tb4_nat : Tb4.Nat := add_nat Tb3_nat groatref14_Schema_n
theorem Tb4_owes : ∀ f, Owes Try.prog Tb4 f := add_owes (E := groatref14_Schema_E) (Tab.env_ok tab_ok _ _ _ _) mixed Tb3_nat Tb3_owes (fn := Try.f21) (code := groatref14_Schema_c) Try.func21 (by kernel_rfl) (by kernel_rfl) fun l b r b' h => by
  obtain ⟨rfl, h⟩ := noBox_some h
  obtain ⟨x0, h1, h2⟩ := own1 (E := groatref14_Schema_E) rfl h
  exact ⟨FUEL, (h2 _ _ _ _ _ _).trans ((groatref14_Schema_eq _ x0 _).trans h1)⟩
noncomputable abbrev dialect_Acquirer_c : Code := Try.f16.body.getD .skip
def dialect_Acquirer_E : Env := tab.env (fun _ => []) (fun _ => []) [0] []
theorem dialect_Acquirer_t (R : Type) (kk : Nat)  (K : List SV → Option Box → Option R) : evFn dialect_Acquirer_E (Tb4 R) kk Try.f16 dialect_Acquirer_c [] none K =
  dialect_Acquirer_s0 (fun a0 => K [.dat (.pair (.int .i64) (.pair (.int .i64) (.pair (.sl 28 (.pair (.int .i64) (.pair (.int .i64) (.pair (.int .i64) (.pair (.int .i64) (.pair (.int .i64) .unit)))))) .unit))) a0 [[2]]] none) := by kernel_rfl
theorem dialect_Acquirer_eq (R : Type)  (K : List SV → Option Box → Option R) : evFn dialect_Acquirer_E (Tb4 R) FUEL Try.f16 dialect_Acquirer_c [] none K = (dialect_Acquirer).bind fun r => K [.dat (.pair (.int .i64) (.pair (.int .i64) (.pair (.sl 28 (.pair (.int .i64) (.pair (.int .i64) (.pair (.int .i64) (.pair (.int .i64) (.pair (.int .i64) .unit)))))) .unit))) r [[2]]] none := by
  rw [dialect_Acquirer_t]
  simp only [dialect_Acquirer, dialect_Acquirer_s0_bind, cond_bind, within_bind, none_bind, some_bind, sum_bind, bind_bind, Sum.elim_inl, Sum.elim_inr]
def dialect_Acquirer_g : Pure := fun R l b K => noBox b (args0 l ((dialect_Acquirer).bind fun r => K [.dat (.pair (.int .i64) (.pair (.int .i64) (.pair (.sl 28 (.pair (.int .i64) (.pair (.int .i64) (.pair (.int .i64) (.pair (.int .i64) (.pair (.int .i64) .unit)))))) .unit))) r [[2]]] none))
theorem dialect_Acquirer_n : dialect_Acquirer_g.Nat := fun R S l b F G K h => noBox_nat (args0_nat (bindr_nat fun _ => h _ _))
def Tb5 : Funs := Tb4.add 16 [] dialect_Acquirer_g
theorem Tb5_nat : Tb5.Nat := add_nat Tb4_nat dialect_Acquirer_n
theorem Tb5_owes : ∀ f, Owes Try.prog Tb5 f := add_owes (E := dialect_Acquirer_E) (Tab.env_ok tab_ok _ _ _ _) mixed Tb4_nat Tb4_owes (fn := Try.f16) (code := dialect_Acquirer_c) Try.func16 (by kernel_rfl) (by kernel_rfl) fun l b r b' h => by
  obtain ⟨rfl, h⟩ := noBox_some h
  obtain ⟨h1, h2⟩ := own0 (E := dialect_Acquirer_E) rfl h
  exact ⟨FUEL, (h2 _ _ _ _ _ _).trans ((dialect_Acquirer_eq _  _).trans h1)⟩
noncomputable abbrev groatlaw14_of_c : Code := Try.f7.body.getD .skip
def groatlaw14_of_E : Env := tab.env (fun _ => []) (fun _ => []) [2, 3] [.bool]
theorem groatlaw14_of_t (R : Type) (kk : Nat) (issuer_0 : Bool) (K : List SV → Option Box → Option R) : evFn groatlaw14_of_E (Tb5 R) kk Try.f7 groatlaw14_of_c [.dat .bool issuer_0 []] none K =
  groatlaw14_of_s0 issuer_0 (fun a0 a1 => K [.dat (.pair (.int .i64) (.pair (.int .i64) (.pair (.sl 28 (.pair (.int .i64) (.pair (.int .i64) (.pair (.int .i64) (.pair (.int .i64) (.pair (.int .i64) .unit)))))) .unit))) a0 [[2]], .dat (.pair (.int .i64) (.pair (.int .i64) (.pair (.sl 28 (.pair (.int .i64) (.pair (.int .i64) (.pair (.int .i64) (.pair (.int .i64) (.pair (.int .i64) .unit)))))) .unit))) a1 [[2]]] none) := by kernel_rfl
theorem groatlaw14_of_eq (R : Type) (issuer_0 : Bool) (K : List SV → Option Box → Option R) : evFn groatlaw14_of_E (Tb5 R) FUEL Try.f7 groatlaw14_of_c [.dat .bool issuer_0 []] none K = (groatlaw14_of issuer_0).bind fun r => K [.dat (.pair (.int .i64) (.pair (.int .i64) (.pair (.sl 28 (.pair (.int .i64) (.pair (.int .i64) (.pair (.int .i64) (.pair (.int .i64) (.pair (.int .i64) .unit)))))) .unit))) r.1 [[2]], .dat (.pair (.int .i64) (.pair (.int .i64) (.pair (.sl 28 (.pair (.int .i64) (.pair (.int .i64) (.pair (.int .i64) (.pair (.int .i64) (.pair (.int .i64) .unit)))))) .unit))) r.2 [[2]]] none := by
  rw [groatlaw14_of_t]
  simp only [groatlaw14_of, groatlaw14_of_s0_bind, cond_bind, within_bind, none_bind, some_bind, sum_bind, bind_bind, Sum.elim_inl, Sum.elim_inr]
def groatlaw14_of_g : Pure := fun R l b K => noBox b (args1 .bool l (fun x0 => (groatlaw14_of x0).bind fun r => K [.dat (.pair (.int .i64) (.pair (.int .i64) (.pair (.sl 28 (.pair (.int .i64) (.pair (.int .i64) (.pair (.int .i64) (.pair (.int .i64) (.pair (.int .i64) .unit)))))) .unit))) r.1 [[2]], .dat (.pair (.int .i64) (.pair (.int .i64) (.pair (.sl 28 (.pair (.int .i64) (.pair (.int .i64) (.pair (.int .i64) (.pair (.int .i64) (.pair (.int .i64) .unit)))))) .unit))) r.2 [[2]]] none))
theorem groatlaw14_of_n : groatlaw14_of_g.Nat := fun R S l b F G K h => noBox_nat (args1_nat fun _ => bindr_nat fun _ => h _ _)
def Tb6 : Funs := Tb5.add 7 [.bool] groatlaw14_of_g
theorem Tb6_nat : Tb6.Nat := add_nat Tb5_nat groatlaw14_of_n
theorem Tb6_owes : ∀ f, Owes Try.prog Tb6 f := add_owes (E := groatlaw14_of_E) (Tab.env_ok tab_ok _ _ _ _) mixed Tb5_nat Tb5_owes (fn := Try.f7) (code := groatlaw14_of_c) Try.func7 (by kernel_rfl) (by kernel_rfl) fun l b r b' h => by
  obtain ⟨rfl, h⟩ := noBox_some h
  obtain ⟨x0, h1, h2⟩ := own1 (E := groatlaw14_of_E) rfl h
  exact ⟨FUEL, (h2 _ _ _ _ _ _).trans ((groatlaw14_of_eq _ x0 _).trans h1)⟩
noncomputable abbrev schema_Find_c : Code := Try.f8.body.getD .skip
def schema_Find_E : Env := tab.env (fun i => bif Nat.beq i 2 then [1, 4, 9, 10, 11] else []) (fun i => bif Nat.beq i 2 then [4, 5] else []) [4] [(.pair (.int .i64) (.pair (.int .i64) (.pair (.sl 28 (.pair (.int .i64) (.pair (.int .i64) (.pair (.int .i64) (.pair (.int .i64) (.pair (.int .i64) .unit)))))) .unit))), (.int .i64)]
def schema_Find_h0 (no_1 : Int) (t9 : (List (Int × Int × Int × Int × Int × Unit))) (t10 : Int) (t11 : Int) (bt4 : (Int × Int × Int × Int × Int × Unit)) : State := ⟨[[.undef], [.dat (.int .i64) no_1 []], [.undef], [.undef], [.ptr 5 (.pair (.int .i64) (.pair (.int .i64) (.pair (.int .i64) (.pair (.int .i64) (.pair (.int .i64) .unit))))) []], [.undef], [.undef], [.undef], [.undef], [.dat (.sl 28 (.pair (.int .i64) (.pair (.int .i64) (.pair (.int .i64) (.pair (.int .i64) (.pair (.int .i64) .unit)))))) t9 []], [.dat (.int .i64) t10 []], [.dat (.int .i64) t11 []], [.undef], [.undef], [.undef], [.undef], [.undef], [.undef], [.undef], [.undef], [.undef], [.undef]], [none, none, none, none, none, some ⟨(.pair (.int .i64) (.pair (.int .i64) (.pair (.int .i64) (.pair (.int .i64) (.pair (.int .i64) .unit))))), bt4, []⟩, none, none, none, none, none, none, none, none, none, none, none, none, none, none, none, none, none]⟩
def schema_Find_x0_0 (t5 : Bool) (bt4 : (Int × Int × Int × Int × Int × Unit)) : State := ⟨[[.undef], [.undef], [.undef], [.undef], [.ptr 5 (.pair (.int .i64) (.pair (.int .i64) (.pair (.int .i64) (.pair (.int .i64) (.pair (.int .i64) .unit))))) []], [.dat .bool t5 []], [.undef], [.undef], [.undef], [.undef], [.undef], [.undef], [.undef], [.undef], [.undef], [.undef], [.undef], [.undef], [.undef], [.undef], [.undef], [.undef]], [none, none, none, none, none, some ⟨(.pair (.int .i64) (.pair (.int .i64) (.pair (.int .i64) (.pair (.int .i64) (.pair (.int .i64) .unit))))), bt4, []⟩, none, none, none, none, none, none, none, none, none, none, none, none, none, none, none, none, none]⟩
def schema_Find_x0_1 (bt4 : (Int × Int × Int × Int × Int × Unit)) : State := ⟨[[.undef], [.undef], [.undef], [.undef], [.ptr 5 (.pair (.int .i64) (.pair (.int .i64) (.pair (.int .i64) (.pair (.int .i64) (.pair (.int .i64) .unit))))) []], [.undef], [.undef], [.undef], [.undef], [.undef], [.undef], [.undef], [.undef], [.undef], [.undef], [.undef], [.undef], [.undef], [.undef], [.undef], [.undef], [.undef]], [none, none, none, none, none, some ⟨(.pair (.int .i64) (.pair (.int .i64) (.pair (.int .i64) (.pair (.int .i64) (.pair (.int .i64) .unit))))), bt4, []⟩, none, none, none, none, none, none, none, none, none, none, none, none, none, none, none, none, none]⟩
theorem schema_Find_t (R : Type) (kk : Nat) (s_0 : (Int × Int × (List (Int × Int × Int × Int × Int × Unit)) × Unit)) (no_1 : Int) (K : List SV → Option Box → Option R) : evFn schema_Find_E (Tb6 R) kk Try.f8 schema_Find_c [.dat (.pair (.int .i64) (.pair (.int .i64) (.pair (.sl 28 (.pair (.int .i64) (.pair (.int .i64) (.pair (.int .i64) (.pair (.int .i64) (.pair (.int .i64) .unit)))))) .unit))) s_0 [], .dat (.int .i64) no_1 []] none K =
  schema_Find_s0 s_0 no_1 (fun a0 a1 a2 a3 a4 => loopR (ev schema_Find_E (Tb6 R) kk (sub [1, 0, 1, 0, 0] schema_Find_c)) [1, 4, 9, 10, 11] [4, 5] kk (schema_Find_h0 a0 a1 a2 a3 a4) (kBlock 0 (kSeq schema_Find_E (Tb6 R) kk (sub [1, 1] schema_Find_c) (kFin schema_Find_E Try.f8.results.toList none K)))) := by kernel_rfl
theorem schema_Find_d0 (R : Type) (kk k : Nat) (no_1 : Int) (t9 : (List (Int × Int × Int × Int × Int × Unit))) (t10 : Int) (t11 : Int) (bt4 : (Int × Int × Int × Int × Int × Unit)) (K : Ex → State → Option R) : loopR (ev schema_Find_E (Tb6 R) kk (sub [1, 0, 1, 0, 0] schema_Find_c)) [1, 4, 9, 10, 11] [4, 5] (k + 1) (schema_Find_h0 no_1 t9 t10 t11 bt4) K =
  schema_Find_s1 no_1 t9 t10 t11 bt4 (fun a0 a1 => K .ret (schema_Find_x0_0 a0 a1)) (fun a0 a1 a2 a3 a4 => loopR (ev schema_Find_E (Tb6 R) kk (sub [1, 0, 1, 0, 0] schema_Find_c)) [1, 4, 9, 10, 11] [4, 5] k (schema_Find_h0 a0 a1 a2 a3 a4) K) (fun a0 => K (.exit 0) (schema_Find_x0_1 a0)) := by kernel_rfl
theorem schema_Find_y0_0 (R : Type) (kk : Nat) (t5 : Bool) (bt4 : (Int × Int × Int × Int × Int × Unit)) (K : List SV → Option Box → Option R) : (kBlock 0 (kSeq schema_Find_E (Tb6 R) kk (sub [1, 1] schema_Find_c) (kFin schema_Find_E Try.f8.results.toList none K))) .ret (schema_Find_x0_0 t5 bt4) =
  schema_Find_s2 t5 bt4 (fun a0 a1 => K [.dat (.pair (.int .i64) (.pair (.int .i64) (.pair (.int .i64) (.pair (.int .i64) (.pair (.int .i64) .unit))))) a0 [], .dat .bool a1 []] none) := by kernel_rfl
theorem schema_Find_y0_1 (R : Type) (kk : Nat) (bt4 : (Int × Int × Int × Int × Int × Unit)) (K : List SV → Option Box → Option R) : (kBlock 0 (kSeq schema_Find_E (Tb6 R) kk (sub [1, 1] schema_Find_c) (kFin schema_Find_E Try.f8.results.toList none K))) (.exit 0) (schema_Find_x0_1 bt4) =
  schema_Find_s3 bt4 (fun a0 a1 => K [.dat (.pair (.int .i64) (.pair (.int .i64) (.pair (.int .i64) (.pair (.int .i64) (.pair (.int .i64) .unit))))) a0 [], .dat .bool a1 []] none) := by kernel_rfl
theorem schema_Find_lp0 (R : Type) (k : Nat) (no_1 : Int) (t9 : (List (Int × Int × Int × Int × Int × Unit))) (t10 : Int) (t11 : Int) (bt4 : (Int × Int × Int × Int × Int × Unit)) (K : Ex → State → Option R) : loopR (ev schema_Find_E (Tb6 R) FUEL (sub [1, 0, 1, 0, 0] schema_Find_c)) [1, 4, 9, 10, 11] [4, 5] k (schema_Find_h0 no_1 t9 t10 t11 bt4) K = (schema_Find_l0 k no_1 t9 t10 t11 bt4).bind fun e => (Sum.elim (fun (we : (Bool × (Int × Int × Int × Int × Int × Unit))) => K .ret (schema_Find_x0_0 we.1 we.2)) (fun (we : (Int × Int × Int × Int × Int × Unit)) => K (.exit 0) (schema_Find_x0_1 we)) e) := by
  induction k generalizing no_1 t9 t10 t11 bt4 with
  | zero => rfl
  | succ k ih =>
    rw [schema_Find_d0]
    simp only [schema_Find_l0, schema_Find_s0_bind, schema_Find_s1_bind, schema_Find_s2_bind, schema_Find_s3_bind, ih, cond_bind, within_bind, none_bind, some_bind, sum_bind, bind_bind, Sum.elim_inl, Sum.elim_inr]
theorem schema_Find_eq (R : Type) (s_0 : (Int × Int × (List (Int × Int × Int × Int × Int × Unit)) × Unit)) (no_1 : Int) (K : List SV → Option Box → Option R) : evFn schema_Find_E (Tb6 R) FUEL Try.f8 schema_Find_c [.dat (.pair (.int .i64) (.pair (.int .i64) (.pair (.sl 28 (.pair (.int .i64) (.pair (.int .i64) (.pair (.int .i64) (.pair (.int .i64) (.pair (.int .i64) .unit)))))) .unit))) s_0 [], .dat (.int .i64) no_1 []] none K = (schema_Find s_0 no_1).bind fun r => K [.dat (.pair (.int .i64) (.pair (.int .i64) (.pair (.int .i64) (.pair (.int .i64) (.pair (.int .i64) .unit))))) r.1 [], .dat .bool r.2 []] none := by
  rw [schema_Find_t]
  simp only [schema_Find, schema_Find_s0_bind, schema_Find_s1_bind, schema_Find_s2_bind, schema_Find_s3_bind, schema_Find_lp0, schema_Find_y0_0, schema_Find_y0_1, cond_bind, within_bind, none_bind, some_bind, sum_bind, bind_bind, Sum.elim_inl, Sum.elim_inr]
def schema_Find_g : Pure := fun R l b K => noBox b (args2 (.pair (.int .i64) (.pair (.int .i64) (.pair (.sl 28 (.pair (.int .i64) (.pair (.int .i64) (.pair (.int .i64) (.pair (.int .i64) (.pair (.int .i64) .unit)))))) .unit))) (.int .i64) l (fun x0 x1 => (schema_Find x0 x1).bind fun r => K [.dat (.pair (.int .i64) (.pair (.int .i64) (.pair (.int .i64) (.pair (.int .i64) (.pair (.int .i64) .unit))))) r.1 [], .dat .bool r.2 []] none))
theorem schema_Find_n : schema_Find_g.Nat := fun R S l b F G K h => noBox_nat (args2_nat fun _ _ => bindr_nat fun _ => h _ _)
def Tb7 : Funs := Tb6.add 8 [(.pair (.int .i64) (.pair (.int .i64) (.pair (.sl 28 (.pair (.int .i64) (.pair (.int .i64) (.pair (.int .i64) (.pair (.int .i64) (.pair (.int .i64) .unit)))))) .unit))), (.int .i64)] schema_Find_g
theorem Tb7_nat : Tb7.Nat := add_nat Tb6_nat schema_Find_n
theorem Tb7_owes : ∀ f, Owes Try.prog Tb7 f := add_owes (E := schema_Find_E) (Tab.env_ok tab_ok _ _ _ _) mixed Tb6_nat Tb6_owes (fn := Try.f8) (code := schema_Find_c) Try.func8 (by kernel_rfl) (by kernel_rfl) fun l b r b' h => by
  obtain ⟨rfl, h⟩ := noBox_some h
  obtain ⟨x0, x1, h1, h2⟩ := own2 (E := schema_Find_E) rfl h
  exact ⟨FUEL, (h2 _ _ _ _ _ _).trans ((schema_Find_eq _ x0 x1 _).trans h1)⟩
noncomputable abbrev groatref13_Find_c : Code := Try.f9.body.getD .skip
def groatref13_Find_E : Env := tab.env (fun i => bif Nat.beq i 2 then [1, 2, 5] else []) (fun i => bif Nat.beq i 2 then [4] else []) [] [(.pair (.int .i64) (.pair (.int .i64) (.pair (.sl 28 (.pair (.int .i64) (.pair (.int .i64) (.pair (.int .i64) (.pair (.int .i64) (.pair (.int .i64) .unit)))))) .unit))), (.int .i64)]
def groatref13_Find_h0 (no_1 : Int) (t5 : Int) (bt2 : (Int × Int × (List (Int × Int × Int × Int × Int × Unit)) × Unit)) : State := ⟨[[.undef], [.dat (.int .i64) no_1 []], [.ptr 3 (.pair (.int .i64) (.pair (.int .i64) (.pair (.sl 28 (.pair (.int .i64) (.pair (.int .i64) (.pair (.int .i64) (.pair (.int .i64) (.pair (.int .i64) .unit)))))) .unit))) []], [.undef], [.undef], [.dat (.int .i64) t5 []], [.undef], [.undef], [.undef], [.undef], [.undef], [.undef], [.undef], [.undef], [.undef], [.undef], [.undef], [.undef], [.undef], [.undef], [.undef], [.undef]], [none, none, none, some ⟨(.pair (.int .i64) (.pair (.int .i64) (.pair (.sl 28 (.pair (.int .i64) (.pair (.int .i64) (.pair (.int .i64) (.pair (.int .i64) (.pair (.int .i64) .unit)))))) .unit))), bt2, []⟩, none, none, none, none, none, none, none, none, none, none, none, none, none, none, none, none, none, none, none]⟩
def groatref13_Find_x0_0 (t4 : Int) : State := ⟨[[.undef], [.undef], [.undef], [.undef], [.dat (.int .i64) t4 []], [.undef], [.undef], [.undef], [.undef], [.undef], [.undef], [.undef], [.undef], [.undef], [.undef], [.undef], [.undef], [.undef], [.undef], [.undef], [.undef], [.undef]], [none, none, none, none, none, none, none, none, none, none, none, none, none, none, none, none, none, none, none, none, none, none, none]⟩
def groatref13_Find_x0_1  : State := ⟨[[.undef], [.undef], [.undef], [.undef], [.undef], [.undef], [.undef], [.undef], [.undef], [.undef], [.undef], [.undef], [.undef], [.undef], [.undef], [.undef], [.undef], [.undef], [.undef], [.undef], [.undef], [.undef]], [none, none, none, none, none, none, none, none, none, none, none, none, none, none, none, none, none, none, none, none, none, none, none]⟩
theorem groatref13_Find_t (R : Type) (kk : Nat) (s_0 : (Int × Int × (List (Int × Int × Int × Int × Int × Unit)) × Unit)) (no_1 : Int) (K : List SV → Option Box → Option R) : evFn groatref13_Find_E (Tb7 R) kk Try.f9 groatref13_Find_c [.dat (.pair (.int .i64) (.pair (.int .i64) (.pair (.sl 28 (.pair (.int .i64) (.pair (.int .i64) (.pair (.int .i64) (.pair (.int .i64) (.pair (.int .i64) .unit)))))) .unit))) s_0 [], .dat (.int .i64) no_1 []] none K =
  groatref13_Find_s0 s_0 no_1 (fun a0 a1 a2 => loopR (ev groatref13_Find_E (Tb7 R) kk (sub [1, 0, 1, 0, 0] groatref13_Find_c)) [1, 2, 5] [4] kk (groatref13_Find_h0 a0 a1 a2) (kBlock 0 (kSeq groatref13_Find_E (Tb7 R) kk (sub [1, 1] groatref13_Find_c) (kFin groatref13_Find_E Try.f9.results.toList none K)))) := by kernel_rfl
theorem groatref13_Find_d0 (R : Type) (kk k : Nat) (no_1 : Int) (t5 : Int) (bt2 : (Int × Int × (List (Int × Int × Int × Int × Int × Unit)) × Unit)) (K : Ex → State → Option R) : loopR (ev groatref13_Find_E (Tb7 R) kk (sub [1, 0, 1, 0, 0] groatref13_Find_c)) [1, 2, 5] [4] (k + 1) (groatref13_Find_h0 no_1 t5 bt2) K =
  groatref13_Find_s1 no_1 t5 bt2 (fun a0 => K .ret (groatref13_Find_x0_0 a0)) (fun a0 a1 a2 => loopR (ev groatref13_Find_E (Tb7 R) kk (sub [1, 0, 1, 0, 0] groatref13_Find_c)) [1, 2, 5] [4] k (groatref13_Find_h0 a0 a1 a2) K) (K (.exit 0) (groatref13_Find_x0_1)) := by kernel_rfl
theorem groatref13_Find_y0_0 (R : Type) (kk : Nat) (t4 : Int) (K : List SV → Option Box → Option R) : (kBlock 0 (kSeq groatref13_Find_E (Tb7 R) kk (sub [1, 1] groatref13_Find_c) (kFin groatref13_Find_E Try.f9.results.toList none K))) .ret (groatref13_Find_x0_0 t4) =
  groatref13_Find_s2 t4 (fun a0 => K [.dat (.int .i64) a0 []] none) := by kernel_rfl
theorem groatref13_Find_y0_1 (R : Type) (kk : Nat)  (K : List SV → Option Box → Option R) : (kBlock 0 (kSeq groatref13_Find_E (Tb7 R) kk (sub [1, 1] groatref13_Find_c) (kFin groatref13_Find_E Try.f9.results.toList none K))) (.exit 0) (groatref13_Find_x0_1) =
  groatref13_Find_s3 (fun a0 => K [.dat (.int .i64) a0 []] none) := by kernel_rfl
theorem groatref13_Find_lp0 (R : Type) (k : Nat) (no_1 : Int) (t5 : Int) (bt2 : (Int × Int × (List (Int × Int × Int × Int × Int × Unit)) × Unit)) (K : Ex → State → Option R) : loopR (ev groatref13_Find_E (Tb7 R) FUEL (sub [1, 0, 1, 0, 0] groatref13_Find_c)) [1, 2, 5] [4] k (groatref13_Find_h0 no_1 t5 bt2) K = (groatref13_Find_l0 k no_1 t5 bt2).bind fun e => (Sum.elim (fun (we : Int) => K .ret (groatref13_Find_x0_0 we)) (fun (we : Unit) => K (.exit 0) (groatref13_Find_x0_1)) e) := by
  induction k generalizing no_1 t5 bt2 with
  | zero => rfl
  | succ k ih =>
    rw [groatref13_Find_d0]
    simp only [groatref13_Find_l0, groatref13_Find_s0_bind, groatref13_Find_s1_bind, groatref13_Find_s2_bind, groatref13_Find_s3_bind, ih, cond_bind, within_bind, none_bind, some_bind, sum_bind, bind_bind, Sum.elim_inl, Sum.elim_inr]
theorem groatref13_Find_eq (R : Type) (s_0 : (Int × Int × (List (Int × Int × Int × Int × Int × Unit)) × Unit)) (no_1 : Int) (K : List SV → Option Box → Option R) : evFn groatref13_Find_E (Tb7 R) FUEL Try.f9 groatref13_Find_c [.dat (.pair (.int .i64) (.pair (.int .i64) (.pair (.sl 28 (.pair (.int .i64) (.pair (.int .i64) (.pair (.int .i64) (.pair (.int .i64) (.pair (.int .i64) .unit)))))) .unit))) s_0 [], .dat (.int .i64) no_1 []] none K = (groatref13_Find s_0 no_1).bind fun r => K [.dat (.int .i64) r []] none := by
  rw [groatref13_Find_t]
  simp only [groatref13_Find, groatref13_Find_s0_bind, groatref13_Find_s1_bind, groatref13_Find_s2_bind, groatref13_Find_s3_bind, groatref13_Find_lp0, groatref13_Find_y0_0, groatref13_Find_y0_1, cond_bind, within_bind, none_bind, some_bind, sum_bind, bind_bind, Sum.elim_inl, Sum.elim_inr]
def groatref13_Find_g : Pure := fun R l b K => noBox b (args2 (.pair (.int .i64) (.pair (.int .i64) (.pair (.sl 28 (.pair (.int .i64) (.pair (.int .i64) (.pair (.int .i64) (.pair (.int .i64) (.pair (.int .i64) .unit)))))) .unit))) (.int .i64) l (fun x0 x1 => (groatref13_Find x0 x1).bind fun r => K [.dat (.int .i64) r []] none))
theorem groatref13_Find_n : groatref13_Find_g.Nat := fun R S l b F G K h => noBox_nat (args2_nat fun _ _ => bindr_nat fun _ => h _ _)
def Tb8 : Funs := Tb7.add 9 [(.pair (.int .i64) (.pair (.int .i64) (.pair (.sl 28 (.pair (.int .i64) (.pair (.int .i64) (.pair (.int .i64) (.pair (.int .i64) (.pair (.int .i64) .unit)))))) .unit))), (.int .i64)] groatref13_Find_g
theorem Tb8_nat : Tb8.Nat := add_nat Tb7_nat groatref13_Find_n
theorem Tb8_owes : ∀ f, Owes Try.prog Tb8 f := add_owes (E := groatref13_Find_E) (Tab.env_ok tab_ok _ _ _ _) mixed Tb7_nat Tb7_owes (fn := Try.f9) (code := groatref13_Find_c) Try.func9 (by kernel_rfl) (by kernel_rfl) fun l b r b' h => by
  obtain ⟨rfl, h⟩ := noBox_some h
  obtain ⟨x0, x1, h1, h2⟩ := own2 (E := groatref13_Find_E) rfl h
  exact ⟨FUEL, (h2 _ _ _ _ _ _).trans ((groatref13_Find_eq _ x0 x1 _).trans h1)⟩
noncomputable abbrev fields_bit_c : Code := Try.f24.body.getD .skip
def fields_bit_E : Env := tab.env (fun _ => []) (fun _ => []) [2] [(.int .i64)]
theorem fields_bit_t (R : Type) (kk : Nat) (n_0 : Int) (K : List SV → Option Box → Option R) : evFn fields_bit_E (Tb8 R) kk Try.f24 fields_bit_c [.dat (.int .i64) n_0 []] none K =
  fields_bit_s0 n_0 (fun a0 => K [.dat (.pair (.int .u64) (.pair (.int .u64) .unit)) a0 []] none) := by kernel_rfl
theorem fields_bit_eq (R : Type) (n_0 : Int) (K : List SV → Option Box → Option R) : evFn fields_bit_E (Tb8 R) FUEL Try.f24 fields_bit_c [.dat (.int .i64) n_0 []] none K = (fields_bit n_0).bind fun r => K [.dat (.pair (.int .u64) (.pair (.int .u64) .unit)) r []] none := by
  rw [fields_bit_t]
  simp only [fields_bit, fields_bit_s0_bind, cond_bind, within_bind, none_bind, some_bind, sum_bind, bind_bind, Sum.elim_inl, Sum.elim_inr]
def fields_bit_g : Pure := fun R l b K => noBox b (args1 (.int .i64) l (fun x0 => (fields_bit x0).bind fun r => K [.dat (.pair (.int .u64) (.pair (.int .u64) .unit)) r []] none))
theorem fields_bit_n : fields_bit_g.Nat := fun R S l b F G K h => noBox_nat (args1_nat fun _ => bindr_nat fun _ => h _ _)
def Tb9 : Funs := Tb8.add 24 [(.int .i64)] fields_bit_g
theorem Tb9_nat : Tb9.Nat := add_nat Tb8_nat fields_bit_n
theorem Tb9_owes : ∀ f, Owes Try.prog Tb9 f := add_owes (E := fields_bit_E) (Tab.env_ok tab_ok _ _ _ _) mixed Tb8_nat Tb8_owes (fn := Try.f24) (code := fields_bit_c) Try.func24 (by kernel_rfl) (by kernel_rfl) fun l b r b' h => by
  obtain ⟨rfl, h⟩ := noBox_some h
  obtain ⟨x0, h1, h2⟩ := own1 (E := fields_bit_E) rfl h
  exact ⟨FUEL, (h2 _ _ _ _ _ _).trans ((fields_bit_eq _ x0 _).trans h1)⟩
noncomputable abbrev fields_Set_Either_c : Code := Try.f31.body.getD .skip
def fields_Set_Either_E : Env := tab.env (fun _ => []) (fun _ => []) [4] [(.pair (.int .u64) (.pair (.int .u64) .unit)), (.pair (.int .u64) (.pair (.int .u64) .unit))]
theorem fields_Set_Either_t (R : Type) (kk : Nat) (s_0 : (Int × Int × Unit)) (t_1 : (Int × Int × Unit)) (K : List SV → Option Box → Option R) : evFn fields_Set_Either_E (Tb9 R) kk Try.f31 fields_Set_Either_c [.dat (.pair (.int .u64) (.pair (.int .u64) .unit)) s_0 [], .dat (.pair (.int .u64) (.pair (.int .u64) .unit)) t_1 []] none K =
  fields_Set_Either_s0 s_0 t_1 (fun a0 => K [.dat (.pair (.int .u64) (.pair (.int .u64) .unit)) a0 []] none) := by kernel_rfl
theorem fields_Set_Either_eq (R : Type) (s_0 : (Int × Int × Unit)) (t_1 : (Int × Int × Unit)) (K : List SV → Option Box → Option R) : evFn fields_Set_Either_E (Tb9 R) FUEL Try.f31 fields_Set_Either_c [.dat (.pair (.int .u64) (.pair (.int .u64) .unit)) s_0 [], .dat (.pair (.int .u64) (.pair (.int .u64) .unit)) t_1 []] none K = (fields_Set_Either s_0 t_1).bind fun r => K [.dat (.pair (.int .u64) (.pair (.int .u64) .unit)) r []] none := by
  rw [fields_Set_Either_t]
  simp only [fields_Set_Either, fields_Set_Either_s0_bind, cond_bind, within_bind, none_bind, some_bind, sum_bind, bind_bind, Sum.elim_inl, Sum.elim_inr]
def fields_Set_Either_g : Pure := fun R l b K => noBox b (args2 (.pair (.int .u64) (.pair (.int .u64) .unit)) (.pair (.int .u64) (.pair (.int .u64) .unit)) l (fun x0 x1 => (fields_Set_Either x0 x1).bind fun r => K [.dat (.pair (.int .u64) (.pair (.int .u64) .unit)) r []] none))
theorem fields_Set_Either_n : fields_Set_Either_g.Nat := fun R S l b F G K h => noBox_nat (args2_nat fun _ _ => bindr_nat fun _ => h _ _)
def Tb10 : Funs := Tb9.add 31 [(.pair (.int .u64) (.pair (.int .u64) .unit)), (.pair (.int .u64) (.pair (.int .u64) .unit))] fields_Set_Either_g
theorem Tb10_nat : Tb10.Nat := add_nat Tb9_nat fields_Set_Either_n
theorem Tb10_owes : ∀ f, Owes Try.prog Tb10 f := add_owes (E := fields_Set_Either_E) (Tab.env_ok tab_ok _ _ _ _) mixed Tb9_nat Tb9_owes (fn := Try.f31) (code := fields_Set_Either_c) Try.func31 (by kernel_rfl) (by kernel_rfl) fun l b r b' h => by
  obtain ⟨rfl, h⟩ := noBox_some h
  obtain ⟨x0, x1, h1, h2⟩ := own2 (E := fields_Set_Either_E) rfl h
  exact ⟨FUEL, (h2 _ _ _ _ _ _).trans ((fields_Set_Either_eq _ x0 x1 _).trans h1)⟩
noncomputable abbrev fields_Set_With_c : Code := Try.f28.body.getD .skip
def fields_Set_With_E : Env := tab.env (fun _ => []) (fun _ => []) [4] [(.pair (.int .u64) (.pair (.int .u64) .unit)), (.int .i64)]
theorem fields_Set_With_t (R : Type) (kk : Nat) (s_0 : (Int × Int × Unit)) (n_1 : Int) (K : List SV → Option Box → Option R) : evFn fields_Set_With_E (Tb10 R) kk Try.f28 fields_Set_With_c [.dat (.pair (.int .u64) (.pair (.int .u64) .unit)) s_0 [], .dat (.int .i64) n_1 []] none K =
  fields_Set_With_s0 s_0 n_1 (fun a0 => K [.dat (.pair (.int .u64) (.pair (.int .u64) .unit)) a0 []] none) := by kernel_rfl
theorem fields_Set_With_eq (R : Type) (s_0 : (Int × Int × Unit)) (n_1 : Int) (K : List SV → Option Box → Option R) : evFn fields_Set_With_E (Tb10 R) FUEL Try.f28 fields_Set_With_c [.dat (.pair (.int .u64) (.pair (.int .u64) .unit)) s_0 [], .dat (.int .i64) n_1 []] none K = (fields_Set_With s_0 n_1).bind fun r => K [.dat (.pair (.int .u64) (.pair (.int .u64) .unit)) r []] none := by
  rw [fields_Set_With_t]
  simp only [fields_Set_With, fields_Set_With_s0_bind, cond_bind, within_bind, none_bind, some_bind, sum_bind, bind_bind, Sum.elim_inl, Sum.elim_inr]
def fields_Set_With_g : Pure := fun R l b K => noBox b (args2 (.pair (.int .u64) (.pair (.int .u64) .unit)) (.int .i64) l (fun x0 x1 => (fields_Set_With x0 x1).bind fun r => K [.dat (.pair (.int .u64) (.pair (.int .u64) .unit)) r []] none))
theorem fields_Set_With_n : fields_Set_With_g.Nat := fun R S l b F G K h => noBox_nat (args2_nat fun _ _ => bindr_nat fun _ => h _ _)
def Tb11 : Funs := Tb10.add 28 [(.pair (.int .u64) (.pair (.int .u64) .unit)), (.int .i64)] fields_Set_With_g
theorem Tb11_nat : Tb11.Nat := add_nat Tb10_nat fields_Set_With_n
theorem Tb11_owes : ∀ f, Owes Try.prog Tb11 f := add_owes (E := fields_Set_With_E) (Tab.env_ok tab_ok _ _ _ _) mixed Tb10_nat Tb10_owes (fn := Try.f28) (code := fields_Set_With_c) Try.func28 (by kernel_rfl) (by kernel_rfl) fun l b r b' h => by
  obtain ⟨rfl, h⟩ := noBox_some h
  obtain ⟨x0, x1, h1, h2⟩ := own2 (E := fields_Set_With_E) rfl h
  exact ⟨FUEL, (h2 _ _ _ _ _ _).trans ((fields_Set_With_eq _ x0 x1 _).trans h1)⟩
noncomputable abbrev fields_Of_c : Code := Try.f22.body.getD .skip
def fields_Of_E : Env := tab.env (fun i => bif Nat.beq i 3 then [2, 3, 6, 7, 8] else []) (fun i => bif Nat.beq i 3 then [2, 3] else []) [2] [(.sl 3 (.int .i64))]
def fields_Of_h0 (t6 : (List Int)) (t7 : Int) (t8 : Int) (bt2 : (Int × Int × Unit)) (bt3 : (Int × Int × Unit)) : State := ⟨[[.undef], [.undef], [.ptr 3 (.pair (.int .u64) (.pair (.int .u64) .unit)) []], [.ptr 4 (.pair (.int .u64) (.pair (.int .u64) .unit)) []], [.undef], [.undef], [.dat (.sl 3 (.int .i64)) t6 []], [.dat (.int .i64) t7 []], [.dat (.int .i64) t8 []], [.undef], [.undef], [.undef], [.undef], [.undef], [.undef], [.undef], [.undef]], [none, none, none, some ⟨(.pair (.int .u64) (.pair (.int .u64) .unit)), bt2, []⟩, some ⟨(.pair (.int .u64) (.pair (.int .u64) .unit)), bt3, []⟩, none, none, none, none, none, none, none, none, none, none, none, none, none]⟩
def fields_Of_x0_0 (bt2 : (Int × Int × Unit)) (bt3 : (Int × Int × Unit)) : State := ⟨[[.undef], [.undef], [.ptr 3 (.pair (.int .u64) (.pair (.int .u64) .unit)) []], [.ptr 4 (.pair (.int .u64) (.pair (.int .u64) .unit)) []], [.undef], [.undef], [.undef], [.undef], [.undef], [.undef], [.undef], [.undef], [.undef], [.undef], [.undef], [.undef], [.undef]], [none, none, none, some ⟨(.pair (.int .u64) (.pair (.int .u64) .unit)), bt2, []⟩, some ⟨(.pair (.int .u64) (.pair (.int .u64) .unit)), bt3, []⟩, none, none, none, none, none, none, none, none, none, none, none, none, none]⟩
theorem fields_Of_t (R : Type) (kk : Nat) (n_0 : (List Int)) (K : List SV → Option Box → Option R) : evFn fields_Of_E (Tb11 R) kk Try.f22 fields_Of_c [.dat (.sl 3 (.int .i64)) n_0 []] none K =
  fields_Of_s0 n_0 (fun a0 a1 a2 a3 a4 => loopR (ev fields_Of_E (Tb11 R) kk (sub [1, 1, 0, 1, 0, 0] fields_Of_c)) [2, 3, 6, 7, 8] [2, 3] kk (fields_Of_h0 a0 a1 a2 a3 a4) (kBlock 0 (kSeq fields_Of_E (Tb11 R) kk (sub [1, 1, 1] fields_Of_c) (kFin fields_Of_E Try.f22.results.toList none K)))) := by kernel_rfl
theorem fields_Of_d0 (R : Type) (kk k : Nat) (t6 : (List Int)) (t7 : Int) (t8 : Int) (bt2 : (Int × Int × Unit)) (bt3 : (Int × Int × Unit)) (K : Ex → State → Option R) : loopR (ev fields_Of_E (Tb11 R) kk (sub [1, 1, 0, 1, 0, 0] fields_Of_c)) [2, 3, 6, 7, 8] [2, 3] (k + 1) (fields_Of_h0 t6 t7 t8 bt2 bt3) K =
  fields_Of_s1 t6 t7 t8 bt2 bt3 (fun a0 a1 a2 a3 a4 => loopR (ev fields_Of_E (Tb11 R) kk (sub [1, 1, 0, 1, 0, 0] fields_Of_c)) [2, 3, 6, 7, 8] [2, 3] k (fields_Of_h0 a0 a1 a2 a3 a4) K) (fun a0 a1 => K (.exit 0) (fields_Of_x0_0 a0 a1)) := by kernel_rfl
theorem fields_Of_y0_0 (R : Type) (kk : Nat) (bt2 : (Int × Int × Unit)) (bt3 : (Int × Int × Unit)) (K : List SV → Option Box → Option R) : (kBlock 0 (kSeq fields_Of_E (Tb11 R) kk (sub [1, 1, 1] fields_Of_c) (kFin fields_Of_E Try.f22.results.toList none K))) (.exit 0) (fields_Of_x0_0 bt2 bt3) =
  fields_Of_s2 bt2 bt3 (fun a0 => K [.dat (.pair (.int .u64) (.pair (.int .u64) .unit)) a0 []] none) := by kernel_rfl
theorem fields_Of_lp0 (R : Type) (k : Nat) (t6 : (List Int)) (t7 : Int) (t8 : Int) (bt2 : (Int × Int × Unit)) (bt3 : (Int × Int × Unit)) (K : Ex → State → Option R) : loopR (ev fields_Of_E (Tb11 R) FUEL (sub [1, 1, 0, 1, 0, 0] fields_Of_c)) [2, 3, 6, 7, 8] [2, 3] k (fields_Of_h0 t6 t7 t8 bt2 bt3) K = (fields_Of_l0 k t6 t7 t8 bt2 bt3).bind fun e => K (.exit 0) (fields_Of_x0_0 e.1 e.2) := by
  induction k generalizing t6 t7 t8 bt2 bt3 with
  | zero => rfl
  | succ k ih =>
    rw [fields_Of_d0]
    simp only [fields_Of_l0, fields_Of_s0_bind, fields_Of_s1_bind, fields_Of_s2_bind, ih, cond_bind, within_bind, none_bind, some_bind, sum_bind, bind_bind, Sum.elim_inl, Sum.elim_inr]
theorem fields_Of_eq (R : Type) (n_0 : (List Int)) (K : List SV → Option Box → Option R) : evFn fields_Of_E (Tb11 R) FUEL Try.f22 fields_Of_c [.dat (.sl 3 (.int .i64)) n_0 []] none K = (fields_Of n_0).bind fun r => K [.dat (.pair (.int .u64) (.pair (.int .u64) .unit)) r []] none := by
  rw [fields_Of_t]
  simp only [fields_Of, fields_Of_s0_bind, fields_Of_s1_bind, fields_Of_s2_bind, fields_Of_lp0, fields_Of_y0_0, cond_bind, within_bind, none_bind, some_bind, sum_bind, bind_bind, Sum.elim_inl, Sum.elim_inr]
def fields_Of_g : Pure := fun R l b K => noBox b (args1 (.sl 3 (.int .i64)) l (fun x0 => (fields_Of x0).bind fun r => K [.dat (.pair (.int .u64) (.pair (.int .u64) .unit)) r []] none))
theorem fields_Of_n : fields_Of_g.Nat := fun R S l b F G K h => noBox_nat (args1_nat fun _ => bindr_nat fun _ => h _ _)
def Tb12 : Funs := Tb11.add 22 [(.sl 3 (.int .i64))] fields_Of_g
theorem Tb12_nat : Tb12.Nat := add_nat Tb11_nat fields_Of_n
theorem Tb12_owes : ∀ f, Owes Try.prog Tb12 f := add_owes (E := fields_Of_E) (Tab.env_ok tab_ok _ _ _ _) mixed Tb11_nat Tb11_owes (fn := Try.f22) (code := fields_Of_c) Try.func22 (by kernel_rfl) (by kernel_rfl) fun l b r b' h => by
  obtain ⟨rfl, h⟩ := noBox_some h
  obtain ⟨x0, h1, h2⟩ := own1 (E := fields_Of_E) rfl h
  exact ⟨FUEL, (h2 _ _ _ _ _ _).trans ((fields_Of_eq _ x0 _).trans h1)⟩
noncomputable abbrev dialect_Lossless_c : Code := Try.f12.body.getD .skip
def dialect_Lossless_E : Env := tab.env (fun _ => []) (fun _ => []) [0] []
theorem dialect_Lossless_t (R : Type) (kk : Nat)  (K : List SV → Option Box → Option R) : evFn dialect_Lossless_E (Tb12 R) kk Try.f12 dialect_Lossless_c [] none K =
  dialect_Lossless_s0 (fun a0 => K [.dat (.pair (.int .u64) (.pair (.int .u64) .unit)) a0 []] none) := by kernel_rfl
theorem dialect_Lossless_eq (R : Type)  (K : List SV → Option Box → Option R) : evFn dialect_Lossless_E (Tb12 R) FUEL Try.f12 dialect_Lossless_c [] none K = (dialect_Lossless).bind fun r => K [.dat (.pair (.int .u64) (.pair (.int .u64) .unit)) r []] none := by
  rw [dialect_Lossless_t]
  simp only [dialect_Lossless, dialect_Lossless_s0_bind, cond_bind, within_bind, none_bind, some_bind, sum_bind, bind_bind, Sum.elim_inl, Sum.elim_inr]
def dialect_Lossless_g : Pure := fun R l b K => noBox b (args0 l ((dialect_Lossless).bind fun r => K [.dat (.pair (.int .u64) (.pair (.int .u64) .unit)) r []] none))
theorem dialect_Lossless_n : dialect_Lossless_g.Nat := fun R S l b F G K h => noBox_nat (args0_nat (bindr_nat fun _ => h _ _))
def Tb13 : Funs := Tb12.add 12 [] dialect_Lossless_g
theorem Tb13_nat : Tb13.Nat := add_nat Tb12_nat dialect_Lossless_n
theorem Tb13_owes : ∀ f, Owes Try.prog Tb13 f := add_owes (E := dialect_Lossless_E) (Tab.env_ok tab_ok _ _ _ _) mixed Tb12_nat Tb12_owes (fn := Try.f12) (code := dialect_Lossless_c) Try.func12 (by kernel_rfl) (by kernel_rfl) fun l b r b' h => by
  obtain ⟨rfl, h⟩ := noBox_some h
  obtain ⟨h1, h2⟩ := own0 (E := dialect_Lossless_E) rfl h
  exact ⟨FUEL, (h2 _ _ _ _ _ _).trans ((dialect_Lossless_eq _  _).trans h1)⟩
noncomputable abbrev fields_Set_Both_c : Code := Try.f23.body.getD .skip
def fields_Set_Both_E : Env := tab.env (fun _ => []) (fun _ => []) [4] [(.pair (.int .u64) (.pair (.int .u64) .unit)), (.pair (.int .u64) (.pair (.int .u64) .unit))]
theorem fields_Set_Both_t (R : Type) (kk : Nat) (s_0 : (Int × Int × Unit)) (t_1 : (Int × Int × Unit)) (K : List SV → Option Box → Option R) : evFn fields_Set_Both_E (Tb13 R) kk Try.f23 fields_Set_Both_c [.dat (.pair (.int .u64) (.pair (.int .u64) .unit)) s_0 [], .dat (.pair (.int .u64) (.pair (.int .u64) .unit)) t_1 []] none K =
  fields_Set_Both_s0 s_0 t_1 (fun a0 => K [.dat (.pair (.int .u64) (.pair (.int .u64) .unit)) a0 []] none) := by kernel_rfl
theorem fields_Set_Both_eq (R : Type) (s_0 : (Int × Int × Unit)) (t_1 : (Int × Int × Unit)) (K : List SV → Option Box → Option R) : evFn fields_Set_Both_E (Tb13 R) FUEL Try.f23 fields_Set_Both_c [.dat (.pair (.int .u64) (.pair (.int .u64) .unit)) s_0 [], .dat (.pair (.int .u64) (.pair (.int .u64) .unit)) t_1 []] none K = (fields_Set_Both s_0 t_1).bind fun r => K [.dat (.pair (.int .u64) (.pair (.int .u64) .unit)) r []] none := by
  rw [fields_Set_Both_t]
  simp only [fields_Set_Both, fields_Set_Both_s0_bind, cond_bind, within_bind, none_bind, some_bind, sum_bind, bind_bind, Sum.elim_inl, Sum.elim_inr]
def fields_Set_Both_g : Pure := fun R l b K => noBox b (args2 (.pair (.int .u64) (.pair (.int .u64) .unit)) (.pair (.int .u64) (.pair (.int .u64) .unit)) l (fun x0 x1 => (fields_Set_Both x0 x1).bind fun r => K [.dat (.pair (.int .u64) (.pair (.int .u64) .unit)) r []] none))
theorem fields_Set_Both_n : fields_Set_Both_g.Nat := fun R S l b F G K h => noBox_nat (args2_nat fun _ _ => bindr_nat fun _ => h _ _)
def Tb14 : Funs := Tb13.add 23 [(.pair (.int .u64) (.pair (.int .u64) .unit)), (.pair (.int .u64) (.pair (.int .u64) .unit))] fields_Set_Both_g
theorem Tb14_nat : Tb14.Nat := add_nat Tb13_nat fields_Set_Both_n
theorem Tb14_owes : ∀ f, Owes Try.prog Tb14 f := add_owes (E := fields_Set_Both_E) (Tab.env_ok tab_ok _ _ _ _) mixed Tb13_nat Tb13_owes (fn := Try.f23) (code := fields_Set_Both_c) Try.func23 (by kernel_rfl) (by kernel_rfl) fun l b r b' h => by
  obtain ⟨rfl, h⟩ := noBox_some h
  obtain ⟨x0, x1, h1, h2⟩ := own2 (E := fields_Set_Both_E) rfl h
  exact ⟨FUEL, (h2 _ _ _ _ _ _).trans ((fields_Set_Both_eq _ x0 x1 _).trans h1)⟩
noncomputable abbrev fields_Set_Has_c : Code := Try.f13.body.getD .skip
def fields_Set_Has_E : Env := tab.env (fun _ => []) (fun _ => []) [] [(.pair (.int .u64) (.pair (.int .u64) .unit)), (.int .i64)]
theorem fields_Set_Has_t (R : Type) (kk : Nat) (s_0 : (Int × Int × Unit)) (n_1 : Int) (K : List SV → Option Box → Option R) : evFn fields_Set_Has_E (Tb14 R) kk Try.f13 fields_Set_Has_c [.dat (.pair (.int .u64) (.pair (.int .u64) .unit)) s_0 [], .dat (.int .i64) n_1 []] none K =
  fields_Set_Has_s0 s_0 n_1 (fun a0 => K [.dat .bool a0 []] none) := by kernel_rfl
theorem fields_Set_Has_eq (R : Type) (s_0 : (Int × Int × Unit)) (n_1 : Int) (K : List SV → Option Box → Option R) : evFn fields_Set_Has_E (Tb14 R) FUEL Try.f13 fields_Set_Has_c [.dat (.pair (.int .u64) (.pair (.int .u64) .unit)) s_0 [], .dat (.int .i64) n_1 []] none K = (fields_Set_Has s_0 n_1).bind fun r => K [.dat .bool r []] none := by
  rw [fields_Set_Has_t]
  simp only [fields_Set_Has, fields_Set_Has_s0_bind, cond_bind, within_bind, none_bind, some_bind, sum_bind, bind_bind, Sum.elim_inl, Sum.elim_inr]
def fields_Set_Has_g : Pure := fun R l b K => noBox b (args2 (.pair (.int .u64) (.pair (.int .u64) .unit)) (.int .i64) l (fun x0 x1 => (fields_Set_Has x0 x1).bind fun r => K [.dat .bool r []] none))
theorem fields_Set_Has_n : fields_Set_Has_g.Nat := fun R S l b F G K h => noBox_nat (args2_nat fun _ _ => bindr_nat fun _ => h _ _)
def Tb15 : Funs := Tb14.add 13 [(.pair (.int .u64) (.pair (.int .u64) .unit)), (.int .i64)] fields_Set_Has_g
theorem Tb15_nat : Tb15.Nat := add_nat Tb14_nat fields_Set_Has_n
theorem Tb15_owes : ∀ f, Owes Try.prog Tb15 f := add_owes (E := fields_Set_Has_E) (Tab.env_ok tab_ok _ _ _ _) mixed Tb14_nat Tb14_owes (fn := Try.f13) (code := fields_Set_Has_c) Try.func13 (by kernel_rfl) (by kernel_rfl) fun l b r b' h => by
  obtain ⟨rfl, h⟩ := noBox_some h
  obtain ⟨x0, x1, h1, h2⟩ := own2 (E := fields_Set_Has_E) rfl h
  exact ⟨FUEL, (h2 _ _ _ _ _ _).trans ((fields_Set_Has_eq _ x0 x1 _).trans h1)⟩
noncomputable abbrev groatlaw14_awake_c : Code := Try.f10.body.getD .skip
def groatlaw14_awake_E : Env := tab.env (fun _ => []) (fun _ => []) [] []
theorem groatlaw14_awake_t (R : Type) (kk : Nat)  (K : List SV → Option Box → Option R) : evFn groatlaw14_awake_E (Tb15 R) kk Try.f10 groatlaw14_awake_c [] none K =
  groatlaw14_awake_s0 (fun a0 => K [.dat .bool a0 []] none) := by kernel_rfl
theorem groatlaw14_awake_eq (R : Type)  (K : List SV → Option Box → Option R) : evFn groatlaw14_awake_E (Tb15 R) FUEL Try.f10 groatlaw14_awake_c [] none K = (groatlaw14_awake).bind fun r => K [.dat .bool r []] none := by
  rw [groatlaw14_awake_t]
  simp only [groatlaw14_awake, groatlaw14_awake_s0_bind, cond_bind, within_bind, none_bind, some_bind, sum_bind, bind_bind, Sum.elim_inl, Sum.elim_inr]
def groatlaw14_awake_g : Pure := fun R l b K => noBox b (args0 l ((groatlaw14_awake).bind fun r => K [.dat .bool r []] none))
theorem groatlaw14_awake_n : groatlaw14_awake_g.Nat := fun R S l b F G K h => noBox_nat (args0_nat (bindr_nat fun _ => h _ _))
def Tb16 : Funs := Tb15.add 10 [] groatlaw14_awake_g
theorem Tb16_nat : Tb16.Nat := add_nat Tb15_nat groatlaw14_awake_n
theorem Tb16_owes : ∀ f, Owes Try.prog Tb16 f := add_owes (E := groatlaw14_awake_E) (Tab.env_ok tab_ok _ _ _ _) mixed Tb15_nat Tb15_owes (fn := Try.f10) (code := groatlaw14_awake_c) Try.func10 (by kernel_rfl) (by kernel_rfl) fun l b r b' h => by
  obtain ⟨rfl, h⟩ := noBox_some h
  obtain ⟨h1, h2⟩ := own0 (E := groatlaw14_awake_E) rfl h
  exact ⟨FUEL, (h2 _ _ _ _ _ _).trans ((groatlaw14_awake_eq _  _).trans h1)⟩
noncomputable abbrev groatref13_Same_c : Code := Try.f11.body.getD .skip
def groatref13_Same_E : Env := tab.env (fun i => bif Nat.beq i 4 then [2, 3, 5] else []) (fun i => bif Nat.beq i 4 then [4] else []) [] [(.pair (.int .i64) (.pair (.int .i64) (.pair (.sl 28 (.pair (.int .i64) (.pair (.int .i64) (.pair (.int .i64) (.pair (.int .i64) (.pair (.int .i64) .unit)))))) .unit))), (.pair (.int .i64) (.pair (.int .i64) (.pair (.sl 28 (.pair (.int .i64) (.pair (.int .i64) (.pair (.int .i64) (.pair (.int .i64) (.pair (.int .i64) .unit)))))) .unit)))]
def groatref13_Same_h0 (t5 : Int) (bt2 : (Int × Int × (List (Int × Int × Int × Int × Int × Unit)) × Unit)) (bt3 : (Int × Int × (List (Int × Int × Int × Int × Int × Unit)) × Unit)) : State := ⟨[[.undef], [.undef], [.ptr 3 (.pair (.int .i64) (.pair (.int .i64) (.pair (.sl 28 (.pair (.int .i64) (.pair (.int .i64) (.pair (.int .i64) (.pair (.int .i64) (.pair (.int .i64) .unit)))))) .unit))) []], [.ptr 4 (.pair (.int .i64) (.pair (.int .i64) (.pair (.sl 28 (.pair (.int .i64) (.pair (.int .i64) (.pair (.int .i64) (.pair (.int .i64) (.pair (.int .i64) .unit)))))) .unit))) []], [.undef], [.dat (.int .i64) t5 []], [.undef], [.undef], [.undef], [.undef], [.undef], [.undef], [.undef], [.undef], [.undef], [.undef], [.undef], [.undef], [.undef], [.undef], [.undef], [.undef], [.undef], [.undef], [.undef], [.undef], [.undef], [.undef], [.undef], [.undef], [.undef], [.undef], [.undef], [.undef], [.undef], [.undef], [.undef], [.undef], [.undef], [.undef], [.undef], [.undef], [.undef], [.undef], [.undef]], [none, none, none, some ⟨(.pair (.int .i64) (.pair (.int .i64) (.pair (.sl 28 (.pair (.int .i64) (.pair (.int .i64) (.pair (.int .i64) (.pair (.int .i64) (.pair (.int .i64) .unit)))))) .unit))), bt2, []⟩, some ⟨(.pair (.int .i64) (.pair (.int .i64) (.pair (.sl 28 (.pair (.int .i64) (.pair (.int .i64) (.pair (.int .i64) (.pair (.int .i64) (.pair (.int .i64) .unit)))))) .unit))), bt3, []⟩, none, none, none, none, none, none, none, none, none, none, none, none, none, none, none, none, none, none, none, none, none, none, none, none, none, none, none, none, none, none, none, none, none, none, none, none, none, none, none, none, none]⟩
def groatref13_Same_x0_0 (t4 : Bool) : State := ⟨[[.undef], [.undef], [.undef], [.undef], [.dat .bool t4 []], [.undef], [.undef], [.undef], [.undef], [.undef], [.undef], [.undef], [.undef], [.undef], [.undef], [.undef], [.undef], [.undef], [.undef], [.undef], [.undef], [.undef], [.undef], [.undef], [.undef], [.undef], [.undef], [.undef], [.undef], [.undef], [.undef], [.undef], [.undef], [.undef], [.undef], [.undef], [.undef], [.undef], [.undef], [.undef], [.undef], [.undef], [.undef], [.undef], [.undef]], [none, none, none, none, none, none, none, none, none, none, none, none, none, none, none, none, none, none, none, none, none, none, none, none, none, none, none, none, none, none, none, none, none, none, none, none, none, none, none, none, none, none, none, none, none, none]⟩
def groatref13_Same_x0_1  : State := ⟨[[.undef], [.undef], [.undef], [.undef], [.undef], [.undef], [.undef], [.undef], [.undef], [.undef], [.undef], [.undef], [.undef], [.undef], [.undef], [.undef], [.undef], [.undef], [.undef], [.undef], [.undef], [.undef], [.undef], [.undef], [.undef], [.undef], [.undef], [.undef], [.undef], [.undef], [.undef], [.undef], [.undef], [.undef], [.undef], [.undef], [.undef], [.undef], [.undef], [.undef], [.undef], [.undef], [.undef], [.undef], [.undef]], [none, none, none, none, none, none, none, none, none, none, none, none, none, none, none, none, none, none, none, none, none, none, none, none, none, none, none, none, none, none, none, none, none, none, none, none, none, none, none, none, none, none, none, none, none, none]⟩
theorem groatref13_Same_t (R : Type) (kk : Nat) (a_0 : (Int × Int × (List (Int × Int × Int × Int × Int × Unit)) × Unit)) (b_1 : (Int × Int × (List (Int × Int × Int × Int × Int × Unit)) × Unit)) (K : List SV → Option Box → Option R) : evFn groatref13_Same_E (Tb16 R) kk Try.f11 groatref13_Same_c [.dat (.pair (.int .i64) (.pair (.int .i64) (.pair (.sl 28 (.pair (.int .i64) (.pair (.int .i64) (.pair (.int .i64) (.pair (.int .i64) (.pair (.int .i64) .unit)))))) .unit))) a_0 [], .dat (.pair (.int .i64) (.pair (.int .i64) (.pair (.sl 28 (.pair (.int .i64) (.pair (.int .i64) (.pair (.int .i64) (.pair (.int .i64) (.pair (.int .i64) .unit)))))) .unit))) b_1 []] none K =
  groatref13_Same_s0 a_0 b_1 (fun a0 => K [.dat .bool a0 []] none) (fun a0 a1 a2 => loopR (ev groatref13_Same_E (Tb16 R) kk (sub [1, 1, 0, 1, 0, 0] groatref13_Same_c)) [2, 3, 5] [4] kk (groatref13_Same_h0 a0 a1 a2) (kBlock 0 (kSeq groatref13_Same_E (Tb16 R) kk (sub [1, 1, 1] groatref13_Same_c) (kFin groatref13_Same_E Try.f11.results.toList none K)))) := by kernel_rfl
theorem groatref13_Same_d0 (R : Type) (kk k : Nat) (t5 : Int) (bt2 : (Int × Int × (List (Int × Int × Int × Int × Int × Unit)) × Unit)) (bt3 : (Int × Int × (List (Int × Int × Int × Int × Int × Unit)) × Unit)) (K : Ex → State → Option R) : loopR (ev groatref13_Same_E (Tb16 R) kk (sub [1, 1, 0, 1, 0, 0] groatref13_Same_c)) [2, 3, 5] [4] (k + 1) (groatref13_Same_h0 t5 bt2 bt3) K =
  groatref13_Same_s1 t5 bt2 bt3 (fun a0 => K .ret (groatref13_Same_x0_0 a0)) (fun a0 a1 a2 => loopR (ev groatref13_Same_E (Tb16 R) kk (sub [1, 1, 0, 1, 0, 0] groatref13_Same_c)) [2, 3, 5] [4] k (groatref13_Same_h0 a0 a1 a2) K) (K (.exit 0) (groatref13_Same_x0_1)) := by kernel_rfl
theorem groatref13_Same_y0_0 (R : Type) (kk : Nat) (t4 : Bool) (K : List SV → Option Box → Option R) : (kBlock 0 (kSeq groatref13_Same_E (Tb16 R) kk (sub [1, 1, 1] groatref13_Same_c) (kFin groatref13_Same_E Try.f11.results.toList none K))) .ret (groatref13_Same_x0_0 t4) =
  groatref13_Same_s2 t4 (fun a0 => K [.dat .bool a0 []] none) := by kernel_rfl
theorem groatref13_Same_y0_1 (R : Type) (kk : Nat)  (K : List SV → Option Box → Option R) : (kBlock 0 (kSeq groatref13_Same_E (Tb16 R) kk (sub [1, 1, 1] groatref13_Same_c) (kFin groatref13_Same_E Try.f11.results.toList none K))) (.exit 0) (groatref13_Same_x0_1) =
  groatref13_Same_s3 (fun a0 => K [.dat .bool a0 []] none) := by kernel_rfl
theorem groatref13_Same_lp0 (R : Type) (k : Nat) (t5 : Int) (bt2 : (Int × Int × (List (Int × Int × Int × Int × Int × Unit)) × Unit)) (bt3 : (Int × Int × (List (Int × Int × Int × Int × Int × Unit)) × Unit)) (K : Ex → State → Option R) : loopR (ev groatref13_Same_E (Tb16 R) FUEL (sub [1, 1, 0, 1, 0, 0] groatref13_Same_c)) [2, 3, 5] [4] k (groatref13_Same_h0 t5 bt2 bt3) K = (groatref13_Same_l0 k t5 bt2 bt3).bind fun e => (Sum.elim (fun (we : Bool) => K .ret (groatref13_Same_x0_0 we)) (fun (we : Unit) => K (.exit 0) (groatref13_Same_x0_1)) e) := by
  induction k generalizing t5 bt2 bt3 with
  | zero => rfl
  | succ k ih =>
    rw [groatref13_Same_d0]
    simp only [groatref13_Same_l0, groatref13_Same_s0_bind, groatref13_Same_s1_bind, groatref13_Same_s2_bind, groatref13_Same_s3_bind, ih, cond_bind, within_bind, none_bind, some_bind, sum_bind, bind_bind, Sum.elim_inl, Sum.elim_inr]
theorem groatref13_Same_eq (R : Type) (a_0 : (Int × Int × (List (Int × Int × Int × Int × Int × Unit)) × Unit)) (b_1 : (Int × Int × (List (Int × Int × Int × Int × Int × Unit)) × Unit)) (K : List SV → Option Box → Option R) : evFn groatref13_Same_E (Tb16 R) FUEL Try.f11 groatref13_Same_c [.dat (.pair (.int .i64) (.pair (.int .i64) (.pair (.sl 28 (.pair (.int .i64) (.pair (.int .i64) (.pair (.int .i64) (.pair (.int .i64) (.pair (.int .i64) .unit)))))) .unit))) a_0 [], .dat (.pair (.int .i64) (.pair (.int .i64) (.pair (.sl 28 (.pair (.int .i64) (.pair (.int .i64) (.pair (.int .i64) (.pair (.int .i64) (.pair (.int .i64) .unit)))))) .unit))) b_1 []] none K = (groatref13_Same a_0 b_1).bind fun r => K [.dat .bool r []] none := by
  rw [groatref13_Same_t]
  simp only [groatref13_Same, groatref13_Same_s0_bind, groatref13_Same_s1_bind, groatref13_Same_s2_bind, groatref13_Same_s3_bind, groatref13_Same_lp0, groatref13_Same_y0_0, groatref13_Same_y0_1, cond_bind, within_bind, none_bind, some_bind, sum_bind, bind_bind, Sum.elim_inl, Sum.elim_inr]
def groatref13_Same_g : Pure := fun R l b K => noBox b (args2 (.pair (.int .i64) (.pair (.int .i64) (.pair (.sl 28 (.pair (.int .i64) (.pair (.int .i64) (.pair (.int .i64) (.pair (.int .i64) (.pair (.int .i64) .unit)))))) .unit))) (.pair (.int .i64) (.pair (.int .i64) (.pair (.sl 28 (.pair (.int .i64) (.pair (.int .i64) (.pair (.int .i64) (.pair (.int .i64) (.pair (.int .i64) .unit)))))) .unit))) l (fun x0 x1 => (groatref13_Same x0 x1).bind fun r => K [.dat .bool r []] none))
theorem groatref13_Same_n : groatref13_Same_g.Nat := fun R S l b F G K h => noBox_nat (args2_nat fun _ _ => bindr_nat fun _ => h _ _)
def Tb17 : Funs := Tb16.add 11 [(.pair (.int .i64) (.pair (.int .i64) (.pair (.sl 28 (.pair (.int .i64) (.pair (.int .i64) (.pair (.int .i64) (.pair (.int .i64) (.pair (.int .i64) .unit)))))) .unit))), (.pair (.int .i64) (.pair (.int .i64) (.pair (.sl 28 (.pair (.int .i64) (.pair (.int .i64) (.pair (.int .i64) (.pair (.int .i64) (.pair (.int .i64) .unit)))))) .unit)))] groatref13_Same_g
theorem Tb17_nat : Tb17.Nat := add_nat Tb16_nat groatref13_Same_n
theorem Tb17_owes : ∀ f, Owes Try.prog Tb17 f := add_owes (E := groatref13_Same_E) (Tab.env_ok tab_ok _ _ _ _) mixed Tb16_nat Tb16_owes (fn := Try.f11) (code := groatref13_Same_c) Try.func11 (by kernel_rfl) (by kernel_rfl) fun l b r b' h => by
  obtain ⟨rfl, h⟩ := noBox_some h
  obtain ⟨x0, x1, h1, h2⟩ := own2 (E := groatref13_Same_E) rfl h
  exact ⟨FUEL, (h2 _ _ _ _ _ _).trans ((groatref13_Same_eq _ x0 x1 _).trans h1)⟩
noncomputable abbrev groatlaw14_DialectFields_c : Code := Try.f3.body.getD .skip
def groatlaw14_DialectFields_E : Env := tab.env (fun _ => []) (fun _ => []) [] [.bool, (.int .i64)]
theorem groatlaw14_DialectFields_t (R : Type) (kk : Nat) (issuer_0 : Bool) (no_1 : Int) (K : List SV → Option Box → Option R) : evFn groatlaw14_DialectFields_E (Tb17 R) kk Try.f3 groatlaw14_DialectFields_c [.dat .bool issuer_0 [], .dat (.int .i64) no_1 []] none K =
  groatlaw14_DialectFields_s0 issuer_0 no_1 (fun a0 => K [.dat .bool a0 []] none) := by kernel_rfl
theorem groatlaw14_DialectFields_eq (R : Type) (issuer_0 : Bool) (no_1 : Int) (K : List SV → Option Box → Option R) : evFn groatlaw14_DialectFields_E (Tb17 R) FUEL Try.f3 groatlaw14_DialectFields_c [.dat .bool issuer_0 [], .dat (.int .i64) no_1 []] none K = (groatlaw14_DialectFields issuer_0 no_1).bind fun r => K [.dat .bool r []] none := by
  rw [groatlaw14_DialectFields_t]
  simp only [groatlaw14_DialectFields, groatlaw14_DialectFields_s0_bind, cond_bind, within_bind, none_bind, some_bind, sum_bind, bind_bind, Sum.elim_inl, Sum.elim_inr]
def groatlaw14_DialectFields_g : Pure := fun R l b K => noBox b (args2 .bool (.int .i64) l (fun x0 x1 => (groatlaw14_DialectFields x0 x1).bind fun r => K [.dat .bool r []] none))
theorem groatlaw14_DialectFields_n : groatlaw14_DialectFields_g.Nat := fun R S l b F G K h => noBox_nat (args2_nat fun _ _ => bindr_nat fun _ => h _ _)
def Tb18 : Funs := Tb17.add 3 [.bool, (.int .i64)] groatlaw14_DialectFields_g
theorem Tb18_nat : Tb18.Nat := add_nat Tb17_nat groatlaw14_DialectFields_n
theorem Tb18_owes : ∀ f, Owes Try.prog Tb18 f := add_owes (E := groatlaw14_DialectFields_E) (Tab.env_ok tab_ok _ _ _ _) mixed Tb17_nat Tb17_owes (fn := Try.f3) (code := groatlaw14_DialectFields_c) Try.func3 (by kernel_rfl) (by kernel_rfl) fun l b r b' h => by
  obtain ⟨rfl, h⟩ := noBox_some h
  obtain ⟨x0, x1, h1, h2⟩ := own2 (E := groatlaw14_DialectFields_E) rfl h
  exact ⟨FUEL, (h2 _ _ _ _ _ _).trans ((groatlaw14_DialectFields_eq _ x0 x1 _).trans h1)⟩
noncomputable abbrev groatref14_Lossless_c : Code := Try.f15.body.getD .skip
def groatref14_Lossless_E : Env := tab.env (fun _ => []) (fun _ => []) [] []
theorem groatref14_Lossless_t (R : Type) (kk : Nat)  (K : List SV → Option Box → Option R) : evFn groatref14_Lossless_E (Tb18 R) kk Try.f15 groatref14_Lossless_c [] none K =
  groatref14_Lossless_s0 (fun a0 => K [.dat (.sl 3 (.int .i64)) a0 [[]]] none) := by kernel_rfl
theorem groatref14_Lossless_eq (R : Type)  (K : List SV → Option Box → Option R) : evFn groatref14_Lossless_E (Tb18 R) FUEL Try.f15 groatref14_Lossless_c [] none K = (groatref14_Lossless).bind fun r => K [.dat (.sl 3 (.int .i64)) r [[]]] none := by
  rw [groatref14_Lossless_t]
  simp only [groatref14_Lossless, groatref14_Lossless_s0_bind, cond_bind, within_bind, none_bind, some_bind, sum_bind, bind_bind, Sum.elim_inl, Sum.elim_inr]
def groatref14_Lossless_g : Pure := fun R l b K => noBox b (args0 l ((groatref14_Lossless).bind fun r => K [.dat (.sl 3 (.int .i64)) r [[]]] none))
theorem groatref14_Lossless_n : groatref14_Lossless_g.Nat := fun R S l b F G K h => noBox_nat (args0_nat (bindr_nat fun _ => h _ _))
def Tb19 : Funs := Tb18.add 15 [] groatref14_Lossless_g
theorem Tb19_nat : Tb19.Nat := add_nat Tb18_nat groatref14_Lossless_n
theorem Tb19_owes : ∀ f, Owes Try.prog Tb19 f := add_owes (E := groatref14_Lossless_E) (Tab.env_ok tab_ok _ _ _ _) mixed Tb18_nat Tb18_owes (fn := Try.f15) (code := groatref14_Lossless_c) Try.func15 (by kernel_rfl) (by kernel_rfl) fun l b r b' h => by
  obtain ⟨rfl, h⟩ := noBox_some h
  obtain ⟨h1, h2⟩ := own0 (E := groatref14_Lossless_E) rfl h
  exact ⟨FUEL, (h2 _ _ _ _ _ _).trans ((groatref14_Lossless_eq _  _).trans h1)⟩
noncomputable abbrev groatref05_In_c : Code := Try.f14.body.getD .skip
def groatref05_In_E : Env := tab.env (fun i => bif Nat.beq i 2 then [0, 1, 5] else []) (fun i => bif Nat.beq i 2 then [4] else []) [] [(.sl 3 (.int .i64)), (.int .i64)]
def groatref05_In_h0 (l_0 : (List Int)) (n_1 : Int) (t5 : Int) : State := ⟨[[.dat (.sl 3 (.int .i64)) l_0 []], [.dat (.int .i64) n_1 []], [.undef], [.undef], [.undef], [.dat (.int .i64) t5 []], [.undef], [.undef], [.undef], [.undef], [.undef], [.undef], [.undef], [.undef], [.undef], [.undef], [.undef], [.undef]], [none, none, none, none, none, none, none, none, none, none, none, none, none, none, none, none, none, none, none]⟩
def groatref05_In_x0_0 (t4 : Bool) : State := ⟨[[.undef], [.undef], [.undef], [.undef], [.dat .bool t4 []], [.undef], [.undef], [.undef], [.undef], [.undef], [.undef], [.undef], [.undef], [.undef], [.undef], [.undef], [.undef], [.undef]], [none, none, none, none, none, none, none, none, none, none, none, none, none, none, none, none, none, none, none]⟩
def groatref05_In_x0_1  : State := ⟨[[.undef], [.undef], [.undef], [.undef], [.undef], [.undef], [.undef], [.undef], [.undef], [.undef], [.undef], [.undef], [.undef], [.undef], [.undef], [.undef], [.undef], [.undef]], [none, none, none, none, none, none, none, none, none, none, none, none, none, none, none, none, none, none, none]⟩
theorem groatref05_In_t (R : Type) (kk : Nat) (l_0 : (List Int)) (n_1 : Int) (K : List SV → Option Box → Option R) : evFn groatref05_In_E (Tb19 R) kk Try.f14 groatref05_In_c [.dat (.sl 3 (.int .i64)) l_0 [], .dat (.int .i64) n_1 []] none K =
  groatref05_In_s0 l_0 n_1 (fun a0 a1 a2 => loopR (ev groatref05_In_E (Tb19 R) kk (sub [1, 0, 1, 0, 0] groatref05_In_c)) [0, 1, 5] [4] kk (groatref05_In_h0 a0 a1 a2) (kBlock 0 (kSeq groatref05_In_E (Tb19 R) kk (sub [1, 1] groatref05_In_c) (kFin groatref05_In_E Try.f14.results.toList none K)))) := by kernel_rfl
theorem groatref05_In_d0 (R : Type) (kk k : Nat) (l_0 : (List Int)) (n_1 : Int) (t5 : Int) (K : Ex → State → Option R) : loopR (ev groatref05_In_E (Tb19 R) kk (sub [1, 0, 1, 0, 0] groatref05_In_c)) [0, 1, 5] [4] (k + 1) (groatref05_In_h0 l_0 n_1 t5) K =
  groatref05_In_s1 l_0 n_1 t5 (fun a0 => K .ret (groatref05_In_x0_0 a0)) (fun a0 a1 a2 => loopR (ev groatref05_In_E (Tb19 R) kk (sub [1, 0, 1, 0, 0] groatref05_In_c)) [0, 1, 5] [4] k (groatref05_In_h0 a0 a1 a2) K) (K (.exit 0) (groatref05_In_x0_1)) := by kernel_rfl
theorem groatref05_In_y0_0 (R : Type) (kk : Nat) (t4 : Bool) (K : List SV → Option Box → Option R) : (kBlock 0 (kSeq groatref05_In_E (Tb19 R) kk (sub [1, 1] groatref05_In_c) (kFin groatref05_In_E Try.f14.results.toList none K))) .ret (groatref05_In_x0_0 t4) =
  groatref05_In_s2 t4 (fun a0 => K [.dat .bool a0 []] none) := by kernel_rfl
theorem groatref05_In_y0_1 (R : Type) (kk : Nat)  (K : List SV → Option Box → Option R) : (kBlock 0 (kSeq groatref05_In_E (Tb19 R) kk (sub [1, 1] groatref05_In_c) (kFin groatref05_In_E Try.f14.results.toList none K))) (.exit 0) (groatref05_In_x0_1) =
  groatref05_In_s3 (fun a0 => K [.dat .bool a0 []] none) := by kernel_rfl
theorem groatref05_In_lp0 (R : Type) (k : Nat) (l_0 : (List Int)) (n_1 : Int) (t5 : Int) (K : Ex → State → Option R) : loopR (ev groatref05_In_E (Tb19 R) FUEL (sub [1, 0, 1, 0, 0] groatref05_In_c)) [0, 1, 5] [4] k (groatref05_In_h0 l_0 n_1 t5) K = (groatref05_In_l0 k l_0 n_1 t5).bind fun e => (Sum.elim (fun (we : Bool) => K .ret (groatref05_In_x0_0 we)) (fun (we : Unit) => K (.exit 0) (groatref05_In_x0_1)) e) := by
  induction k generalizing l_0 n_1 t5 with
  | zero => rfl
  | succ k ih =>
    rw [groatref05_In_d0]
    simp only [groatref05_In_l0, groatref05_In_s0_bind, groatref05_In_s1_bind, groatref05_In_s2_bind, groatref05_In_s3_bind, ih, cond_bind, within_bind, none_bind, some_bind, sum_bind, bind_bind, Sum.elim_inl, Sum.elim_inr]
theorem groatref05_In_eq (R : Type) (l_0 : (List Int)) (n_1 : Int) (K : List SV → Option Box → Option R) : evFn groatref05_In_E (Tb19 R) FUEL Try.f14 groatref05_In_c [.dat (.sl 3 (.int .i64)) l_0 [], .dat (.int .i64) n_1 []] none K = (groatref05_In l_0 n_1).bind fun r => K [.dat .bool r []] none := by
  rw [groatref05_In_t]
  simp only [groatref05_In, groatref05_In_s0_bind, groatref05_In_s1_bind, groatref05_In_s2_bind, groatref05_In_s3_bind, groatref05_In_lp0, groatref05_In_y0_0, groatref05_In_y0_1, cond_bind, within_bind, none_bind, some_bind, sum_bind, bind_bind, Sum.elim_inl, Sum.elim_inr]
def groatref05_In_g : Pure := fun R l b K => noBox b (args2 (.sl 3 (.int .i64)) (.int .i64) l (fun x0 x1 => (groatref05_In x0 x1).bind fun r => K [.dat .bool r []] none))
theorem groatref05_In_n : groatref05_In_g.Nat := fun R S l b F G K h => noBox_nat (args2_nat fun _ _ => bindr_nat fun _ => h _ _)
def Tb20 : Funs := Tb19.add 14 [(.sl 3 (.int .i64)), (.int .i64)] groatref05_In_g
theorem Tb20_nat : Tb20.Nat := add_nat Tb19_nat groatref05_In_n
theorem Tb20_owes : ∀ f, Owes Try.prog Tb20 f := add_owes (E := groatref05_In_E) (Tab.env_ok tab_ok _ _ _ _) mixed Tb19_nat Tb19_owes (fn := Try.f14) (code := groatref05_In_c) Try.func14 (by kernel_rfl) (by kernel_rfl) fun l b r b' h => by
  obtain ⟨rfl, h⟩ := noBox_some h
  obtain ⟨x0, x1, h1, h2⟩ := own2 (E := groatref05_In_E) rfl h
  exact ⟨FUEL, (h2 _ _ _ _ _ _).trans ((groatref05_In_eq _ x0 x1 _).trans h1)⟩
noncomputable abbrev groatlaw14_DialectLossless_c : Code := Try.f5.body.getD .skip
def groatlaw14_DialectLossless_E : Env := tab.env (fun _ => []) (fun _ => []) [] [(.int .i64)]
theorem groatlaw14_DialectLossless_t (R : Type) (kk : Nat) (no_0 : Int) (K : List SV → Option Box → Option R) : evFn groatlaw14_DialectLossless_E (Tb20 R) kk Try.f5 groatlaw14_DialectLossless_c [.dat (.int .i64) no_0 []] none K =
  groatlaw14_DialectLossless_s0 no_0 (fun a0 => K [.dat .bool a0 []] none) := by kernel_rfl
theorem groatlaw14_DialectLossless_eq (R : Type) (no_0 : Int) (K : List SV → Option Box → Option R) : evFn groatlaw14_DialectLossless_E (Tb20 R) FUEL Try.f5 groatlaw14_DialectLossless_c [.dat (.int .i64) no_0 []] none K = (groatlaw14_DialectLossless no_0).bind fun r => K [.dat .bool r []] none := by
  rw [groatlaw14_DialectLossless_t]
  simp only [groatlaw14_DialectLossless, groatlaw14_DialectLossless_s0_bind, cond_bind, within_bind, none_bind, some_bind, sum_bind, bind_bind, Sum.elim_inl, Sum.elim_inr]
def groatlaw14_DialectLossless_g : Pure := fun R l b K => noBox b (args1 (.int .i64) l (fun x0 => (groatlaw14_DialectLossless x0).bind fun r => K [.dat .bool r []] none))
theorem groatlaw14_DialectLossless_n : groatlaw14_DialectLossless_g.Nat := fun R S l b F G K h => noBox_nat (args1_nat fun _ => bindr_nat fun _ => h _ _)
def Tb21 : Funs := Tb20.add 5 [(.int .i64)] groatlaw14_DialectLossless_g
theorem Tb21_nat : Tb21.Nat := add_nat Tb20_nat groatlaw14_DialectLossless_n
theorem Tb21_owes : ∀ f, Owes Try.prog Tb21 f := add_owes (E := groatlaw14_DialectLossless_E) (Tab.env_ok tab_ok _ _ _ _) mixed Tb20_nat Tb20_owes (fn := Try.f5) (code := groatlaw14_DialectLossless_c) Try.func5 (by kernel_rfl) (by kernel_rfl) fun l b r b' h => by
  obtain ⟨rfl, h⟩ := noBox_some h
  obtain ⟨x0, h1, h2⟩ := own1 (E := groatlaw14_DialectLossless_E) rfl h
  exact ⟨FUEL, (h2 _ _ _ _ _ _).trans ((groatlaw14_DialectLossless_eq _ x0 _).trans h1)⟩
noncomputable abbrev class_sets_c : Code := Try.f32.body.getD .skip
def class_sets_E : Env := tab.env (fun _ => []) (fun _ => []) [] [(.int .i64)]
theorem class_sets_t (R : Type) (kk : Nat) (class_0 : Int) (K : List SV → Option Box → Option R) : evFn class_sets_E (Tb21 R) kk Try.f32 class_sets_c [.dat (.int .i64) class_0 []] none K =
  class_sets_s0 class_0 (fun a0 => K [.dat (.int .i64) a0 []] none) := by kernel_rfl
theorem class_sets_eq (R : Type) (class_0 : Int) (K : List SV → Option Box → Option R) : evFn class_sets_E (Tb21 R) FUEL Try.f32 class_sets_c [.dat (.int .i64) class_0 []] none K = (class_sets class_0).bind fun r => K [.dat (.int .i64) r []] none := by
  rw [class_sets_t]
  simp only [class_sets, class_sets_s0_bind, cond_bind, within_bind, none_bind, some_bind, sum_bind, bind_bind, Sum.elim_inl, Sum.elim_inr]
def class_sets_g : Pure := fun R l b K => noBox b (args1 (.int .i64) l (fun x0 => (class_sets x0).bind fun r => K [.dat (.int .i64) r []] none))
theorem class_sets_n : class_sets_g.Nat := fun R S l b F G K h => noBox_nat (args1_nat fun _ => bindr_nat fun _ => h _ _)
def Tb22 : Funs := Tb21.add 32 [(.int .i64)] class_sets_g
theorem Tb22_nat : Tb22.Nat := add_nat Tb21_nat class_sets_n
theorem Tb22_owes : ∀ f, Owes Try.prog Tb22 f := add_owes (E := class_sets_E) (Tab.env_ok tab_ok _ _ _ _) mixed Tb21_nat Tb21_owes (fn := Try.f32) (code := class_sets_c) Try.func32 (by kernel_rfl) (by kernel_rfl) fun l b r b' h => by
  obtain ⟨rfl, h⟩ := noBox_some h
  obtain ⟨x0, h1, h2⟩ := own1 (E := class_sets_E) rfl h
  exact ⟨FUEL, (h2 _ _ _ _ _ _).trans ((class_sets_eq _ x0 _).trans h1)⟩
noncomputable abbrev class_Known_c : Code := Try.f29.body.getD .skip
def class_Known_E : Env := tab.env (fun _ => []) (fun _ => []) [] [(.int .i64)]
theorem class_Known_t (R : Type) (kk : Nat) (class_0 : Int) (K : List SV → Option Box → Option R) : evFn class_Known_E (Tb22 R) kk Try.f29 class_Known_c [.dat (.int .i64) class_0 []] none K =
  class_Known_s0 class_0 (fun a0 => K [.dat .bool a0 []] none) := by kernel_rfl
theorem class_Known_eq (R : Type) (class_0 : Int) (K : List SV → Option Box → Option R) : evFn class_Known_E (Tb22 R) FUEL Try.f29 class_Known_c [.dat (.int .i64) class_0 []] none K = (class_Known class_0).bind fun r => K [.dat .bool r []] none := by
  rw [class_Known_t]
  simp only [class_Known, class_Known_s0_bind, cond_bind, within_bind, none_bind, some_bind, sum_bind, bind_bind, Sum.elim_inl, Sum.elim_inr]
def class_Known_g : Pure := fun R l b K => noBox b (args1 (.int .i64) l (fun x0 => (class_Known x0).bind fun r => K [.dat .bool r []] none))
theorem class_Known_n : class_Known_g.Nat := fun R S l b F G K h => noBox_nat (args1_nat fun _ => bindr_nat fun _ => h _ _)
def Tb23 : Funs := Tb22.add 29 [(.int .i64)] class_Known_g
theorem Tb23_nat : Tb23.Nat := add_nat Tb22_nat class_Known_n
theorem Tb23_owes : ∀ f, Owes Try.prog Tb23 f := add_owes (E := class_Known_E) (Tab.env_ok tab_ok _ _ _ _) mixed Tb22_nat Tb22_owes (fn := Try.f29) (code := class_Known_c) Try.func29 (by kernel_rfl) (by kernel_rfl) fun l b r b' h => by
  obtain ⟨rfl, h⟩ := noBox_some h
  obtain ⟨x0, h1, h2⟩ := own1 (E := class_Known_E) rfl h
  exact ⟨FUEL, (h2 _ _ _ _ _ _).trans ((class_Known_eq _ x0 _).trans h1)⟩
noncomputable abbrev prefix_width_c : Code := Try.f33.body.getD .skip
def prefix_width_E : Env := tab.env (fun _ => []) (fun _ => []) [] [(.int .i64)]
theorem prefix_width_t (R : Type) (kk : Nat) (form_0 : Int) (K : List SV → Option Box → Option R) : evFn prefix_width_E (Tb23 R) kk Try.f33 prefix_width_c [.dat (.int .i64) form_0 []] none K =
  prefix_width_s0 form_0 (fun a0 => K [.dat (.int .i64) a0 []] none) := by kernel_rfl
theorem prefix_width_eq (R : Type) (form_0 : Int) (K : List SV → Option Box → Option R) : evFn prefix_width_E (Tb23 R) FUEL Try.f33 prefix_width_c [.dat (.int .i64) form_0 []] none K = (prefix_width form_0).bind fun r => K [.dat (.int .i64) r []] none := by
  rw [prefix_width_t]
  simp only [prefix_width, prefix_width_s0_bind, cond_bind, within_bind, none_bind, some_bind, sum_bind, bind_bind, Sum.elim_inl, Sum.elim_inr]
def prefix_width_g : Pure := fun R l b K => noBox b (args1 (.int .i64) l (fun x0 => (prefix_width x0).bind fun r => K [.dat (.int .i64) r []] none))
theorem prefix_width_n : prefix_width_g.Nat := fun R S l b F G K h => noBox_nat (args1_nat fun _ => bindr_nat fun _ => h _ _)
def Tb24 : Funs := Tb23.add 33 [(.int .i64)] prefix_width_g
theorem Tb24_nat : Tb24.Nat := add_nat Tb23_nat prefix_width_n
theorem Tb24_owes : ∀ f, Owes Try.prog Tb24 f := add_owes (E := prefix_width_E) (Tab.env_ok tab_ok _ _ _ _) mixed Tb23_nat Tb23_owes (fn := Try.f33) (code := prefix_width_c) Try.func33 (by kernel_rfl) (by kernel_rfl) fun l b r b' h => by
  obtain ⟨rfl, h⟩ := noBox_some h
  obtain ⟨x0, h1, h2⟩ := own1 (E := prefix_width_E) rfl h
  exact ⟨FUEL, (h2 _ _ _ _ _ _).trans ((prefix_width_eq _ x0 _).trans h1)⟩
noncomputable abbrev prefix_Most_c : Code := Try.f30.body.getD .skip
def prefix_Most_E : Env := tab.env (fun i => bif Nat.beq i 3 then [3, 5, 6] else []) (fun i => bif Nat.beq i 3 then [3] else []) [] [(.int .i64)]
def prefix_Most_h0 (t3 : Int) (t5 : Int) (t6 : Int) : State := ⟨[[.undef], [.undef], [.undef], [.dat (.int .i64) t3 []], [.undef], [.dat (.int .i64) t5 []], [.dat (.int .i64) t6 []], [.undef], [.undef], [.undef], [.undef], [.undef], [.undef]], [none, none, none, none, none, none, none, none, none, none, none, none, none, none]⟩
def prefix_Most_x0_0 (t3 : Int) : State := ⟨[[.undef], [.undef], [.undef], [.dat (.int .i64) t3 []], [.undef], [.undef], [.undef], [.undef], [.undef], [.undef], [.undef], [.undef], [.undef]], [none, none, none, none, none, none, none, none, none, none, none, none, none, none]⟩
theorem prefix_Most_t (R : Type) (kk : Nat) (form_0 : Int) (K : List SV → Option Box → Option R) : evFn prefix_Most_E (Tb24 R) kk Try.f30 prefix_Most_c [.dat (.int .i64) form_0 []] none K =
  prefix_Most_s0 form_0 (fun a0 a1 a2 => loopR (ev prefix_Most_E (Tb24 R) kk (sub [1, 1, 0, 1, 0, 0] prefix_Most_c)) [3, 5, 6] [3] kk (prefix_Most_h0 a0 a1 a2) (kBlock 0 (kSeq prefix_Most_E (Tb24 R) kk (sub [1, 1, 1] prefix_Most_c) (kFin prefix_Most_E Try.f30.results.toList none K)))) := by kernel_rfl
theorem prefix_Most_d0 (R : Type) (kk k : Nat) (t3 : Int) (t5 : Int) (t6 : Int) (K : Ex → State → Option R) : loopR (ev prefix_Most_E (Tb24 R) kk (sub [1, 1, 0, 1, 0, 0] prefix_Most_c)) [3, 5, 6] [3] (k + 1) (prefix_Most_h0 t3 t5 t6) K =
  prefix_Most_s1 t3 t5 t6 (fun a0 a1 a2 => loopR (ev prefix_Most_E (Tb24 R) kk (sub [1, 1, 0, 1, 0, 0] prefix_Most_c)) [3, 5, 6] [3] k (prefix_Most_h0 a0 a1 a2) K) (fun a0 => K (.exit 0) (prefix_Most_x0_0 a0)) := by kernel_rfl
theorem prefix_Most_y0_0 (R : Type) (kk : Nat) (t3 : Int) (K : List SV → Option Box → Option R) : (kBlock 0 (kSeq prefix_Most_E (Tb24 R) kk (sub [1, 1, 1] prefix_Most_c) (kFin prefix_Most_E Try.f30.results.toList none K))) (.exit 0) (prefix_Most_x0_0 t3) =
  prefix_Most_s2 t3 (fun a0 => K [.dat (.int .i64) a0 []] none) := by kernel_rfl
theorem prefix_Most_lp0 (R : Type) (k : Nat) (t3 : Int) (t5 : Int) (t6 : Int) (K : Ex → State → Option R) : loopR (ev prefix_Most_E (Tb24 R) FUEL (sub [1, 1, 0, 1, 0, 0] prefix_Most_c)) [3, 5, 6] [3] k (prefix_Most_h0 t3 t5 t6) K = (prefix_Most_l0 k t3 t5 t6).bind fun e => K (.exit 0) (prefix_Most_x0_0 e) := by
  induction k generalizing t3 t5 t6 with
  | zero => rfl
  | succ k ih =>
    rw [prefix_Most_d0]
    simp only [prefix_Most_l0, prefix_Most_s0_bind, prefix_Most_s1_bind, prefix_Most_s2_bind, ih, cond_bind, within_bind, none_bind, some_bind, sum_bind, bind_bind, Sum.elim_inl, Sum.elim_inr]
theorem prefix_Most_eq (R : Type) (form_0 : Int) (K : List SV → Option Box → Option R) : evFn prefix_Most_E (Tb24 R) FUEL Try.f30 prefix_Most_c [.dat (.int .i64) form_0 []] none K = (prefix_Most form_0).bind fun r => K [.dat (.int .i64) r []] none := by
  rw [prefix_Most_t]
  simp only [prefix_Most, prefix_Most_s0_bind, prefix_Most_s1_bind, prefix_Most_s2_bind, prefix_Most_lp0, prefix_Most_y0_0, cond_bind, within_bind, none_bind, some_bind, sum_bind, bind_bind, Sum.elim_inl, Sum.elim_inr]
def prefix_Most_g : Pure := fun R l b K => noBox b (args1 (.int .i64) l (fun x0 => (prefix_Most x0).bind fun r => K [.dat (.int .i64) r []] none))
theorem prefix_Most_n : prefix_Most_g.Nat := fun R S l b F G K h => noBox_nat (args1_nat fun _ => bindr_nat fun _ => h _ _)
def Tb25 : Funs := Tb24.add 30 [(.int .i64)] prefix_Most_g
theorem Tb25_nat : Tb25.Nat := add_nat Tb24_nat prefix_Most_n
theorem Tb25_owes : ∀ f, Owes Try.prog Tb25 f := add_owes (E := prefix_Most_E) (Tab.env_ok tab_ok _ _ _ _) mixed Tb24_nat Tb24_owes (fn := Try.f30) (code := prefix_Most_c) Try.func30 (by kernel_rfl) (by kernel_rfl) fun l b r b' h => by
  obtain ⟨rfl, h⟩ := noBox_some h
  obtain ⟨x0, h1, h2⟩ := own1 (E := prefix_Most_E) rfl h
  exact ⟨FUEL, (h2 _ _ _ _ _ _).trans ((prefix_Most_eq _ x0 _).trans h1)⟩
noncomputable abbrev spec_Check_c : Code := Try.f26.body.getD .skip
def spec_Check_E : Env := tab.env (fun _ => []) (fun _ => []) [] [(.pair (.int .i64) (.pair (.int .i64) (.pair (.int .i64) (.pair (.int .i64) (.pair (.int .i64) .unit)))))]
theorem spec_Check_t (R : Type) (kk : Nat) (s_0 : (Int × Int × Int × Int × Int × Unit)) (K : List SV → Option Box → Option R) : evFn spec_Check_E (Tb25 R) kk Try.f26 spec_Check_c [.dat (.pair (.int .i64) (.pair (.int .i64) (.pair (.int .i64) (.pair (.int .i64) (.pair (.int .i64) .unit))))) s_0 []] none K =
  spec_Check_s0 s_0 (fun a0 => K [.dat (.int .i64) a0 []] none) := by kernel_rfl
theorem spec_Check_eq (R : Type) (s_0 : (Int × Int × Int × Int × Int × Unit)) (K : List SV → Option Box → Option R) : evFn spec_Check_E (Tb25 R) FUEL Try.f26 spec_Check_c [.dat (.pair (.int .i64) (.pair (.int .i64) (.pair (.int .i64) (.pair (.int .i64) (.pair (.int .i64) .unit))))) s_0 []] none K = (spec_Check s_0).bind fun r => K [.dat (.int .i64) r []] none := by
  rw [spec_Check_t]
  simp only [spec_Check, spec_Check_s0_bind, cond_bind, within_bind, none_bind, some_bind, sum_bind, bind_bind, Sum.elim_inl, Sum.elim_inr]
def spec_Check_g : Pure := fun R l b K => noBox b (args1 (.pair (.int .i64) (.pair (.int .i64) (.pair (.int .i64) (.pair (.int .i64) (.pair (.int .i64) .unit))))) l (fun x0 => (spec_Check x0).bind fun r => K [.dat (.int .i64) r []] none))
theorem spec_Check_n : spec_Check_g.Nat := fun R S l b F G K h => noBox_nat (args1_nat fun _ => bindr_nat fun _ => h _ _)
def Tb26 : Funs := Tb25.add 26 [(.pair (.int .i64) (.pair (.int .i64) (.pair (.int .i64) (.pair (.int .i64) (.pair (.int .i64) .unit)))))] spec_Check_g
theorem Tb26_nat : Tb26.Nat := add_nat Tb25_nat spec_Check_n
theorem Tb26_owes : ∀ f, Owes Try.prog Tb26 f := add_owes (E := spec_Check_E) (Tab.env_ok tab_ok _ _ _ _) mixed Tb25_nat Tb25_owes (fn := Try.f26) (code := spec_Check_c) Try.func26 (by kernel_rfl) (by kernel_rfl) fun l b r b' h => by
  obtain ⟨rfl, h⟩ := noBox_some h
  obtain ⟨x0, h1, h2⟩ := own1 (E := spec_Check_E) rfl h
  exact ⟨FUEL, (h2 _ _ _ _ _ _).trans ((spec_Check_eq _ x0 _).trans h1)⟩
noncomputable abbrev schema_Check_c : Code := Try.f18.body.getD .skip
def schema_Check_E : Env := tab.env (fun i => bif Nat.beq i 6 then [1, 26, 27, 28] else []) (fun i => bif Nat.beq i 6 then [2, 3] else []) [] [(.pair (.int .i64) (.pair (.int .i64) (.pair (.sl 28 (.pair (.int .i64) (.pair (.int .i64) (.pair (.int .i64) (.pair (.int .i64) (.pair (.int .i64) .unit)))))) .unit)))]
def schema_Check_h0 (t26 : (List (Int × Int × Int × Int × Int × Unit))) (t27 : Int) (t28 : Int) (bt1 : (Int × Int × (List (Int × Int × Int × Int × Int × Unit)) × Unit)) : State := ⟨[[.undef], [.ptr 2 (.pair (.int .i64) (.pair (.int .i64) (.pair (.sl 28 (.pair (.int .i64) (.pair (.int .i64) (.pair (.int .i64) (.pair (.int .i64) (.pair (.int .i64) .unit)))))) .unit))) []], [.undef], [.undef], [.undef], [.undef], [.undef], [.undef], [.undef], [.undef], [.undef], [.undef], [.undef], [.undef], [.undef], [.undef], [.undef], [.undef], [.undef], [.undef], [.undef], [.undef], [.undef], [.undef], [.undef], [.undef], [.dat (.sl 28 (.pair (.int .i64) (.pair (.int .i64) (.pair (.int .i64) (.pair (.int .i64) (.pair (.int .i64) .unit)))))) t26 []], [.dat (.int .i64) t27 []], [.dat (.int .i64) t28 []], [.undef], [.undef], [.undef], [.undef], [.undef], [.undef], [.undef], [.undef], [.undef], [.undef], [.undef], [.undef], [.undef], [.undef], [.undef], [.undef], [.undef], [.undef], [.undef], [.undef], [.undef], [.undef], [.undef], [.undef], [.undef], [.undef]], [none, none, some ⟨(.pair (.int .i64) (.pair (.int .i64) (.pair (.sl 28 (.pair (.int .i64) (.pair (.int .i64) (.pair (.int .i64) (.pair (.int .i64) (.pair (.int .i64) .unit)))))) .unit))), bt1, []⟩, none, none, none, none, none, none, none, none, none, none, none, none, none, none, none, none, none, none, none, none, none, none, none, none, none, none, none, none, none, none, none, none, none, none, none, none, none, none, none, none, none, none, none, none, none, none, none, none, none, none, none, none, none]⟩
def schema_Check_x0_0 (t2 : Int) (t3 : Int) : State := ⟨[[.undef], [.undef], [.dat (.int .i64) t2 []], [.dat (.int .i64) t3 []], [.undef], [.undef], [.undef], [.undef], [.undef], [.undef], [.undef], [.undef], [.undef], [.undef], [.undef], [.undef], [.undef], [.undef], [.undef], [.undef], [.undef], [.undef], [.undef], [.undef], [.undef], [.undef], [.undef], [.undef], [.undef], [.undef], [.undef], [.undef], [.undef], [.undef], [.undef], [.undef], [.undef], [.undef], [.undef], [.undef], [.undef], [.undef], [.undef], [.undef], [.undef], [.undef], [.undef], [.undef], [.undef], [.undef], [.undef], [.undef], [.undef], [.undef], [.undef]], [none, none, none, none, none, none, none, none, none, none, none, none, none, none, none, none, none, none, none, none, none, none, none, none, none, none, none, none, none, none, none, none, none, none, none, none, none, none, none, none, none, none, none, none, none, none, none, none, none, none, none, none, none, none, none, none]⟩
def schema_Check_x0_1  : State := ⟨[[.undef], [.undef], [.undef], [.undef], [.undef], [.undef], [.undef], [.undef], [.undef], [.undef], [.undef], [.undef], [.undef], [.undef], [.undef], [.undef], [.undef], [.undef], [.undef], [.undef], [.undef], [.undef], [.undef], [.undef], [.undef], [.undef], [.undef], [.undef], [.undef], [.undef], [.undef], [.undef], [.undef], [.undef], [.undef], [.undef], [.undef], [.undef], [.undef], [.undef], [.undef], [.undef], [.undef], [.undef], [.undef], [.undef], [.undef], [.undef], [.undef], [.undef], [.undef], [.undef], [.undef], [.undef], [.undef]], [none, none, none, none, none, none, none, none, none, none, none, none, none, none, none, none, none, none, none, none, none, none, none, none, none, none, none, none, none, none, none, none, none, none, none, none, none, none, none, none, none, none, none, none, none, none, none, none, none, none, none, none, none, none, none, none]⟩
theorem schema_Check_t (R : Type) (kk : Nat) (s_0 : (Int × Int × (List (Int × Int × Int × Int × Int × Unit)) × Unit)) (K : List SV → Option Box → Option R) : evFn schema_Check_E (Tb26 R) kk Try.f18 schema_Check_c [.dat (.pair (.int .i64) (.pair (.int .i64) (.pair (.sl 28 (.pair (.int .i64) (.pair (.int .i64) (.pair (.int .i64) (.pair (.int .i64) (.pair (.int .i64) .unit)))))) .unit))) s_0 []] none K =
  schema_Check_s0 s_0 (fun a0 a1 => K [.dat (.int .i64) a0 [], .dat (.int .i64) a1 []] none) (fun a0 a1 a2 a3 => loopR (ev schema_Check_E (Tb26 R) kk (sub [1, 1, 0, 1, 0, 0] schema_Check_c)) [1, 26, 27, 28] [2, 3] kk (schema_Check_h0 a0 a1 a2 a3) (kBlock 1 (kSeq schema_Check_E (Tb26 R) kk (sub [1, 1, 1] schema_Check_c) (kFin schema_Check_E Try.f18.results.toList none K)))) := by kernel_rfl
theorem schema_Check_d0 (R : Type) (kk k : Nat) (t26 : (List (Int × Int × Int × Int × Int × Unit))) (t27 : Int) (t28 : Int) (bt1 : (Int × Int × (List (Int × Int × Int × Int × Int × Unit)) × Unit)) (K : Ex → State → Option R) : loopR (ev schema_Check_E (Tb26 R) kk (sub [1, 1, 0, 1, 0, 0] schema_Check_c)) [1, 26, 27, 28] [2, 3] (k + 1) (schema_Check_h0 t26 t27 t28 bt1) K =
  schema_Check_s1 t26 t27 t28 bt1 (fun a0 a1 => K .ret (schema_Check_x0_0 a0 a1)) (fun a0 a1 a2 a3 => loopR (ev schema_Check_E (Tb26 R) kk (sub [1, 1, 0, 1, 0, 0] schema_Check_c)) [1, 26, 27, 28] [2, 3] k (schema_Check_h0 a0 a1 a2 a3) K) (K (.exit 1) (schema_Check_x0_1)) := by kernel_rfl
theorem schema_Check_y0_0 (R : Type) (kk : Nat) (t2 : Int) (t3 : Int) (K : List SV → Option Box → Option R) : (kBlock 1 (kSeq schema_Check_E (Tb26 R) kk (sub [1, 1, 1] schema_Check_c) (kFin schema_Check_E Try.f18.results.toList none K))) .ret (schema_Check_x0_0 t2 t3) =
  schema_Check_s2 t2 t3 (fun a0 a1 => K [.dat (.int .i64) a0 [], .dat (.int .i64) a1 []] none) := by kernel_rfl
theorem schema_Check_y0_1 (R : Type) (kk : Nat)  (K : List SV → Option Box → Option R) : (kBlock 1 (kSeq schema_Check_E (Tb26 R) kk (sub [1, 1, 1] schema_Check_c) (kFin schema_Check_E Try.f18.results.toList none K))) (.exit 1) (schema_Check_x0_1) =
  schema_Check_s3 (fun a0 a1 => K [.dat (.int .i64) a0 [], .dat (.int .i64) a1 []] none) := by kernel_rfl
theorem schema_Check_lp0 (R : Type) (k : Nat) (t26 : (List (Int × Int × Int × Int × Int × Unit))) (t27 : Int) (t28 : Int) (bt1 : (Int × Int × (List (Int × Int × Int × Int × Int × Unit)) × Unit)) (K : Ex → State → Option R) : loopR (ev schema_Check_E (Tb26 R) FUEL (sub [1, 1, 0, 1, 0, 0] schema_Check_c)) [1, 26, 27, 28] [2, 3] k (schema_Check_h0 t26 t27 t28 bt1) K = (schema_Check_l0 k t26 t27 t28 bt1).bind fun e => (Sum.elim (fun (we : (Int × Int)) => K .ret (schema_Check_x0_0 we.1 we.2)) (fun (we : Unit) => K (.exit 1) (schema_Check_x0_1)) e) := by
  induction k generalizing t26 t27 t28 bt1 with
  | zero => rfl
  | succ k ih =>
    rw [schema_Check_d0]
    simp only [schema_Check_l0, schema_Check_s0_bind, schema_Check_s1_bind, schema_Check_s2_bind, schema_Check_s3_bind, ih, cond_bind, within_bind, none_bind, some_bind, sum_bind, bind_bind, Sum.elim_inl, Sum.elim_inr]
theorem schema_Check_eq (R : Type) (s_0 : (Int × Int × (List (Int × Int × Int × Int × Int × Unit)) × Unit)) (K : List SV → Option Box → Option R) : evFn schema_Check_E (Tb26 R) FUEL Try.f18 schema_Check_c [.dat (.pair (.int .i64) (.pair (.int .i64) (.pair (.sl 28 (.pair (.int .i64) (.pair (.int .i64) (.pair (.int .i64) (.pair (.int .i64) (.pair (.int .i64) .unit)))))) .unit))) s_0 []] none K = (schema_Check s_0).bind fun r => K [.dat (.int .i64) r.1 [], .dat (.int .i64) r.2 []] none := by
  rw [schema_Check_t]
  simp only [schema_Check, schema_Check_s0_bind, schema_Check_s1_bind, schema_Check_s2_bind, schema_Check_s3_bind, schema_Check_lp0, schema_Check_y0_0, schema_Check_y0_1, cond_bind, within_bind, none_bind, some_bind, sum_bind, bind_bind, Sum.elim_inl, Sum.elim_inr]
def schema_Check_g : Pure := fun R l b K => noBox b (args1 (.pair (.int .i64) (.pair (.int .i64) (.pair (.sl 28 (.pair (.int .i64) (.pair (.int .i64) (.pair (.int .i64) (.pair (.int .i64) (.pair (.int .i64) .unit)))))) .unit))) l (fun x0 => (schema_Check x0).bind fun r => K [.dat (.int .i64) r.1 [], .dat (.int .i64) r.2 []] none))
theorem schema_Check_n : schema_Check_g.Nat := fun R S l b F G K h => noBox_nat (args1_nat fun _ => bindr_nat fun _ => h _ _)
def Tb27 : Funs := Tb26.add 18 [(.pair (.int .i64) (.pair (.int .i64) (.pair (.sl 28 (.pair (.int .i64) (.pair (.int .i64) (.pair (.int .i64) (.pair (.int .i64) (.pair (.int .i64) .unit)))))) .unit)))] schema_Check_g
theorem Tb27_nat : Tb27.Nat := add_nat Tb26_nat schema_Check_n
theorem Tb27_owes : ∀ f, Owes Try.prog Tb27 f := add_owes (E := schema_Check_E) (Tab.env_ok tab_ok _ _ _ _) mixed Tb26_nat Tb26_owes (fn := Try.f18) (code := schema_Check_c) Try.func18 (by kernel_rfl) (by kernel_rfl) fun l b r b' h => by
  obtain ⟨rfl, h⟩ := noBox_some h
  obtain ⟨x0, h1, h2⟩ := own1 (E := schema_Check_E) rfl h
  exact ⟨FUEL, (h2 _ _ _ _ _ _).trans ((schema_Check_eq _ x0 _).trans h1)⟩
noncomputable abbrev fields_Bits_c : Code := Try.f20.body.getD .skip
def fields_Bits_E : Env := tab.env (fun _ => []) (fun _ => []) [4] [(.int .u64), (.int .u64)]
theorem fields_Bits_t (R : Type) (kk : Nat) (high_0 : Int) (low_1 : Int) (K : List SV → Option Box → Option R) : evFn fields_Bits_E (Tb27 R) kk Try.f20 fields_Bits_c [.dat (.int .u64) high_0 [], .dat (.int .u64) low_1 []] none K =
  fields_Bits_s0 high_0 low_1 (fun a0 => K [.dat (.pair (.int .u64) (.pair (.int .u64) .unit)) a0 []] none) := by kernel_rfl
theorem fields_Bits_eq (R : Type) (high_0 : Int) (low_1 : Int) (K : List SV → Option Box → Option R) : evFn fields_Bits_E (Tb27 R) FUEL Try.f20 fields_Bits_c [.dat (.int .u64) high_0 [], .dat (.int .u64) low_1 []] none K = (fields_Bits high_0 low_1).bind fun r => K [.dat (.pair (.int .u64) (.pair (.int .u64) .unit)) r []] none := by
  rw [fields_Bits_t]
  simp only [fields_Bits, fields_Bits_s0_bind, cond_bind, within_bind, none_bind, some_bind, sum_bind, bind_bind, Sum.elim_inl, Sum.elim_inr]
def fields_Bits_g : Pure := fun R l b K => noBox b (args2 (.int .u64) (.int .u64) l (fun x0 x1 => (fields_Bits x0 x1).bind fun r => K [.dat (.pair (.int .u64) (.pair (.int .u64) .unit)) r []] none))
theorem fields_Bits_n : fields_Bits_g.Nat := fun R S l b F G K h => noBox_nat (args2_nat fun _ _ => bindr_nat fun _ => h _ _)
def Tb28 : Funs := Tb27.add 20 [(.int .u64), (.int .u64)] fields_Bits_g
theorem Tb28_nat : Tb28.Nat := add_nat Tb27_nat fields_Bits_n
theorem Tb28_owes : ∀ f, Owes Try.prog Tb28 f := add_owes (E := fields_Bits_E) (Tab.env_ok tab_ok _ _ _ _) mixed Tb27_nat Tb27_owes (fn := Try.f20) (code := fields_Bits_c) Try.func20 (by kernel_rfl) (by kernel_rfl) fun l b r b' h => by
  obtain ⟨rfl, h⟩ := noBox_some h
  obtain ⟨x0, x1, h1, h2⟩ := own2 (E := fields_Bits_E) rfl h
  exact ⟨FUEL, (h2 _ _ _ _ _ _).trans ((fields_Bits_eq _ x0 x1 _).trans h1)⟩
noncomputable abbrev schema_Restrict_c : Code := Try.f19.body.getD .skip
def schema_Restrict_E : Env := tab.env (fun i => bif Nat.beq i 5 then [3, 4, 5, 18, 19, 20] else []) (fun i => bif Nat.beq i 5 then [4, 5] else []) [4] [(.pair (.int .i64) (.pair (.int .i64) (.pair (.sl 28 (.pair (.int .i64) (.pair (.int .i64) (.pair (.int .i64) (.pair (.int .i64) (.pair (.int .i64) .unit)))))) .unit))), (.pair (.int .u64) (.pair (.int .u64) .unit))]
def schema_Restrict_h0 (t18 : (List (Int × Int × Int × Int × Int × Unit))) (t19 : Int) (t20 : Int) (bt3 : (Int × Int × Unit)) (bt4 : (Int × Int × (List (Int × Int × Int × Int × Int × Unit)) × Unit)) (bt5 : (Int × Int × (List (Int × Int × Int × Int × Int × Unit)) × Unit)) : State := ⟨[[.undef], [.undef], [.undef], [.ptr 4 (.pair (.int .u64) (.pair (.int .u64) .unit)) []], [.ptr 5 (.pair (.int .i64) (.pair (.int .i64) (.pair (.sl 28 (.pair (.int .i64) (.pair (.int .i64) (.pair (.int .i64) (.pair (.int .i64) (.pair (.int .i64) .unit)))))) .unit))) []], [.ptr 6 (.pair (.int .i64) (.pair (.int .i64) (.pair (.sl 28 (.pair (.int .i64) (.pair (.int .i64) (.pair (.int .i64) (.pair (.int .i64) (.pair (.int .i64) .unit)))))) .unit))) []], [.undef], [.undef], [.undef], [.undef], [.undef], [.undef], [.undef], [.undef], [.undef], [.undef], [.undef], [.undef], [.dat (.sl 28 (.pair (.int .i64) (.pair (.int .i64) (.pair (.int .i64) (.pair (.int .i64) (.pair (.int .i64) .unit)))))) t18 []], [.dat (.int .i64) t19 []], [.dat (.int .i64) t20 []], [.undef], [.undef], [.undef], [.undef], [.undef], [.undef], [.undef], [.undef], [.undef], [.undef], [.undef], [.undef], [.undef], [.undef], [.undef]], [none, none, none, none, some ⟨(.pair (.int .u64) (.pair (.int .u64) .unit)), bt3, []⟩, some ⟨(.pair (.int .i64) (.pair (.int .i64) (.pair (.sl 28 (.pair (.int .i64) (.pair (.int .i64) (.pair (.int .i64) (.pair (.int .i64) (.pair (.int .i64) .unit)))))) .unit))), bt4, [[2]]⟩, some ⟨(.pair (.int .i64) (.pair (.int .i64) (.pair (.sl 28 (.pair (.int .i64) (.pair (.int .i64) (.pair (.int .i64) (.pair (.int .i64) (.pair (.int .i64) .unit)))))) .unit))), bt5, [[2]]⟩, none, none, none, none, none, none, none, none, none, none, none, none, none, none, none, none, none, none, none, none, none, none, none, none, none, none, none, none, none, none]⟩
def schema_Restrict_x0_0 (bt4 : (Int × Int × (List (Int × Int × Int × Int × Int × Unit)) × Unit)) (bt5 : (Int × Int × (List (Int × Int × Int × Int × Int × Unit)) × Unit)) : State := ⟨[[.undef], [.undef], [.undef], [.undef], [.ptr 5 (.pair (.int .i64) (.pair (.int .i64) (.pair (.sl 28 (.pair (.int .i64) (.pair (.int .i64) (.pair (.int .i64) (.pair (.int .i64) (.pair (.int .i64) .unit)))))) .unit))) []], [.ptr 6 (.pair (.int .i64) (.pair (.int .i64) (.pair (.sl 28 (.pair (.int .i64) (.pair (.int .i64) (.pair (.int .i64) (.pair (.int .i64) (.pair (.int .i64) .unit)))))) .unit))) []], [.undef], [.undef], [.undef], [.undef], [.undef], [.undef], [.undef], [.undef], [.undef], [.undef], [.undef], [.undef], [.undef], [.undef], [.undef], [.undef], [.undef], [.undef], [.undef], [.undef], [.undef], [.undef], [.undef], [.undef], [.undef], [.undef], [.undef], [.undef], [.undef], [.undef]], [none, none, none, none, none, some ⟨(.pair (.int .i64) (.pair (.int .i64) (.pair (.sl 28 (.pair (.int .i64) (.pair (.int .i64) (.pair (.int .i64) (.pair (.int .i64) (.pair (.int .i64) .unit)))))) .unit))), bt4, [[2]]⟩, some ⟨(.pair (.int .i64) (.pair (.int .i64) (.pair (.sl 28 (.pair (.int .i64) (.pair (.int .i64) (.pair (.int .i64) (.pair (.int .i64) (.pair (.int .i64) .unit)))))) .unit))), bt5, [[2]]⟩, none, none, none, none, none, none, none, none, none, none, none, none, none, none, none, none, none, none, none, none, none, none, none, none, none, none, none, none, none, none]⟩
theorem schema_Restrict_t (R : Type) (kk : Nat) (s_0 : (Int × Int × (List (Int × Int × Int × Int × Int × Unit)) × Unit)) (keep_1 : (Int × Int × Unit)) (K : List SV → Option Box → Option R) : evFn schema_Restrict_E (Tb28 R) kk Try.f19 schema_Restrict_c [.dat (.pair (.int .i64) (.pair (.int .i64) (.pair (.sl 28 (.pair (.int .i64) (.pair (.int .i64) (.pair (.int .i64) (.pair (.int .i64) (.pair (.int .i64) .unit)))))) .unit))) s_0 [], .dat (.pair (.int .u64) (.pair (.int .u64) .unit)) keep_1 []] none K =
  schema_Restrict_s0 s_0 keep_1 (fun a0 => K [.dat (.pair (.int .i64) (.pair (.int .i64) (.pair (.sl 28 (.pair (.int .i64) (.pair (.int .i64) (.pair (.int .i64) (.pair (.int .i64) (.pair (.int .i64) .unit)))))) .unit))) a0 [[2]]] none) (fun a0 a1 a2 a3 a4 a5 => loopR (ev schema_Restrict_E (Tb28 R) kk (sub [1, 1, 1, 0, 1, 0, 0] schema_Restrict_c)) [3, 4, 5, 18, 19, 20] [4, 5] kk (schema_Restrict_h0 a0 a1 a2 a3 a4 a5) (kBlock 0 (kSeq schema_Restrict_E (Tb28 R) kk (sub [1, 1, 1, 1] schema_Restrict_c) (kFin schema_Restrict_E Try.f19.results.toList none K)))) := by kernel_rfl
theorem schema_Restrict_d0 (R : Type) (kk k : Nat) (t18 : (List (Int × Int × Int × Int × Int × Unit))) (t19 : Int) (t20 : Int) (bt3 : (Int × Int × Unit)) (bt4 : (Int × Int × (List (Int × Int × Int × Int × Int × Unit)) × Unit)) (bt5 : (Int × Int × (List (Int × Int × Int × Int × Int × Unit)) × Unit)) (K : Ex → State → Option R) : loopR (ev schema_Restrict_E (Tb28 R) kk (sub [1, 1, 1, 0, 1, 0, 0] schema_Restrict_c)) [3, 4, 5, 18, 19, 20] [4, 5] (k + 1) (schema_Restrict_h0 t18 t19 t20 bt3 bt4 bt5) K =
  schema_Restrict_s1 t18 t19 t20 bt3 bt4 bt5 (fun a0 a1 a2 a3 a4 a5 => loopR (ev schema_Restrict_E (Tb28 R) kk (sub [1, 1, 1, 0, 1, 0, 0] schema_Restrict_c)) [3, 4, 5, 18, 19, 20] [4, 5] k (schema_Restrict_h0 a0 a1 a2 a3 a4 a5) K) (fun a0 a1 => K (.exit 0) (schema_Restrict_x0_0 a0 a1)) := by kernel_rfl
theorem schema_Restrict_y0_0 (R : Type) (kk : Nat) (bt4 : (Int × Int × (List (Int × Int × Int × Int × Int × Unit)) × Unit)) (bt5 : (Int × Int × (List (Int × Int × Int × Int × Int × Unit)) × Unit)) (K : List SV → Option Box → Option R) : (kBlock 0 (kSeq schema_Restrict_E (Tb28 R) kk (sub [1, 1, 1, 1] schema_Restrict_c) (kFin schema_Restrict_E Try.f19.results.toList none K))) (.exit 0) (schema_Restrict_x0_0 bt4 bt5) =
  schema_Restrict_s2 bt4 bt5 (fun a0 => K [.dat (.pair (.int .i64) (.pair (.int .i64) (.pair (.sl 28 (.pair (.int .i64) (.pair (.int .i64) (.pair (.int .i64) (.pair (.int .i64) (.pair (.int .i64) .unit)))))) .unit))) a0 [[2]]] none) := by kernel_rfl
theorem schema_Restrict_lp0 (R : Type) (k : Nat) (t18 : (List (Int × Int × Int × Int × Int × Unit))) (t19 : Int) (t20 : Int) (bt3 : (Int × Int × Unit)) (bt4 : (Int × Int × (List (Int × Int × Int × Int × Int × Unit)) × Unit)) (bt5 : (Int × Int × (List (Int × Int × Int × Int × Int × Unit)) × Unit)) (K : Ex → State → Option R) : loopR (ev schema_Restrict_E (Tb28 R) FUEL (sub [1, 1, 1, 0, 1, 0, 0] schema_Restrict_c)) [3, 4, 5, 18, 19, 20] [4, 5] k (schema_Restrict_h0 t18 t19 t20 bt3 bt4 bt5) K = (schema_Restrict_l0 k t18 t19 t20 bt3 bt4 bt5).bind fun e => K (.exit 0) (schema_Restrict_x0_0 e.1 e.2) := by
  induction k generalizing t18 t19 t20 bt3 bt4 bt5 with
  | zero => rfl
  | succ k ih =>
    rw [schema_Restrict_d0]
    simp only [schema_Restrict_l0, schema_Restrict_s0_bind, schema_Restrict_s1_bind, schema_Restrict_s2_bind, ih, cond_bind, within_bind, none_bind, some_bind, sum_bind, bind_bind, Sum.elim_inl, Sum.elim_inr]
theorem schema_Restrict_eq (R : Type) (s_0 : (Int × Int × (List (Int × Int × Int × Int × Int × Unit)) × Unit)) (keep_1 : (Int × Int × Unit)) (K : List SV → Option Box → Option R) : evFn schema_Restrict_E (Tb28 R) FUEL Try.f19 schema_Restrict_c [.dat (.pair (.int .i64) (.pair (.int .i64) (.pair (.sl 28 (.pair (.int .i64) (.pair (.int .i64) (.pair (.int .i64) (.pair (.int .i64) (.pair (.int .i64) .unit)))))) .unit))) s_0 [], .dat (.pair (.int .u64) (.pair (.int .u64) .unit)) keep_1 []] none K = (schema_Restrict s_0 keep_1).bind fun r => K [.dat (.pair (.int .i64) (.pair (.int .i64) (.pair (.sl 28 (.pair (.int .i64) (.pair (.int .i64) (.pair (.int .i64) (.pair (.int .i64) (.pair (.int .i64) .unit)))))) .unit))) r [[2]]] none := by
  rw [schema_Restrict_t]
  simp only [schema_Restrict, schema_Restrict_s0_bind, schema_Restrict_s1_bind, schema_Restrict_s2_bind, schema_Restrict_lp0, schema_Restrict_y0_0, cond_bind, within_bind, none_bind, some_bind, sum_bind, bind_bind, Sum.elim_inl, Sum.elim_inr]
def schema_Restrict_g : Pure := fun R l b K => noBox b (args2 (.pair (.int .i64) (.pair (.int .i64) (.pair (.sl 28 (.pair (.int .i64) (.pair (.int .i64) (.pair (.int .i64) (.pair (.int .i64) (.pair (.int .i64) .unit)))))) .unit))) (.pair (.int .u64) (.pair (.int .u64) .unit)) l (fun x0 x1 => (schema_Restrict x0 x1).bind fun r => K [.dat (.pair (.int .i64) (.pair (.int .i64) (.pair (.sl 28 (.pair (.int .i64) (.pair (.int .i64) (.pair (.int .i64) (.pair (.int .i64) (.pair (.int .i64) .unit)))))) .unit))) r [[2]]] none))
theorem schema_Restrict_n : schema_Restrict_g.Nat := fun R S l b F G K h => noBox_nat (args2_nat fun _ _ => bindr_nat fun _ => h _ _)
def Tb29 : Funs := Tb28.add 19 [(.pair (.int .i64) (.pair (.int .i64) (.pair (.sl 28 (.pair (.int .i64) (.pair (.int .i64) (.pair (.int .i64) (.pair (.int .i64) (.pair (.int .i64) .unit)))))) .unit))), (.pair (.int .u64) (.pair (.int .u64) .unit))] schema_Restrict_g
theorem Tb29_nat : Tb29.Nat := add_nat Tb28_nat schema_Restrict_n
theorem Tb29_owes : ∀ f, Owes Try.prog Tb29 f := add_owes (E := schema_Restrict_E) (Tab.env_ok tab_ok _ _ _ _) mixed Tb28_nat Tb28_owes (fn := Try.f19) (code := schema_Restrict_c) Try.func19 (by kernel_rfl) (by kernel_rfl) fun l b r b' h => by
  obtain ⟨rfl, h⟩ := noBox_some h
  obtain ⟨x0, x1, h1, h2⟩ := own2 (E := schema_Restrict_E) rfl h
  exact ⟨FUEL, (h2 _ _ _ _ _ _).trans ((schema_Restrict_eq _ x0 x1 _).trans h1)⟩
noncomputable abbrev groatlaw14_DialectRight_c : Code := Try.f6.body.getD .skip
def groatlaw14_DialectRight_E : Env := tab.env (fun _ => []) (fun _ => []) [] [.bool, (.int .u64), (.int .u64)]
theorem groatlaw14_DialectRight_t (R : Type) (kk : Nat) (issuer_0 : Bool) (high_1 : Int) (low_2 : Int) (K : List SV → Option Box → Option R) : evFn groatlaw14_DialectRight_E (Tb29 R) kk Try.f6 groatlaw14_DialectRight_c [.dat .bool issuer_0 [], .dat (.int .u64) high_1 [], .dat (.int .u64) low_2 []] none K =
  groatlaw14_DialectRight_s0 issuer_0 high_1 low_2 (fun a0 => K [.dat .bool a0 []] none) := by kernel_rfl
theorem groatlaw14_DialectRight_eq (R : Type) (issuer_0 : Bool) (high_1 : Int) (low_2 : Int) (K : List SV → Option Box → Option R) : evFn groatlaw14_DialectRight_E (Tb29 R) FUEL Try.f6 groatlaw14_DialectRight_c [.dat .bool issuer_0 [], .dat (.int .u64) high_1 [], .dat (.int .u64) low_2 []] none K = (groatlaw14_DialectRight issuer_0 high_1 low_2).bind fun r => K [.dat .bool r []] none := by
  rw [groatlaw14_DialectRight_t]
  simp only [groatlaw14_DialectRight, groatlaw14_DialectRight_s0_bind, cond_bind, within_bind, none_bind, some_bind, sum_bind, bind_bind, Sum.elim_inl, Sum.elim_inr]
def groatlaw14_DialectRight_g : Pure := fun R l b K => noBox b (args3 .bool (.int .u64) (.int .u64) l (fun x0 x1 x2 => (groatlaw14_DialectRight x0 x1 x2).bind fun r => K [.dat .bool r []] none))
theorem groatlaw14_DialectRight_n : groatlaw14_DialectRight_g.Nat := fun R S l b F G K h => noBox_nat (args3_nat fun _ _ _ => bindr_nat fun _ => h _ _)
def Tb30 : Funs := Tb29.add 6 [.bool, (.int .u64), (.int .u64)] groatlaw14_DialectRight_g
theorem Tb30_nat : Tb30.Nat := add_nat Tb29_nat groatlaw14_DialectRight_n
theorem Tb30_owes : ∀ f, Owes Try.prog Tb30 f := add_owes (E := groatlaw14_DialectRight_E) (Tab.env_ok tab_ok _ _ _ _) mixed Tb29_nat Tb29_owes (fn := Try.f6) (code := groatlaw14_DialectRight_c) Try.func6 (by kernel_rfl) (by kernel_rfl) fun l b r b' h => by
  obtain ⟨rfl, h⟩ := noBox_some h
  obtain ⟨x0, x1, x2, h1, h2⟩ := own3 (E := groatlaw14_DialectRight_E) rfl h
  exact ⟨FUEL, (h2 _ _ _ _ _ _).trans ((groatlaw14_DialectRight_eq _ x0 x1 x2 _).trans h1)⟩
end Go.Proofs.Ytgkmbijfbdlhkaa
-- GD GDclass
-- GD GDdialect
-- GD GDfields
-- GD GDgroatlaw14
-- GD GDgroatref05
-- GD GDgroatref13
-- GD GDgroatref14
-- GD GDprefix
-- GD GDschema
-- GD GDspec
