/- No condition. -/
import Derived.Test.YthdphoohfdiodaaK3
import Derived.Test.YthdphoohfdiodaaProg
set_option linter.unusedVariables false
set_option linter.unusedSimpArgs false
set_option maxRecDepth 100000
namespace Go.Proofs.Ythdphoohfdiodaa
open Go Go.Ref Groat
abbrev y0 : Go.Ref.Ty := (.pair (.sl 44 (.pair .str (.pair .str .unit))) .unit)
abbrev y1 : Go.Ref.Ty := (.pair (.int .i64) (.pair (.int .i64) (.pair (.int .i64) .unit)))
abbrev y2 : Go.Ref.Ty := (.pair .str y0)
abbrev y3 : Go.Ref.Ty := (.pair (.int .i64) y1)
abbrev y4 : Go.Ref.Ty := (.pair (.int .i64) y2)
abbrev y5 : Go.Ref.Ty := (.pair (.int .i64) y3)
abbrev y6 : Go.Ref.Ty := (.pair (.int .i64) y4)
abbrev y7 : Go.Ref.Ty := (.pair (.int .i64) y6)
abbrev y8 : Go.Ref.Ty := (.pair (.sl 52 y5) .unit)
abbrev y9 : Go.Ref.Ty := (.pair (.int .i64) y8)
abbrev y10 : Go.Ref.Ty := (.pair (.sl 42 y7) .unit)
abbrev y11 : Go.Ref.Ty := (.pair (.int .i64) y9)
abbrev y12 : Go.Ref.Ty := (.pair (.sl 44 (.pair .str (.pair .str .unit))) y10)
def tys : List (Option Ty) := [none, none, some (.int .i64), some (.int .i64), some .bool, some (.int .u8), some (.int .u8), some (.pair (.int .i64) (.pair (.int .i64) (.pair .bool (.pair (.int .u8) .unit)))), some (.pair (.int .i64) (.pair (.int .i64) (.pair .bool (.pair (.int .u8) .unit)))), some .str, some .str, some .str, some (.int .u64), none, none, none, none, none, none, none, none, some (.int .i32), some (.sl 44 (.pair .str (.pair .str .unit))), some (.sl 42 y7), some y12, some y12, some (.sl 52 y5), some y11, some y11, some (.arr 2 y11), none, none, none, none, none, none, some (.int .i64), none, none, none, none, some y7, some y7, some (.pair .str (.pair .str .unit)), some (.pair .str (.pair .str .unit)), none, none, none, none, none, none, some y5, some y5, none, none, none, none, some (.sl 28 y11), none, none, none, none, some (.int .u64), some (.pair (.int .u64) (.pair (.int .u64) .unit)), some (.pair (.int .u64) (.pair (.int .u64) .unit)), none, none, none, some (.sl 70 (.sl 3 (.int .i64))), none, some (.sl 3 (.int .i64)), none, none, none, none, none, none, none, none, none, none, none, none, none, none, none, none, none, none, none, none, none, none, none, none, none, none, none, none, none, none, none, none, some (.sl 113 (.pair (.int .i64) (.pair .str .unit))), none, none, none, none, none, none, none, none, some (.pair (.int .i64) (.pair .str .unit)), some (.pair (.int .i64) (.pair .str .unit)), none, none, some (.int .u64), none, none, none, none, none, none, none, none, none, none, some (.int .u32), some (.int .u8), some (.int .u8), none, none, some (.int .i32), some (.int .i32), none, none, none]
def bts : List Nat := [0, 8, 8, 8, 1, 1, 1, 24, 24, 16, 16, 16, 8, 24, 24, 8, 8, 8, 8, 8, 16, 4, 24, 24, 48, 48, 24, 40, 40, 80, 8, 8, 8, 8, 8, 8, 8, 0, 8, 8, 8, 64, 64, 32, 32, 8, 8, 8, 8, 8, 8, 40, 40, 8, 8, 8, 8, 24, 0, 8, 8, 8, 8, 16, 16, 8, 8, 8, 24, 8, 24, 8, 8, 8, 0, 8, 0, 8, 0, 8, 8, 8, 8, 0, 8, 8, 0, 8, 8, 8, 8, 8, 8, 8, 0, 8, 8, 8, 8, 8, 8, 8, 8, 24, 0, 8, 8, 8, 8, 8, 0, 8, 24, 24, 0, 8, 8, 8, 8, 8, 8, 40, 40, 0, 0, 0, 8, 4, 1, 1, 8, 8, 4, 4, 48, 48, 8]
def pts : List Bool := [false, false, false, false, false, false, false, false, false, false, false, false, false, false, false, true, true, true, false, false, false, false, false, false, false, false, false, false, false, false, false, false, false, false, false, false, false, false, false, false, false, false, false, false, false, false, false, false, false, false, false, false, false, false, false, false, false, false, false, false, false, false, false, false, false, false, false, false, false, false, false, false, false, false, false, false, false, false, false, false, false, false, false, false, false, false, false, false, false, false, false, false, false, false, false, false, false, false, false, false, false, false, false, false, false, false, false, false, false, false, false, false, false, false, false, false, false, false, false, false, false, false, false, false, false, false, false, false, false, false, false, true, false, false, false, false, false]
def mps : List (TypeId × TypeId × TypeId) := [(60, 9, 4), (109, 3, 4)]
def tab : Tab := ⟨tys, bts, pts, mps⟩
theorem tab_ok : tab.ok Try.prog = true := by kernel_rfl
theorem mixed : Try.prog.follows .mixedOrders = true := by kernel_rfl
def Tb0 : Funs := Funs.none
theorem Tb0_nat : Tb0.Nat := none_nat
theorem Tb0_owes : ∀ f, Owes Try.prog Tb0 f := none_owes
noncomputable abbrev groatref14_both_c : Code := Try.f35.body.getD .skip
def groatref14_both_E : Env := tab.env (fun _ => []) (fun _ => []) [] []
theorem groatref14_both_t (R : Type) (kk : Nat)  (K : List SV → Option Box → Option R) : evFn groatref14_both_E (Tb0 R) kk Try.f35 groatref14_both_c [] none K =
  groatref14_both_s0 (fun a0 => K [.dat (.sl 70 (.sl 3 (.int .i64))) a0 [[]]] none) := by kernel_rfl
theorem groatref14_both_eq (R : Type)  (K : List SV → Option Box → Option R) : evFn groatref14_both_E (Tb0 R) FUEL Try.f35 groatref14_both_c [] none K = (groatref14_both).bind fun r => K [.dat (.sl 70 (.sl 3 (.int .i64))) r [[]]] none := by
  rw [groatref14_both_t]
  simp only [groatref14_both, groatref14_both_s0_bind, cond_bind, within_bind, none_bind, some_bind, sum_bind, bind_bind, Sum.elim_inl, Sum.elim_inr]
def groatref14_both_g : Pure := fun R l b K => noBox b (args0 l ((groatref14_both).bind fun r => K [.dat (.sl 70 (.sl 3 (.int .i64))) r [[]]] none))
theorem groatref14_both_n : groatref14_both_g.Nat := fun R S l b F G K h => noBox_nat (args0_nat (bindr_nat fun _ => h _ _))
def Tb1 : Funs := Tb0.add 35 [] groatref14_both_g
theorem Tb1_nat : Tb1.Nat := add_nat Tb0_nat groatref14_both_n
theorem Tb1_owes : ∀ f, Owes Try.prog Tb1 f := add_owes (E := groatref14_both_E) (Tab.env_ok tab_ok _ _ _ _) mixed Tb0_nat Tb0_owes (fn := Try.f35) (code := groatref14_both_c) Try.func35 (by kernel_rfl) (by kernel_rfl) fun l b r b' h => by
  obtain ⟨rfl, h⟩ := noBox_some h
  obtain ⟨h1, h2⟩ := own0 (E := groatref14_both_E) rfl h
  exact ⟨FUEL, (h2 _ _ _ _ _ _).trans ((groatref14_both_eq _  _).trans h1)⟩
noncomputable abbrev groatref14_Schema_c : Code := Try.f15.body.getD .skip
def groatref14_Schema_E : Env := tab.env (fun i => bif Nat.beq i 4 then [0, 2, 3, 4, 5] else []) (fun i => bif Nat.beq i 4 then [2, 3] else []) [2] [(.int .i64)]
def groatref14_Schema_h0 (which_0 : Int) (t4 : (List (List Int))) (t5 : Int) (bt2 : (Int × Int × (List (Int × Int × Int × Int × Int × Unit)) × Unit)) (bt3 : (Int × Int × (List (Int × Int × Int × Int × Int × Unit)) × Unit)) : State := ⟨[[.dat (.int .i64) which_0 []], [.undef], [.ptr 3 y11 []], [.ptr 4 y11 []], [.dat (.sl 70 (.sl 3 (.int .i64))) t4 [[]]], [.dat (.int .i64) t5 []], [.undef], [.undef], [.undef], [.undef], [.undef], [.undef], [.undef], [.undef], [.undef], [.undef], [.undef], [.undef], [.undef], [.undef], [.undef], [.undef], [.undef], [.undef], [.undef], [.undef], [.undef], [.undef], [.undef], [.undef], [.undef], [.undef], [.undef], [.undef], [.undef], [.undef], [.undef], [.undef], [.undef], [.undef], [.undef], [.undef], [.undef], [.undef], [.undef], [.undef], [.undef], [.undef], [.undef], [.undef], [.undef], [.undef], [.undef], [.undef], [.undef], [.undef], [.undef], [.undef]], [none, none, none, some ⟨y11, bt2, [[2]]⟩, some ⟨y11, bt3, [[2]]⟩, none, none, none, none, none, none, none, none, none, none, none, none, none, none, none, none, none, none, none, none, none, none, none, none, none, none, none, none, none, none, none, none, none, none, none, none, none, none, none, none, none, none, none, none, none, none, none, none, none, none, none, none, none, none]⟩
def groatref14_Schema_x0_0 (bt2 : (Int × Int × (List (Int × Int × Int × Int × Int × Unit)) × Unit)) (bt3 : (Int × Int × (List (Int × Int × Int × Int × Int × Unit)) × Unit)) : State := ⟨[[.undef], [.undef], [.ptr 3 y11 []], [.ptr 4 y11 []], [.undef], [.undef], [.undef], [.undef], [.undef], [.undef], [.undef], [.undef], [.undef], [.undef], [.undef], [.undef], [.undef], [.undef], [.undef], [.undef], [.undef], [.undef], [.undef], [.undef], [.undef], [.undef], [.undef], [.undef], [.undef], [.undef], [.undef], [.undef], [.undef], [.undef], [.undef], [.undef], [.undef], [.undef], [.undef], [.undef], [.undef], [.undef], [.undef], [.undef], [.undef], [.undef], [.undef], [.undef], [.undef], [.undef], [.undef], [.undef], [.undef], [.undef], [.undef], [.undef], [.undef], [.undef]], [none, none, none, some ⟨y11, bt2, [[2]]⟩, some ⟨y11, bt3, [[2]]⟩, none, none, none, none, none, none, none, none, none, none, none, none, none, none, none, none, none, none, none, none, none, none, none, none, none, none, none, none, none, none, none, none, none, none, none, none, none, none, none, none, none, none, none, none, none, none, none, none, none, none, none, none, none, none]⟩
theorem groatref14_Schema_t (R : Type) (kk : Nat) (which_0 : Int) (K : List SV → Option Box → Option R) : evFn groatref14_Schema_E (Tb1 R) kk Try.f15 groatref14_Schema_c [.dat (.int .i64) which_0 []] none K =
  groatref14_Schema_s0 which_0 (fun a0 a1 a2 a3 a4 => loopR (ev groatref14_Schema_E (Tb1 R) kk (sub [1, 1, 1, 0, 1, 0, 0] groatref14_Schema_c)) [0, 2, 3, 4, 5] [2, 3] kk (groatref14_Schema_h0 a0 a1 a2 a3 a4) (kBlock 0 (kSeq groatref14_Schema_E (Tb1 R) kk (sub [1, 1, 1, 1] groatref14_Schema_c) (kFin groatref14_Schema_E Try.f15.results.toList none K)))) := by kernel_rfl
theorem groatref14_Schema_d0 (R : Type) (kk k : Nat) (which_0 : Int) (t4 : (List (List Int))) (t5 : Int) (bt2 : (Int × Int × (List (Int × Int × Int × Int × Int × Unit)) × Unit)) (bt3 : (Int × Int × (List (Int × Int × Int × Int × Int × Unit)) × Unit)) (K : Ex → State → Option R) : loopR (ev groatref14_Schema_E (Tb1 R) kk (sub [1, 1, 1, 0, 1, 0, 0] groatref14_Schema_c)) [0, 2, 3, 4, 5] [2, 3] (k + 1) (groatref14_Schema_h0 which_0 t4 t5 bt2 bt3) K =
  groatref14_Schema_s1 which_0 t4 t5 bt2 bt3 (fun a0 a1 a2 a3 a4 => loopR (ev groatref14_Schema_E (Tb1 R) kk (sub [1, 1, 1, 0, 1, 0, 0] groatref14_Schema_c)) [0, 2, 3, 4, 5] [2, 3] k (groatref14_Schema_h0 a0 a1 a2 a3 a4) K) (fun a0 a1 => K (.exit 0) (groatref14_Schema_x0_0 a0 a1)) := by kernel_rfl
theorem groatref14_Schema_y0_0 (R : Type) (kk : Nat) (bt2 : (Int × Int × (List (Int × Int × Int × Int × Int × Unit)) × Unit)) (bt3 : (Int × Int × (List (Int × Int × Int × Int × Int × Unit)) × Unit)) (K : List SV → Option Box → Option R) : (kBlock 0 (kSeq groatref14_Schema_E (Tb1 R) kk (sub [1, 1, 1, 1] groatref14_Schema_c) (kFin groatref14_Schema_E Try.f15.results.toList none K))) (.exit 0) (groatref14_Schema_x0_0 bt2 bt3) =
  groatref14_Schema_s2 bt2 bt3 (fun a0 => K [.dat y11 a0 [[2]]] none) := by kernel_rfl
theorem groatref14_Schema_lp0 (R : Type) (k : Nat) (which_0 : Int) (t4 : (List (List Int))) (t5 : Int) (bt2 : (Int × Int × (List (Int × Int × Int × Int × Int × Unit)) × Unit)) (bt3 : (Int × Int × (List (Int × Int × Int × Int × Int × Unit)) × Unit)) (K : Ex → State → Option R) : loopR (ev groatref14_Schema_E (Tb1 R) FUEL (sub [1, 1, 1, 0, 1, 0, 0] groatref14_Schema_c)) [0, 2, 3, 4, 5] [2, 3] k (groatref14_Schema_h0 which_0 t4 t5 bt2 bt3) K = (groatref14_Schema_l0 k which_0 t4 t5 bt2 bt3).bind fun e => K (.exit 0) (groatref14_Schema_x0_0 e.1 e.2) := by
  induction k generalizing which_0 t4 t5 bt2 bt3 with
  | zero => rfl
  | succ k ih =>
    rw [groatref14_Schema_d0]
    simp only [groatref14_Schema_l0, groatref14_Schema_s0_bind, groatref14_Schema_s1_bind, groatref14_Schema_s2_bind, ih, cond_bind, within_bind, none_bind, some_bind, sum_bind, bind_bind, Sum.elim_inl, Sum.elim_inr]
theorem groatref14_Schema_eq (R : Type) (which_0 : Int) (K : List SV → Option Box → Option R) : evFn groatref14_Schema_E (Tb1 R) FUEL Try.f15 groatref14_Schema_c [.dat (.int .i64) which_0 []] none K = (groatref14_Schema which_0).bind fun r => K [.dat y11 r [[2]]] none := by
  rw [groatref14_Schema_t]
  simp only [groatref14_Schema, groatref14_Schema_s0_bind, groatref14_Schema_s1_bind, groatref14_Schema_s2_bind, groatref14_Schema_lp0, groatref14_Schema_y0_0, cond_bind, within_bind, none_bind, some_bind, sum_bind, bind_bind, Sum.elim_inl, Sum.elim_inr]
def groatref14_Schema_g : Pure := fun R l b K => noBox b (args1 (.int .i64) l (fun x0 => (groatref14_Schema x0).bind fun r => K [.dat y11 r [[2]]] none))
theorem groatref14_Schema_n : groatref14_Schema_g.Nat := fun R S l b F G K h => noBox_nat (args1_nat fun _ => bindr_nat fun _ => h _ _)
def Tb2 : Funs := Tb1.add 15 [(.int .i64)] groatref14_Schema_g
theorem Tb2_nat : Tb2.Nat := add_nat Tb1_nat groatref14_Schema_n
theorem Tb2_owes : ∀ f, Owes Try.prog Tb2 f := add_owes (E := groatref14_Schema_E) (Tab.env_ok tab_ok _ _ _ _) mixed Tb1_nat Tb1_owes (fn := Try.f15) (code := groatref14_Schema_c) Try.func15 (by kernel_rfl) (by kernel_rfl) fun l b r b' h => by
  obtain ⟨rfl, h⟩ := noBox_some h
  obtain ⟨x0, h1, h2⟩ := own1 (E := groatref14_Schema_E) rfl h
  exact ⟨FUEL, (h2 _ _ _ _ _ _).trans ((groatref14_Schema_eq _ x0 _).trans h1)⟩
noncomputable abbrev groatref14_Lossless_c : Code := Try.f36.body.getD .skip
def groatref14_Lossless_E : Env := tab.env (fun _ => []) (fun _ => []) [] []
theorem groatref14_Lossless_t (R : Type) (kk : Nat)  (K : List SV → Option Box → Option R) : evFn groatref14_Lossless_E (Tb2 R) kk Try.f36 groatref14_Lossless_c [] none K =
  groatref14_Lossless_s0 (fun a0 => K [.dat (.sl 3 (.int .i64)) a0 [[]]] none) := by kernel_rfl
theorem groatref14_Lossless_eq (R : Type)  (K : List SV → Option Box → Option R) : evFn groatref14_Lossless_E (Tb2 R) FUEL Try.f36 groatref14_Lossless_c [] none K = (groatref14_Lossless).bind fun r => K [.dat (.sl 3 (.int .i64)) r [[]]] none := by
  rw [groatref14_Lossless_t]
  simp only [groatref14_Lossless, groatref14_Lossless_s0_bind, cond_bind, within_bind, none_bind, some_bind, sum_bind, bind_bind, Sum.elim_inl, Sum.elim_inr]
def groatref14_Lossless_g : Pure := fun R l b K => noBox b (args0 l ((groatref14_Lossless).bind fun r => K [.dat (.sl 3 (.int .i64)) r [[]]] none))
theorem groatref14_Lossless_n : groatref14_Lossless_g.Nat := fun R S l b F G K h => noBox_nat (args0_nat (bindr_nat fun _ => h _ _))
def Tb3 : Funs := Tb2.add 36 [] groatref14_Lossless_g
theorem Tb3_nat : Tb3.Nat := add_nat Tb2_nat groatref14_Lossless_n
theorem Tb3_owes : ∀ f, Owes Try.prog Tb3 f := add_owes (E := groatref14_Lossless_E) (Tab.env_ok tab_ok _ _ _ _) mixed Tb2_nat Tb2_owes (fn := Try.f36) (code := groatref14_Lossless_c) Try.func36 (by kernel_rfl) (by kernel_rfl) fun l b r b' h => by
  obtain ⟨rfl, h⟩ := noBox_some h
  obtain ⟨h1, h2⟩ := own0 (E := groatref14_Lossless_E) rfl h
  exact ⟨FUEL, (h2 _ _ _ _ _ _).trans ((groatref14_Lossless_eq _  _).trans h1)⟩
noncomputable abbrev groatlaw22_lossless_c : Code := Try.f16.body.getD .skip
def groatlaw22_lossless_E : Env := tab.env (fun i => bif Nat.beq i 3 then [0, 1, 9, 10, 11] else []) (fun i => bif Nat.beq i 3 then [0, 1] else []) [0] []
def groatlaw22_lossless_h0 (t9 : (List Int)) (t10 : Int) (t11 : Int) (bt0 : ((List (ByteArray × ByteArray × Unit)) × (List (Int × Int × Int × ByteArray × (List (ByteArray × ByteArray × Unit)) × Unit)) × Unit)) (bt1 : ((List (ByteArray × ByteArray × Unit)) × (List (Int × Int × Int × ByteArray × (List (ByteArray × ByteArray × Unit)) × Unit)) × Unit)) : State := ⟨[[.ptr 1 y12 []], [.ptr 2 y12 []], [.undef], [.undef], [.undef], [.undef], [.undef], [.undef], [.undef], [.dat (.sl 3 (.int .i64)) t9 [[]]], [.dat (.int .i64) t10 []], [.dat (.int .i64) t11 []], [.undef], [.undef], [.undef], [.undef], [.undef], [.undef], [.undef], [.undef], [.undef], [.undef], [.undef], [.undef], [.undef], [.undef], [.undef], [.undef]], [none, some ⟨y12, bt0, [[0], [1]]⟩, some ⟨y12, bt1, [[0], [1]]⟩, none, none, none, none, none, none, none, none, none, none, none, none, none, none, none, none, none, none, none, none, none, none, none, none, none, none]⟩
def groatlaw22_lossless_x0_0 (bt0 : ((List (ByteArray × ByteArray × Unit)) × (List (Int × Int × Int × ByteArray × (List (ByteArray × ByteArray × Unit)) × Unit)) × Unit)) (bt1 : ((List (ByteArray × ByteArray × Unit)) × (List (Int × Int × Int × ByteArray × (List (ByteArray × ByteArray × Unit)) × Unit)) × Unit)) : State := ⟨[[.ptr 1 y12 []], [.ptr 2 y12 []], [.undef], [.undef], [.undef], [.undef], [.undef], [.undef], [.undef], [.undef], [.undef], [.undef], [.undef], [.undef], [.undef], [.undef], [.undef], [.undef], [.undef], [.undef], [.undef], [.undef], [.undef], [.undef], [.undef], [.undef], [.undef], [.undef]], [none, some ⟨y12, bt0, [[0], [1]]⟩, some ⟨y12, bt1, [[0], [1]]⟩, none, none, none, none, none, none, none, none, none, none, none, none, none, none, none, none, none, none, none, none, none, none, none, none, none, none]⟩
theorem groatlaw22_lossless_t (R : Type) (kk : Nat)  (K : List SV → Option Box → Option R) : evFn groatlaw22_lossless_E (Tb3 R) kk Try.f16 groatlaw22_lossless_c [] none K =
  groatlaw22_lossless_s0 (fun a0 a1 a2 a3 a4 => loopR (ev groatlaw22_lossless_E (Tb3 R) kk (sub [1, 1, 0, 1, 0, 0] groatlaw22_lossless_c)) [0, 1, 9, 10, 11] [0, 1] kk (groatlaw22_lossless_h0 a0 a1 a2 a3 a4) (kBlock 0 (kSeq groatlaw22_lossless_E (Tb3 R) kk (sub [1, 1, 1] groatlaw22_lossless_c) (kFin groatlaw22_lossless_E Try.f16.results.toList none K)))) := by kernel_rfl
theorem groatlaw22_lossless_d0 (R : Type) (kk k : Nat) (t9 : (List Int)) (t10 : Int) (t11 : Int) (bt0 : ((List (ByteArray × ByteArray × Unit)) × (List (Int × Int × Int × ByteArray × (List (ByteArray × ByteArray × Unit)) × Unit)) × Unit)) (bt1 : ((List (ByteArray × ByteArray × Unit)) × (List (Int × Int × Int × ByteArray × (List (ByteArray × ByteArray × Unit)) × Unit)) × Unit)) (K : Ex → State → Option R) : loopR (ev groatlaw22_lossless_E (Tb3 R) kk (sub [1, 1, 0, 1, 0, 0] groatlaw22_lossless_c)) [0, 1, 9, 10, 11] [0, 1] (k + 1) (groatlaw22_lossless_h0 t9 t10 t11 bt0 bt1) K =
  groatlaw22_lossless_s1 t9 t10 t11 bt0 bt1 (fun a0 a1 a2 a3 a4 => loopR (ev groatlaw22_lossless_E (Tb3 R) kk (sub [1, 1, 0, 1, 0, 0] groatlaw22_lossless_c)) [0, 1, 9, 10, 11] [0, 1] k (groatlaw22_lossless_h0 a0 a1 a2 a3 a4) K) (fun a0 a1 => K (.exit 0) (groatlaw22_lossless_x0_0 a0 a1)) := by kernel_rfl
theorem groatlaw22_lossless_y0_0 (R : Type) (kk : Nat) (bt0 : ((List (ByteArray × ByteArray × Unit)) × (List (Int × Int × Int × ByteArray × (List (ByteArray × ByteArray × Unit)) × Unit)) × Unit)) (bt1 : ((List (ByteArray × ByteArray × Unit)) × (List (Int × Int × Int × ByteArray × (List (ByteArray × ByteArray × Unit)) × Unit)) × Unit)) (K : List SV → Option Box → Option R) : (kBlock 0 (kSeq groatlaw22_lossless_E (Tb3 R) kk (sub [1, 1, 1] groatlaw22_lossless_c) (kFin groatlaw22_lossless_E Try.f16.results.toList none K))) (.exit 0) (groatlaw22_lossless_x0_0 bt0 bt1) =
  groatlaw22_lossless_s2 bt0 bt1 (fun a0 => K [.dat y12 a0 [[0], [1]]] none) := by kernel_rfl
theorem groatlaw22_lossless_lp0 (R : Type) (k : Nat) (t9 : (List Int)) (t10 : Int) (t11 : Int) (bt0 : ((List (ByteArray × ByteArray × Unit)) × (List (Int × Int × Int × ByteArray × (List (ByteArray × ByteArray × Unit)) × Unit)) × Unit)) (bt1 : ((List (ByteArray × ByteArray × Unit)) × (List (Int × Int × Int × ByteArray × (List (ByteArray × ByteArray × Unit)) × Unit)) × Unit)) (K : Ex → State → Option R) : loopR (ev groatlaw22_lossless_E (Tb3 R) FUEL (sub [1, 1, 0, 1, 0, 0] groatlaw22_lossless_c)) [0, 1, 9, 10, 11] [0, 1] k (groatlaw22_lossless_h0 t9 t10 t11 bt0 bt1) K = (groatlaw22_lossless_l0 k t9 t10 t11 bt0 bt1).bind fun e => K (.exit 0) (groatlaw22_lossless_x0_0 e.1 e.2) := by
  induction k generalizing t9 t10 t11 bt0 bt1 with
  | zero => rfl
  | succ k ih =>
    rw [groatlaw22_lossless_d0]
    simp only [groatlaw22_lossless_l0, groatlaw22_lossless_s0_bind, groatlaw22_lossless_s1_bind, groatlaw22_lossless_s2_bind, ih, cond_bind, within_bind, none_bind, some_bind, sum_bind, bind_bind, Sum.elim_inl, Sum.elim_inr]
theorem groatlaw22_lossless_eq (R : Type)  (K : List SV → Option Box → Option R) : evFn groatlaw22_lossless_E (Tb3 R) FUEL Try.f16 groatlaw22_lossless_c [] none K = (groatlaw22_lossless).bind fun r => K [.dat y12 r [[0], [1]]] none := by
  rw [groatlaw22_lossless_t]
  simp only [groatlaw22_lossless, groatlaw22_lossless_s0_bind, groatlaw22_lossless_s1_bind, groatlaw22_lossless_s2_bind, groatlaw22_lossless_lp0, groatlaw22_lossless_y0_0, cond_bind, within_bind, none_bind, some_bind, sum_bind, bind_bind, Sum.elim_inl, Sum.elim_inr]
def groatlaw22_lossless_g : Pure := fun R l b K => noBox b (args0 l ((groatlaw22_lossless).bind fun r => K [.dat y12 r [[0], [1]]] none))
theorem groatlaw22_lossless_n : groatlaw22_lossless_g.Nat := fun R S l b F G K h => noBox_nat (args0_nat (bindr_nat fun _ => h _ _))
def Tb4 : Funs := Tb3.add 16 [] groatlaw22_lossless_g
theorem Tb4_nat : Tb4.Nat := add_nat Tb3_nat groatlaw22_lossless_n
theorem Tb4_owes : ∀ f, Owes Try.prog Tb4 f := add_owes (E := groatlaw22_lossless_E) (Tab.env_ok tab_ok _ _ _ _) mixed Tb3_nat Tb3_owes (fn := Try.f16) (code := groatlaw22_lossless_c) Try.func16 (by kernel_rfl) (by kernel_rfl) fun l b r b' h => by
  obtain ⟨rfl, h⟩ := noBox_some h
  obtain ⟨h1, h2⟩ := own0 (E := groatlaw22_lossless_E) rfl h
  exact ⟨FUEL, (h2 _ _ _ _ _ _).trans ((groatlaw22_lossless_eq _  _).trans h1)⟩
noncomputable abbrev codes_Turn_c : Code := Try.f27.body.getD .skip
def codes_Turn_E : Env := tab.env (fun i => bif Nat.beq i 3 then [3, 9, 10, 11] else []) (fun i => bif Nat.beq i 3 then [3] else []) [] [(.sl 44 (.pair .str (.pair .str .unit)))]
def codes_Turn_h0 (t3 : (List (ByteArray × ByteArray × Unit))) (t9 : (List (ByteArray × ByteArray × Unit))) (t10 : Int) (t11 : Int) : State := ⟨[[.undef], [.undef], [.undef], [.dat (.sl 44 (.pair .str (.pair .str .unit))) t3 [[]]], [.undef], [.undef], [.undef], [.undef], [.undef], [.dat (.sl 44 (.pair .str (.pair .str .unit))) t9 []], [.dat (.int .i64) t10 []], [.dat (.int .i64) t11 []], [.undef], [.undef], [.undef], [.undef], [.undef], [.undef], [.undef], [.undef], [.undef], [.undef], [.undef], [.undef], [.undef]], [none, none, none, none, none, none, none, none, none, none, none, none, none, none, none, none, none, none, none, none, none, none, none, none, none, none]⟩
def codes_Turn_x0_0 (t3 : (List (ByteArray × ByteArray × Unit))) : State := ⟨[[.undef], [.undef], [.undef], [.dat (.sl 44 (.pair .str (.pair .str .unit))) t3 [[]]], [.undef], [.undef], [.undef], [.undef], [.undef], [.undef], [.undef], [.undef], [.undef], [.undef], [.undef], [.undef], [.undef], [.undef], [.undef], [.undef], [.undef], [.undef], [.undef], [.undef], [.undef]], [none, none, none, none, none, none, none, none, none, none, none, none, none, none, none, none, none, none, none, none, none, none, none, none, none, none]⟩
theorem codes_Turn_t (R : Type) (kk : Nat) (l_0 : (List (ByteArray × ByteArray × Unit))) (K : List SV → Option Box → Option R) : evFn codes_Turn_E (Tb4 R) kk Try.f27 codes_Turn_c [.dat (.sl 44 (.pair .str (.pair .str .unit))) l_0 []] none K =
  codes_Turn_s0 l_0 (fun a0 a1 a2 a3 => loopR (ev codes_Turn_E (Tb4 R) kk (sub [1, 1, 0, 1, 0, 0] codes_Turn_c)) [3, 9, 10, 11] [3] kk (codes_Turn_h0 a0 a1 a2 a3) (kBlock 0 (kSeq codes_Turn_E (Tb4 R) kk (sub [1, 1, 1] codes_Turn_c) (kFin codes_Turn_E Try.f27.results.toList none K)))) := by kernel_rfl
theorem codes_Turn_d0 (R : Type) (kk k : Nat) (t3 : (List (ByteArray × ByteArray × Unit))) (t9 : (List (ByteArray × ByteArray × Unit))) (t10 : Int) (t11 : Int) (K : Ex → State → Option R) : loopR (ev codes_Turn_E (Tb4 R) kk (sub [1, 1, 0, 1, 0, 0] codes_Turn_c)) [3, 9, 10, 11] [3] (k + 1) (codes_Turn_h0 t3 t9 t10 t11) K =
  codes_Turn_s1 t3 t9 t10 t11 (fun a0 a1 a2 a3 => loopR (ev codes_Turn_E (Tb4 R) kk (sub [1, 1, 0, 1, 0, 0] codes_Turn_c)) [3, 9, 10, 11] [3] k (codes_Turn_h0 a0 a1 a2 a3) K) (fun a0 => K (.exit 0) (codes_Turn_x0_0 a0)) := by kernel_rfl
theorem codes_Turn_y0_0 (R : Type) (kk : Nat) (t3 : (List (ByteArray × ByteArray × Unit))) (K : List SV → Option Box → Option R) : (kBlock 0 (kSeq codes_Turn_E (Tb4 R) kk (sub [1, 1, 1] codes_Turn_c) (kFin codes_Turn_E Try.f27.results.toList none K))) (.exit 0) (codes_Turn_x0_0 t3) =
  codes_Turn_s2 t3 (fun a0 => K [.dat (.sl 44 (.pair .str (.pair .str .unit))) a0 []] none) := by kernel_rfl
theorem codes_Turn_lp0 (R : Type) (k : Nat) (t3 : (List (ByteArray × ByteArray × Unit))) (t9 : (List (ByteArray × ByteArray × Unit))) (t10 : Int) (t11 : Int) (K : Ex → State → Option R) : loopR (ev codes_Turn_E (Tb4 R) FUEL (sub [1, 1, 0, 1, 0, 0] codes_Turn_c)) [3, 9, 10, 11] [3] k (codes_Turn_h0 t3 t9 t10 t11) K = (codes_Turn_l0 k t3 t9 t10 t11).bind fun e => K (.exit 0) (codes_Turn_x0_0 e) := by
  induction k generalizing t3 t9 t10 t11 with
  | zero => rfl
  | succ k ih =>
    rw [codes_Turn_d0]
    simp only [codes_Turn_l0, codes_Turn_s0_bind, codes_Turn_s1_bind, codes_Turn_s2_bind, ih, cond_bind, within_bind, none_bind, some_bind, sum_bind, bind_bind, Sum.elim_inl, Sum.elim_inr]
theorem codes_Turn_eq (R : Type) (l_0 : (List (ByteArray × ByteArray × Unit))) (K : List SV → Option Box → Option R) : evFn codes_Turn_E (Tb4 R) FUEL Try.f27 codes_Turn_c [.dat (.sl 44 (.pair .str (.pair .str .unit))) l_0 []] none K = (codes_Turn l_0).bind fun r => K [.dat (.sl 44 (.pair .str (.pair .str .unit))) r []] none := by
  rw [codes_Turn_t]
  simp only [codes_Turn, codes_Turn_s0_bind, codes_Turn_s1_bind, codes_Turn_s2_bind, codes_Turn_lp0, codes_Turn_y0_0, cond_bind, within_bind, none_bind, some_bind, sum_bind, bind_bind, Sum.elim_inl, Sum.elim_inr]
def codes_Turn_g : Pure := fun R l b K => noBox b (args1 (.sl 44 (.pair .str (.pair .str .unit))) l (fun x0 => (codes_Turn x0).bind fun r => K [.dat (.sl 44 (.pair .str (.pair .str .unit))) r []] none))
theorem codes_Turn_n : codes_Turn_g.Nat := fun R S l b F G K h => noBox_nat (args1_nat fun _ => bindr_nat fun _ => h _ _)
def Tb5 : Funs := Tb4.add 27 [(.sl 44 (.pair .str (.pair .str .unit)))] codes_Turn_g
theorem Tb5_nat : Tb5.Nat := add_nat Tb4_nat codes_Turn_n
theorem Tb5_owes : ∀ f, Owes Try.prog Tb5 f := add_owes (E := codes_Turn_E) (Tab.env_ok tab_ok _ _ _ _) mixed Tb4_nat Tb4_owes (fn := Try.f27) (code := codes_Turn_c) Try.func27 (by kernel_rfl) (by kernel_rfl) fun l b r b' h => by
  obtain ⟨rfl, h⟩ := noBox_some h
  obtain ⟨x0, h1, h2⟩ := own1 (E := codes_Turn_E) rfl h
  exact ⟨FUEL, (h2 _ _ _ _ _ _).trans ((codes_Turn_eq _ x0 _).trans h1)⟩
noncomputable abbrev invert_Turn_c : Code := Try.f12.body.getD .skip
def invert_Turn_E : Env := tab.env (fun i => bif Nat.beq i 3 then [2, 3, 11, 12, 13] else []) (fun i => bif Nat.beq i 3 then [2, 3] else []) [2] [y12]
def invert_Turn_h0 (t11 : (List (Int × Int × Int × ByteArray × (List (ByteArray × ByteArray × Unit)) × Unit))) (t12 : Int) (t13 : Int) (bt2 : ((List (ByteArray × ByteArray × Unit)) × (List (Int × Int × Int × ByteArray × (List (ByteArray × ByteArray × Unit)) × Unit)) × Unit)) (bt3 : ((List (ByteArray × ByteArray × Unit)) × (List (Int × Int × Int × ByteArray × (List (ByteArray × ByteArray × Unit)) × Unit)) × Unit)) : State := ⟨[[.undef], [.undef], [.ptr 3 y12 []], [.ptr 4 y12 []], [.undef], [.undef], [.undef], [.undef], [.undef], [.undef], [.undef], [.dat (.sl 42 y7) t11 []], [.dat (.int .i64) t12 []], [.dat (.int .i64) t13 []], [.undef], [.undef], [.undef], [.undef], [.undef], [.undef], [.undef], [.undef], [.undef], [.undef], [.undef], [.undef], [.undef], [.undef], [.undef], [.undef], [.undef], [.undef], [.undef], [.undef], [.undef], [.undef]], [none, none, none, some ⟨y12, bt2, [[0], [1]]⟩, some ⟨y12, bt3, [[1]]⟩, none, none, none, none, none, none, none, none, none, none, none, none, none, none, none, none, none, none, none, none, none, none, none, none, none, none, none, none, none, none, none, none]⟩
def invert_Turn_x0_0 (bt2 : ((List (ByteArray × ByteArray × Unit)) × (List (Int × Int × Int × ByteArray × (List (ByteArray × ByteArray × Unit)) × Unit)) × Unit)) (bt3 : ((List (ByteArray × ByteArray × Unit)) × (List (Int × Int × Int × ByteArray × (List (ByteArray × ByteArray × Unit)) × Unit)) × Unit)) : State := ⟨[[.undef], [.undef], [.ptr 3 y12 []], [.ptr 4 y12 []], [.undef], [.undef], [.undef], [.undef], [.undef], [.undef], [.undef], [.undef], [.undef], [.undef], [.undef], [.undef], [.undef], [.undef], [.undef], [.undef], [.undef], [.undef], [.undef], [.undef], [.undef], [.undef], [.undef], [.undef], [.undef], [.undef], [.undef], [.undef], [.undef], [.undef], [.undef], [.undef]], [none, none, none, some ⟨y12, bt2, [[0], [1]]⟩, some ⟨y12, bt3, [[1]]⟩, none, none, none, none, none, none, none, none, none, none, none, none, none, none, none, none, none, none, none, none, none, none, none, none, none, none, none, none, none, none, none, none]⟩
theorem invert_Turn_t (R : Type) (kk : Nat) (m_0 : ((List (ByteArray × ByteArray × Unit)) × (List (Int × Int × Int × ByteArray × (List (ByteArray × ByteArray × Unit)) × Unit)) × Unit)) (K : List SV → Option Box → Option R) : evFn invert_Turn_E (Tb5 R) kk Try.f12 invert_Turn_c [.dat y12 m_0 []] none K =
  invert_Turn_s0 m_0 (fun a0 a1 a2 a3 a4 => loopR (ev invert_Turn_E (Tb5 R) kk (sub [1, 1, 0, 1, 0, 0] invert_Turn_c)) [2, 3, 11, 12, 13] [2, 3] kk (invert_Turn_h0 a0 a1 a2 a3 a4) (kBlock 0 (kSeq invert_Turn_E (Tb5 R) kk (sub [1, 1, 1] invert_Turn_c) (kFin invert_Turn_E Try.f12.results.toList none K)))) := by kernel_rfl
theorem invert_Turn_d0 (R : Type) (kk k : Nat) (t11 : (List (Int × Int × Int × ByteArray × (List (ByteArray × ByteArray × Unit)) × Unit))) (t12 : Int) (t13 : Int) (bt2 : ((List (ByteArray × ByteArray × Unit)) × (List (Int × Int × Int × ByteArray × (List (ByteArray × ByteArray × Unit)) × Unit)) × Unit)) (bt3 : ((List (ByteArray × ByteArray × Unit)) × (List (Int × Int × Int × ByteArray × (List (ByteArray × ByteArray × Unit)) × Unit)) × Unit)) (K : Ex → State → Option R) : loopR (ev invert_Turn_E (Tb5 R) kk (sub [1, 1, 0, 1, 0, 0] invert_Turn_c)) [2, 3, 11, 12, 13] [2, 3] (k + 1) (invert_Turn_h0 t11 t12 t13 bt2 bt3) K =
  invert_Turn_s1 t11 t12 t13 bt2 bt3 (fun a0 a1 a2 a3 a4 => loopR (ev invert_Turn_E (Tb5 R) kk (sub [1, 1, 0, 1, 0, 0] invert_Turn_c)) [2, 3, 11, 12, 13] [2, 3] k (invert_Turn_h0 a0 a1 a2 a3 a4) K) (fun a0 a1 => K (.exit 0) (invert_Turn_x0_0 a0 a1)) := by kernel_rfl
theorem invert_Turn_y0_0 (R : Type) (kk : Nat) (bt2 : ((List (ByteArray × ByteArray × Unit)) × (List (Int × Int × Int × ByteArray × (List (ByteArray × ByteArray × Unit)) × Unit)) × Unit)) (bt3 : ((List (ByteArray × ByteArray × Unit)) × (List (Int × Int × Int × ByteArray × (List (ByteArray × ByteArray × Unit)) × Unit)) × Unit)) (K : List SV → Option Box → Option R) : (kBlock 0 (kSeq invert_Turn_E (Tb5 R) kk (sub [1, 1, 1] invert_Turn_c) (kFin invert_Turn_E Try.f12.results.toList none K))) (.exit 0) (invert_Turn_x0_0 bt2 bt3) =
  invert_Turn_s2 bt2 bt3 (fun a0 => K [.dat y12 a0 [[1]]] none) := by kernel_rfl
theorem invert_Turn_lp0 (R : Type) (k : Nat) (t11 : (List (Int × Int × Int × ByteArray × (List (ByteArray × ByteArray × Unit)) × Unit))) (t12 : Int) (t13 : Int) (bt2 : ((List (ByteArray × ByteArray × Unit)) × (List (Int × Int × Int × ByteArray × (List (ByteArray × ByteArray × Unit)) × Unit)) × Unit)) (bt3 : ((List (ByteArray × ByteArray × Unit)) × (List (Int × Int × Int × ByteArray × (List (ByteArray × ByteArray × Unit)) × Unit)) × Unit)) (K : Ex → State → Option R) : loopR (ev invert_Turn_E (Tb5 R) FUEL (sub [1, 1, 0, 1, 0, 0] invert_Turn_c)) [2, 3, 11, 12, 13] [2, 3] k (invert_Turn_h0 t11 t12 t13 bt2 bt3) K = (invert_Turn_l0 k t11 t12 t13 bt2 bt3).bind fun e => K (.exit 0) (invert_Turn_x0_0 e.1 e.2) := by
  induction k generalizing t11 t12 t13 bt2 bt3 with
  | zero => rfl
  | succ k ih =>
    rw [invert_Turn_d0]
    simp only [invert_Turn_l0, invert_Turn_s0_bind, invert_Turn_s1_bind, invert_Turn_s2_bind, ih, cond_bind, within_bind, none_bind, some_bind, sum_bind, bind_bind, Sum.elim_inl, Sum.elim_inr]
theorem invert_Turn_eq (R : Type) (m_0 : ((List (ByteArray × ByteArray × Unit)) × (List (Int × Int × Int × ByteArray × (List (ByteArray × ByteArray × Unit)) × Unit)) × Unit)) (K : List SV → Option Box → Option R) : evFn invert_Turn_E (Tb5 R) FUEL Try.f12 invert_Turn_c [.dat y12 m_0 []] none K = (invert_Turn m_0).bind fun r => K [.dat y12 r [[1]]] none := by
  rw [invert_Turn_t]
  simp only [invert_Turn, invert_Turn_s0_bind, invert_Turn_s1_bind, invert_Turn_s2_bind, invert_Turn_lp0, invert_Turn_y0_0, cond_bind, within_bind, none_bind, some_bind, sum_bind, bind_bind, Sum.elim_inl, Sum.elim_inr]
def invert_Turn_g : Pure := fun R l b K => noBox b (args1 y12 l (fun x0 => (invert_Turn x0).bind fun r => K [.dat y12 r [[1]]] none))
theorem invert_Turn_n : invert_Turn_g.Nat := fun R S l b F G K h => noBox_nat (args1_nat fun _ => bindr_nat fun _ => h _ _)
def Tb6 : Funs := Tb5.add 12 [y12] invert_Turn_g
theorem Tb6_nat : Tb6.Nat := add_nat Tb5_nat invert_Turn_n
theorem Tb6_owes : ∀ f, Owes Try.prog Tb6 f := add_owes (E := invert_Turn_E) (Tab.env_ok tab_ok _ _ _ _) mixed Tb5_nat Tb5_owes (fn := Try.f12) (code := invert_Turn_c) Try.func12 (by kernel_rfl) (by kernel_rfl) fun l b r b' h => by
  obtain ⟨rfl, h⟩ := noBox_some h
  obtain ⟨x0, h1, h2⟩ := own1 (E := invert_Turn_E) rfl h
  exact ⟨FUEL, (h2 _ _ _ _ _ _).trans ((invert_Turn_eq _ x0 _).trans h1)⟩
noncomputable abbrev class_sets_c : Code := Try.f73.body.getD .skip
def class_sets_E : Env := tab.env (fun _ => []) (fun _ => []) [] [(.int .i64)]
theorem class_sets_t (R : Type) (kk : Nat) (class_0 : Int) (K : List SV → Option Box → Option R) : evFn class_sets_E (Tb6 R) kk Try.f73 class_sets_c [.dat (.int .i64) class_0 []] none K =
  class_sets_s0 class_0 (fun a0 => K [.dat (.int .i64) a0 []] none) := by kernel_rfl
theorem class_sets_eq (R : Type) (class_0 : Int) (K : List SV → Option Box → Option R) : evFn class_sets_E (Tb6 R) FUEL Try.f73 class_sets_c [.dat (.int .i64) class_0 []] none K = (class_sets class_0).bind fun r => K [.dat (.int .i64) r []] none := by
  rw [class_sets_t]
  simp only [class_sets, class_sets_s0_bind, cond_bind, within_bind, none_bind, some_bind, sum_bind, bind_bind, Sum.elim_inl, Sum.elim_inr]
def class_sets_g : Pure := fun R l b K => noBox b (args1 (.int .i64) l (fun x0 => (class_sets x0).bind fun r => K [.dat (.int .i64) r []] none))
theorem class_sets_n : class_sets_g.Nat := fun R S l b F G K h => noBox_nat (args1_nat fun _ => bindr_nat fun _ => h _ _)
def Tb7 : Funs := Tb6.add 73 [(.int .i64)] class_sets_g
theorem Tb7_nat : Tb7.Nat := add_nat Tb6_nat class_sets_n
theorem Tb7_owes : ∀ f, Owes Try.prog Tb7 f := add_owes (E := class_sets_E) (Tab.env_ok tab_ok _ _ _ _) mixed Tb6_nat Tb6_owes (fn := Try.f73) (code := class_sets_c) Try.func73 (by kernel_rfl) (by kernel_rfl) fun l b r b' h => by
  obtain ⟨rfl, h⟩ := noBox_some h
  obtain ⟨x0, h1, h2⟩ := own1 (E := class_sets_E) rfl h
  exact ⟨FUEL, (h2 _ _ _ _ _ _).trans ((class_sets_eq _ x0 _).trans h1)⟩
noncomputable abbrev class_Known_c : Code := Try.f62.body.getD .skip
def class_Known_E : Env := tab.env (fun _ => []) (fun _ => []) [] [(.int .i64)]
theorem class_Known_t (R : Type) (kk : Nat) (class_0 : Int) (K : List SV → Option Box → Option R) : evFn class_Known_E (Tb7 R) kk Try.f62 class_Known_c [.dat (.int .i64) class_0 []] none K =
  class_Known_s0 class_0 (fun a0 => K [.dat .bool a0 []] none) := by kernel_rfl
theorem class_Known_eq (R : Type) (class_0 : Int) (K : List SV → Option Box → Option R) : evFn class_Known_E (Tb7 R) FUEL Try.f62 class_Known_c [.dat (.int .i64) class_0 []] none K = (class_Known class_0).bind fun r => K [.dat .bool r []] none := by
  rw [class_Known_t]
  simp only [class_Known, class_Known_s0_bind, cond_bind, within_bind, none_bind, some_bind, sum_bind, bind_bind, Sum.elim_inl, Sum.elim_inr]
def class_Known_g : Pure := fun R l b K => noBox b (args1 (.int .i64) l (fun x0 => (class_Known x0).bind fun r => K [.dat .bool r []] none))
theorem class_Known_n : class_Known_g.Nat := fun R S l b F G K h => noBox_nat (args1_nat fun _ => bindr_nat fun _ => h _ _)
def Tb8 : Funs := Tb7.add 62 [(.int .i64)] class_Known_g
theorem Tb8_nat : Tb8.Nat := add_nat Tb7_nat class_Known_n
theorem Tb8_owes : ∀ f, Owes Try.prog Tb8 f := add_owes (E := class_Known_E) (Tab.env_ok tab_ok _ _ _ _) mixed Tb7_nat Tb7_owes (fn := Try.f62) (code := class_Known_c) Try.func62 (by kernel_rfl) (by kernel_rfl) fun l b r b' h => by
  obtain ⟨rfl, h⟩ := noBox_some h
  obtain ⟨x0, h1, h2⟩ := own1 (E := class_Known_E) rfl h
  exact ⟨FUEL, (h2 _ _ _ _ _ _).trans ((class_Known_eq _ x0 _).trans h1)⟩
noncomputable abbrev prefix_width_c : Code := Try.f74.body.getD .skip
def prefix_width_E : Env := tab.env (fun _ => []) (fun _ => []) [] [(.int .i64)]
theorem prefix_width_t (R : Type) (kk : Nat) (form_0 : Int) (K : List SV → Option Box → Option R) : evFn prefix_width_E (Tb8 R) kk Try.f74 prefix_width_c [.dat (.int .i64) form_0 []] none K =
  prefix_width_s0 form_0 (fun a0 => K [.dat (.int .i64) a0 []] none) := by kernel_rfl
theorem prefix_width_eq (R : Type) (form_0 : Int) (K : List SV → Option Box → Option R) : evFn prefix_width_E (Tb8 R) FUEL Try.f74 prefix_width_c [.dat (.int .i64) form_0 []] none K = (prefix_width form_0).bind fun r => K [.dat (.int .i64) r []] none := by
  rw [prefix_width_t]
  simp only [prefix_width, prefix_width_s0_bind, cond_bind, within_bind, none_bind, some_bind, sum_bind, bind_bind, Sum.elim_inl, Sum.elim_inr]
def prefix_width_g : Pure := fun R l b K => noBox b (args1 (.int .i64) l (fun x0 => (prefix_width x0).bind fun r => K [.dat (.int .i64) r []] none))
theorem prefix_width_n : prefix_width_g.Nat := fun R S l b F G K h => noBox_nat (args1_nat fun _ => bindr_nat fun _ => h _ _)
def Tb9 : Funs := Tb8.add 74 [(.int .i64)] prefix_width_g
theorem Tb9_nat : Tb9.Nat := add_nat Tb8_nat prefix_width_n
theorem Tb9_owes : ∀ f, Owes Try.prog Tb9 f := add_owes (E := prefix_width_E) (Tab.env_ok tab_ok _ _ _ _) mixed Tb8_nat Tb8_owes (fn := Try.f74) (code := prefix_width_c) Try.func74 (by kernel_rfl) (by kernel_rfl) fun l b r b' h => by
  obtain ⟨rfl, h⟩ := noBox_some h
  obtain ⟨x0, h1, h2⟩ := own1 (E := prefix_width_E) rfl h
  exact ⟨FUEL, (h2 _ _ _ _ _ _).trans ((prefix_width_eq _ x0 _).trans h1)⟩
noncomputable abbrev prefix_Most_c : Code := Try.f63.body.getD .skip
def prefix_Most_E : Env := tab.env (fun i => bif Nat.beq i 3 then [3, 5, 6] else []) (fun i => bif Nat.beq i 3 then [3] else []) [] [(.int .i64)]
def prefix_Most_h0 (t3 : Int) (t5 : Int) (t6 : Int) : State := ⟨[[.undef], [.undef], [.undef], [.dat (.int .i64) t3 []], [.undef], [.dat (.int .i64) t5 []], [.dat (.int .i64) t6 []], [.undef], [.undef], [.undef], [.undef], [.undef], [.undef]], [none, none, none, none, none, none, none, none, none, none, none, none, none, none]⟩
def prefix_Most_x0_0 (t3 : Int) : State := ⟨[[.undef], [.undef], [.undef], [.dat (.int .i64) t3 []], [.undef], [.undef], [.undef], [.undef], [.undef], [.undef], [.undef], [.undef], [.undef]], [none, none, none, none, none, none, none, none, none, none, none, none, none, none]⟩
theorem prefix_Most_t (R : Type) (kk : Nat) (form_0 : Int) (K : List SV → Option Box → Option R) : evFn prefix_Most_E (Tb9 R) kk Try.f63 prefix_Most_c [.dat (.int .i64) form_0 []] none K =
  prefix_Most_s0 form_0 (fun a0 a1 a2 => loopR (ev prefix_Most_E (Tb9 R) kk (sub [1, 1, 0, 1, 0, 0] prefix_Most_c)) [3, 5, 6] [3] kk (prefix_Most_h0 a0 a1 a2) (kBlock 0 (kSeq prefix_Most_E (Tb9 R) kk (sub [1, 1, 1] prefix_Most_c) (kFin prefix_Most_E Try.f63.results.toList none K)))) := by kernel_rfl
theorem prefix_Most_d0 (R : Type) (kk k : Nat) (t3 : Int) (t5 : Int) (t6 : Int) (K : Ex → State → Option R) : loopR (ev prefix_Most_E (Tb9 R) kk (sub [1, 1, 0, 1, 0, 0] prefix_Most_c)) [3, 5, 6] [3] (k + 1) (prefix_Most_h0 t3 t5 t6) K =
  prefix_Most_s1 t3 t5 t6 (fun a0 a1 a2 => loopR (ev prefix_Most_E (Tb9 R) kk (sub [1, 1, 0, 1, 0, 0] prefix_Most_c)) [3, 5, 6] [3] k (prefix_Most_h0 a0 a1 a2) K) (fun a0 => K (.exit 0) (prefix_Most_x0_0 a0)) := by kernel_rfl
theorem prefix_Most_y0_0 (R : Type) (kk : Nat) (t3 : Int) (K : List SV → Option Box → Option R) : (kBlock 0 (kSeq prefix_Most_E (Tb9 R) kk (sub [1, 1, 1] prefix_Most_c) (kFin prefix_Most_E Try.f63.results.toList none K))) (.exit 0) (prefix_Most_x0_0 t3) =
  prefix_Most_s2 t3 (fun a0 => K [.dat (.int .i64) a0 []] none) := by kernel_rfl
theorem prefix_Most_lp0 (R : Type) (k : Nat) (t3 : Int) (t5 : Int) (t6 : Int) (K : Ex → State → Option R) : loopR (ev prefix_Most_E (Tb9 R) FUEL (sub [1, 1, 0, 1, 0, 0] prefix_Most_c)) [3, 5, 6] [3] k (prefix_Most_h0 t3 t5 t6) K = (prefix_Most_l0 k t3 t5 t6).bind fun e => K (.exit 0) (prefix_Most_x0_0 e) := by
  induction k generalizing t3 t5 t6 with
  | zero => rfl
  | succ k ih =>
    rw [prefix_Most_d0]
    simp only [prefix_Most_l0, prefix_Most_s0_bind, prefix_Most_s1_bind, prefix_Most_s2_bind, ih, cond_bind, within_bind, none_bind, some_bind, sum_bind, bind_bind, Sum.elim_inl, Sum.elim_inr]
theorem prefix_Most_eq (R : Type) (form_0 : Int) (K : List SV → Option Box → Option R) : evFn prefix_Most_E (Tb9 R) FUEL Try.f63 prefix_Most_c [.dat (.int .i64) form_0 []] none K = (prefix_Most form_0).bind fun r => K [.dat (.int .i64) r []] none := by
  rw [prefix_Most_t]
  simp only [prefix_Most, prefix_Most_s0_bind, prefix_Most_s1_bind, prefix_Most_s2_bind, prefix_Most_lp0, prefix_Most_y0_0, cond_bind, within_bind, none_bind, some_bind, sum_bind, bind_bind, Sum.elim_inl, Sum.elim_inr]
def prefix_Most_g : Pure := fun R l b K => noBox b (args1 (.int .i64) l (fun x0 => (prefix_Most x0).bind fun r => K [.dat (.int .i64) r []] none))
theorem prefix_Most_n : prefix_Most_g.Nat := fun R S l b F G K h => noBox_nat (args1_nat fun _ => bindr_nat fun _ => h _ _)
def Tb10 : Funs := Tb9.add 63 [(.int .i64)] prefix_Most_g
theorem Tb10_nat : Tb10.Nat := add_nat Tb9_nat prefix_Most_n
theorem Tb10_owes : ∀ f, Owes Try.prog Tb10 f := add_owes (E := prefix_Most_E) (Tab.env_ok tab_ok _ _ _ _) mixed Tb9_nat Tb9_owes (fn := Try.f63) (code := prefix_Most_c) Try.func63 (by kernel_rfl) (by kernel_rfl) fun l b r b' h => by
  obtain ⟨rfl, h⟩ := noBox_some h
  obtain ⟨x0, h1, h2⟩ := own1 (E := prefix_Most_E) rfl h
  exact ⟨FUEL, (h2 _ _ _ _ _ _).trans ((prefix_Most_eq _ x0 _).trans h1)⟩
noncomputable abbrev spec_Check_c : Code := Try.f45.body.getD .skip
def spec_Check_E : Env := tab.env (fun _ => []) (fun _ => []) [] [y5]
theorem spec_Check_t (R : Type) (kk : Nat) (s_0 : (Int × Int × Int × Int × Int × Unit)) (K : List SV → Option Box → Option R) : evFn spec_Check_E (Tb10 R) kk Try.f45 spec_Check_c [.dat y5 s_0 []] none K =
  spec_Check_s0 s_0 (fun a0 => K [.dat (.int .i64) a0 []] none) := by kernel_rfl
theorem spec_Check_eq (R : Type) (s_0 : (Int × Int × Int × Int × Int × Unit)) (K : List SV → Option Box → Option R) : evFn spec_Check_E (Tb10 R) FUEL Try.f45 spec_Check_c [.dat y5 s_0 []] none K = (spec_Check s_0).bind fun r => K [.dat (.int .i64) r []] none := by
  rw [spec_Check_t]
  simp only [spec_Check, spec_Check_s0_bind, cond_bind, within_bind, none_bind, some_bind, sum_bind, bind_bind, Sum.elim_inl, Sum.elim_inr]
def spec_Check_g : Pure := fun R l b K => noBox b (args1 y5 l (fun x0 => (spec_Check x0).bind fun r => K [.dat (.int .i64) r []] none))
theorem spec_Check_n : spec_Check_g.Nat := fun R S l b F G K h => noBox_nat (args1_nat fun _ => bindr_nat fun _ => h _ _)
def Tb11 : Funs := Tb10.add 45 [y5] spec_Check_g
theorem Tb11_nat : Tb11.Nat := add_nat Tb10_nat spec_Check_n
theorem Tb11_owes : ∀ f, Owes Try.prog Tb11 f := add_owes (E := spec_Check_E) (Tab.env_ok tab_ok _ _ _ _) mixed Tb10_nat Tb10_owes (fn := Try.f45) (code := spec_Check_c) Try.func45 (by kernel_rfl) (by kernel_rfl) fun l b r b' h => by
  obtain ⟨rfl, h⟩ := noBox_some h
  obtain ⟨x0, h1, h2⟩ := own1 (E := spec_Check_E) rfl h
  exact ⟨FUEL, (h2 _ _ _ _ _ _).trans ((spec_Check_eq _ x0 _).trans h1)⟩
noncomputable abbrev schema_Check_c : Code := Try.f29.body.getD .skip
def schema_Check_E : Env := tab.env (fun i => bif Nat.beq i 6 then [1, 26, 27, 28] else []) (fun i => bif Nat.beq i 6 then [2, 3] else []) [] [y11]
def schema_Check_h0 (t26 : (List (Int × Int × Int × Int × Int × Unit))) (t27 : Int) (t28 : Int) (bt1 : (Int × Int × (List (Int × Int × Int × Int × Int × Unit)) × Unit)) : State := ⟨[[.undef], [.ptr 2 y11 []], [.undef], [.undef], [.undef], [.undef], [.undef], [.undef], [.undef], [.undef], [.undef], [.undef], [.undef], [.undef], [.undef], [.undef], [.undef], [.undef], [.undef], [.undef], [.undef], [.undef], [.undef], [.undef], [.undef], [.undef], [.dat (.sl 52 y5) t26 []], [.dat (.int .i64) t27 []], [.dat (.int .i64) t28 []], [.undef], [.undef], [.undef], [.undef], [.undef], [.undef], [.undef], [.undef], [.undef], [.undef], [.undef], [.undef], [.undef], [.undef], [.undef], [.undef], [.undef], [.undef], [.undef], [.undef], [.undef], [.undef], [.undef], [.undef], [.undef], [.undef]], [none, none, some ⟨y11, bt1, []⟩, none, none, none, none, none, none, none, none, none, none, none, none, none, none, none, none, none, none, none, none, none, none, none, none, none, none, none, none, none, none, none, none, none, none, none, none, none, none, none, none, none, none, none, none, none, none, none, none, none, none, none, none, none]⟩
def schema_Check_x0_0 (t2 : Int) (t3 : Int) : State := ⟨[[.undef], [.undef], [.dat (.int .i64) t2 []], [.dat (.int .i64) t3 []], [.undef], [.undef], [.undef], [.undef], [.undef], [.undef], [.undef], [.undef], [.undef], [.undef], [.undef], [.undef], [.undef], [.undef], [.undef], [.undef], [.undef], [.undef], [.undef], [.undef], [.undef], [.undef], [.undef], [.undef], [.undef], [.undef], [.undef], [.undef], [.undef], [.undef], [.undef], [.undef], [.undef], [.undef], [.undef], [.undef], [.undef], [.undef], [.undef], [.undef], [.undef], [.undef], [.undef], [.undef], [.undef], [.undef], [.undef], [.undef], [.undef], [.undef], [.undef]], [none, none, none, none, none, none, none, none, none, none, none, none, none, none, none, none, none, none, none, none, none, none, none, none, none, none, none, none, none, none, none, none, none, none, none, none, none, none, none, none, none, none, none, none, none, none, none, none, none, none, none, none, none, none, none, none]⟩
def schema_Check_x0_1  : State := ⟨[[.undef], [.undef], [.undef], [.undef], [.undef], [.undef], [.undef], [.undef], [.undef], [.undef], [.undef], [.undef], [.undef], [.undef], [.undef], [.undef], [.undef], [.undef], [.undef], [.undef], [.undef], [.undef], [.undef], [.undef], [.undef], [.undef], [.undef], [.undef], [.undef], [.undef], [.undef], [.undef], [.undef], [.undef], [.undef], [.undef], [.undef], [.undef], [.undef], [.undef], [.undef], [.undef], [.undef], [.undef], [.undef], [.undef], [.undef], [.undef], [.undef], [.undef], [.undef], [.undef], [.undef], [.undef], [.undef]], [none, none, none, none, none, none, none, none, none, none, none, none, none, none, none, none, none, none, none, none, none, none, none, none, none, none, none, none, none, none, none, none, none, none, none, none, none, none, none, none, none, none, none, none, none, none, none, none, none, none, none, none, none, none, none, none]⟩
theorem schema_Check_t (R : Type) (kk : Nat) (s_0 : (Int × Int × (List (Int × Int × Int × Int × Int × Unit)) × Unit)) (K : List SV → Option Box → Option R) : evFn schema_Check_E (Tb11 R) kk Try.f29 schema_Check_c [.dat y11 s_0 []] none K =
  schema_Check_s0 s_0 (fun a0 a1 => K [.dat (.int .i64) a0 [], .dat (.int .i64) a1 []] none) (fun a0 a1 a2 a3 => loopR (ev schema_Check_E (Tb11 R) kk (sub [1, 1, 0, 1, 0, 0] schema_Check_c)) [1, 26, 27, 28] [2, 3] kk (schema_Check_h0 a0 a1 a2 a3) (kBlock 1 (kSeq schema_Check_E (Tb11 R) kk (sub [1, 1, 1] schema_Check_c) (kFin schema_Check_E Try.f29.results.toList none K)))) := by kernel_rfl
theorem schema_Check_d0 (R : Type) (kk k : Nat) (t26 : (List (Int × Int × Int × Int × Int × Unit))) (t27 : Int) (t28 : Int) (bt1 : (Int × Int × (List (Int × Int × Int × Int × Int × Unit)) × Unit)) (K : Ex → State → Option R) : loopR (ev schema_Check_E (Tb11 R) kk (sub [1, 1, 0, 1, 0, 0] schema_Check_c)) [1, 26, 27, 28] [2, 3] (k + 1) (schema_Check_h0 t26 t27 t28 bt1) K =
  schema_Check_s1 t26 t27 t28 bt1 (fun a0 a1 => K .ret (schema_Check_x0_0 a0 a1)) (fun a0 a1 a2 a3 => loopR (ev schema_Check_E (Tb11 R) kk (sub [1, 1, 0, 1, 0, 0] schema_Check_c)) [1, 26, 27, 28] [2, 3] k (schema_Check_h0 a0 a1 a2 a3) K) (K (.exit 1) (schema_Check_x0_1)) := by kernel_rfl
theorem schema_Check_y0_0 (R : Type) (kk : Nat) (t2 : Int) (t3 : Int) (K : List SV → Option Box → Option R) : (kBlock 1 (kSeq schema_Check_E (Tb11 R) kk (sub [1, 1, 1] schema_Check_c) (kFin schema_Check_E Try.f29.results.toList none K))) .ret (schema_Check_x0_0 t2 t3) =
  schema_Check_s2 t2 t3 (fun a0 a1 => K [.dat (.int .i64) a0 [], .dat (.int .i64) a1 []] none) := by kernel_rfl
theorem schema_Check_y0_1 (R : Type) (kk : Nat)  (K : List SV → Option Box → Option R) : (kBlock 1 (kSeq schema_Check_E (Tb11 R) kk (sub [1, 1, 1] schema_Check_c) (kFin schema_Check_E Try.f29.results.toList none K))) (.exit 1) (schema_Check_x0_1) =
  schema_Check_s3 (fun a0 a1 => K [.dat (.int .i64) a0 [], .dat (.int .i64) a1 []] none) := by kernel_rfl
theorem schema_Check_lp0 (R : Type) (k : Nat) (t26 : (List (Int × Int × Int × Int × Int × Unit))) (t27 : Int) (t28 : Int) (bt1 : (Int × Int × (List (Int × Int × Int × Int × Int × Unit)) × Unit)) (K : Ex → State → Option R) : loopR (ev schema_Check_E (Tb11 R) FUEL (sub [1, 1, 0, 1, 0, 0] schema_Check_c)) [1, 26, 27, 28] [2, 3] k (schema_Check_h0 t26 t27 t28 bt1) K = (schema_Check_l0 k t26 t27 t28 bt1).bind fun e => (Sum.elim (fun (we : (Int × Int)) => K .ret (schema_Check_x0_0 we.1 we.2)) (fun (we : Unit) => K (.exit 1) (schema_Check_x0_1)) e) := by
  induction k generalizing t26 t27 t28 bt1 with
  | zero => rfl
  | succ k ih =>
    rw [schema_Check_d0]
    simp only [schema_Check_l0, schema_Check_s0_bind, schema_Check_s1_bind, schema_Check_s2_bind, schema_Check_s3_bind, ih, cond_bind, within_bind, none_bind, some_bind, sum_bind, bind_bind, Sum.elim_inl, Sum.elim_inr]
theorem schema_Check_eq (R : Type) (s_0 : (Int × Int × (List (Int × Int × Int × Int × Int × Unit)) × Unit)) (K : List SV → Option Box → Option R) : evFn schema_Check_E (Tb11 R) FUEL Try.f29 schema_Check_c [.dat y11 s_0 []] none K = (schema_Check s_0).bind fun r => K [.dat (.int .i64) r.1 [], .dat (.int .i64) r.2 []] none := by
  rw [schema_Check_t]
  simp only [schema_Check, schema_Check_s0_bind, schema_Check_s1_bind, schema_Check_s2_bind, schema_Check_s3_bind, schema_Check_lp0, schema_Check_y0_0, schema_Check_y0_1, cond_bind, within_bind, none_bind, some_bind, sum_bind, bind_bind, Sum.elim_inl, Sum.elim_inr]
def schema_Check_g : Pure := fun R l b K => noBox b (args1 y11 l (fun x0 => (schema_Check x0).bind fun r => K [.dat (.int .i64) r.1 [], .dat (.int .i64) r.2 []] none))
theorem schema_Check_n : schema_Check_g.Nat := fun R S l b F G K h => noBox_nat (args1_nat fun _ => bindr_nat fun _ => h _ _)
def Tb12 : Funs := Tb11.add 29 [y11] schema_Check_g
theorem Tb12_nat : Tb12.Nat := add_nat Tb11_nat schema_Check_n
theorem Tb12_owes : ∀ f, Owes Try.prog Tb12 f := add_owes (E := schema_Check_E) (Tab.env_ok tab_ok _ _ _ _) mixed Tb11_nat Tb11_owes (fn := Try.f29) (code := schema_Check_c) Try.func29 (by kernel_rfl) (by kernel_rfl) fun l b r b' h => by
  obtain ⟨rfl, h⟩ := noBox_some h
  obtain ⟨x0, h1, h2⟩ := own1 (E := schema_Check_E) rfl h
  exact ⟨FUEL, (h2 _ _ _ _ _ _).trans ((schema_Check_eq _ x0 _).trans h1)⟩
noncomputable abbrev digits_All_c : Code := Try.f75.body.getD .skip
def digits_All_E : Env := tab.env (fun i => bif Nat.beq i 2 then [6] else []) (fun i => bif Nat.beq i 2 then [2] else []) [] [.str]
def digits_All_h0 (bt6 : (ByteArray × Nat)) : State := ⟨[[.undef], [.undef], [.undef], [.undef], [.undef], [.undef], [.ptr 7 (.spc .iter .unit .unit) []], [.undef], [.undef], [.undef], [.undef], [.undef], [.undef], [.undef], [.undef], [.undef]], [none, none, none, none, none, none, none, some ⟨(.spc .iter .unit .unit), bt6, []⟩, none, none, none, none, none, none, none, none, none]⟩
def digits_All_x0_0 (t2 : Bool) : State := ⟨[[.undef], [.undef], [.dat .bool t2 []], [.undef], [.undef], [.undef], [.undef], [.undef], [.undef], [.undef], [.undef], [.undef], [.undef], [.undef], [.undef], [.undef]], [none, none, none, none, none, none, none, none, none, none, none, none, none, none, none, none, none]⟩
def digits_All_x0_1  : State := ⟨[[.undef], [.undef], [.undef], [.undef], [.undef], [.undef], [.undef], [.undef], [.undef], [.undef], [.undef], [.undef], [.undef], [.undef], [.undef], [.undef]], [none, none, none, none, none, none, none, none, none, none, none, none, none, none, none, none, none]⟩
theorem digits_All_t (R : Type) (kk : Nat) (s_0 : ByteArray) (K : List SV → Option Box → Option R) : evFn digits_All_E (Tb12 R) kk Try.f75 digits_All_c [.dat .str s_0 []] none K =
  digits_All_s0 s_0 (fun a0 => loopR (ev digits_All_E (Tb12 R) kk (sub [1, 0, 1, 0, 0] digits_All_c)) [6] [2] kk (digits_All_h0 a0) (kBlock 0 (kSeq digits_All_E (Tb12 R) kk (sub [1, 1] digits_All_c) (kFin digits_All_E Try.f75.results.toList none K)))) := by kernel_rfl
theorem digits_All_d0 (R : Type) (kk k : Nat) (bt6 : (ByteArray × Nat)) (K : Ex → State → Option R) : loopR (ev digits_All_E (Tb12 R) kk (sub [1, 0, 1, 0, 0] digits_All_c)) [6] [2] (k + 1) (digits_All_h0 bt6) K =
  digits_All_s1 bt6 (fun a0 => K .ret (digits_All_x0_0 a0)) (fun a0 => loopR (ev digits_All_E (Tb12 R) kk (sub [1, 0, 1, 0, 0] digits_All_c)) [6] [2] k (digits_All_h0 a0) K) (K (.exit 0) (digits_All_x0_1)) := by kernel_rfl
theorem digits_All_y0_0 (R : Type) (kk : Nat) (t2 : Bool) (K : List SV → Option Box → Option R) : (kBlock 0 (kSeq digits_All_E (Tb12 R) kk (sub [1, 1] digits_All_c) (kFin digits_All_E Try.f75.results.toList none K))) .ret (digits_All_x0_0 t2) =
  digits_All_s2 t2 (fun a0 => K [.dat .bool a0 []] none) := by kernel_rfl
theorem digits_All_y0_1 (R : Type) (kk : Nat)  (K : List SV → Option Box → Option R) : (kBlock 0 (kSeq digits_All_E (Tb12 R) kk (sub [1, 1] digits_All_c) (kFin digits_All_E Try.f75.results.toList none K))) (.exit 0) (digits_All_x0_1) =
  digits_All_s3 (fun a0 => K [.dat .bool a0 []] none) := by kernel_rfl
theorem digits_All_lp0 (R : Type) (k : Nat) (bt6 : (ByteArray × Nat)) (K : Ex → State → Option R) : loopR (ev digits_All_E (Tb12 R) FUEL (sub [1, 0, 1, 0, 0] digits_All_c)) [6] [2] k (digits_All_h0 bt6) K = (digits_All_l0 k bt6).bind fun e => (Sum.elim (fun (we : Bool) => K .ret (digits_All_x0_0 we)) (fun (we : Unit) => K (.exit 0) (digits_All_x0_1)) e) := by
  induction k generalizing bt6 with
  | zero => rfl
  | succ k ih =>
    rw [digits_All_d0]
    simp only [digits_All_l0, digits_All_s0_bind, digits_All_s1_bind, digits_All_s2_bind, digits_All_s3_bind, ih, cond_bind, within_bind, none_bind, some_bind, sum_bind, bind_bind, Sum.elim_inl, Sum.elim_inr]
theorem digits_All_eq (R : Type) (s_0 : ByteArray) (K : List SV → Option Box → Option R) : evFn digits_All_E (Tb12 R) FUEL Try.f75 digits_All_c [.dat .str s_0 []] none K = (digits_All s_0).bind fun r => K [.dat .bool r []] none := by
  rw [digits_All_t]
  simp only [digits_All, digits_All_s0_bind, digits_All_s1_bind, digits_All_s2_bind, digits_All_s3_bind, digits_All_lp0, digits_All_y0_0, digits_All_y0_1, cond_bind, within_bind, none_bind, some_bind, sum_bind, bind_bind, Sum.elim_inl, Sum.elim_inr]
def digits_All_g : Pure := fun R l b K => noBox b (args1 .str l (fun x0 => (digits_All x0).bind fun r => K [.dat .bool r []] none))
theorem digits_All_n : digits_All_g.Nat := fun R S l b F G K h => noBox_nat (args1_nat fun _ => bindr_nat fun _ => h _ _)
def Tb13 : Funs := Tb12.add 75 [.str] digits_All_g
theorem Tb13_nat : Tb13.Nat := add_nat Tb12_nat digits_All_n
theorem Tb13_owes : ∀ f, Owes Try.prog Tb13 f := add_owes (E := digits_All_E) (Tab.env_ok tab_ok _ _ _ _) mixed Tb12_nat Tb12_owes (fn := Try.f75) (code := digits_All_c) Try.func75 (by kernel_rfl) (by kernel_rfl) fun l b r b' h => by
  obtain ⟨rfl, h⟩ := noBox_some h
  obtain ⟨x0, h1, h2⟩ := own1 (E := digits_All_E) rfl h
  exact ⟨FUEL, (h2 _ _ _ _ _ _).trans ((digits_All_eq _ x0 _).trans h1)⟩
noncomputable abbrev mti_Right_c : Code := Try.f64.body.getD .skip
def mti_Right_E : Env := tab.env (fun _ => []) (fun _ => []) [] [.str]
theorem mti_Right_t (R : Type) (kk : Nat) (m_0 : ByteArray) (K : List SV → Option Box → Option R) : evFn mti_Right_E (Tb13 R) kk Try.f64 mti_Right_c [.dat .str m_0 []] none K =
  mti_Right_s0 m_0 (fun a0 => K [.dat .bool a0 []] none) := by kernel_rfl
theorem mti_Right_eq (R : Type) (m_0 : ByteArray) (K : List SV → Option Box → Option R) : evFn mti_Right_E (Tb13 R) FUEL Try.f64 mti_Right_c [.dat .str m_0 []] none K = (mti_Right m_0).bind fun r => K [.dat .bool r []] none := by
  rw [mti_Right_t]
  simp only [mti_Right, mti_Right_s0_bind, cond_bind, within_bind, none_bind, some_bind, sum_bind, bind_bind, Sum.elim_inl, Sum.elim_inr]
def mti_Right_g : Pure := fun R l b K => noBox b (args1 .str l (fun x0 => (mti_Right x0).bind fun r => K [.dat .bool r []] none))
theorem mti_Right_n : mti_Right_g.Nat := fun R S l b F G K h => noBox_nat (args1_nat fun _ => bindr_nat fun _ => h _ _)
def Tb14 : Funs := Tb13.add 64 [.str] mti_Right_g
theorem Tb14_nat : Tb14.Nat := add_nat Tb13_nat mti_Right_n
theorem Tb14_owes : ∀ f, Owes Try.prog Tb14 f := add_owes (E := mti_Right_E) (Tab.env_ok tab_ok _ _ _ _) mixed Tb13_nat Tb13_owes (fn := Try.f64) (code := mti_Right_c) Try.func64 (by kernel_rfl) (by kernel_rfl) fun l b r b' h => by
  obtain ⟨rfl, h⟩ := noBox_some h
  obtain ⟨x0, h1, h2⟩ := own1 (E := mti_Right_E) rfl h
  exact ⟨FUEL, (h2 _ _ _ _ _ _).trans ((mti_Right_eq _ x0 _).trans h1)⟩
noncomputable abbrev mti_Version_c : Code := Try.f46.body.getD .skip
def mti_Version_E : Env := tab.env (fun _ => []) (fun _ => []) [] [.str]
theorem mti_Version_t (R : Type) (kk : Nat) (m_0 : ByteArray) (K : List SV → Option Box → Option R) : evFn mti_Version_E (Tb14 R) kk Try.f46 mti_Version_c [.dat .str m_0 []] none K =
  mti_Version_s0 m_0 (fun a0 a1 => K [.dat (.int .i64) a0 [], .dat .bool a1 []] none) := by kernel_rfl
theorem mti_Version_eq (R : Type) (m_0 : ByteArray) (K : List SV → Option Box → Option R) : evFn mti_Version_E (Tb14 R) FUEL Try.f46 mti_Version_c [.dat .str m_0 []] none K = (mti_Version m_0).bind fun r => K [.dat (.int .i64) r.1 [], .dat .bool r.2 []] none := by
  rw [mti_Version_t]
  simp only [mti_Version, mti_Version_s0_bind, cond_bind, within_bind, none_bind, some_bind, sum_bind, bind_bind, Sum.elim_inl, Sum.elim_inr]
def mti_Version_g : Pure := fun R l b K => noBox b (args1 .str l (fun x0 => (mti_Version x0).bind fun r => K [.dat (.int .i64) r.1 [], .dat .bool r.2 []] none))
theorem mti_Version_n : mti_Version_g.Nat := fun R S l b F G K h => noBox_nat (args1_nat fun _ => bindr_nat fun _ => h _ _)
def Tb15 : Funs := Tb14.add 46 [.str] mti_Version_g
theorem Tb15_nat : Tb15.Nat := add_nat Tb14_nat mti_Version_n
theorem Tb15_owes : ∀ f, Owes Try.prog Tb15 f := add_owes (E := mti_Version_E) (Tab.env_ok tab_ok _ _ _ _) mixed Tb14_nat Tb14_owes (fn := Try.f46) (code := mti_Version_c) Try.func46 (by kernel_rfl) (by kernel_rfl) fun l b r b' h => by
  obtain ⟨rfl, h⟩ := noBox_some h
  obtain ⟨x0, h1, h2⟩ := own1 (E := mti_Version_E) rfl h
  exact ⟨FUEL, (h2 _ _ _ _ _ _).trans ((mti_Version_eq _ x0 _).trans h1)⟩
noncomputable abbrev mti_Request_c : Code := Try.f47.body.getD .skip
def mti_Request_E : Env := tab.env (fun _ => []) (fun _ => []) [] [.str]
theorem mti_Request_t (R : Type) (kk : Nat) (m_0 : ByteArray) (K : List SV → Option Box → Option R) : evFn mti_Request_E (Tb15 R) kk Try.f47 mti_Request_c [.dat .str m_0 []] none K =
  mti_Request_s0 m_0 (fun a0 => K [.dat .bool a0 []] none) := by kernel_rfl
theorem mti_Request_eq (R : Type) (m_0 : ByteArray) (K : List SV → Option Box → Option R) : evFn mti_Request_E (Tb15 R) FUEL Try.f47 mti_Request_c [.dat .str m_0 []] none K = (mti_Request m_0).bind fun r => K [.dat .bool r []] none := by
  rw [mti_Request_t]
  simp only [mti_Request, mti_Request_s0_bind, cond_bind, within_bind, none_bind, some_bind, sum_bind, bind_bind, Sum.elim_inl, Sum.elim_inr]
def mti_Request_g : Pure := fun R l b K => noBox b (args1 .str l (fun x0 => (mti_Request x0).bind fun r => K [.dat .bool r []] none))
theorem mti_Request_n : mti_Request_g.Nat := fun R S l b F G K h => noBox_nat (args1_nat fun _ => bindr_nat fun _ => h _ _)
def Tb16 : Funs := Tb15.add 47 [.str] mti_Request_g
theorem Tb16_nat : Tb16.Nat := add_nat Tb15_nat mti_Request_n
theorem Tb16_owes : ∀ f, Owes Try.prog Tb16 f := add_owes (E := mti_Request_E) (Tab.env_ok tab_ok _ _ _ _) mixed Tb15_nat Tb15_owes (fn := Try.f47) (code := mti_Request_c) Try.func47 (by kernel_rfl) (by kernel_rfl) fun l b r b' h => by
  obtain ⟨rfl, h⟩ := noBox_some h
  obtain ⟨x0, h1, h2⟩ := own1 (E := mti_Request_E) rfl h
  exact ⟨FUEL, (h2 _ _ _ _ _ _).trans ((mti_Request_eq _ x0 _).trans h1)⟩
noncomputable abbrev xlate_typed_c : Code := Try.f30.body.getD .skip
def xlate_typed_E : Env := tab.env (fun _ => []) (fun _ => []) [] [(.pair .str (.pair .str .unit)), y11, y11]
theorem xlate_typed_t (R : Type) (kk : Nat) (p_0 : (ByteArray × ByteArray × Unit)) (a_1 : (Int × Int × (List (Int × Int × Int × Int × Int × Unit)) × Unit)) (b_2 : (Int × Int × (List (Int × Int × Int × Int × Int × Unit)) × Unit)) (K : List SV → Option Box → Option R) : evFn xlate_typed_E (Tb16 R) kk Try.f30 xlate_typed_c [.dat (.pair .str (.pair .str .unit)) p_0 [], .dat y11 a_1 [], .dat y11 b_2 []] none K =
  xlate_typed_s0 p_0 a_1 b_2 (fun a0 => K [.dat .bool a0 []] none) := by kernel_rfl
theorem xlate_typed_eq (R : Type) (p_0 : (ByteArray × ByteArray × Unit)) (a_1 : (Int × Int × (List (Int × Int × Int × Int × Int × Unit)) × Unit)) (b_2 : (Int × Int × (List (Int × Int × Int × Int × Int × Unit)) × Unit)) (K : List SV → Option Box → Option R) : evFn xlate_typed_E (Tb16 R) FUEL Try.f30 xlate_typed_c [.dat (.pair .str (.pair .str .unit)) p_0 [], .dat y11 a_1 [], .dat y11 b_2 []] none K = (xlate_typed p_0 a_1 b_2).bind fun r => K [.dat .bool r []] none := by
  rw [xlate_typed_t]
  simp only [xlate_typed, xlate_typed_s0_bind, cond_bind, within_bind, none_bind, some_bind, sum_bind, bind_bind, Sum.elim_inl, Sum.elim_inr]
def xlate_typed_g : Pure := fun R l b K => noBox b (args3 (.pair .str (.pair .str .unit)) y11 y11 l (fun x0 x1 x2 => (xlate_typed x0 x1 x2).bind fun r => K [.dat .bool r []] none))
theorem xlate_typed_n : xlate_typed_g.Nat := fun R S l b F G K h => noBox_nat (args3_nat fun _ _ _ => bindr_nat fun _ => h _ _)
def Tb17 : Funs := Tb16.add 30 [(.pair .str (.pair .str .unit)), y11, y11] xlate_typed_g
theorem Tb17_nat : Tb17.Nat := add_nat Tb16_nat xlate_typed_n
theorem Tb17_owes : ∀ f, Owes Try.prog Tb17 f := add_owes (E := xlate_typed_E) (Tab.env_ok tab_ok _ _ _ _) mixed Tb16_nat Tb16_owes (fn := Try.f30) (code := xlate_typed_c) Try.func30 (by kernel_rfl) (by kernel_rfl) fun l b r b' h => by
  obtain ⟨rfl, h⟩ := noBox_some h
  obtain ⟨x0, x1, x2, h1, h2⟩ := own3 (E := xlate_typed_E) rfl h
  exact ⟨FUEL, (h2 _ _ _ _ _ _).trans ((xlate_typed_eq _ x0 x1 x2 _).trans h1)⟩
noncomputable abbrev schema_Find_c : Code := Try.f39.body.getD .skip
def schema_Find_E : Env := tab.env (fun i => bif Nat.beq i 2 then [1, 4, 9, 10, 11] else []) (fun i => bif Nat.beq i 2 then [4, 5] else []) [4] [y11, (.int .i64)]
def schema_Find_h0 (no_1 : Int) (t9 : (List (Int × Int × Int × Int × Int × Unit))) (t10 : Int) (t11 : Int) (bt4 : (Int × Int × Int × Int × Int × Unit)) : State := ⟨[[.undef], [.dat (.int .i64) no_1 []], [.undef], [.undef], [.ptr 5 y5 []], [.undef], [.undef], [.undef], [.undef], [.dat (.sl 52 y5) t9 []], [.dat (.int .i64) t10 []], [.dat (.int .i64) t11 []], [.undef], [.undef], [.undef], [.undef], [.undef], [.undef], [.undef], [.undef], [.undef], [.undef]], [none, none, none, none, none, some ⟨y5, bt4, []⟩, none, none, none, none, none, none, none, none, none, none, none, none, none, none, none, none, none]⟩
def schema_Find_x0_0 (t5 : Bool) (bt4 : (Int × Int × Int × Int × Int × Unit)) : State := ⟨[[.undef], [.undef], [.undef], [.undef], [.ptr 5 y5 []], [.dat .bool t5 []], [.undef], [.undef], [.undef], [.undef], [.undef], [.undef], [.undef], [.undef], [.undef], [.undef], [.undef], [.undef], [.undef], [.undef], [.undef], [.undef]], [none, none, none, none, none, some ⟨y5, bt4, []⟩, none, none, none, none, none, none, none, none, none, none, none, none, none, none, none, none, none]⟩
def schema_Find_x0_1 (bt4 : (Int × Int × Int × Int × Int × Unit)) : State := ⟨[[.undef], [.undef], [.undef], [.undef], [.ptr 5 y5 []], [.undef], [.undef], [.undef], [.undef], [.undef], [.undef], [.undef], [.undef], [.undef], [.undef], [.undef], [.undef], [.undef], [.undef], [.undef], [.undef], [.undef]], [none, none, none, none, none, some ⟨y5, bt4, []⟩, none, none, none, none, none, none, none, none, none, none, none, none, none, none, none, none, none]⟩
theorem schema_Find_t (R : Type) (kk : Nat) (s_0 : (Int × Int × (List (Int × Int × Int × Int × Int × Unit)) × Unit)) (no_1 : Int) (K : List SV → Option Box → Option R) : evFn schema_Find_E (Tb17 R) kk Try.f39 schema_Find_c [.dat y11 s_0 [], .dat (.int .i64) no_1 []] none K =
  schema_Find_s0 s_0 no_1 (fun a0 a1 a2 a3 a4 => loopR (ev schema_Find_E (Tb17 R) kk (sub [1, 0, 1, 0, 0] schema_Find_c)) [1, 4, 9, 10, 11] [4, 5] kk (schema_Find_h0 a0 a1 a2 a3 a4) (kBlock 0 (kSeq schema_Find_E (Tb17 R) kk (sub [1, 1] schema_Find_c) (kFin schema_Find_E Try.f39.results.toList none K)))) := by kernel_rfl
theorem schema_Find_d0 (R : Type) (kk k : Nat) (no_1 : Int) (t9 : (List (Int × Int × Int × Int × Int × Unit))) (t10 : Int) (t11 : Int) (bt4 : (Int × Int × Int × Int × Int × Unit)) (K : Ex → State → Option R) : loopR (ev schema_Find_E (Tb17 R) kk (sub [1, 0, 1, 0, 0] schema_Find_c)) [1, 4, 9, 10, 11] [4, 5] (k + 1) (schema_Find_h0 no_1 t9 t10 t11 bt4) K =
  schema_Find_s1 no_1 t9 t10 t11 bt4 (fun a0 a1 => K .ret (schema_Find_x0_0 a0 a1)) (fun a0 a1 a2 a3 a4 => loopR (ev schema_Find_E (Tb17 R) kk (sub [1, 0, 1, 0, 0] schema_Find_c)) [1, 4, 9, 10, 11] [4, 5] k (schema_Find_h0 a0 a1 a2 a3 a4) K) (fun a0 => K (.exit 0) (schema_Find_x0_1 a0)) := by kernel_rfl
theorem schema_Find_y0_0 (R : Type) (kk : Nat) (t5 : Bool) (bt4 : (Int × Int × Int × Int × Int × Unit)) (K : List SV → Option Box → Option R) : (kBlock 0 (kSeq schema_Find_E (Tb17 R) kk (sub [1, 1] schema_Find_c) (kFin schema_Find_E Try.f39.results.toList none K))) .ret (schema_Find_x0_0 t5 bt4) =
  schema_Find_s2 t5 bt4 (fun a0 a1 => K [.dat y5 a0 [], .dat .bool a1 []] none) := by kernel_rfl
theorem schema_Find_y0_1 (R : Type) (kk : Nat) (bt4 : (Int × Int × Int × Int × Int × Unit)) (K : List SV → Option Box → Option R) : (kBlock 0 (kSeq schema_Find_E (Tb17 R) kk (sub [1, 1] schema_Find_c) (kFin schema_Find_E Try.f39.results.toList none K))) (.exit 0) (schema_Find_x0_1 bt4) =
  schema_Find_s3 bt4 (fun a0 a1 => K [.dat y5 a0 [], .dat .bool a1 []] none) := by kernel_rfl
theorem schema_Find_lp0 (R : Type) (k : Nat) (no_1 : Int) (t9 : (List (Int × Int × Int × Int × Int × Unit))) (t10 : Int) (t11 : Int) (bt4 : (Int × Int × Int × Int × Int × Unit)) (K : Ex → State → Option R) : loopR (ev schema_Find_E (Tb17 R) FUEL (sub [1, 0, 1, 0, 0] schema_Find_c)) [1, 4, 9, 10, 11] [4, 5] k (schema_Find_h0 no_1 t9 t10 t11 bt4) K = (schema_Find_l0 k no_1 t9 t10 t11 bt4).bind fun e => (Sum.elim (fun (we : (Bool × (Int × Int × Int × Int × Int × Unit))) => K .ret (schema_Find_x0_0 we.1 we.2)) (fun (we : (Int × Int × Int × Int × Int × Unit)) => K (.exit 0) (schema_Find_x0_1 we)) e) := by
  induction k generalizing no_1 t9 t10 t11 bt4 with
  | zero => rfl
  | succ k ih =>
    rw [schema_Find_d0]
    simp only [schema_Find_l0, schema_Find_s0_bind, schema_Find_s1_bind, schema_Find_s2_bind, schema_Find_s3_bind, ih, cond_bind, within_bind, none_bind, some_bind, sum_bind, bind_bind, Sum.elim_inl, Sum.elim_inr]
theorem schema_Find_eq (R : Type) (s_0 : (Int × Int × (List (Int × Int × Int × Int × Int × Unit)) × Unit)) (no_1 : Int) (K : List SV → Option Box → Option R) : evFn schema_Find_E (Tb17 R) FUEL Try.f39 schema_Find_c [.dat y11 s_0 [], .dat (.int .i64) no_1 []] none K = (schema_Find s_0 no_1).bind fun r => K [.dat y5 r.1 [], .dat .bool r.2 []] none := by
  rw [schema_Find_t]
  simp only [schema_Find, schema_Find_s0_bind, schema_Find_s1_bind, schema_Find_s2_bind, schema_Find_s3_bind, schema_Find_lp0, schema_Find_y0_0, schema_Find_y0_1, cond_bind, within_bind, none_bind, some_bind, sum_bind, bind_bind, Sum.elim_inl, Sum.elim_inr]
def schema_Find_g : Pure := fun R l b K => noBox b (args2 y11 (.int .i64) l (fun x0 x1 => (schema_Find x0 x1).bind fun r => K [.dat y5 r.1 [], .dat .bool r.2 []] none))
theorem schema_Find_n : schema_Find_g.Nat := fun R S l b F G K h => noBox_nat (args2_nat fun _ _ => bindr_nat fun _ => h _ _)
def Tb18 : Funs := Tb17.add 39 [y11, (.int .i64)] schema_Find_g
theorem Tb18_nat : Tb18.Nat := add_nat Tb17_nat schema_Find_n
theorem Tb18_owes : ∀ f, Owes Try.prog Tb18 f := add_owes (E := schema_Find_E) (Tab.env_ok tab_ok _ _ _ _) mixed Tb17_nat Tb17_owes (fn := Try.f39) (code := schema_Find_c) Try.func39 (by kernel_rfl) (by kernel_rfl) fun l b r b' h => by
  obtain ⟨rfl, h⟩ := noBox_some h
  obtain ⟨x0, x1, h1, h2⟩ := own2 (E := schema_Find_E) rfl h
  exact ⟨FUEL, (h2 _ _ _ _ _ _).trans ((schema_Find_eq _ x0 x1 _).trans h1)⟩
noncomputable abbrev rule_ends_c : Code := Try.f48.body.getD .skip
def rule_ends_E : Env := tab.env (fun _ => []) (fun _ => []) [6, 7] [y7, y11, y11]
theorem rule_ends_t (R : Type) (kk : Nat) (r_0 : (Int × Int × Int × ByteArray × (List (ByteArray × ByteArray × Unit)) × Unit)) (a_1 : (Int × Int × (List (Int × Int × Int × Int × Int × Unit)) × Unit)) (b_2 : (Int × Int × (List (Int × Int × Int × Int × Int × Unit)) × Unit)) (K : List SV → Option Box → Option R) : evFn rule_ends_E (Tb18 R) kk Try.f48 rule_ends_c [.dat y7 r_0 [], .dat y11 a_1 [], .dat y11 b_2 []] none K =
  rule_ends_s0 r_0 a_1 b_2 (fun a0 a1 a2 => K [.dat y5 a0 [], .dat y5 a1 [], .dat (.int .i64) a2 []] none) := by kernel_rfl
theorem rule_ends_eq (R : Type) (r_0 : (Int × Int × Int × ByteArray × (List (ByteArray × ByteArray × Unit)) × Unit)) (a_1 : (Int × Int × (List (Int × Int × Int × Int × Int × Unit)) × Unit)) (b_2 : (Int × Int × (List (Int × Int × Int × Int × Int × Unit)) × Unit)) (K : List SV → Option Box → Option R) : evFn rule_ends_E (Tb18 R) FUEL Try.f48 rule_ends_c [.dat y7 r_0 [], .dat y11 a_1 [], .dat y11 b_2 []] none K = (rule_ends r_0 a_1 b_2).bind fun r => K [.dat y5 r.1 [], .dat y5 r.2.1 [], .dat (.int .i64) r.2.2 []] none := by
  rw [rule_ends_t]
  simp only [rule_ends, rule_ends_s0_bind, cond_bind, within_bind, none_bind, some_bind, sum_bind, bind_bind, Sum.elim_inl, Sum.elim_inr]
def rule_ends_g : Pure := fun R l b K => noBox b (args3 y7 y11 y11 l (fun x0 x1 x2 => (rule_ends x0 x1 x2).bind fun r => K [.dat y5 r.1 [], .dat y5 r.2.1 [], .dat (.int .i64) r.2.2 []] none))
theorem rule_ends_n : rule_ends_g.Nat := fun R S l b F G K h => noBox_nat (args3_nat fun _ _ _ => bindr_nat fun _ => h _ _)
def Tb19 : Funs := Tb18.add 48 [y7, y11, y11] rule_ends_g
theorem Tb19_nat : Tb19.Nat := add_nat Tb18_nat rule_ends_n
theorem Tb19_owes : ∀ f, Owes Try.prog Tb19 f := add_owes (E := rule_ends_E) (Tab.env_ok tab_ok _ _ _ _) mixed Tb18_nat Tb18_owes (fn := Try.f48) (code := rule_ends_c) Try.func48 (by kernel_rfl) (by kernel_rfl) fun l b r b' h => by
  obtain ⟨rfl, h⟩ := noBox_some h
  obtain ⟨x0, x1, x2, h1, h2⟩ := own3 (E := rule_ends_E) rfl h
  exact ⟨FUEL, (h2 _ _ _ _ _ _).trans ((rule_ends_eq _ x0 x1 x2 _).trans h1)⟩
noncomputable abbrev class_Wider_c : Code := Try.f68.body.getD .skip
def class_Wider_E : Env := tab.env (fun _ => []) (fun _ => []) [] [(.int .i64), (.int .i64)]
theorem class_Wider_t (R : Type) (kk : Nat) (a_0 : Int) (b_1 : Int) (K : List SV → Option Box → Option R) : evFn class_Wider_E (Tb19 R) kk Try.f68 class_Wider_c [.dat (.int .i64) a_0 [], .dat (.int .i64) b_1 []] none K =
  class_Wider_s0 a_0 b_1 (fun a0 => K [.dat .bool a0 []] none) := by kernel_rfl
theorem class_Wider_eq (R : Type) (a_0 : Int) (b_1 : Int) (K : List SV → Option Box → Option R) : evFn class_Wider_E (Tb19 R) FUEL Try.f68 class_Wider_c [.dat (.int .i64) a_0 [], .dat (.int .i64) b_1 []] none K = (class_Wider a_0 b_1).bind fun r => K [.dat .bool r []] none := by
  rw [class_Wider_t]
  simp only [class_Wider, class_Wider_s0_bind, cond_bind, within_bind, none_bind, some_bind, sum_bind, bind_bind, Sum.elim_inl, Sum.elim_inr]
def class_Wider_g : Pure := fun R l b K => noBox b (args2 (.int .i64) (.int .i64) l (fun x0 x1 => (class_Wider x0 x1).bind fun r => K [.dat .bool r []] none))
theorem class_Wider_n : class_Wider_g.Nat := fun R S l b F G K h => noBox_nat (args2_nat fun _ _ => bindr_nat fun _ => h _ _)
def Tb20 : Funs := Tb19.add 68 [(.int .i64), (.int .i64)] class_Wider_g
theorem Tb20_nat : Tb20.Nat := add_nat Tb19_nat class_Wider_n
theorem Tb20_owes : ∀ f, Owes Try.prog Tb20 f := add_owes (E := class_Wider_E) (Tab.env_ok tab_ok _ _ _ _) mixed Tb19_nat Tb19_owes (fn := Try.f68) (code := class_Wider_c) Try.func68 (by kernel_rfl) (by kernel_rfl) fun l b r b' h => by
  obtain ⟨rfl, h⟩ := noBox_some h
  obtain ⟨x0, x1, h1, h2⟩ := own2 (E := class_Wider_E) rfl h
  exact ⟨FUEL, (h2 _ _ _ _ _ _).trans ((class_Wider_eq _ x0 x1 _).trans h1)⟩
noncomputable abbrev spec_classes_c : Code := Try.f53.body.getD .skip
def spec_classes_E : Env := tab.env (fun _ => []) (fun _ => []) [] [(.int .i64), (.int .i64)]
theorem spec_classes_t (R : Type) (kk : Nat) (a_0 : Int) (b_1 : Int) (K : List SV → Option Box → Option R) : evFn spec_classes_E (Tb20 R) kk Try.f53 spec_classes_c [.dat (.int .i64) a_0 [], .dat (.int .i64) b_1 []] none K =
  spec_classes_s0 a_0 b_1 (fun a0 => K [.dat .bool a0 []] none) := by kernel_rfl
theorem spec_classes_eq (R : Type) (a_0 : Int) (b_1 : Int) (K : List SV → Option Box → Option R) : evFn spec_classes_E (Tb20 R) FUEL Try.f53 spec_classes_c [.dat (.int .i64) a_0 [], .dat (.int .i64) b_1 []] none K = (spec_classes a_0 b_1).bind fun r => K [.dat .bool r []] none := by
  rw [spec_classes_t]
  simp only [spec_classes, spec_classes_s0_bind, cond_bind, within_bind, none_bind, some_bind, sum_bind, bind_bind, Sum.elim_inl, Sum.elim_inr]
def spec_classes_g : Pure := fun R l b K => noBox b (args2 (.int .i64) (.int .i64) l (fun x0 x1 => (spec_classes x0 x1).bind fun r => K [.dat .bool r []] none))
theorem spec_classes_n : spec_classes_g.Nat := fun R S l b F G K h => noBox_nat (args2_nat fun _ _ => bindr_nat fun _ => h _ _)
def Tb21 : Funs := Tb20.add 53 [(.int .i64), (.int .i64)] spec_classes_g
theorem Tb21_nat : Tb21.Nat := add_nat Tb20_nat spec_classes_n
theorem Tb21_owes : ∀ f, Owes Try.prog Tb21 f := add_owes (E := spec_classes_E) (Tab.env_ok tab_ok _ _ _ _) mixed Tb20_nat Tb20_owes (fn := Try.f53) (code := spec_classes_c) Try.func53 (by kernel_rfl) (by kernel_rfl) fun l b r b' h => by
  obtain ⟨rfl, h⟩ := noBox_some h
  obtain ⟨x0, x1, h1, h2⟩ := own2 (E := spec_classes_E) rfl h
  exact ⟨FUEL, (h2 _ _ _ _ _ _).trans ((spec_classes_eq _ x0 x1 _).trans h1)⟩
noncomputable abbrev spec_Wider_c : Code := Try.f40.body.getD .skip
def spec_Wider_E : Env := tab.env (fun _ => []) (fun _ => []) [] [y5, y5]
theorem spec_Wider_t (R : Type) (kk : Nat) (a_0 : (Int × Int × Int × Int × Int × Unit)) (b_1 : (Int × Int × Int × Int × Int × Unit)) (K : List SV → Option Box → Option R) : evFn spec_Wider_E (Tb21 R) kk Try.f40 spec_Wider_c [.dat y5 a_0 [], .dat y5 b_1 []] none K =
  spec_Wider_s0 a_0 b_1 (fun a0 => K [.dat .bool a0 []] none) := by kernel_rfl
theorem spec_Wider_eq (R : Type) (a_0 : (Int × Int × Int × Int × Int × Unit)) (b_1 : (Int × Int × Int × Int × Int × Unit)) (K : List SV → Option Box → Option R) : evFn spec_Wider_E (Tb21 R) FUEL Try.f40 spec_Wider_c [.dat y5 a_0 [], .dat y5 b_1 []] none K = (spec_Wider a_0 b_1).bind fun r => K [.dat .bool r []] none := by
  rw [spec_Wider_t]
  simp only [spec_Wider, spec_Wider_s0_bind, cond_bind, within_bind, none_bind, some_bind, sum_bind, bind_bind, Sum.elim_inl, Sum.elim_inr]
def spec_Wider_g : Pure := fun R l b K => noBox b (args2 y5 y5 l (fun x0 x1 => (spec_Wider x0 x1).bind fun r => K [.dat .bool r []] none))
theorem spec_Wider_n : spec_Wider_g.Nat := fun R S l b F G K h => noBox_nat (args2_nat fun _ _ => bindr_nat fun _ => h _ _)
def Tb22 : Funs := Tb21.add 40 [y5, y5] spec_Wider_g
theorem Tb22_nat : Tb22.Nat := add_nat Tb21_nat spec_Wider_n
theorem Tb22_owes : ∀ f, Owes Try.prog Tb22 f := add_owes (E := spec_Wider_E) (Tab.env_ok tab_ok _ _ _ _) mixed Tb21_nat Tb21_owes (fn := Try.f40) (code := spec_Wider_c) Try.func40 (by kernel_rfl) (by kernel_rfl) fun l b r b' h => by
  obtain ⟨rfl, h⟩ := noBox_some h
  obtain ⟨x0, x1, h1, h2⟩ := own2 (E := spec_Wider_E) rfl h
  exact ⟨FUEL, (h2 _ _ _ _ _ _).trans ((spec_Wider_eq _ x0 x1 _).trans h1)⟩
noncomputable abbrev class_of_c : Code := Try.f76.body.getD .skip
def class_of_E : Env := tab.env (fun _ => []) (fun _ => []) [] [(.int .u8)]
theorem class_of_t (R : Type) (kk : Nat) (b_0 : Int) (K : List SV → Option Box → Option R) : evFn class_of_E (Tb22 R) kk Try.f76 class_of_c [.dat (.int .u8) b_0 []] none K =
  class_of_s0 b_0 (fun a0 => K [.dat (.int .i64) a0 []] none) := by kernel_rfl
theorem class_of_eq (R : Type) (b_0 : Int) (K : List SV → Option Box → Option R) : evFn class_of_E (Tb22 R) FUEL Try.f76 class_of_c [.dat (.int .u8) b_0 []] none K = (class_of b_0).bind fun r => K [.dat (.int .i64) r []] none := by
  rw [class_of_t]
  simp only [class_of, class_of_s0_bind, cond_bind, within_bind, none_bind, some_bind, sum_bind, bind_bind, Sum.elim_inl, Sum.elim_inr]
def class_of_g : Pure := fun R l b K => noBox b (args1 (.int .u8) l (fun x0 => (class_of x0).bind fun r => K [.dat (.int .i64) r []] none))
theorem class_of_n : class_of_g.Nat := fun R S l b F G K h => noBox_nat (args1_nat fun _ => bindr_nat fun _ => h _ _)
def Tb23 : Funs := Tb22.add 76 [(.int .u8)] class_of_g
theorem Tb23_nat : Tb23.Nat := add_nat Tb22_nat class_of_n
theorem Tb23_owes : ∀ f, Owes Try.prog Tb23 f := add_owes (E := class_of_E) (Tab.env_ok tab_ok _ _ _ _) mixed Tb22_nat Tb22_owes (fn := Try.f76) (code := class_of_c) Try.func76 (by kernel_rfl) (by kernel_rfl) fun l b r b' h => by
  obtain ⟨rfl, h⟩ := noBox_some h
  obtain ⟨x0, h1, h2⟩ := own1 (E := class_of_E) rfl h
  exact ⟨FUEL, (h2 _ _ _ _ _ _).trans ((class_of_eq _ x0 _).trans h1)⟩
noncomputable abbrev class_First_c : Code := Try.f65.body.getD .skip
def class_First_E : Env := tab.env (fun i => bif Nat.beq i 3 then [1, 5, 6] else []) (fun i => bif Nat.beq i 3 then [4] else []) [] [(.int .i64), .str]
def class_First_h0 (s_1 : ByteArray) (t5 : Int) (t6 : Int) : State := ⟨[[.undef], [.dat .str s_1 []], [.undef], [.undef], [.undef], [.dat (.int .i64) t5 []], [.dat (.int .i64) t6 []], [.undef], [.undef], [.undef], [.undef], [.undef], [.undef], [.undef], [.undef], [.undef], [.undef], [.undef], [.undef], [.undef], [.undef], [.undef], [.undef]], [none, none, none, none, none, none, none, none, none, none, none, none, none, none, none, none, none, none, none, none, none, none, none, none]⟩
def class_First_x0_0 (t4 : Int) : State := ⟨[[.undef], [.undef], [.undef], [.undef], [.dat (.int .i64) t4 []], [.undef], [.undef], [.undef], [.undef], [.undef], [.undef], [.undef], [.undef], [.undef], [.undef], [.undef], [.undef], [.undef], [.undef], [.undef], [.undef], [.undef], [.undef]], [none, none, none, none, none, none, none, none, none, none, none, none, none, none, none, none, none, none, none, none, none, none, none, none]⟩
def class_First_x0_1  : State := ⟨[[.undef], [.undef], [.undef], [.undef], [.undef], [.undef], [.undef], [.undef], [.undef], [.undef], [.undef], [.undef], [.undef], [.undef], [.undef], [.undef], [.undef], [.undef], [.undef], [.undef], [.undef], [.undef], [.undef]], [none, none, none, none, none, none, none, none, none, none, none, none, none, none, none, none, none, none, none, none, none, none, none, none]⟩
theorem class_First_t (R : Type) (kk : Nat) (class_0 : Int) (s_1 : ByteArray) (K : List SV → Option Box → Option R) : evFn class_First_E (Tb23 R) kk Try.f65 class_First_c [.dat (.int .i64) class_0 [], .dat .str s_1 []] none K =
  class_First_s0 class_0 s_1 (fun a0 a1 a2 => loopR (ev class_First_E (Tb23 R) kk (sub [1, 1, 0, 1, 0, 0] class_First_c)) [1, 5, 6] [4] kk (class_First_h0 a0 a1 a2) (kBlock 0 (kSeq class_First_E (Tb23 R) kk (sub [1, 1, 1] class_First_c) (kFin class_First_E Try.f65.results.toList none K)))) := by kernel_rfl
theorem class_First_d0 (R : Type) (kk k : Nat) (s_1 : ByteArray) (t5 : Int) (t6 : Int) (K : Ex → State → Option R) : loopR (ev class_First_E (Tb23 R) kk (sub [1, 1, 0, 1, 0, 0] class_First_c)) [1, 5, 6] [4] (k + 1) (class_First_h0 s_1 t5 t6) K =
  class_First_s1 s_1 t5 t6 (fun a0 => K .ret (class_First_x0_0 a0)) (fun a0 a1 a2 => loopR (ev class_First_E (Tb23 R) kk (sub [1, 1, 0, 1, 0, 0] class_First_c)) [1, 5, 6] [4] k (class_First_h0 a0 a1 a2) K) (K (.exit 0) (class_First_x0_1)) := by kernel_rfl
theorem class_First_y0_0 (R : Type) (kk : Nat) (t4 : Int) (K : List SV → Option Box → Option R) : (kBlock 0 (kSeq class_First_E (Tb23 R) kk (sub [1, 1, 1] class_First_c) (kFin class_First_E Try.f65.results.toList none K))) .ret (class_First_x0_0 t4) =
  class_First_s2 t4 (fun a0 => K [.dat (.int .i64) a0 []] none) := by kernel_rfl
theorem class_First_y0_1 (R : Type) (kk : Nat)  (K : List SV → Option Box → Option R) : (kBlock 0 (kSeq class_First_E (Tb23 R) kk (sub [1, 1, 1] class_First_c) (kFin class_First_E Try.f65.results.toList none K))) (.exit 0) (class_First_x0_1) =
  class_First_s3 (fun a0 => K [.dat (.int .i64) a0 []] none) := by kernel_rfl
theorem class_First_lp0 (R : Type) (k : Nat) (s_1 : ByteArray) (t5 : Int) (t6 : Int) (K : Ex → State → Option R) : loopR (ev class_First_E (Tb23 R) FUEL (sub [1, 1, 0, 1, 0, 0] class_First_c)) [1, 5, 6] [4] k (class_First_h0 s_1 t5 t6) K = (class_First_l0 k s_1 t5 t6).bind fun e => (Sum.elim (fun (we : Int) => K .ret (class_First_x0_0 we)) (fun (we : Unit) => K (.exit 0) (class_First_x0_1)) e) := by
  induction k generalizing s_1 t5 t6 with
  | zero => rfl
  | succ k ih =>
    rw [class_First_d0]
    simp only [class_First_l0, class_First_s0_bind, class_First_s1_bind, class_First_s2_bind, class_First_s3_bind, ih, cond_bind, within_bind, none_bind, some_bind, sum_bind, bind_bind, Sum.elim_inl, Sum.elim_inr]
theorem class_First_eq (R : Type) (class_0 : Int) (s_1 : ByteArray) (K : List SV → Option Box → Option R) : evFn class_First_E (Tb23 R) FUEL Try.f65 class_First_c [.dat (.int .i64) class_0 [], .dat .str s_1 []] none K = (class_First class_0 s_1).bind fun r => K [.dat (.int .i64) r []] none := by
  rw [class_First_t]
  simp only [class_First, class_First_s0_bind, class_First_s1_bind, class_First_s2_bind, class_First_s3_bind, class_First_lp0, class_First_y0_0, class_First_y0_1, cond_bind, within_bind, none_bind, some_bind, sum_bind, bind_bind, Sum.elim_inl, Sum.elim_inr]
def class_First_g : Pure := fun R l b K => noBox b (args2 (.int .i64) .str l (fun x0 x1 => (class_First x0 x1).bind fun r => K [.dat (.int .i64) r []] none))
theorem class_First_n : class_First_g.Nat := fun R S l b F G K h => noBox_nat (args2_nat fun _ _ => bindr_nat fun _ => h _ _)
def Tb24 : Funs := Tb23.add 65 [(.int .i64), .str] class_First_g
theorem Tb24_nat : Tb24.Nat := add_nat Tb23_nat class_First_n
theorem Tb24_owes : ∀ f, Owes Try.prog Tb24 f := add_owes (E := class_First_E) (Tab.env_ok tab_ok _ _ _ _) mixed Tb23_nat Tb23_owes (fn := Try.f65) (code := class_First_c) Try.func65 (by kernel_rfl) (by kernel_rfl) fun l b r b' h => by
  obtain ⟨rfl, h⟩ := noBox_some h
  obtain ⟨x0, x1, h1, h2⟩ := own2 (E := class_First_E) rfl h
  exact ⟨FUEL, (h2 _ _ _ _ _ _).trans ((class_First_eq _ x0 x1 _).trans h1)⟩
noncomputable abbrev tag_first_c : Code := Try.f82.body.getD .skip
def tag_first_E : Env := tab.env (fun _ => []) (fun _ => []) [] [(.int .i64)]
theorem tag_first_t (R : Type) (kk : Nat) (b_0 : Int) (K : List SV → Option Box → Option R) : evFn tag_first_E (Tb24 R) kk Try.f82 tag_first_c [.dat (.int .i64) b_0 []] none K =
  tag_first_s0 b_0 (fun a0 => K [.dat .bool a0 []] none) := by kernel_rfl
theorem tag_first_eq (R : Type) (b_0 : Int) (K : List SV → Option Box → Option R) : evFn tag_first_E (Tb24 R) FUEL Try.f82 tag_first_c [.dat (.int .i64) b_0 []] none K = (tag_first b_0).bind fun r => K [.dat .bool r []] none := by
  rw [tag_first_t]
  simp only [tag_first, tag_first_s0_bind, cond_bind, within_bind, none_bind, some_bind, sum_bind, bind_bind, Sum.elim_inl, Sum.elim_inr]
def tag_first_g : Pure := fun R l b K => noBox b (args1 (.int .i64) l (fun x0 => (tag_first x0).bind fun r => K [.dat .bool r []] none))
theorem tag_first_n : tag_first_g.Nat := fun R S l b F G K h => noBox_nat (args1_nat fun _ => bindr_nat fun _ => h _ _)
def Tb25 : Funs := Tb24.add 82 [(.int .i64)] tag_first_g
theorem Tb25_nat : Tb25.Nat := add_nat Tb24_nat tag_first_n
theorem Tb25_owes : ∀ f, Owes Try.prog Tb25 f := add_owes (E := tag_first_E) (Tab.env_ok tab_ok _ _ _ _) mixed Tb24_nat Tb24_owes (fn := Try.f82) (code := tag_first_c) Try.func82 (by kernel_rfl) (by kernel_rfl) fun l b r b' h => by
  obtain ⟨rfl, h⟩ := noBox_some h
  obtain ⟨x0, h1, h2⟩ := own1 (E := tag_first_E) rfl h
  exact ⟨FUEL, (h2 _ _ _ _ _ _).trans ((tag_first_eq _ x0 _).trans h1)⟩
noncomputable abbrev tag_Right_c : Code := Try.f83.body.getD .skip
def tag_Right_E : Env := tab.env (fun _ => []) (fun _ => []) [] [(.int .i64)]
theorem tag_Right_t (R : Type) (kk : Nat) (tag_0 : Int) (K : List SV → Option Box → Option R) : evFn tag_Right_E (Tb25 R) kk Try.f83 tag_Right_c [.dat (.int .i64) tag_0 []] none K =
  tag_Right_s0 tag_0 (fun a0 => K [.dat .bool a0 []] none) := by kernel_rfl
theorem tag_Right_eq (R : Type) (tag_0 : Int) (K : List SV → Option Box → Option R) : evFn tag_Right_E (Tb25 R) FUEL Try.f83 tag_Right_c [.dat (.int .i64) tag_0 []] none K = (tag_Right tag_0).bind fun r => K [.dat .bool r []] none := by
  rw [tag_Right_t]
  simp only [tag_Right, tag_Right_s0_bind, cond_bind, within_bind, none_bind, some_bind, sum_bind, bind_bind, Sum.elim_inl, Sum.elim_inr]
def tag_Right_g : Pure := fun R l b K => noBox b (args1 (.int .i64) l (fun x0 => (tag_Right x0).bind fun r => K [.dat .bool r []] none))
theorem tag_Right_n : tag_Right_g.Nat := fun R S l b F G K h => noBox_nat (args1_nat fun _ => bindr_nat fun _ => h _ _)
def Tb26 : Funs := Tb25.add 83 [(.int .i64)] tag_Right_g
theorem Tb26_nat : Tb26.Nat := add_nat Tb25_nat tag_Right_n
theorem Tb26_owes : ∀ f, Owes Try.prog Tb26 f := add_owes (E := tag_Right_E) (Tab.env_ok tab_ok _ _ _ _) mixed Tb25_nat Tb25_owes (fn := Try.f83) (code := tag_Right_c) Try.func83 (by kernel_rfl) (by kernel_rfl) fun l b r b' h => by
  obtain ⟨rfl, h⟩ := noBox_some h
  obtain ⟨x0, h1, h2⟩ := own1 (E := tag_Right_E) rfl h
  exact ⟨FUEL, (h2 _ _ _ _ _ _).trans ((tag_Right_eq _ x0 _).trans h1)⟩
noncomputable abbrev tag_Get_c : Code := Try.f77.body.getD .skip
def tag_Get_E : Env := tab.env (fun _ => []) (fun _ => []) [] [.str, (.int .i64)]
theorem tag_Get_t (R : Type) (kk : Nat) (b_0 : ByteArray) (at_1 : Int) (K : List SV → Option Box → Option R) : evFn tag_Get_E (Tb26 R) kk Try.f77 tag_Get_c [.dat .str b_0 [], .dat (.int .i64) at_1 []] none K =
  tag_Get_s0 b_0 at_1 (fun a0 a1 a2 => K [.dat (.int .i64) a0 [], .dat (.int .i64) a1 [], .dat (.int .i64) a2 []] none) := by kernel_rfl
theorem tag_Get_eq (R : Type) (b_0 : ByteArray) (at_1 : Int) (K : List SV → Option Box → Option R) : evFn tag_Get_E (Tb26 R) FUEL Try.f77 tag_Get_c [.dat .str b_0 [], .dat (.int .i64) at_1 []] none K = (tag_Get b_0 at_1).bind fun r => K [.dat (.int .i64) r.1 [], .dat (.int .i64) r.2.1 [], .dat (.int .i64) r.2.2 []] none := by
  rw [tag_Get_t]
  simp only [tag_Get, tag_Get_s0_bind, cond_bind, within_bind, none_bind, some_bind, sum_bind, bind_bind, Sum.elim_inl, Sum.elim_inr]
def tag_Get_g : Pure := fun R l b K => noBox b (args2 .str (.int .i64) l (fun x0 x1 => (tag_Get x0 x1).bind fun r => K [.dat (.int .i64) r.1 [], .dat (.int .i64) r.2.1 [], .dat (.int .i64) r.2.2 []] none))
theorem tag_Get_n : tag_Get_g.Nat := fun R S l b F G K h => noBox_nat (args2_nat fun _ _ => bindr_nat fun _ => h _ _)
def Tb27 : Funs := Tb26.add 77 [.str, (.int .i64)] tag_Get_g
theorem Tb27_nat : Tb27.Nat := add_nat Tb26_nat tag_Get_n
theorem Tb27_owes : ∀ f, Owes Try.prog Tb27 f := add_owes (E := tag_Get_E) (Tab.env_ok tab_ok _ _ _ _) mixed Tb26_nat Tb26_owes (fn := Try.f77) (code := tag_Get_c) Try.func77 (by kernel_rfl) (by kernel_rfl) fun l b r b' h => by
  obtain ⟨rfl, h⟩ := noBox_some h
  obtain ⟨x0, x1, h1, h2⟩ := own2 (E := tag_Get_E) rfl h
  exact ⟨FUEL, (h2 _ _ _ _ _ _).trans ((tag_Get_eq _ x0 x1 _).trans h1)⟩
noncomputable abbrev ber_Size_c : Code := Try.f84.body.getD .skip
def ber_Size_E : Env := tab.env (fun _ => []) (fun _ => []) [] [(.int .i64)]
theorem ber_Size_t (R : Type) (kk : Nat) (n_0 : Int) (K : List SV → Option Box → Option R) : evFn ber_Size_E (Tb27 R) kk Try.f84 ber_Size_c [.dat (.int .i64) n_0 []] none K =
  ber_Size_s0 n_0 (fun a0 => K [.dat (.int .i64) a0 []] none) := by kernel_rfl
theorem ber_Size_eq (R : Type) (n_0 : Int) (K : List SV → Option Box → Option R) : evFn ber_Size_E (Tb27 R) FUEL Try.f84 ber_Size_c [.dat (.int .i64) n_0 []] none K = (ber_Size n_0).bind fun r => K [.dat (.int .i64) r []] none := by
  rw [ber_Size_t]
  simp only [ber_Size, ber_Size_s0_bind, cond_bind, within_bind, none_bind, some_bind, sum_bind, bind_bind, Sum.elim_inl, Sum.elim_inr]
def ber_Size_g : Pure := fun R l b K => noBox b (args1 (.int .i64) l (fun x0 => (ber_Size x0).bind fun r => K [.dat (.int .i64) r []] none))
theorem ber_Size_n : ber_Size_g.Nat := fun R S l b F G K h => noBox_nat (args1_nat fun _ => bindr_nat fun _ => h _ _)
def Tb28 : Funs := Tb27.add 84 [(.int .i64)] ber_Size_g
theorem Tb28_nat : Tb28.Nat := add_nat Tb27_nat ber_Size_n
theorem Tb28_owes : ∀ f, Owes Try.prog Tb28 f := add_owes (E := ber_Size_E) (Tab.env_ok tab_ok _ _ _ _) mixed Tb27_nat Tb27_owes (fn := Try.f84) (code := ber_Size_c) Try.func84 (by kernel_rfl) (by kernel_rfl) fun l b r b' h => by
  obtain ⟨rfl, h⟩ := noBox_some h
  obtain ⟨x0, h1, h2⟩ := own1 (E := ber_Size_E) rfl h
  exact ⟨FUEL, (h2 _ _ _ _ _ _).trans ((ber_Size_eq _ x0 _).trans h1)⟩
noncomputable abbrev ber_Get_c : Code := Try.f78.body.getD .skip
def ber_Get_E : Env := tab.env (fun i => bif Nat.beq i 14 then [0, 1, 7, 8, 44, 45] else []) (fun i => bif Nat.beq i 14 then [1, 7, 8] else []) [] [.str, (.int .i64)]
def ber_Get_h0 (b_0 : ByteArray) (at_1 : Int) (t7 : Int) (t8 : Int) (t44 : Int) (t45 : Int) : State := ⟨[[.dat .str b_0 []], [.dat (.int .i64) at_1 []], [.undef], [.undef], [.undef], [.undef], [.undef], [.dat (.int .i64) t7 []], [.dat (.int .i64) t8 []], [.undef], [.undef], [.undef], [.undef], [.undef], [.undef], [.undef], [.undef], [.undef], [.undef], [.undef], [.undef], [.undef], [.undef], [.undef], [.undef], [.undef], [.undef], [.undef], [.undef], [.undef], [.undef], [.undef], [.undef], [.undef], [.undef], [.undef], [.undef], [.undef], [.undef], [.undef], [.undef], [.undef], [.undef], [.undef], [.dat (.int .i64) t44 []], [.dat (.int .i64) t45 []], [.undef], [.undef], [.undef], [.undef], [.undef], [.undef], [.undef], [.undef], [.undef], [.undef], [.undef], [.undef], [.undef], [.undef], [.undef], [.undef], [.undef], [.undef], [.undef], [.undef], [.undef]], [none, none, none, none, none, none, none, none, none, none, none, none, none, none, none, none, none, none, none, none, none, none, none, none, none, none, none, none, none, none, none, none, none, none, none, none, none, none, none, none, none, none, none, none, none, none, none, none, none, none, none, none, none, none, none, none, none, none, none, none, none, none, none, none, none, none, none, none]⟩
def ber_Get_x0_0 (at_1 : Int) (t7 : Int) (t8 : Int) : State := ⟨[[.undef], [.dat (.int .i64) at_1 []], [.undef], [.undef], [.undef], [.undef], [.undef], [.dat (.int .i64) t7 []], [.dat (.int .i64) t8 []], [.undef], [.undef], [.undef], [.undef], [.undef], [.undef], [.undef], [.undef], [.undef], [.undef], [.undef], [.undef], [.undef], [.undef], [.undef], [.undef], [.undef], [.undef], [.undef], [.undef], [.undef], [.undef], [.undef], [.undef], [.undef], [.undef], [.undef], [.undef], [.undef], [.undef], [.undef], [.undef], [.undef], [.undef], [.undef], [.undef], [.undef], [.undef], [.undef], [.undef], [.undef], [.undef], [.undef], [.undef], [.undef], [.undef], [.undef], [.undef], [.undef], [.undef], [.undef], [.undef], [.undef], [.undef], [.undef], [.undef], [.undef], [.undef]], [none, none, none, none, none, none, none, none, none, none, none, none, none, none, none, none, none, none, none, none, none, none, none, none, none, none, none, none, none, none, none, none, none, none, none, none, none, none, none, none, none, none, none, none, none, none, none, none, none, none, none, none, none, none, none, none, none, none, none, none, none, none, none, none, none, none, none, none]⟩
theorem ber_Get_t (R : Type) (kk : Nat) (b_0 : ByteArray) (at_1 : Int) (K : List SV → Option Box → Option R) : evFn ber_Get_E (Tb28 R) kk Try.f78 ber_Get_c [.dat .str b_0 [], .dat (.int .i64) at_1 []] none K =
  ber_Get_s0 b_0 at_1 (fun a0 a1 a2 => K [.dat (.int .i64) a0 [], .dat (.int .i64) a1 [], .dat (.int .i64) a2 []] none) (fun a0 a1 a2 a3 a4 a5 => loopR (ev ber_Get_E (Tb28 R) kk (sub [1, 1, 1, 1, 1, 1, 1, 0, 1, 0, 0] ber_Get_c)) [0, 1, 7, 8, 44, 45] [1, 7, 8] kk (ber_Get_h0 a0 a1 a2 a3 a4 a5) (kBlock 0 (kSeq ber_Get_E (Tb28 R) kk (sub [1, 1, 1, 1, 1, 1, 1, 1] ber_Get_c) (kFin ber_Get_E Try.f78.results.toList none K)))) := by kernel_rfl
theorem ber_Get_d0 (R : Type) (kk k : Nat) (b_0 : ByteArray) (at_1 : Int) (t7 : Int) (t8 : Int) (t44 : Int) (t45 : Int) (K : Ex → State → Option R) : loopR (ev ber_Get_E (Tb28 R) kk (sub [1, 1, 1, 1, 1, 1, 1, 0, 1, 0, 0] ber_Get_c)) [0, 1, 7, 8, 44, 45] [1, 7, 8] (k + 1) (ber_Get_h0 b_0 at_1 t7 t8 t44 t45) K =
  ber_Get_s1 b_0 at_1 t7 t8 t44 t45 (fun a0 a1 a2 a3 a4 a5 => loopR (ev ber_Get_E (Tb28 R) kk (sub [1, 1, 1, 1, 1, 1, 1, 0, 1, 0, 0] ber_Get_c)) [0, 1, 7, 8, 44, 45] [1, 7, 8] k (ber_Get_h0 a0 a1 a2 a3 a4 a5) K) (fun a0 a1 a2 => K (.exit 0) (ber_Get_x0_0 a0 a1 a2)) := by kernel_rfl
theorem ber_Get_y0_0 (R : Type) (kk : Nat) (at_1 : Int) (t7 : Int) (t8 : Int) (K : List SV → Option Box → Option R) : (kBlock 0 (kSeq ber_Get_E (Tb28 R) kk (sub [1, 1, 1, 1, 1, 1, 1, 1] ber_Get_c) (kFin ber_Get_E Try.f78.results.toList none K))) (.exit 0) (ber_Get_x0_0 at_1 t7 t8) =
  ber_Get_s2 at_1 t7 t8 (fun a0 a1 a2 => K [.dat (.int .i64) a0 [], .dat (.int .i64) a1 [], .dat (.int .i64) a2 []] none) := by kernel_rfl
theorem ber_Get_lp0 (R : Type) (k : Nat) (b_0 : ByteArray) (at_1 : Int) (t7 : Int) (t8 : Int) (t44 : Int) (t45 : Int) (K : Ex → State → Option R) : loopR (ev ber_Get_E (Tb28 R) FUEL (sub [1, 1, 1, 1, 1, 1, 1, 0, 1, 0, 0] ber_Get_c)) [0, 1, 7, 8, 44, 45] [1, 7, 8] k (ber_Get_h0 b_0 at_1 t7 t8 t44 t45) K = (ber_Get_l0 k b_0 at_1 t7 t8 t44 t45).bind fun e => K (.exit 0) (ber_Get_x0_0 e.1 e.2.1 e.2.2) := by
  induction k generalizing b_0 at_1 t7 t8 t44 t45 with
  | zero => rfl
  | succ k ih =>
    rw [ber_Get_d0]
    simp only [ber_Get_l0, ber_Get_s0_bind, ber_Get_s1_bind, ber_Get_s2_bind, ih, cond_bind, within_bind, none_bind, some_bind, sum_bind, bind_bind, Sum.elim_inl, Sum.elim_inr]
theorem ber_Get_eq (R : Type) (b_0 : ByteArray) (at_1 : Int) (K : List SV → Option Box → Option R) : evFn ber_Get_E (Tb28 R) FUEL Try.f78 ber_Get_c [.dat .str b_0 [], .dat (.int .i64) at_1 []] none K = (ber_Get b_0 at_1).bind fun r => K [.dat (.int .i64) r.1 [], .dat (.int .i64) r.2.1 [], .dat (.int .i64) r.2.2 []] none := by
  rw [ber_Get_t]
  simp only [ber_Get, ber_Get_s0_bind, ber_Get_s1_bind, ber_Get_s2_bind, ber_Get_lp0, ber_Get_y0_0, cond_bind, within_bind, none_bind, some_bind, sum_bind, bind_bind, Sum.elim_inl, Sum.elim_inr]
def ber_Get_g : Pure := fun R l b K => noBox b (args2 .str (.int .i64) l (fun x0 x1 => (ber_Get x0 x1).bind fun r => K [.dat (.int .i64) r.1 [], .dat (.int .i64) r.2.1 [], .dat (.int .i64) r.2.2 []] none))
theorem ber_Get_n : ber_Get_g.Nat := fun R S l b F G K h => noBox_nat (args2_nat fun _ _ => bindr_nat fun _ => h _ _)
def Tb29 : Funs := Tb28.add 78 [.str, (.int .i64)] ber_Get_g
theorem Tb29_nat : Tb29.Nat := add_nat Tb28_nat ber_Get_n
theorem Tb29_owes : ∀ f, Owes Try.prog Tb29 f := add_owes (E := ber_Get_E) (Tab.env_ok tab_ok _ _ _ _) mixed Tb28_nat Tb28_owes (fn := Try.f78) (code := ber_Get_c) Try.func78 (by kernel_rfl) (by kernel_rfl) fun l b r b' h => by
  obtain ⟨rfl, h⟩ := noBox_some h
  obtain ⟨x0, x1, h1, h2⟩ := own2 (E := ber_Get_E) rfl h
  exact ⟨FUEL, (h2 _ _ _ _ _ _).trans ((ber_Get_eq _ x0 x1 _).trans h1)⟩
noncomputable abbrev tlv_Get_c : Code := Try.f66.body.getD .skip
def tlv_Get_E : Env := tab.env (fun i => bif Nat.beq i 4 then [0, 5, 6, 7, 13] else []) (fun i => bif Nat.beq i 4 then [2, 3, 4, 5] else []) [] [.str]
def tlv_Get_h0 (b_0 : ByteArray) (t5 : (List (Int × ByteArray × Unit))) (t7 : Int) (bt6 : (List (Int × Bool))) : State := ⟨[[.dat .str b_0 []], [.undef], [.undef], [.undef], [.undef], [.dat (.sl 113 (.pair (.int .i64) (.pair .str .unit))) t5 [[]]], [.ptr 14 (.spc .mp (.int .i64) .bool) []], [.dat (.int .i64) t7 []], [.undef], [.undef], [.undef], [.undef], [.undef], [.ptr 14 (.spc .mp (.int .i64) .bool) []], [.undef], [.undef], [.undef], [.undef], [.undef], [.undef], [.undef], [.undef], [.undef], [.undef], [.undef], [.undef], [.undef], [.undef], [.undef], [.undef], [.undef], [.undef], [.undef], [.undef], [.undef], [.undef], [.undef], [.undef], [.undef], [.undef], [.undef], [.undef], [.undef], [.undef], [.undef], [.undef], [.undef], [.undef], [.undef], [.undef], [.undef], [.undef], [.undef], [.undef], [.undef], [.undef], [.undef], [.undef], [.undef], [.undef], [.undef], [.undef], [.undef], [.undef], [.undef], [.undef], [.undef], [.undef], [.undef], [.undef], [.undef], [.undef]], [none, none, none, none, none, none, none, none, none, none, none, none, none, none, some ⟨(.spc .mp (.int .i64) .bool), bt6, []⟩, none, none, none, none, none, none, none, none, none, none, none, none, none, none, none, none, none, none, none, none, none, none, none, none, none, none, none, none, none, none, none, none, none, none, none, none, none, none, none, none, none, none, none, none, none, none, none, none, none, none, none, none, none, none, none, none, none, none]⟩
def tlv_Get_x0_0 (t2 : (List (Int × ByteArray × Unit))) (t3 : Int) (t4 : Int) (t5 : (List (Int × ByteArray × Unit))) : State := ⟨[[.undef], [.undef], [.dat (.sl 113 (.pair (.int .i64) (.pair .str .unit))) t2 [[]]], [.dat (.int .i64) t3 []], [.dat (.int .i64) t4 []], [.dat (.sl 113 (.pair (.int .i64) (.pair .str .unit))) t5 [[]]], [.undef], [.undef], [.undef], [.undef], [.undef], [.undef], [.undef], [.undef], [.undef], [.undef], [.undef], [.undef], [.undef], [.undef], [.undef], [.undef], [.undef], [.undef], [.undef], [.undef], [.undef], [.undef], [.undef], [.undef], [.undef], [.undef], [.undef], [.undef], [.undef], [.undef], [.undef], [.undef], [.undef], [.undef], [.undef], [.undef], [.undef], [.undef], [.undef], [.undef], [.undef], [.undef], [.undef], [.undef], [.undef], [.undef], [.undef], [.undef], [.undef], [.undef], [.undef], [.undef], [.undef], [.undef], [.undef], [.undef], [.undef], [.undef], [.undef], [.undef], [.undef], [.undef], [.undef], [.undef], [.undef], [.undef]], [none, none, none, none, none, none, none, none, none, none, none, none, none, none, none, none, none, none, none, none, none, none, none, none, none, none, none, none, none, none, none, none, none, none, none, none, none, none, none, none, none, none, none, none, none, none, none, none, none, none, none, none, none, none, none, none, none, none, none, none, none, none, none, none, none, none, none, none, none, none, none, none, none]⟩
def tlv_Get_x0_1 (t5 : (List (Int × ByteArray × Unit))) : State := ⟨[[.undef], [.undef], [.undef], [.undef], [.undef], [.dat (.sl 113 (.pair (.int .i64) (.pair .str .unit))) t5 [[]]], [.undef], [.undef], [.undef], [.undef], [.undef], [.undef], [.undef], [.undef], [.undef], [.undef], [.undef], [.undef], [.undef], [.undef], [.undef], [.undef], [.undef], [.undef], [.undef], [.undef], [.undef], [.undef], [.undef], [.undef], [.undef], [.undef], [.undef], [.undef], [.undef], [.undef], [.undef], [.undef], [.undef], [.undef], [.undef], [.undef], [.undef], [.undef], [.undef], [.undef], [.undef], [.undef], [.undef], [.undef], [.undef], [.undef], [.undef], [.undef], [.undef], [.undef], [.undef], [.undef], [.undef], [.undef], [.undef], [.undef], [.undef], [.undef], [.undef], [.undef], [.undef], [.undef], [.undef], [.undef], [.undef], [.undef]], [none, none, none, none, none, none, none, none, none, none, none, none, none, none, none, none, none, none, none, none, none, none, none, none, none, none, none, none, none, none, none, none, none, none, none, none, none, none, none, none, none, none, none, none, none, none, none, none, none, none, none, none, none, none, none, none, none, none, none, none, none, none, none, none, none, none, none, none, none, none, none, none, none]⟩
theorem tlv_Get_t (R : Type) (kk : Nat) (b_0 : ByteArray) (K : List SV → Option Box → Option R) : evFn tlv_Get_E (Tb29 R) kk Try.f66 tlv_Get_c [.dat .str b_0 []] none K =
  tlv_Get_s0 b_0 (fun a0 a1 a2 a3 => loopR (ev tlv_Get_E (Tb29 R) kk (sub [1, 1, 1, 0, 1, 0, 0] tlv_Get_c)) [0, 5, 6, 7, 13] [2, 3, 4, 5] kk (tlv_Get_h0 a0 a1 a2 a3) (kBlock 0 (kSeq tlv_Get_E (Tb29 R) kk (sub [1, 1, 1, 1] tlv_Get_c) (kFin tlv_Get_E Try.f66.results.toList none K)))) := by kernel_rfl
theorem tlv_Get_d0 (R : Type) (kk k : Nat) (b_0 : ByteArray) (t5 : (List (Int × ByteArray × Unit))) (t7 : Int) (bt6 : (List (Int × Bool))) (K : Ex → State → Option R) : loopR (ev tlv_Get_E (Tb29 R) kk (sub [1, 1, 1, 0, 1, 0, 0] tlv_Get_c)) [0, 5, 6, 7, 13] [2, 3, 4, 5] (k + 1) (tlv_Get_h0 b_0 t5 t7 bt6) K =
  tlv_Get_s1 b_0 t5 t7 bt6 (fun a0 a1 a2 a3 => K .ret (tlv_Get_x0_0 a0 a1 a2 a3)) (fun a0 a1 a2 a3 => loopR (ev tlv_Get_E (Tb29 R) kk (sub [1, 1, 1, 0, 1, 0, 0] tlv_Get_c)) [0, 5, 6, 7, 13] [2, 3, 4, 5] k (tlv_Get_h0 a0 a1 a2 a3) K) (fun a0 => K (.exit 0) (tlv_Get_x0_1 a0)) := by kernel_rfl
theorem tlv_Get_y0_0 (R : Type) (kk : Nat) (t2 : (List (Int × ByteArray × Unit))) (t3 : Int) (t4 : Int) (t5 : (List (Int × ByteArray × Unit))) (K : List SV → Option Box → Option R) : (kBlock 0 (kSeq tlv_Get_E (Tb29 R) kk (sub [1, 1, 1, 1] tlv_Get_c) (kFin tlv_Get_E Try.f66.results.toList none K))) .ret (tlv_Get_x0_0 t2 t3 t4 t5) =
  tlv_Get_s2 t2 t3 t4 t5 (fun a0 a1 a2 => K [.dat (.sl 113 (.pair (.int .i64) (.pair .str .unit))) a0 [[]], .dat (.int .i64) a1 [], .dat (.int .i64) a2 []] none) := by kernel_rfl
theorem tlv_Get_y0_1 (R : Type) (kk : Nat) (t5 : (List (Int × ByteArray × Unit))) (K : List SV → Option Box → Option R) : (kBlock 0 (kSeq tlv_Get_E (Tb29 R) kk (sub [1, 1, 1, 1] tlv_Get_c) (kFin tlv_Get_E Try.f66.results.toList none K))) (.exit 0) (tlv_Get_x0_1 t5) =
  tlv_Get_s3 t5 (fun a0 a1 a2 => K [.dat (.sl 113 (.pair (.int .i64) (.pair .str .unit))) a0 [], .dat (.int .i64) a1 [], .dat (.int .i64) a2 []] none) := by kernel_rfl
theorem tlv_Get_lp0 (R : Type) (k : Nat) (b_0 : ByteArray) (t5 : (List (Int × ByteArray × Unit))) (t7 : Int) (bt6 : (List (Int × Bool))) (K : Ex → State → Option R) : loopR (ev tlv_Get_E (Tb29 R) FUEL (sub [1, 1, 1, 0, 1, 0, 0] tlv_Get_c)) [0, 5, 6, 7, 13] [2, 3, 4, 5] k (tlv_Get_h0 b_0 t5 t7 bt6) K = (tlv_Get_l0 k b_0 t5 t7 bt6).bind fun e => (Sum.elim (fun (we : ((List (Int × ByteArray × Unit)) × Int × Int × (List (Int × ByteArray × Unit)))) => K .ret (tlv_Get_x0_0 we.1 we.2.1 we.2.2.1 we.2.2.2)) (fun (we : (List (Int × ByteArray × Unit))) => K (.exit 0) (tlv_Get_x0_1 we)) e) := by
  induction k generalizing b_0 t5 t7 bt6 with
  | zero => rfl
  | succ k ih =>
    rw [tlv_Get_d0]
    simp only [tlv_Get_l0, tlv_Get_s0_bind, tlv_Get_s1_bind, tlv_Get_s2_bind, tlv_Get_s3_bind, ih, cond_bind, within_bind, none_bind, some_bind, sum_bind, bind_bind, Sum.elim_inl, Sum.elim_inr]
theorem tlv_Get_eq (R : Type) (b_0 : ByteArray) (K : List SV → Option Box → Option R) : evFn tlv_Get_E (Tb29 R) FUEL Try.f66 tlv_Get_c [.dat .str b_0 []] none K = (tlv_Get b_0).bind fun r => (Sum.elim (fun (wr : ((List (Int × ByteArray × Unit)) × Int × Int)) => K [.dat (.sl 113 (.pair (.int .i64) (.pair .str .unit))) wr.1 [[]], .dat (.int .i64) wr.2.1 [], .dat (.int .i64) wr.2.2 []] none) (fun (wr : ((List (Int × ByteArray × Unit)) × Int × Int)) => K [.dat (.sl 113 (.pair (.int .i64) (.pair .str .unit))) wr.1 [], .dat (.int .i64) wr.2.1 [], .dat (.int .i64) wr.2.2 []] none) r) := by
  rw [tlv_Get_t]
  simp only [tlv_Get, tlv_Get_s0_bind, tlv_Get_s1_bind, tlv_Get_s2_bind, tlv_Get_s3_bind, tlv_Get_lp0, tlv_Get_y0_0, tlv_Get_y0_1, cond_bind, within_bind, none_bind, some_bind, sum_bind, bind_bind, Sum.elim_inl, Sum.elim_inr]
def tlv_Get_g : Pure := fun R l b K => noBox b (args1 .str l (fun x0 => (tlv_Get x0).bind fun r => (Sum.elim (fun (wr : ((List (Int × ByteArray × Unit)) × Int × Int)) => K [.dat (.sl 113 (.pair (.int .i64) (.pair .str .unit))) wr.1 [[]], .dat (.int .i64) wr.2.1 [], .dat (.int .i64) wr.2.2 []] none) (fun (wr : ((List (Int × ByteArray × Unit)) × Int × Int)) => K [.dat (.sl 113 (.pair (.int .i64) (.pair .str .unit))) wr.1 [], .dat (.int .i64) wr.2.1 [], .dat (.int .i64) wr.2.2 []] none) r)))
theorem tlv_Get_n : tlv_Get_g.Nat := fun R S l b F G K h => noBox_nat (args1_nat fun _ => bindr_nat fun _ => sum_nat (fun _ => h _ _) (fun _ => h _ _))
def Tb30 : Funs := Tb29.add 66 [.str] tlv_Get_g
theorem Tb30_nat : Tb30.Nat := add_nat Tb29_nat tlv_Get_n
theorem Tb30_owes : ∀ f, Owes Try.prog Tb30 f := add_owes (E := tlv_Get_E) (Tab.env_ok tab_ok _ _ _ _) mixed Tb29_nat Tb29_owes (fn := Try.f66) (code := tlv_Get_c) Try.func66 (by kernel_rfl) (by kernel_rfl) fun l b r b' h => by
  obtain ⟨rfl, h⟩ := noBox_some h
  obtain ⟨x0, h1, h2⟩ := own1 (E := tlv_Get_E) rfl h
  exact ⟨FUEL, (h2 _ _ _ _ _ _).trans ((tlv_Get_eq _ x0 _).trans h1)⟩
noncomputable abbrev spec_Value_c : Code := Try.f49.body.getD .skip
def spec_Value_E : Env := tab.env (fun _ => []) (fun _ => []) [] [y5, .str]
theorem spec_Value_t (R : Type) (kk : Nat) (s_0 : (Int × Int × Int × Int × Int × Unit)) (text_1 : ByteArray) (K : List SV → Option Box → Option R) : evFn spec_Value_E (Tb30 R) kk Try.f49 spec_Value_c [.dat y5 s_0 [], .dat .str text_1 []] none K =
  spec_Value_s0 s_0 text_1 (fun a0 => K [.dat (.int .i64) a0 []] none) := by kernel_rfl
theorem spec_Value_eq (R : Type) (s_0 : (Int × Int × Int × Int × Int × Unit)) (text_1 : ByteArray) (K : List SV → Option Box → Option R) : evFn spec_Value_E (Tb30 R) FUEL Try.f49 spec_Value_c [.dat y5 s_0 [], .dat .str text_1 []] none K = (spec_Value s_0 text_1).bind fun r => K [.dat (.int .i64) r []] none := by
  rw [spec_Value_t]
  simp only [spec_Value, spec_Value_s0_bind, cond_bind, within_bind, none_bind, some_bind, sum_bind, bind_bind, Sum.elim_inl, Sum.elim_inr]
def spec_Value_g : Pure := fun R l b K => noBox b (args2 y5 .str l (fun x0 x1 => (spec_Value x0 x1).bind fun r => K [.dat (.int .i64) r []] none))
theorem spec_Value_n : spec_Value_g.Nat := fun R S l b F G K h => noBox_nat (args2_nat fun _ _ => bindr_nat fun _ => h _ _)
def Tb31 : Funs := Tb30.add 49 [y5, .str] spec_Value_g
theorem Tb31_nat : Tb31.Nat := add_nat Tb30_nat spec_Value_n
theorem Tb31_owes : ∀ f, Owes Try.prog Tb31 f := add_owes (E := spec_Value_E) (Tab.env_ok tab_ok _ _ _ _) mixed Tb30_nat Tb30_owes (fn := Try.f49) (code := spec_Value_c) Try.func49 (by kernel_rfl) (by kernel_rfl) fun l b r b' h => by
  obtain ⟨rfl, h⟩ := noBox_some h
  obtain ⟨x0, x1, h1, h2⟩ := own2 (E := spec_Value_E) rfl h
  exact ⟨FUEL, (h2 _ _ _ _ _ _).trans ((spec_Value_eq _ x0 x1 _).trans h1)⟩
noncomputable abbrev rule_padded_c : Code := Try.f50.body.getD .skip
def rule_padded_E : Env := tab.env (fun _ => []) (fun _ => []) [] [y5]
theorem rule_padded_t (R : Type) (kk : Nat) (s_0 : (Int × Int × Int × Int × Int × Unit)) (K : List SV → Option Box → Option R) : evFn rule_padded_E (Tb31 R) kk Try.f50 rule_padded_c [.dat y5 s_0 []] none K =
  rule_padded_s0 s_0 (fun a0 => K [.dat .bool a0 []] none) := by kernel_rfl
theorem rule_padded_eq (R : Type) (s_0 : (Int × Int × Int × Int × Int × Unit)) (K : List SV → Option Box → Option R) : evFn rule_padded_E (Tb31 R) FUEL Try.f50 rule_padded_c [.dat y5 s_0 []] none K = (rule_padded s_0).bind fun r => K [.dat .bool r []] none := by
  rw [rule_padded_t]
  simp only [rule_padded, rule_padded_s0_bind, cond_bind, within_bind, none_bind, some_bind, sum_bind, bind_bind, Sum.elim_inl, Sum.elim_inr]
def rule_padded_g : Pure := fun R l b K => noBox b (args1 y5 l (fun x0 => (rule_padded x0).bind fun r => K [.dat .bool r []] none))
theorem rule_padded_n : rule_padded_g.Nat := fun R S l b F G K h => noBox_nat (args1_nat fun _ => bindr_nat fun _ => h _ _)
def Tb32 : Funs := Tb31.add 50 [y5] rule_padded_g
theorem Tb32_nat : Tb32.Nat := add_nat Tb31_nat rule_padded_n
theorem Tb32_owes : ∀ f, Owes Try.prog Tb32 f := add_owes (E := rule_padded_E) (Tab.env_ok tab_ok _ _ _ _) mixed Tb31_nat Tb31_owes (fn := Try.f50) (code := rule_padded_c) Try.func50 (by kernel_rfl) (by kernel_rfl) fun l b r b' h => by
  obtain ⟨rfl, h⟩ := noBox_some h
  obtain ⟨x0, h1, h2⟩ := own1 (E := rule_padded_E) rfl h
  exact ⟨FUEL, (h2 _ _ _ _ _ _).trans ((rule_padded_eq _ x0 _).trans h1)⟩
noncomputable abbrev codes_Check_c : Code := Try.f38.body.getD .skip
def codes_Check_E : Env := tab.env (fun i => bif Nat.beq i 5 then [4, 10, 11, 12, 13] else []) (fun i => bif Nat.beq i 5 then [2, 3] else []) [] [(.sl 44 (.pair .str (.pair .str .unit)))]
def codes_Check_h0 (t11 : (List (ByteArray × ByteArray × Unit))) (t12 : Int) (t13 : Int) (bt4 : (List (ByteArray × Bool))) : State := ⟨[[.undef], [.undef], [.undef], [.undef], [.ptr 11 (.spc .mp .str .bool) []], [.undef], [.undef], [.undef], [.undef], [.undef], [.ptr 11 (.spc .mp .str .bool) []], [.dat (.sl 44 (.pair .str (.pair .str .unit))) t11 []], [.dat (.int .i64) t12 []], [.dat (.int .i64) t13 []], [.undef], [.undef], [.undef], [.undef], [.undef], [.undef], [.undef], [.undef], [.undef], [.undef], [.undef], [.undef], [.undef]], [none, none, none, none, none, none, none, none, none, none, none, some ⟨(.spc .mp .str .bool), bt4, []⟩, none, none, none, none, none, none, none, none, none, none, none, none, none, none, none, none]⟩
def codes_Check_x0_0 (t2 : Int) (t3 : Int) : State := ⟨[[.undef], [.undef], [.dat (.int .i64) t2 []], [.dat (.int .i64) t3 []], [.undef], [.undef], [.undef], [.undef], [.undef], [.undef], [.undef], [.undef], [.undef], [.undef], [.undef], [.undef], [.undef], [.undef], [.undef], [.undef], [.undef], [.undef], [.undef], [.undef], [.undef], [.undef], [.undef]], [none, none, none, none, none, none, none, none, none, none, none, none, none, none, none, none, none, none, none, none, none, none, none, none, none, none, none, none]⟩
def codes_Check_x0_1  : State := ⟨[[.undef], [.undef], [.undef], [.undef], [.undef], [.undef], [.undef], [.undef], [.undef], [.undef], [.undef], [.undef], [.undef], [.undef], [.undef], [.undef], [.undef], [.undef], [.undef], [.undef], [.undef], [.undef], [.undef], [.undef], [.undef], [.undef], [.undef]], [none, none, none, none, none, none, none, none, none, none, none, none, none, none, none, none, none, none, none, none, none, none, none, none, none, none, none, none]⟩
theorem codes_Check_t (R : Type) (kk : Nat) (l_0 : (List (ByteArray × ByteArray × Unit))) (K : List SV → Option Box → Option R) : evFn codes_Check_E (Tb32 R) kk Try.f38 codes_Check_c [.dat (.sl 44 (.pair .str (.pair .str .unit))) l_0 []] none K =
  codes_Check_s0 l_0 (fun a0 a1 => K [.dat (.int .i64) a0 [], .dat (.int .i64) a1 []] none) (fun a0 a1 a2 a3 => loopR (ev codes_Check_E (Tb32 R) kk (sub [1, 1, 1, 0, 1, 0, 0] codes_Check_c)) [4, 10, 11, 12, 13] [2, 3] kk (codes_Check_h0 a0 a1 a2 a3) (kBlock 0 (kSeq codes_Check_E (Tb32 R) kk (sub [1, 1, 1, 1] codes_Check_c) (kFin codes_Check_E Try.f38.results.toList none K)))) := by kernel_rfl
theorem codes_Check_d0 (R : Type) (kk k : Nat) (t11 : (List (ByteArray × ByteArray × Unit))) (t12 : Int) (t13 : Int) (bt4 : (List (ByteArray × Bool))) (K : Ex → State → Option R) : loopR (ev codes_Check_E (Tb32 R) kk (sub [1, 1, 1, 0, 1, 0, 0] codes_Check_c)) [4, 10, 11, 12, 13] [2, 3] (k + 1) (codes_Check_h0 t11 t12 t13 bt4) K =
  codes_Check_s1 t11 t12 t13 bt4 (fun a0 a1 => K .ret (codes_Check_x0_0 a0 a1)) (fun a0 a1 a2 a3 => loopR (ev codes_Check_E (Tb32 R) kk (sub [1, 1, 1, 0, 1, 0, 0] codes_Check_c)) [4, 10, 11, 12, 13] [2, 3] k (codes_Check_h0 a0 a1 a2 a3) K) (K (.exit 0) (codes_Check_x0_1)) := by kernel_rfl
theorem codes_Check_y0_0 (R : Type) (kk : Nat) (t2 : Int) (t3 : Int) (K : List SV → Option Box → Option R) : (kBlock 0 (kSeq codes_Check_E (Tb32 R) kk (sub [1, 1, 1, 1] codes_Check_c) (kFin codes_Check_E Try.f38.results.toList none K))) .ret (codes_Check_x0_0 t2 t3) =
  codes_Check_s2 t2 t3 (fun a0 a1 => K [.dat (.int .i64) a0 [], .dat (.int .i64) a1 []] none) := by kernel_rfl
theorem codes_Check_y0_1 (R : Type) (kk : Nat)  (K : List SV → Option Box → Option R) : (kBlock 0 (kSeq codes_Check_E (Tb32 R) kk (sub [1, 1, 1, 1] codes_Check_c) (kFin codes_Check_E Try.f38.results.toList none K))) (.exit 0) (codes_Check_x0_1) =
  codes_Check_s3 (fun a0 a1 => K [.dat (.int .i64) a0 [], .dat (.int .i64) a1 []] none) := by kernel_rfl
theorem codes_Check_lp0 (R : Type) (k : Nat) (t11 : (List (ByteArray × ByteArray × Unit))) (t12 : Int) (t13 : Int) (bt4 : (List (ByteArray × Bool))) (K : Ex → State → Option R) : loopR (ev codes_Check_E (Tb32 R) FUEL (sub [1, 1, 1, 0, 1, 0, 0] codes_Check_c)) [4, 10, 11, 12, 13] [2, 3] k (codes_Check_h0 t11 t12 t13 bt4) K = (codes_Check_l0 k t11 t12 t13 bt4).bind fun e => (Sum.elim (fun (we : (Int × Int)) => K .ret (codes_Check_x0_0 we.1 we.2)) (fun (we : Unit) => K (.exit 0) (codes_Check_x0_1)) e) := by
  induction k generalizing t11 t12 t13 bt4 with
  | zero => rfl
  | succ k ih =>
    rw [codes_Check_d0]
    simp only [codes_Check_l0, codes_Check_s0_bind, codes_Check_s1_bind, codes_Check_s2_bind, codes_Check_s3_bind, ih, cond_bind, within_bind, none_bind, some_bind, sum_bind, bind_bind, Sum.elim_inl, Sum.elim_inr]
theorem codes_Check_eq (R : Type) (l_0 : (List (ByteArray × ByteArray × Unit))) (K : List SV → Option Box → Option R) : evFn codes_Check_E (Tb32 R) FUEL Try.f38 codes_Check_c [.dat (.sl 44 (.pair .str (.pair .str .unit))) l_0 []] none K = (codes_Check l_0).bind fun r => K [.dat (.int .i64) r.1 [], .dat (.int .i64) r.2 []] none := by
  rw [codes_Check_t]
  simp only [codes_Check, codes_Check_s0_bind, codes_Check_s1_bind, codes_Check_s2_bind, codes_Check_s3_bind, codes_Check_lp0, codes_Check_y0_0, codes_Check_y0_1, cond_bind, within_bind, none_bind, some_bind, sum_bind, bind_bind, Sum.elim_inl, Sum.elim_inr]
def codes_Check_g : Pure := fun R l b K => noBox b (args1 (.sl 44 (.pair .str (.pair .str .unit))) l (fun x0 => (codes_Check x0).bind fun r => K [.dat (.int .i64) r.1 [], .dat (.int .i64) r.2 []] none))
theorem codes_Check_n : codes_Check_g.Nat := fun R S l b F G K h => noBox_nat (args1_nat fun _ => bindr_nat fun _ => h _ _)
def Tb33 : Funs := Tb32.add 38 [(.sl 44 (.pair .str (.pair .str .unit)))] codes_Check_g
theorem Tb33_nat : Tb33.Nat := add_nat Tb32_nat codes_Check_n
theorem Tb33_owes : ∀ f, Owes Try.prog Tb33 f := add_owes (E := codes_Check_E) (Tab.env_ok tab_ok _ _ _ _) mixed Tb32_nat Tb32_owes (fn := Try.f38) (code := codes_Check_c) Try.func38 (by kernel_rfl) (by kernel_rfl) fun l b r b' h => by
  obtain ⟨rfl, h⟩ := noBox_some h
  obtain ⟨x0, h1, h2⟩ := own1 (E := codes_Check_E) rfl h
  exact ⟨FUEL, (h2 _ _ _ _ _ _).trans ((codes_Check_eq _ x0 _).trans h1)⟩
noncomputable abbrev rule_table_c : Code := Try.f51.body.getD .skip
def rule_table_E : Env := tab.env (fun i => bif Nat.beq i 5 then [4, 5, 25, 26, 27] else []) (fun i => bif Nat.beq i 5 then [6] else []) [] [(.sl 44 (.pair .str (.pair .str .unit))), y5, y5]
def rule_table_h0 (t25 : (List (ByteArray × ByteArray × Unit))) (t26 : Int) (t27 : Int) (bt4 : (Int × Int × Int × Int × Int × Unit)) (bt5 : (Int × Int × Int × Int × Int × Unit)) : State := ⟨[[.undef], [.undef], [.undef], [.undef], [.ptr 5 y5 []], [.ptr 6 y5 []], [.undef], [.undef], [.undef], [.undef], [.undef], [.undef], [.undef], [.undef], [.undef], [.undef], [.undef], [.undef], [.undef], [.undef], [.undef], [.undef], [.undef], [.undef], [.undef], [.dat (.sl 44 (.pair .str (.pair .str .unit))) t25 []], [.dat (.int .i64) t26 []], [.dat (.int .i64) t27 []], [.undef], [.undef], [.undef], [.undef], [.undef], [.undef], [.undef], [.undef], [.undef], [.undef], [.undef], [.undef], [.undef], [.undef], [.undef], [.undef], [.undef], [.undef]], [none, none, none, none, none, some ⟨y5, bt4, []⟩, some ⟨y5, bt5, []⟩, none, none, none, none, none, none, none, none, none, none, none, none, none, none, none, none, none, none, none, none, none, none, none, none, none, none, none, none, none, none, none, none, none, none, none, none, none, none, none, none]⟩
def rule_table_x0_0 (t6 : Int) : State := ⟨[[.undef], [.undef], [.undef], [.undef], [.undef], [.undef], [.dat (.int .i64) t6 []], [.undef], [.undef], [.undef], [.undef], [.undef], [.undef], [.undef], [.undef], [.undef], [.undef], [.undef], [.undef], [.undef], [.undef], [.undef], [.undef], [.undef], [.undef], [.undef], [.undef], [.undef], [.undef], [.undef], [.undef], [.undef], [.undef], [.undef], [.undef], [.undef], [.undef], [.undef], [.undef], [.undef], [.undef], [.undef], [.undef], [.undef], [.undef], [.undef]], [none, none, none, none, none, none, none, none, none, none, none, none, none, none, none, none, none, none, none, none, none, none, none, none, none, none, none, none, none, none, none, none, none, none, none, none, none, none, none, none, none, none, none, none, none, none, none]⟩
def rule_table_x0_1  : State := ⟨[[.undef], [.undef], [.undef], [.undef], [.undef], [.undef], [.undef], [.undef], [.undef], [.undef], [.undef], [.undef], [.undef], [.undef], [.undef], [.undef], [.undef], [.undef], [.undef], [.undef], [.undef], [.undef], [.undef], [.undef], [.undef], [.undef], [.undef], [.undef], [.undef], [.undef], [.undef], [.undef], [.undef], [.undef], [.undef], [.undef], [.undef], [.undef], [.undef], [.undef], [.undef], [.undef], [.undef], [.undef], [.undef], [.undef]], [none, none, none, none, none, none, none, none, none, none, none, none, none, none, none, none, none, none, none, none, none, none, none, none, none, none, none, none, none, none, none, none, none, none, none, none, none, none, none, none, none, none, none, none, none, none, none]⟩
theorem rule_table_t (R : Type) (kk : Nat) (l_0 : (List (ByteArray × ByteArray × Unit))) (from_1 : (Int × Int × Int × Int × Int × Unit)) (to_2 : (Int × Int × Int × Int × Int × Unit)) (K : List SV → Option Box → Option R) : evFn rule_table_E (Tb33 R) kk Try.f51 rule_table_c [.dat (.sl 44 (.pair .str (.pair .str .unit))) l_0 [], .dat y5 from_1 [], .dat y5 to_2 []] none K =
  rule_table_s0 l_0 from_1 to_2 (fun a0 => K [.dat (.int .i64) a0 []] none) (fun a0 a1 a2 a3 a4 => loopR (ev rule_table_E (Tb33 R) kk (sub [1, 1, 0, 1, 0, 0] rule_table_c)) [4, 5, 25, 26, 27] [6] kk (rule_table_h0 a0 a1 a2 a3 a4) (kBlock 0 (kSeq rule_table_E (Tb33 R) kk (sub [1, 1, 1] rule_table_c) (kFin rule_table_E Try.f51.results.toList none K)))) := by kernel_rfl
theorem rule_table_d0 (R : Type) (kk k : Nat) (t25 : (List (ByteArray × ByteArray × Unit))) (t26 : Int) (t27 : Int) (bt4 : (Int × Int × Int × Int × Int × Unit)) (bt5 : (Int × Int × Int × Int × Int × Unit)) (K : Ex → State → Option R) : loopR (ev rule_table_E (Tb33 R) kk (sub [1, 1, 0, 1, 0, 0] rule_table_c)) [4, 5, 25, 26, 27] [6] (k + 1) (rule_table_h0 t25 t26 t27 bt4 bt5) K =
  rule_table_s1 t25 t26 t27 bt4 bt5 (fun a0 => K .ret (rule_table_x0_0 a0)) (fun a0 a1 a2 a3 a4 => loopR (ev rule_table_E (Tb33 R) kk (sub [1, 1, 0, 1, 0, 0] rule_table_c)) [4, 5, 25, 26, 27] [6] k (rule_table_h0 a0 a1 a2 a3 a4) K) (K (.exit 0) (rule_table_x0_1)) := by kernel_rfl
theorem rule_table_y0_0 (R : Type) (kk : Nat) (t6 : Int) (K : List SV → Option Box → Option R) : (kBlock 0 (kSeq rule_table_E (Tb33 R) kk (sub [1, 1, 1] rule_table_c) (kFin rule_table_E Try.f51.results.toList none K))) .ret (rule_table_x0_0 t6) =
  rule_table_s2 t6 (fun a0 => K [.dat (.int .i64) a0 []] none) := by kernel_rfl
theorem rule_table_y0_1 (R : Type) (kk : Nat)  (K : List SV → Option Box → Option R) : (kBlock 0 (kSeq rule_table_E (Tb33 R) kk (sub [1, 1, 1] rule_table_c) (kFin rule_table_E Try.f51.results.toList none K))) (.exit 0) (rule_table_x0_1) =
  rule_table_s3 (fun a0 => K [.dat (.int .i64) a0 []] none) := by kernel_rfl
theorem rule_table_lp0 (R : Type) (k : Nat) (t25 : (List (ByteArray × ByteArray × Unit))) (t26 : Int) (t27 : Int) (bt4 : (Int × Int × Int × Int × Int × Unit)) (bt5 : (Int × Int × Int × Int × Int × Unit)) (K : Ex → State → Option R) : loopR (ev rule_table_E (Tb33 R) FUEL (sub [1, 1, 0, 1, 0, 0] rule_table_c)) [4, 5, 25, 26, 27] [6] k (rule_table_h0 t25 t26 t27 bt4 bt5) K = (rule_table_l0 k t25 t26 t27 bt4 bt5).bind fun e => (Sum.elim (fun (we : Int) => K .ret (rule_table_x0_0 we)) (fun (we : Unit) => K (.exit 0) (rule_table_x0_1)) e) := by
  induction k generalizing t25 t26 t27 bt4 bt5 with
  | zero => rfl
  | succ k ih =>
    rw [rule_table_d0]
    simp only [rule_table_l0, rule_table_s0_bind, rule_table_s1_bind, rule_table_s2_bind, rule_table_s3_bind, ih, cond_bind, within_bind, none_bind, some_bind, sum_bind, bind_bind, Sum.elim_inl, Sum.elim_inr]
theorem rule_table_eq (R : Type) (l_0 : (List (ByteArray × ByteArray × Unit))) (from_1 : (Int × Int × Int × Int × Int × Unit)) (to_2 : (Int × Int × Int × Int × Int × Unit)) (K : List SV → Option Box → Option R) : evFn rule_table_E (Tb33 R) FUEL Try.f51 rule_table_c [.dat (.sl 44 (.pair .str (.pair .str .unit))) l_0 [], .dat y5 from_1 [], .dat y5 to_2 []] none K = (rule_table l_0 from_1 to_2).bind fun r => K [.dat (.int .i64) r []] none := by
  rw [rule_table_t]
  simp only [rule_table, rule_table_s0_bind, rule_table_s1_bind, rule_table_s2_bind, rule_table_s3_bind, rule_table_lp0, rule_table_y0_0, rule_table_y0_1, cond_bind, within_bind, none_bind, some_bind, sum_bind, bind_bind, Sum.elim_inl, Sum.elim_inr]
def rule_table_g : Pure := fun R l b K => noBox b (args3 (.sl 44 (.pair .str (.pair .str .unit))) y5 y5 l (fun x0 x1 x2 => (rule_table x0 x1 x2).bind fun r => K [.dat (.int .i64) r []] none))
theorem rule_table_n : rule_table_g.Nat := fun R S l b F G K h => noBox_nat (args3_nat fun _ _ _ => bindr_nat fun _ => h _ _)
def Tb34 : Funs := Tb33.add 51 [(.sl 44 (.pair .str (.pair .str .unit))), y5, y5] rule_table_g
theorem Tb34_nat : Tb34.Nat := add_nat Tb33_nat rule_table_n
theorem Tb34_owes : ∀ f, Owes Try.prog Tb34 f := add_owes (E := rule_table_E) (Tab.env_ok tab_ok _ _ _ _) mixed Tb33_nat Tb33_owes (fn := Try.f51) (code := rule_table_c) Try.func51 (by kernel_rfl) (by kernel_rfl) fun l b r b' h => by
  obtain ⟨rfl, h⟩ := noBox_some h
  obtain ⟨x0, x1, x2, h1, h2⟩ := own3 (E := rule_table_E) rfl h
  exact ⟨FUEL, (h2 _ _ _ _ _ _).trans ((rule_table_eq _ x0 x1 x2 _).trans h1)⟩
noncomputable abbrev rule_Check_c : Code := Try.f31.body.getD .skip
def rule_Check_E : Env := tab.env (fun _ => []) (fun _ => []) [] [y7, y11, y11]
theorem rule_Check_t (R : Type) (kk : Nat) (r_0 : (Int × Int × Int × ByteArray × (List (ByteArray × ByteArray × Unit)) × Unit)) (a_1 : (Int × Int × (List (Int × Int × Int × Int × Int × Unit)) × Unit)) (b_2 : (Int × Int × (List (Int × Int × Int × Int × Int × Unit)) × Unit)) (K : List SV → Option Box → Option R) : evFn rule_Check_E (Tb34 R) kk Try.f31 rule_Check_c [.dat y7 r_0 [], .dat y11 a_1 [], .dat y11 b_2 []] none K =
  rule_Check_s0 r_0 a_1 b_2 (fun a0 => K [.dat (.int .i64) a0 []] none) := by kernel_rfl
theorem rule_Check_eq (R : Type) (r_0 : (Int × Int × Int × ByteArray × (List (ByteArray × ByteArray × Unit)) × Unit)) (a_1 : (Int × Int × (List (Int × Int × Int × Int × Int × Unit)) × Unit)) (b_2 : (Int × Int × (List (Int × Int × Int × Int × Int × Unit)) × Unit)) (K : List SV → Option Box → Option R) : evFn rule_Check_E (Tb34 R) FUEL Try.f31 rule_Check_c [.dat y7 r_0 [], .dat y11 a_1 [], .dat y11 b_2 []] none K = (rule_Check r_0 a_1 b_2).bind fun r => K [.dat (.int .i64) r []] none := by
  rw [rule_Check_t]
  simp only [rule_Check, rule_Check_s0_bind, cond_bind, within_bind, none_bind, some_bind, sum_bind, bind_bind, Sum.elim_inl, Sum.elim_inr]
def rule_Check_g : Pure := fun R l b K => noBox b (args3 y7 y11 y11 l (fun x0 x1 x2 => (rule_Check x0 x1 x2).bind fun r => K [.dat (.int .i64) r []] none))
theorem rule_Check_n : rule_Check_g.Nat := fun R S l b F G K h => noBox_nat (args3_nat fun _ _ _ => bindr_nat fun _ => h _ _)
def Tb35 : Funs := Tb34.add 31 [y7, y11, y11] rule_Check_g
theorem Tb35_nat : Tb35.Nat := add_nat Tb34_nat rule_Check_n
theorem Tb35_owes : ∀ f, Owes Try.prog Tb35 f := add_owes (E := rule_Check_E) (Tab.env_ok tab_ok _ _ _ _) mixed Tb34_nat Tb34_owes (fn := Try.f31) (code := rule_Check_c) Try.func31 (by kernel_rfl) (by kernel_rfl) fun l b r b' h => by
  obtain ⟨rfl, h⟩ := noBox_some h
  obtain ⟨x0, x1, x2, h1, h2⟩ := own3 (E := rule_Check_E) rfl h
  exact ⟨FUEL, (h2 _ _ _ _ _ _).trans ((rule_Check_eq _ x0 x1 x2 _).trans h1)⟩
noncomputable abbrev fields_bit_c : Code := Try.f67.body.getD .skip
def fields_bit_E : Env := tab.env (fun _ => []) (fun _ => []) [2] [(.int .i64)]
theorem fields_bit_t (R : Type) (kk : Nat) (n_0 : Int) (K : List SV → Option Box → Option R) : evFn fields_bit_E (Tb35 R) kk Try.f67 fields_bit_c [.dat (.int .i64) n_0 []] none K =
  fields_bit_s0 n_0 (fun a0 => K [.dat (.pair (.int .u64) (.pair (.int .u64) .unit)) a0 []] none) := by kernel_rfl
theorem fields_bit_eq (R : Type) (n_0 : Int) (K : List SV → Option Box → Option R) : evFn fields_bit_E (Tb35 R) FUEL Try.f67 fields_bit_c [.dat (.int .i64) n_0 []] none K = (fields_bit n_0).bind fun r => K [.dat (.pair (.int .u64) (.pair (.int .u64) .unit)) r []] none := by
  rw [fields_bit_t]
  simp only [fields_bit, fields_bit_s0_bind, cond_bind, within_bind, none_bind, some_bind, sum_bind, bind_bind, Sum.elim_inl, Sum.elim_inr]
def fields_bit_g : Pure := fun R l b K => noBox b (args1 (.int .i64) l (fun x0 => (fields_bit x0).bind fun r => K [.dat (.pair (.int .u64) (.pair (.int .u64) .unit)) r []] none))
theorem fields_bit_n : fields_bit_g.Nat := fun R S l b F G K h => noBox_nat (args1_nat fun _ => bindr_nat fun _ => h _ _)
def Tb36 : Funs := Tb35.add 67 [(.int .i64)] fields_bit_g
theorem Tb36_nat : Tb36.Nat := add_nat Tb35_nat fields_bit_n
theorem Tb36_owes : ∀ f, Owes Try.prog Tb36 f := add_owes (E := fields_bit_E) (Tab.env_ok tab_ok _ _ _ _) mixed Tb35_nat Tb35_owes (fn := Try.f67) (code := fields_bit_c) Try.func67 (by kernel_rfl) (by kernel_rfl) fun l b r b' h => by
  obtain ⟨rfl, h⟩ := noBox_some h
  obtain ⟨x0, h1, h2⟩ := own1 (E := fields_bit_E) rfl h
  exact ⟨FUEL, (h2 _ _ _ _ _ _).trans ((fields_bit_eq _ x0 _).trans h1)⟩
noncomputable abbrev fields_Set_Either_c : Code := Try.f34.body.getD .skip
def fields_Set_Either_E : Env := tab.env (fun _ => []) (fun _ => []) [4] [(.pair (.int .u64) (.pair (.int .u64) .unit)), (.pair (.int .u64) (.pair (.int .u64) .unit))]
theorem fields_Set_Either_t (R : Type) (kk : Nat) (s_0 : (Int × Int × Unit)) (t_1 : (Int × Int × Unit)) (K : List SV → Option Box → Option R) : evFn fields_Set_Either_E (Tb36 R) kk Try.f34 fields_Set_Either_c [.dat (.pair (.int .u64) (.pair (.int .u64) .unit)) s_0 [], .dat (.pair (.int .u64) (.pair (.int .u64) .unit)) t_1 []] none K =
  fields_Set_Either_s0 s_0 t_1 (fun a0 => K [.dat (.pair (.int .u64) (.pair (.int .u64) .unit)) a0 []] none) := by kernel_rfl
theorem fields_Set_Either_eq (R : Type) (s_0 : (Int × Int × Unit)) (t_1 : (Int × Int × Unit)) (K : List SV → Option Box → Option R) : evFn fields_Set_Either_E (Tb36 R) FUEL Try.f34 fields_Set_Either_c [.dat (.pair (.int .u64) (.pair (.int .u64) .unit)) s_0 [], .dat (.pair (.int .u64) (.pair (.int .u64) .unit)) t_1 []] none K = (fields_Set_Either s_0 t_1).bind fun r => K [.dat (.pair (.int .u64) (.pair (.int .u64) .unit)) r []] none := by
  rw [fields_Set_Either_t]
  simp only [fields_Set_Either, fields_Set_Either_s0_bind, cond_bind, within_bind, none_bind, some_bind, sum_bind, bind_bind, Sum.elim_inl, Sum.elim_inr]
def fields_Set_Either_g : Pure := fun R l b K => noBox b (args2 (.pair (.int .u64) (.pair (.int .u64) .unit)) (.pair (.int .u64) (.pair (.int .u64) .unit)) l (fun x0 x1 => (fields_Set_Either x0 x1).bind fun r => K [.dat (.pair (.int .u64) (.pair (.int .u64) .unit)) r []] none))
theorem fields_Set_Either_n : fields_Set_Either_g.Nat := fun R S l b F G K h => noBox_nat (args2_nat fun _ _ => bindr_nat fun _ => h _ _)
def Tb37 : Funs := Tb36.add 34 [(.pair (.int .u64) (.pair (.int .u64) .unit)), (.pair (.int .u64) (.pair (.int .u64) .unit))] fields_Set_Either_g
theorem Tb37_nat : Tb37.Nat := add_nat Tb36_nat fields_Set_Either_n
theorem Tb37_owes : ∀ f, Owes Try.prog Tb37 f := add_owes (E := fields_Set_Either_E) (Tab.env_ok tab_ok _ _ _ _) mixed Tb36_nat Tb36_owes (fn := Try.f34) (code := fields_Set_Either_c) Try.func34 (by kernel_rfl) (by kernel_rfl) fun l b r b' h => by
  obtain ⟨rfl, h⟩ := noBox_some h
  obtain ⟨x0, x1, h1, h2⟩ := own2 (E := fields_Set_Either_E) rfl h
  exact ⟨FUEL, (h2 _ _ _ _ _ _).trans ((fields_Set_Either_eq _ x0 x1 _).trans h1)⟩
noncomputable abbrev fields_Set_With_c : Code := Try.f52.body.getD .skip
def fields_Set_With_E : Env := tab.env (fun _ => []) (fun _ => []) [4] [(.pair (.int .u64) (.pair (.int .u64) .unit)), (.int .i64)]
theorem fields_Set_With_t (R : Type) (kk : Nat) (s_0 : (Int × Int × Unit)) (n_1 : Int) (K : List SV → Option Box → Option R) : evFn fields_Set_With_E (Tb37 R) kk Try.f52 fields_Set_With_c [.dat (.pair (.int .u64) (.pair (.int .u64) .unit)) s_0 [], .dat (.int .i64) n_1 []] none K =
  fields_Set_With_s0 s_0 n_1 (fun a0 => K [.dat (.pair (.int .u64) (.pair (.int .u64) .unit)) a0 []] none) := by kernel_rfl
theorem fields_Set_With_eq (R : Type) (s_0 : (Int × Int × Unit)) (n_1 : Int) (K : List SV → Option Box → Option R) : evFn fields_Set_With_E (Tb37 R) FUEL Try.f52 fields_Set_With_c [.dat (.pair (.int .u64) (.pair (.int .u64) .unit)) s_0 [], .dat (.int .i64) n_1 []] none K = (fields_Set_With s_0 n_1).bind fun r => K [.dat (.pair (.int .u64) (.pair (.int .u64) .unit)) r []] none := by
  rw [fields_Set_With_t]
  simp only [fields_Set_With, fields_Set_With_s0_bind, cond_bind, within_bind, none_bind, some_bind, sum_bind, bind_bind, Sum.elim_inl, Sum.elim_inr]
def fields_Set_With_g : Pure := fun R l b K => noBox b (args2 (.pair (.int .u64) (.pair (.int .u64) .unit)) (.int .i64) l (fun x0 x1 => (fields_Set_With x0 x1).bind fun r => K [.dat (.pair (.int .u64) (.pair (.int .u64) .unit)) r []] none))
theorem fields_Set_With_n : fields_Set_With_g.Nat := fun R S l b F G K h => noBox_nat (args2_nat fun _ _ => bindr_nat fun _ => h _ _)
def Tb38 : Funs := Tb37.add 52 [(.pair (.int .u64) (.pair (.int .u64) .unit)), (.int .i64)] fields_Set_With_g
theorem Tb38_nat : Tb38.Nat := add_nat Tb37_nat fields_Set_With_n
theorem Tb38_owes : ∀ f, Owes Try.prog Tb38 f := add_owes (E := fields_Set_With_E) (Tab.env_ok tab_ok _ _ _ _) mixed Tb37_nat Tb37_owes (fn := Try.f52) (code := fields_Set_With_c) Try.func52 (by kernel_rfl) (by kernel_rfl) fun l b r b' h => by
  obtain ⟨rfl, h⟩ := noBox_some h
  obtain ⟨x0, x1, h1, h2⟩ := own2 (E := fields_Set_With_E) rfl h
  exact ⟨FUEL, (h2 _ _ _ _ _ _).trans ((fields_Set_With_eq _ x0 x1 _).trans h1)⟩
noncomputable abbrev fields_Of_c : Code := Try.f32.body.getD .skip
def fields_Of_E : Env := tab.env (fun i => bif Nat.beq i 3 then [2, 3, 6, 7, 8] else []) (fun i => bif Nat.beq i 3 then [2, 3] else []) [2] [(.sl 3 (.int .i64))]
def fields_Of_h0 (t6 : (List Int)) (t7 : Int) (t8 : Int) (bt2 : (Int × Int × Unit)) (bt3 : (Int × Int × Unit)) : State := ⟨[[.undef], [.undef], [.ptr 3 (.pair (.int .u64) (.pair (.int .u64) .unit)) []], [.ptr 4 (.pair (.int .u64) (.pair (.int .u64) .unit)) []], [.undef], [.undef], [.dat (.sl 3 (.int .i64)) t6 []], [.dat (.int .i64) t7 []], [.dat (.int .i64) t8 []], [.undef], [.undef], [.undef], [.undef], [.undef], [.undef], [.undef], [.undef]], [none, none, none, some ⟨(.pair (.int .u64) (.pair (.int .u64) .unit)), bt2, []⟩, some ⟨(.pair (.int .u64) (.pair (.int .u64) .unit)), bt3, []⟩, none, none, none, none, none, none, none, none, none, none, none, none, none]⟩
def fields_Of_x0_0 (bt2 : (Int × Int × Unit)) (bt3 : (Int × Int × Unit)) : State := ⟨[[.undef], [.undef], [.ptr 3 (.pair (.int .u64) (.pair (.int .u64) .unit)) []], [.ptr 4 (.pair (.int .u64) (.pair (.int .u64) .unit)) []], [.undef], [.undef], [.undef], [.undef], [.undef], [.undef], [.undef], [.undef], [.undef], [.undef], [.undef], [.undef], [.undef]], [none, none, none, some ⟨(.pair (.int .u64) (.pair (.int .u64) .unit)), bt2, []⟩, some ⟨(.pair (.int .u64) (.pair (.int .u64) .unit)), bt3, []⟩, none, none, none, none, none, none, none, none, none, none, none, none, none]⟩
theorem fields_Of_t (R : Type) (kk : Nat) (n_0 : (List Int)) (K : List SV → Option Box → Option R) : evFn fields_Of_E (Tb38 R) kk Try.f32 fields_Of_c [.dat (.sl 3 (.int .i64)) n_0 []] none K =
  fields_Of_s0 n_0 (fun a0 a1 a2 a3 a4 => loopR (ev fields_Of_E (Tb38 R) kk (sub [1, 1, 0, 1, 0, 0] fields_Of_c)) [2, 3, 6, 7, 8] [2, 3] kk (fields_Of_h0 a0 a1 a2 a3 a4) (kBlock 0 (kSeq fields_Of_E (Tb38 R) kk (sub [1, 1, 1] fields_Of_c) (kFin fields_Of_E Try.f32.results.toList none K)))) := by kernel_rfl
theorem fields_Of_d0 (R : Type) (kk k : Nat) (t6 : (List Int)) (t7 : Int) (t8 : Int) (bt2 : (Int × Int × Unit)) (bt3 : (Int × Int × Unit)) (K : Ex → State → Option R) : loopR (ev fields_Of_E (Tb38 R) kk (sub [1, 1, 0, 1, 0, 0] fields_Of_c)) [2, 3, 6, 7, 8] [2, 3] (k + 1) (fields_Of_h0 t6 t7 t8 bt2 bt3) K =
  fields_Of_s1 t6 t7 t8 bt2 bt3 (fun a0 a1 a2 a3 a4 => loopR (ev fields_Of_E (Tb38 R) kk (sub [1, 1, 0, 1, 0, 0] fields_Of_c)) [2, 3, 6, 7, 8] [2, 3] k (fields_Of_h0 a0 a1 a2 a3 a4) K) (fun a0 a1 => K (.exit 0) (fields_Of_x0_0 a0 a1)) := by kernel_rfl
theorem fields_Of_y0_0 (R : Type) (kk : Nat) (bt2 : (Int × Int × Unit)) (bt3 : (Int × Int × Unit)) (K : List SV → Option Box → Option R) : (kBlock 0 (kSeq fields_Of_E (Tb38 R) kk (sub [1, 1, 1] fields_Of_c) (kFin fields_Of_E Try.f32.results.toList none K))) (.exit 0) (fields_Of_x0_0 bt2 bt3) =
  fields_Of_s2 bt2 bt3 (fun a0 => K [.dat (.pair (.int .u64) (.pair (.int .u64) .unit)) a0 []] none) := by kernel_rfl
theorem fields_Of_lp0 (R : Type) (k : Nat) (t6 : (List Int)) (t7 : Int) (t8 : Int) (bt2 : (Int × Int × Unit)) (bt3 : (Int × Int × Unit)) (K : Ex → State → Option R) : loopR (ev fields_Of_E (Tb38 R) FUEL (sub [1, 1, 0, 1, 0, 0] fields_Of_c)) [2, 3, 6, 7, 8] [2, 3] k (fields_Of_h0 t6 t7 t8 bt2 bt3) K = (fields_Of_l0 k t6 t7 t8 bt2 bt3).bind fun e => K (.exit 0) (fields_Of_x0_0 e.1 e.2) := by
  induction k generalizing t6 t7 t8 bt2 bt3 with
  | zero => rfl
  | succ k ih =>
    rw [fields_Of_d0]
    simp only [fields_Of_l0, fields_Of_s0_bind, fields_Of_s1_bind, fields_Of_s2_bind, ih, cond_bind, within_bind, none_bind, some_bind, sum_bind, bind_bind, Sum.elim_inl, Sum.elim_inr]
theorem fields_Of_eq (R : Type) (n_0 : (List Int)) (K : List SV → Option Box → Option R) : evFn fields_Of_E (Tb38 R) FUEL Try.f32 fields_Of_c [.dat (.sl 3 (.int .i64)) n_0 []] none K = (fields_Of n_0).bind fun r => K [.dat (.pair (.int .u64) (.pair (.int .u64) .unit)) r []] none := by
  rw [fields_Of_t]
  simp only [fields_Of, fields_Of_s0_bind, fields_Of_s1_bind, fields_Of_s2_bind, fields_Of_lp0, fields_Of_y0_0, cond_bind, within_bind, none_bind, some_bind, sum_bind, bind_bind, Sum.elim_inl, Sum.elim_inr]
def fields_Of_g : Pure := fun R l b K => noBox b (args1 (.sl 3 (.int .i64)) l (fun x0 => (fields_Of x0).bind fun r => K [.dat (.pair (.int .u64) (.pair (.int .u64) .unit)) r []] none))
theorem fields_Of_n : fields_Of_g.Nat := fun R S l b F G K h => noBox_nat (args1_nat fun _ => bindr_nat fun _ => h _ _)
def Tb39 : Funs := Tb38.add 32 [(.sl 3 (.int .i64))] fields_Of_g
theorem Tb39_nat : Tb39.Nat := add_nat Tb38_nat fields_Of_n
theorem Tb39_owes : ∀ f, Owes Try.prog Tb39 f := add_owes (E := fields_Of_E) (Tab.env_ok tab_ok _ _ _ _) mixed Tb38_nat Tb38_owes (fn := Try.f32) (code := fields_Of_c) Try.func32 (by kernel_rfl) (by kernel_rfl) fun l b r b' h => by
  obtain ⟨rfl, h⟩ := noBox_some h
  obtain ⟨x0, h1, h2⟩ := own1 (E := fields_Of_E) rfl h
  exact ⟨FUEL, (h2 _ _ _ _ _ _).trans ((fields_Of_eq _ x0 _).trans h1)⟩
noncomputable abbrev fields_Set_Both_c : Code := Try.f33.body.getD .skip
def fields_Set_Both_E : Env := tab.env (fun _ => []) (fun _ => []) [4] [(.pair (.int .u64) (.pair (.int .u64) .unit)), (.pair (.int .u64) (.pair (.int .u64) .unit))]
theorem fields_Set_Both_t (R : Type) (kk : Nat) (s_0 : (Int × Int × Unit)) (t_1 : (Int × Int × Unit)) (K : List SV → Option Box → Option R) : evFn fields_Set_Both_E (Tb39 R) kk Try.f33 fields_Set_Both_c [.dat (.pair (.int .u64) (.pair (.int .u64) .unit)) s_0 [], .dat (.pair (.int .u64) (.pair (.int .u64) .unit)) t_1 []] none K =
  fields_Set_Both_s0 s_0 t_1 (fun a0 => K [.dat (.pair (.int .u64) (.pair (.int .u64) .unit)) a0 []] none) := by kernel_rfl
theorem fields_Set_Both_eq (R : Type) (s_0 : (Int × Int × Unit)) (t_1 : (Int × Int × Unit)) (K : List SV → Option Box → Option R) : evFn fields_Set_Both_E (Tb39 R) FUEL Try.f33 fields_Set_Both_c [.dat (.pair (.int .u64) (.pair (.int .u64) .unit)) s_0 [], .dat (.pair (.int .u64) (.pair (.int .u64) .unit)) t_1 []] none K = (fields_Set_Both s_0 t_1).bind fun r => K [.dat (.pair (.int .u64) (.pair (.int .u64) .unit)) r []] none := by
  rw [fields_Set_Both_t]
  simp only [fields_Set_Both, fields_Set_Both_s0_bind, cond_bind, within_bind, none_bind, some_bind, sum_bind, bind_bind, Sum.elim_inl, Sum.elim_inr]
def fields_Set_Both_g : Pure := fun R l b K => noBox b (args2 (.pair (.int .u64) (.pair (.int .u64) .unit)) (.pair (.int .u64) (.pair (.int .u64) .unit)) l (fun x0 x1 => (fields_Set_Both x0 x1).bind fun r => K [.dat (.pair (.int .u64) (.pair (.int .u64) .unit)) r []] none))
theorem fields_Set_Both_n : fields_Set_Both_g.Nat := fun R S l b F G K h => noBox_nat (args2_nat fun _ _ => bindr_nat fun _ => h _ _)
def Tb40 : Funs := Tb39.add 33 [(.pair (.int .u64) (.pair (.int .u64) .unit)), (.pair (.int .u64) (.pair (.int .u64) .unit))] fields_Set_Both_g
theorem Tb40_nat : Tb40.Nat := add_nat Tb39_nat fields_Set_Both_n
theorem Tb40_owes : ∀ f, Owes Try.prog Tb40 f := add_owes (E := fields_Set_Both_E) (Tab.env_ok tab_ok _ _ _ _) mixed Tb39_nat Tb39_owes (fn := Try.f33) (code := fields_Set_Both_c) Try.func33 (by kernel_rfl) (by kernel_rfl) fun l b r b' h => by
  obtain ⟨rfl, h⟩ := noBox_some h
  obtain ⟨x0, x1, h1, h2⟩ := own2 (E := fields_Set_Both_E) rfl h
  exact ⟨FUEL, (h2 _ _ _ _ _ _).trans ((fields_Set_Both_eq _ x0 x1 _).trans h1)⟩
noncomputable abbrev xlate_Check_c : Code := Try.f14.body.getD .skip
def xlate_Check_E : Env := tab.env (fun i => bif Nat.beq i 2 then [3, 4, 5, 26, 27, 28] else bif Nat.beq i 12 then [3, 4, 5, 13, 46, 48, 49, 50] else bif Nat.beq i 24 then [4, 5, 16, 17, 77, 78, 79] else []) (fun i => bif Nat.beq i 2 then [3, 4, 5, 6, 7, 8] else bif Nat.beq i 12 then [3, 4, 5, 6, 7, 8] else bif Nat.beq i 24 then [6, 7, 8] else []) [] [y12, y11, y11]
def xlate_Check_h0 (t26 : (List (Int × Int × (List (Int × Int × Int × Int × Int × Unit)) × Unit))) (t27 : Int) (t28 : Int) (bt3 : ((List (ByteArray × ByteArray × Unit)) × (List (Int × Int × Int × ByteArray × (List (ByteArray × ByteArray × Unit)) × Unit)) × Unit)) (bt4 : (Int × Int × (List (Int × Int × Int × Int × Int × Unit)) × Unit)) (bt5 : (Int × Int × (List (Int × Int × Int × Int × Int × Unit)) × Unit)) : State := ⟨[[.undef], [.undef], [.undef], [.ptr 4 y12 []], [.ptr 5 y11 []], [.ptr 6 y11 []], [.undef], [.undef], [.undef], [.undef], [.undef], [.undef], [.undef], [.undef], [.undef], [.undef], [.undef], [.undef], [.undef], [.undef], [.undef], [.undef], [.undef], [.undef], [.undef], [.undef], [.dat (.sl 28 y11) t26 [[]]], [.dat (.int .i64) t27 []], [.dat (.int .i64) t28 []], [.undef], [.undef], [.undef], [.undef], [.undef], [.undef], [.undef], [.undef], [.undef], [.undef], [.undef], [.undef], [.undef], [.undef], [.undef], [.undef], [.undef], [.undef], [.undef], [.undef], [.undef], [.undef], [.undef], [.undef], [.undef], [.undef], [.undef], [.undef], [.undef], [.undef], [.undef], [.undef], [.undef], [.undef], [.undef], [.undef], [.undef], [.undef], [.undef], [.undef], [.undef], [.undef], [.undef], [.undef], [.undef], [.undef], [.undef], [.undef], [.undef], [.undef], [.undef], [.undef], [.undef], [.undef], [.undef], [.undef], [.undef], [.undef], [.undef], [.undef], [.undef], [.undef], [.undef], [.undef], [.undef], [.undef], [.undef], [.undef], [.undef], [.undef], [.undef], [.undef], [.undef], [.undef], [.undef], [.undef], [.undef], [.undef], [.undef], [.undef], [.undef], [.undef], [.undef], [.undef], [.undef], [.undef], [.undef], [.undef], [.undef], [.undef], [.undef], [.undef]], [none, none, none, none, some ⟨y12, bt3, []⟩, some ⟨y11, bt4, []⟩, some ⟨y11, bt5, []⟩, none, none, none, none, none, none, none, none, none, none, none, none, none, none, none, none, none, none, none, none, none, none, none, none, none, none, none, none, none, none, none, none, none, none, none, none, none, none, none, none, none, none, none, none, none, none, none, none, none, none, none, none, none, none, none, none, none, none, none, none, none, none, none, none, none, none, none, none, none, none, none, none, none, none, none, none, none, none, none, none, none, none, none, none, none, none, none, none, none, none, none, none, none, none, none, none, none, none, none, none, none, none, none, none, none, none, none, none, none, none, none, none, none, none, none]⟩
def xlate_Check_x0_0 (t6 : Int) (t7 : Int) (t8 : Int) (bt3 : ((List (ByteArray × ByteArray × Unit)) × (List (Int × Int × Int × ByteArray × (List (ByteArray × ByteArray × Unit)) × Unit)) × Unit)) (bt4 : (Int × Int × (List (Int × Int × Int × Int × Int × Unit)) × Unit)) (bt5 : (Int × Int × (List (Int × Int × Int × Int × Int × Unit)) × Unit)) : State := ⟨[[.undef], [.undef], [.undef], [.ptr 4 y12 []], [.ptr 5 y11 []], [.ptr 6 y11 []], [.dat (.int .i64) t6 []], [.dat (.int .i64) t7 []], [.dat (.int .i64) t8 []], [.undef], [.undef], [.undef], [.undef], [.undef], [.undef], [.undef], [.undef], [.undef], [.undef], [.undef], [.undef], [.undef], [.undef], [.undef], [.undef], [.undef], [.undef], [.undef], [.undef], [.undef], [.undef], [.undef], [.undef], [.undef], [.undef], [.undef], [.undef], [.undef], [.undef], [.undef], [.undef], [.undef], [.undef], [.undef], [.undef], [.undef], [.undef], [.undef], [.undef], [.undef], [.undef], [.undef], [.undef], [.undef], [.undef], [.undef], [.undef], [.undef], [.undef], [.undef], [.undef], [.undef], [.undef], [.undef], [.undef], [.undef], [.undef], [.undef], [.undef], [.undef], [.undef], [.undef], [.undef], [.undef], [.undef], [.undef], [.undef], [.undef], [.undef], [.undef], [.undef], [.undef], [.undef], [.undef], [.undef], [.undef], [.undef], [.undef], [.undef], [.undef], [.undef], [.undef], [.undef], [.undef], [.undef], [.undef], [.undef], [.undef], [.undef], [.undef], [.undef], [.undef], [.undef], [.undef], [.undef], [.undef], [.undef], [.undef], [.undef], [.undef], [.undef], [.undef], [.undef], [.undef], [.undef], [.undef], [.undef], [.undef], [.undef], [.undef], [.undef]], [none, none, none, none, some ⟨y12, bt3, []⟩, some ⟨y11, bt4, []⟩, some ⟨y11, bt5, []⟩, none, none, none, none, none, none, none, none, none, none, none, none, none, none, none, none, none, none, none, none, none, none, none, none, none, none, none, none, none, none, none, none, none, none, none, none, none, none, none, none, none, none, none, none, none, none, none, none, none, none, none, none, none, none, none, none, none, none, none, none, none, none, none, none, none, none, none, none, none, none, none, none, none, none, none, none, none, none, none, none, none, none, none, none, none, none, none, none, none, none, none, none, none, none, none, none, none, none, none, none, none, none, none, none, none, none, none, none, none, none, none, none, none, none, none]⟩
def xlate_Check_x0_1 (bt3 : ((List (ByteArray × ByteArray × Unit)) × (List (Int × Int × Int × ByteArray × (List (ByteArray × ByteArray × Unit)) × Unit)) × Unit)) (bt4 : (Int × Int × (List (Int × Int × Int × Int × Int × Unit)) × Unit)) (bt5 : (Int × Int × (List (Int × Int × Int × Int × Int × Unit)) × Unit)) : State := ⟨[[.undef], [.undef], [.undef], [.ptr 4 y12 []], [.ptr 5 y11 []], [.ptr 6 y11 []], [.undef], [.undef], [.undef], [.undef], [.undef], [.undef], [.undef], [.undef], [.undef], [.undef], [.undef], [.undef], [.undef], [.undef], [.undef], [.undef], [.undef], [.undef], [.undef], [.undef], [.undef], [.undef], [.undef], [.undef], [.undef], [.undef], [.undef], [.undef], [.undef], [.undef], [.undef], [.undef], [.undef], [.undef], [.undef], [.undef], [.undef], [.undef], [.undef], [.undef], [.undef], [.undef], [.undef], [.undef], [.undef], [.undef], [.undef], [.undef], [.undef], [.undef], [.undef], [.undef], [.undef], [.undef], [.undef], [.undef], [.undef], [.undef], [.undef], [.undef], [.undef], [.undef], [.undef], [.undef], [.undef], [.undef], [.undef], [.undef], [.undef], [.undef], [.undef], [.undef], [.undef], [.undef], [.undef], [.undef], [.undef], [.undef], [.undef], [.undef], [.undef], [.undef], [.undef], [.undef], [.undef], [.undef], [.undef], [.undef], [.undef], [.undef], [.undef], [.undef], [.undef], [.undef], [.undef], [.undef], [.undef], [.undef], [.undef], [.undef], [.undef], [.undef], [.undef], [.undef], [.undef], [.undef], [.undef], [.undef], [.undef], [.undef], [.undef], [.undef], [.undef], [.undef], [.undef]], [none, none, none, none, some ⟨y12, bt3, []⟩, some ⟨y11, bt4, []⟩, some ⟨y11, bt5, []⟩, none, none, none, none, none, none, none, none, none, none, none, none, none, none, none, none, none, none, none, none, none, none, none, none, none, none, none, none, none, none, none, none, none, none, none, none, none, none, none, none, none, none, none, none, none, none, none, none, none, none, none, none, none, none, none, none, none, none, none, none, none, none, none, none, none, none, none, none, none, none, none, none, none, none, none, none, none, none, none, none, none, none, none, none, none, none, none, none, none, none, none, none, none, none, none, none, none, none, none, none, none, none, none, none, none, none, none, none, none, none, none, none, none, none, none]⟩
def xlate_Check_h1 (t48 : (List (ByteArray × ByteArray × Unit))) (t49 : Int) (t50 : Int) (bt3 : ((List (ByteArray × ByteArray × Unit)) × (List (Int × Int × Int × ByteArray × (List (ByteArray × ByteArray × Unit)) × Unit)) × Unit)) (bt4 : (Int × Int × (List (Int × Int × Int × Int × Int × Unit)) × Unit)) (bt5 : (Int × Int × (List (Int × Int × Int × Int × Int × Unit)) × Unit)) (bt13 : (List (ByteArray × Bool))) : State := ⟨[[.undef], [.undef], [.undef], [.ptr 4 y12 []], [.ptr 5 y11 []], [.ptr 6 y11 []], [.undef], [.undef], [.undef], [.undef], [.undef], [.undef], [.undef], [.ptr 47 (.spc .mp .str .bool) []], [.undef], [.undef], [.undef], [.undef], [.undef], [.undef], [.undef], [.undef], [.undef], [.undef], [.undef], [.undef], [.undef], [.undef], [.undef], [.undef], [.undef], [.undef], [.undef], [.undef], [.undef], [.undef], [.undef], [.undef], [.undef], [.undef], [.undef], [.undef], [.undef], [.undef], [.undef], [.undef], [.ptr 47 (.spc .mp .str .bool) []], [.undef], [.dat (.sl 44 (.pair .str (.pair .str .unit))) t48 []], [.dat (.int .i64) t49 []], [.dat (.int .i64) t50 []], [.undef], [.undef], [.undef], [.undef], [.undef], [.undef], [.undef], [.undef], [.undef], [.undef], [.undef], [.undef], [.undef], [.undef], [.undef], [.undef], [.undef], [.undef], [.undef], [.undef], [.undef], [.undef], [.undef], [.undef], [.undef], [.undef], [.undef], [.undef], [.undef], [.undef], [.undef], [.undef], [.undef], [.undef], [.undef], [.undef], [.undef], [.undef], [.undef], [.undef], [.undef], [.undef], [.undef], [.undef], [.undef], [.undef], [.undef], [.undef], [.undef], [.undef], [.undef], [.undef], [.undef], [.undef], [.undef], [.undef], [.undef], [.undef], [.undef], [.undef], [.undef], [.undef], [.undef], [.undef], [.undef], [.undef], [.undef], [.undef], [.undef], [.undef]], [none, none, none, none, some ⟨y12, bt3, []⟩, some ⟨y11, bt4, []⟩, some ⟨y11, bt5, []⟩, none, none, none, none, none, none, none, none, none, none, none, none, none, none, none, none, none, none, none, none, none, none, none, none, none, none, none, none, none, none, none, none, none, none, none, none, none, none, none, none, some ⟨(.spc .mp .str .bool), bt13, []⟩, none, none, none, none, none, none, none, none, none, none, none, none, none, none, none, none, none, none, none, none, none, none, none, none, none, none, none, none, none, none, none, none, none, none, none, none, none, none, none, none, none, none, none, none, none, none, none, none, none, none, none, none, none, none, none, none, none, none, none, none, none, none, none, none, none, none, none, none, none, none, none, none, none, none]⟩
def xlate_Check_x1_0 (t6 : Int) (t7 : Int) (t8 : Int) (bt3 : ((List (ByteArray × ByteArray × Unit)) × (List (Int × Int × Int × ByteArray × (List (ByteArray × ByteArray × Unit)) × Unit)) × Unit)) (bt4 : (Int × Int × (List (Int × Int × Int × Int × Int × Unit)) × Unit)) (bt5 : (Int × Int × (List (Int × Int × Int × Int × Int × Unit)) × Unit)) : State := ⟨[[.undef], [.undef], [.undef], [.ptr 4 y12 []], [.ptr 5 y11 []], [.ptr 6 y11 []], [.dat (.int .i64) t6 []], [.dat (.int .i64) t7 []], [.dat (.int .i64) t8 []], [.undef], [.undef], [.undef], [.undef], [.undef], [.undef], [.undef], [.undef], [.undef], [.undef], [.undef], [.undef], [.undef], [.undef], [.undef], [.undef], [.undef], [.undef], [.undef], [.undef], [.undef], [.undef], [.undef], [.undef], [.undef], [.undef], [.undef], [.undef], [.undef], [.undef], [.undef], [.undef], [.undef], [.undef], [.undef], [.undef], [.undef], [.undef], [.undef], [.undef], [.undef], [.undef], [.undef], [.undef], [.undef], [.undef], [.undef], [.undef], [.undef], [.undef], [.undef], [.undef], [.undef], [.undef], [.undef], [.undef], [.undef], [.undef], [.undef], [.undef], [.undef], [.undef], [.undef], [.undef], [.undef], [.undef], [.undef], [.undef], [.undef], [.undef], [.undef], [.undef], [.undef], [.undef], [.undef], [.undef], [.undef], [.undef], [.undef], [.undef], [.undef], [.undef], [.undef], [.undef], [.undef], [.undef], [.undef], [.undef], [.undef], [.undef], [.undef], [.undef], [.undef], [.undef], [.undef], [.undef], [.undef], [.undef], [.undef], [.undef], [.undef], [.undef], [.undef], [.undef], [.undef], [.undef], [.undef], [.undef], [.undef], [.undef], [.undef], [.undef]], [none, none, none, none, some ⟨y12, bt3, []⟩, some ⟨y11, bt4, []⟩, some ⟨y11, bt5, []⟩, none, none, none, none, none, none, none, none, none, none, none, none, none, none, none, none, none, none, none, none, none, none, none, none, none, none, none, none, none, none, none, none, none, none, none, none, none, none, none, none, none, none, none, none, none, none, none, none, none, none, none, none, none, none, none, none, none, none, none, none, none, none, none, none, none, none, none, none, none, none, none, none, none, none, none, none, none, none, none, none, none, none, none, none, none, none, none, none, none, none, none, none, none, none, none, none, none, none, none, none, none, none, none, none, none, none, none, none, none, none, none, none, none, none, none]⟩
def xlate_Check_x1_1 (bt3 : ((List (ByteArray × ByteArray × Unit)) × (List (Int × Int × Int × ByteArray × (List (ByteArray × ByteArray × Unit)) × Unit)) × Unit)) (bt4 : (Int × Int × (List (Int × Int × Int × Int × Int × Unit)) × Unit)) (bt5 : (Int × Int × (List (Int × Int × Int × Int × Int × Unit)) × Unit)) : State := ⟨[[.undef], [.undef], [.undef], [.ptr 4 y12 []], [.ptr 5 y11 []], [.ptr 6 y11 []], [.undef], [.undef], [.undef], [.undef], [.undef], [.undef], [.undef], [.undef], [.undef], [.undef], [.undef], [.undef], [.undef], [.undef], [.undef], [.undef], [.undef], [.undef], [.undef], [.undef], [.undef], [.undef], [.undef], [.undef], [.undef], [.undef], [.undef], [.undef], [.undef], [.undef], [.undef], [.undef], [.undef], [.undef], [.undef], [.undef], [.undef], [.undef], [.undef], [.undef], [.undef], [.undef], [.undef], [.undef], [.undef], [.undef], [.undef], [.undef], [.undef], [.undef], [.undef], [.undef], [.undef], [.undef], [.undef], [.undef], [.undef], [.undef], [.undef], [.undef], [.undef], [.undef], [.undef], [.undef], [.undef], [.undef], [.undef], [.undef], [.undef], [.undef], [.undef], [.undef], [.undef], [.undef], [.undef], [.undef], [.undef], [.undef], [.undef], [.undef], [.undef], [.undef], [.undef], [.undef], [.undef], [.undef], [.undef], [.undef], [.undef], [.undef], [.undef], [.undef], [.undef], [.undef], [.undef], [.undef], [.undef], [.undef], [.undef], [.undef], [.undef], [.undef], [.undef], [.undef], [.undef], [.undef], [.undef], [.undef], [.undef], [.undef], [.undef], [.undef], [.undef], [.undef], [.undef]], [none, none, none, none, some ⟨y12, bt3, []⟩, some ⟨y11, bt4, []⟩, some ⟨y11, bt5, []⟩, none, none, none, none, none, none, none, none, none, none, none, none, none, none, none, none, none, none, none, none, none, none, none, none, none, none, none, none, none, none, none, none, none, none, none, none, none, none, none, none, none, none, none, none, none, none, none, none, none, none, none, none, none, none, none, none, none, none, none, none, none, none, none, none, none, none, none, none, none, none, none, none, none, none, none, none, none, none, none, none, none, none, none, none, none, none, none, none, none, none, none, none, none, none, none, none, none, none, none, none, none, none, none, none, none, none, none, none, none, none, none, none, none, none, none]⟩
def xlate_Check_h2 (t77 : (List (Int × Int × Int × ByteArray × (List (ByteArray × ByteArray × Unit)) × Unit))) (t78 : Int) (t79 : Int) (bt4 : (Int × Int × (List (Int × Int × Int × Int × Int × Unit)) × Unit)) (bt5 : (Int × Int × (List (Int × Int × Int × Int × Int × Unit)) × Unit)) (bt16 : (Int × Int × Unit)) (bt17 : (Int × Int × Unit)) : State := ⟨[[.undef], [.undef], [.undef], [.undef], [.ptr 5 y11 []], [.ptr 6 y11 []], [.undef], [.undef], [.undef], [.undef], [.undef], [.undef], [.undef], [.undef], [.undef], [.undef], [.ptr 17 (.pair (.int .u64) (.pair (.int .u64) .unit)) []], [.ptr 18 (.pair (.int .u64) (.pair (.int .u64) .unit)) []], [.undef], [.undef], [.undef], [.undef], [.undef], [.undef], [.undef], [.undef], [.undef], [.undef], [.undef], [.undef], [.undef], [.undef], [.undef], [.undef], [.undef], [.undef], [.undef], [.undef], [.undef], [.undef], [.undef], [.undef], [.undef], [.undef], [.undef], [.undef], [.undef], [.undef], [.undef], [.undef], [.undef], [.undef], [.undef], [.undef], [.undef], [.undef], [.undef], [.undef], [.undef], [.undef], [.undef], [.undef], [.undef], [.undef], [.undef], [.undef], [.undef], [.undef], [.undef], [.undef], [.undef], [.undef], [.undef], [.undef], [.undef], [.undef], [.undef], [.dat (.sl 42 y7) t77 []], [.dat (.int .i64) t78 []], [.dat (.int .i64) t79 []], [.undef], [.undef], [.undef], [.undef], [.undef], [.undef], [.undef], [.undef], [.undef], [.undef], [.undef], [.undef], [.undef], [.undef], [.undef], [.undef], [.undef], [.undef], [.undef], [.undef], [.undef], [.undef], [.undef], [.undef], [.undef], [.undef], [.undef], [.undef], [.undef], [.undef], [.undef], [.undef], [.undef], [.undef], [.undef], [.undef], [.undef], [.undef], [.undef], [.undef], [.undef]], [none, none, none, none, none, some ⟨y11, bt4, []⟩, some ⟨y11, bt5, []⟩, none, none, none, none, none, none, none, none, none, none, some ⟨(.pair (.int .u64) (.pair (.int .u64) .unit)), bt16, []⟩, some ⟨(.pair (.int .u64) (.pair (.int .u64) .unit)), bt17, []⟩, none, none, none, none, none, none, none, none, none, none, none, none, none, none, none, none, none, none, none, none, none, none, none, none, none, none, none, none, none, none, none, none, none, none, none, none, none, none, none, none, none, none, none, none, none, none, none, none, none, none, none, none, none, none, none, none, none, none, none, none, none, none, none, none, none, none, none, none, none, none, none, none, none, none, none, none, none, none, none, none, none, none, none, none, none, none, none, none, none, none, none, none, none, none, none, none, none, none, none, none, none, none, none]⟩
def xlate_Check_x2_0 (t6 : Int) (t7 : Int) (t8 : Int) : State := ⟨[[.undef], [.undef], [.undef], [.undef], [.undef], [.undef], [.dat (.int .i64) t6 []], [.dat (.int .i64) t7 []], [.dat (.int .i64) t8 []], [.undef], [.undef], [.undef], [.undef], [.undef], [.undef], [.undef], [.undef], [.undef], [.undef], [.undef], [.undef], [.undef], [.undef], [.undef], [.undef], [.undef], [.undef], [.undef], [.undef], [.undef], [.undef], [.undef], [.undef], [.undef], [.undef], [.undef], [.undef], [.undef], [.undef], [.undef], [.undef], [.undef], [.undef], [.undef], [.undef], [.undef], [.undef], [.undef], [.undef], [.undef], [.undef], [.undef], [.undef], [.undef], [.undef], [.undef], [.undef], [.undef], [.undef], [.undef], [.undef], [.undef], [.undef], [.undef], [.undef], [.undef], [.undef], [.undef], [.undef], [.undef], [.undef], [.undef], [.undef], [.undef], [.undef], [.undef], [.undef], [.undef], [.undef], [.undef], [.undef], [.undef], [.undef], [.undef], [.undef], [.undef], [.undef], [.undef], [.undef], [.undef], [.undef], [.undef], [.undef], [.undef], [.undef], [.undef], [.undef], [.undef], [.undef], [.undef], [.undef], [.undef], [.undef], [.undef], [.undef], [.undef], [.undef], [.undef], [.undef], [.undef], [.undef], [.undef], [.undef], [.undef], [.undef], [.undef], [.undef], [.undef], [.undef], [.undef], [.undef]], [none, none, none, none, none, none, none, none, none, none, none, none, none, none, none, none, none, none, none, none, none, none, none, none, none, none, none, none, none, none, none, none, none, none, none, none, none, none, none, none, none, none, none, none, none, none, none, none, none, none, none, none, none, none, none, none, none, none, none, none, none, none, none, none, none, none, none, none, none, none, none, none, none, none, none, none, none, none, none, none, none, none, none, none, none, none, none, none, none, none, none, none, none, none, none, none, none, none, none, none, none, none, none, none, none, none, none, none, none, none, none, none, none, none, none, none, none, none, none, none, none, none]⟩
def xlate_Check_x2_1  : State := ⟨[[.undef], [.undef], [.undef], [.undef], [.undef], [.undef], [.undef], [.undef], [.undef], [.undef], [.undef], [.undef], [.undef], [.undef], [.undef], [.undef], [.undef], [.undef], [.undef], [.undef], [.undef], [.undef], [.undef], [.undef], [.undef], [.undef], [.undef], [.undef], [.undef], [.undef], [.undef], [.undef], [.undef], [.undef], [.undef], [.undef], [.undef], [.undef], [.undef], [.undef], [.undef], [.undef], [.undef], [.undef], [.undef], [.undef], [.undef], [.undef], [.undef], [.undef], [.undef], [.undef], [.undef], [.undef], [.undef], [.undef], [.undef], [.undef], [.undef], [.undef], [.undef], [.undef], [.undef], [.undef], [.undef], [.undef], [.undef], [.undef], [.undef], [.undef], [.undef], [.undef], [.undef], [.undef], [.undef], [.undef], [.undef], [.undef], [.undef], [.undef], [.undef], [.undef], [.undef], [.undef], [.undef], [.undef], [.undef], [.undef], [.undef], [.undef], [.undef], [.undef], [.undef], [.undef], [.undef], [.undef], [.undef], [.undef], [.undef], [.undef], [.undef], [.undef], [.undef], [.undef], [.undef], [.undef], [.undef], [.undef], [.undef], [.undef], [.undef], [.undef], [.undef], [.undef], [.undef], [.undef], [.undef], [.undef], [.undef], [.undef], [.undef]], [none, none, none, none, none, none, none, none, none, none, none, none, none, none, none, none, none, none, none, none, none, none, none, none, none, none, none, none, none, none, none, none, none, none, none, none, none, none, none, none, none, none, none, none, none, none, none, none, none, none, none, none, none, none, none, none, none, none, none, none, none, none, none, none, none, none, none, none, none, none, none, none, none, none, none, none, none, none, none, none, none, none, none, none, none, none, none, none, none, none, none, none, none, none, none, none, none, none, none, none, none, none, none, none, none, none, none, none, none, none, none, none, none, none, none, none, none, none, none, none, none, none]⟩
theorem xlate_Check_t (R : Type) (kk : Nat) (m_0 : ((List (ByteArray × ByteArray × Unit)) × (List (Int × Int × Int × ByteArray × (List (ByteArray × ByteArray × Unit)) × Unit)) × Unit)) (a_1 : (Int × Int × (List (Int × Int × Int × Int × Int × Unit)) × Unit)) (b_2 : (Int × Int × (List (Int × Int × Int × Int × Int × Unit)) × Unit)) (K : List SV → Option Box → Option R) : evFn xlate_Check_E (Tb40 R) kk Try.f14 xlate_Check_c [.dat y12 m_0 [], .dat y11 a_1 [], .dat y11 b_2 []] none K =
  xlate_Check_s0 m_0 a_1 b_2 (fun a0 a1 a2 a3 a4 a5 => loopR (ev xlate_Check_E (Tb40 R) kk (sub [1, 0, 1, 0, 0] xlate_Check_c)) [3, 4, 5, 26, 27, 28] [3, 4, 5, 6, 7, 8] kk (xlate_Check_h0 a0 a1 a2 a3 a4 a5) (kBlock 0 (kSeq xlate_Check_E (Tb40 R) kk (sub [1, 1] xlate_Check_c) (kFin xlate_Check_E Try.f14.results.toList none K)))) := by kernel_rfl
theorem xlate_Check_d0 (R : Type) (kk k : Nat) (t26 : (List (Int × Int × (List (Int × Int × Int × Int × Int × Unit)) × Unit))) (t27 : Int) (t28 : Int) (bt3 : ((List (ByteArray × ByteArray × Unit)) × (List (Int × Int × Int × ByteArray × (List (ByteArray × ByteArray × Unit)) × Unit)) × Unit)) (bt4 : (Int × Int × (List (Int × Int × Int × Int × Int × Unit)) × Unit)) (bt5 : (Int × Int × (List (Int × Int × Int × Int × Int × Unit)) × Unit)) (K : Ex → State → Option R) : loopR (ev xlate_Check_E (Tb40 R) kk (sub [1, 0, 1, 0, 0] xlate_Check_c)) [3, 4, 5, 26, 27, 28] [3, 4, 5, 6, 7, 8] (k + 1) (xlate_Check_h0 t26 t27 t28 bt3 bt4 bt5) K =
  xlate_Check_s1 t26 t27 t28 bt3 bt4 bt5 (fun a0 a1 a2 a3 a4 a5 => K .ret (xlate_Check_x0_0 a0 a1 a2 a3 a4 a5)) (fun a0 a1 a2 a3 a4 a5 => loopR (ev xlate_Check_E (Tb40 R) kk (sub [1, 0, 1, 0, 0] xlate_Check_c)) [3, 4, 5, 26, 27, 28] [3, 4, 5, 6, 7, 8] k (xlate_Check_h0 a0 a1 a2 a3 a4 a5) K) (fun a0 a1 a2 => K (.exit 0) (xlate_Check_x0_1 a0 a1 a2)) := by kernel_rfl
theorem xlate_Check_y0_0 (R : Type) (kk : Nat) (t6 : Int) (t7 : Int) (t8 : Int) (bt3 : ((List (ByteArray × ByteArray × Unit)) × (List (Int × Int × Int × ByteArray × (List (ByteArray × ByteArray × Unit)) × Unit)) × Unit)) (bt4 : (Int × Int × (List (Int × Int × Int × Int × Int × Unit)) × Unit)) (bt5 : (Int × Int × (List (Int × Int × Int × Int × Int × Unit)) × Unit)) (K : List SV → Option Box → Option R) : (kBlock 0 (kSeq xlate_Check_E (Tb40 R) kk (sub [1, 1] xlate_Check_c) (kFin xlate_Check_E Try.f14.results.toList none K))) .ret (xlate_Check_x0_0 t6 t7 t8 bt3 bt4 bt5) =
  xlate_Check_s2 t6 t7 t8 bt3 bt4 bt5 (fun a0 a1 a2 => K [.dat (.int .i64) a0 [], .dat (.int .i64) a1 [], .dat (.int .i64) a2 []] none) := by kernel_rfl
theorem xlate_Check_y0_1 (R : Type) (kk : Nat) (bt3 : ((List (ByteArray × ByteArray × Unit)) × (List (Int × Int × Int × ByteArray × (List (ByteArray × ByteArray × Unit)) × Unit)) × Unit)) (bt4 : (Int × Int × (List (Int × Int × Int × Int × Int × Unit)) × Unit)) (bt5 : (Int × Int × (List (Int × Int × Int × Int × Int × Unit)) × Unit)) (K : List SV → Option Box → Option R) : (kBlock 0 (kSeq xlate_Check_E (Tb40 R) kk (sub [1, 1] xlate_Check_c) (kFin xlate_Check_E Try.f14.results.toList none K))) (.exit 0) (xlate_Check_x0_1 bt3 bt4 bt5) =
  xlate_Check_s3 bt3 bt4 bt5 (fun a0 a1 a2 => K [.dat (.int .i64) a0 [], .dat (.int .i64) a1 [], .dat (.int .i64) a2 []] none) (fun a0 a1 a2 a3 a4 a5 a6 => loopR (ev xlate_Check_E (Tb40 R) kk (sub [1, 1, 1, 1, 0, 1, 0, 0] xlate_Check_c)) [3, 4, 5, 13, 46, 48, 49, 50] [3, 4, 5, 6, 7, 8] kk (xlate_Check_h1 a0 a1 a2 a3 a4 a5 a6) (kBlock 2 (kSeq xlate_Check_E (Tb40 R) kk (sub [1, 1, 1, 1, 1] xlate_Check_c) (kFin xlate_Check_E Try.f14.results.toList none K)))) := by kernel_rfl
theorem xlate_Check_d1 (R : Type) (kk k : Nat) (t48 : (List (ByteArray × ByteArray × Unit))) (t49 : Int) (t50 : Int) (bt3 : ((List (ByteArray × ByteArray × Unit)) × (List (Int × Int × Int × ByteArray × (List (ByteArray × ByteArray × Unit)) × Unit)) × Unit)) (bt4 : (Int × Int × (List (Int × Int × Int × Int × Int × Unit)) × Unit)) (bt5 : (Int × Int × (List (Int × Int × Int × Int × Int × Unit)) × Unit)) (bt13 : (List (ByteArray × Bool))) (K : Ex → State → Option R) : loopR (ev xlate_Check_E (Tb40 R) kk (sub [1, 1, 1, 1, 0, 1, 0, 0] xlate_Check_c)) [3, 4, 5, 13, 46, 48, 49, 50] [3, 4, 5, 6, 7, 8] (k + 1) (xlate_Check_h1 t48 t49 t50 bt3 bt4 bt5 bt13) K =
  xlate_Check_s4 t48 t49 t50 bt3 bt4 bt5 bt13 (fun a0 a1 a2 a3 a4 a5 => K .ret (xlate_Check_x1_0 a0 a1 a2 a3 a4 a5)) (fun a0 a1 a2 a3 a4 a5 a6 => loopR (ev xlate_Check_E (Tb40 R) kk (sub [1, 1, 1, 1, 0, 1, 0, 0] xlate_Check_c)) [3, 4, 5, 13, 46, 48, 49, 50] [3, 4, 5, 6, 7, 8] k (xlate_Check_h1 a0 a1 a2 a3 a4 a5 a6) K) (fun a0 a1 a2 => K (.exit 2) (xlate_Check_x1_1 a0 a1 a2)) := by kernel_rfl
theorem xlate_Check_y1_0 (R : Type) (kk : Nat) (t6 : Int) (t7 : Int) (t8 : Int) (bt3 : ((List (ByteArray × ByteArray × Unit)) × (List (Int × Int × Int × ByteArray × (List (ByteArray × ByteArray × Unit)) × Unit)) × Unit)) (bt4 : (Int × Int × (List (Int × Int × Int × Int × Int × Unit)) × Unit)) (bt5 : (Int × Int × (List (Int × Int × Int × Int × Int × Unit)) × Unit)) (K : List SV → Option Box → Option R) : (kBlock 2 (kSeq xlate_Check_E (Tb40 R) kk (sub [1, 1, 1, 1, 1] xlate_Check_c) (kFin xlate_Check_E Try.f14.results.toList none K))) .ret (xlate_Check_x1_0 t6 t7 t8 bt3 bt4 bt5) =
  xlate_Check_s5 t6 t7 t8 bt3 bt4 bt5 (fun a0 a1 a2 => K [.dat (.int .i64) a0 [], .dat (.int .i64) a1 [], .dat (.int .i64) a2 []] none) := by kernel_rfl
theorem xlate_Check_y1_1 (R : Type) (kk : Nat) (bt3 : ((List (ByteArray × ByteArray × Unit)) × (List (Int × Int × Int × ByteArray × (List (ByteArray × ByteArray × Unit)) × Unit)) × Unit)) (bt4 : (Int × Int × (List (Int × Int × Int × Int × Int × Unit)) × Unit)) (bt5 : (Int × Int × (List (Int × Int × Int × Int × Int × Unit)) × Unit)) (K : List SV → Option Box → Option R) : (kBlock 2 (kSeq xlate_Check_E (Tb40 R) kk (sub [1, 1, 1, 1, 1] xlate_Check_c) (kFin xlate_Check_E Try.f14.results.toList none K))) (.exit 2) (xlate_Check_x1_1 bt3 bt4 bt5) =
  xlate_Check_s6 bt3 bt4 bt5 (fun a0 a1 a2 => K [.dat (.int .i64) a0 [], .dat (.int .i64) a1 [], .dat (.int .i64) a2 []] none) (fun a0 a1 a2 a3 a4 a5 a6 => loopR (ev xlate_Check_E (Tb40 R) kk (sub [1, 1, 1, 1, 1, 1, 1, 0, 1, 0, 0] xlate_Check_c)) [4, 5, 16, 17, 77, 78, 79] [6, 7, 8] kk (xlate_Check_h2 a0 a1 a2 a3 a4 a5 a6) (kBlock 5 (kSeq xlate_Check_E (Tb40 R) kk (sub [1, 1, 1, 1, 1, 1, 1, 1] xlate_Check_c) (kFin xlate_Check_E Try.f14.results.toList none K)))) := by kernel_rfl
theorem xlate_Check_d2 (R : Type) (kk k : Nat) (t77 : (List (Int × Int × Int × ByteArray × (List (ByteArray × ByteArray × Unit)) × Unit))) (t78 : Int) (t79 : Int) (bt4 : (Int × Int × (List (Int × Int × Int × Int × Int × Unit)) × Unit)) (bt5 : (Int × Int × (List (Int × Int × Int × Int × Int × Unit)) × Unit)) (bt16 : (Int × Int × Unit)) (bt17 : (Int × Int × Unit)) (K : Ex → State → Option R) : loopR (ev xlate_Check_E (Tb40 R) kk (sub [1, 1, 1, 1, 1, 1, 1, 0, 1, 0, 0] xlate_Check_c)) [4, 5, 16, 17, 77, 78, 79] [6, 7, 8] (k + 1) (xlate_Check_h2 t77 t78 t79 bt4 bt5 bt16 bt17) K =
  xlate_Check_s7 t77 t78 t79 bt4 bt5 bt16 bt17 (fun a0 a1 a2 => K .ret (xlate_Check_x2_0 a0 a1 a2)) (fun a0 a1 a2 a3 a4 a5 a6 => loopR (ev xlate_Check_E (Tb40 R) kk (sub [1, 1, 1, 1, 1, 1, 1, 0, 1, 0, 0] xlate_Check_c)) [4, 5, 16, 17, 77, 78, 79] [6, 7, 8] k (xlate_Check_h2 a0 a1 a2 a3 a4 a5 a6) K) (K (.exit 5) (xlate_Check_x2_1)) := by kernel_rfl
theorem xlate_Check_y2_0 (R : Type) (kk : Nat) (t6 : Int) (t7 : Int) (t8 : Int) (K : List SV → Option Box → Option R) : (kBlock 5 (kSeq xlate_Check_E (Tb40 R) kk (sub [1, 1, 1, 1, 1, 1, 1, 1] xlate_Check_c) (kFin xlate_Check_E Try.f14.results.toList none K))) .ret (xlate_Check_x2_0 t6 t7 t8) =
  xlate_Check_s8 t6 t7 t8 (fun a0 a1 a2 => K [.dat (.int .i64) a0 [], .dat (.int .i64) a1 [], .dat (.int .i64) a2 []] none) := by kernel_rfl
theorem xlate_Check_y2_1 (R : Type) (kk : Nat)  (K : List SV → Option Box → Option R) : (kBlock 5 (kSeq xlate_Check_E (Tb40 R) kk (sub [1, 1, 1, 1, 1, 1, 1, 1] xlate_Check_c) (kFin xlate_Check_E Try.f14.results.toList none K))) (.exit 5) (xlate_Check_x2_1) =
  xlate_Check_s9 (fun a0 a1 a2 => K [.dat (.int .i64) a0 [], .dat (.int .i64) a1 [], .dat (.int .i64) a2 []] none) := by kernel_rfl
theorem xlate_Check_lp0 (R : Type) (k : Nat) (t26 : (List (Int × Int × (List (Int × Int × Int × Int × Int × Unit)) × Unit))) (t27 : Int) (t28 : Int) (bt3 : ((List (ByteArray × ByteArray × Unit)) × (List (Int × Int × Int × ByteArray × (List (ByteArray × ByteArray × Unit)) × Unit)) × Unit)) (bt4 : (Int × Int × (List (Int × Int × Int × Int × Int × Unit)) × Unit)) (bt5 : (Int × Int × (List (Int × Int × Int × Int × Int × Unit)) × Unit)) (K : Ex → State → Option R) : loopR (ev xlate_Check_E (Tb40 R) FUEL (sub [1, 0, 1, 0, 0] xlate_Check_c)) [3, 4, 5, 26, 27, 28] [3, 4, 5, 6, 7, 8] k (xlate_Check_h0 t26 t27 t28 bt3 bt4 bt5) K = (xlate_Check_l0 k t26 t27 t28 bt3 bt4 bt5).bind fun e => (Sum.elim (fun (we : (Int × Int × Int × ((List (ByteArray × ByteArray × Unit)) × (List (Int × Int × Int × ByteArray × (List (ByteArray × ByteArray × Unit)) × Unit)) × Unit) × (Int × Int × (List (Int × Int × Int × Int × Int × Unit)) × Unit) × (Int × Int × (List (Int × Int × Int × Int × Int × Unit)) × Unit))) => K .ret (xlate_Check_x0_0 we.1 we.2.1 we.2.2.1 we.2.2.2.1 we.2.2.2.2.1 we.2.2.2.2.2)) (fun (we : (((List (ByteArray × ByteArray × Unit)) × (List (Int × Int × Int × ByteArray × (List (ByteArray × ByteArray × Unit)) × Unit)) × Unit) × (Int × Int × (List (Int × Int × Int × Int × Int × Unit)) × Unit) × (Int × Int × (List (Int × Int × Int × Int × Int × Unit)) × Unit))) => K (.exit 0) (xlate_Check_x0_1 we.1 we.2.1 we.2.2)) e) := by
  induction k generalizing t26 t27 t28 bt3 bt4 bt5 with
  | zero => rfl
  | succ k ih =>
    rw [xlate_Check_d0]
    simp only [xlate_Check_l0, xlate_Check_s0_bind, xlate_Check_s1_bind, xlate_Check_s2_bind, xlate_Check_s3_bind, xlate_Check_s4_bind, xlate_Check_s5_bind, xlate_Check_s6_bind, xlate_Check_s7_bind, xlate_Check_s8_bind, xlate_Check_s9_bind, ih, cond_bind, within_bind, none_bind, some_bind, sum_bind, bind_bind, Sum.elim_inl, Sum.elim_inr]
theorem xlate_Check_lp1 (R : Type) (k : Nat) (t48 : (List (ByteArray × ByteArray × Unit))) (t49 : Int) (t50 : Int) (bt3 : ((List (ByteArray × ByteArray × Unit)) × (List (Int × Int × Int × ByteArray × (List (ByteArray × ByteArray × Unit)) × Unit)) × Unit)) (bt4 : (Int × Int × (List (Int × Int × Int × Int × Int × Unit)) × Unit)) (bt5 : (Int × Int × (List (Int × Int × Int × Int × Int × Unit)) × Unit)) (bt13 : (List (ByteArray × Bool))) (K : Ex → State → Option R) : loopR (ev xlate_Check_E (Tb40 R) FUEL (sub [1, 1, 1, 1, 0, 1, 0, 0] xlate_Check_c)) [3, 4, 5, 13, 46, 48, 49, 50] [3, 4, 5, 6, 7, 8] k (xlate_Check_h1 t48 t49 t50 bt3 bt4 bt5 bt13) K = (xlate_Check_l1 k t48 t49 t50 bt3 bt4 bt5 bt13).bind fun e => (Sum.elim (fun (we : (Int × Int × Int × ((List (ByteArray × ByteArray × Unit)) × (List (Int × Int × Int × ByteArray × (List (ByteArray × ByteArray × Unit)) × Unit)) × Unit) × (Int × Int × (List (Int × Int × Int × Int × Int × Unit)) × Unit) × (Int × Int × (List (Int × Int × Int × Int × Int × Unit)) × Unit))) => K .ret (xlate_Check_x1_0 we.1 we.2.1 we.2.2.1 we.2.2.2.1 we.2.2.2.2.1 we.2.2.2.2.2)) (fun (we : (((List (ByteArray × ByteArray × Unit)) × (List (Int × Int × Int × ByteArray × (List (ByteArray × ByteArray × Unit)) × Unit)) × Unit) × (Int × Int × (List (Int × Int × Int × Int × Int × Unit)) × Unit) × (Int × Int × (List (Int × Int × Int × Int × Int × Unit)) × Unit))) => K (.exit 2) (xlate_Check_x1_1 we.1 we.2.1 we.2.2)) e) := by
  induction k generalizing t48 t49 t50 bt3 bt4 bt5 bt13 with
  | zero => rfl
  | succ k ih =>
    rw [xlate_Check_d1]
    simp only [xlate_Check_l1, xlate_Check_s0_bind, xlate_Check_s1_bind, xlate_Check_s2_bind, xlate_Check_s3_bind, xlate_Check_s4_bind, xlate_Check_s5_bind, xlate_Check_s6_bind, xlate_Check_s7_bind, xlate_Check_s8_bind, xlate_Check_s9_bind, ih, cond_bind, within_bind, none_bind, some_bind, sum_bind, bind_bind, Sum.elim_inl, Sum.elim_inr]
theorem xlate_Check_lp2 (R : Type) (k : Nat) (t77 : (List (Int × Int × Int × ByteArray × (List (ByteArray × ByteArray × Unit)) × Unit))) (t78 : Int) (t79 : Int) (bt4 : (Int × Int × (List (Int × Int × Int × Int × Int × Unit)) × Unit)) (bt5 : (Int × Int × (List (Int × Int × Int × Int × Int × Unit)) × Unit)) (bt16 : (Int × Int × Unit)) (bt17 : (Int × Int × Unit)) (K : Ex → State → Option R) : loopR (ev xlate_Check_E (Tb40 R) FUEL (sub [1, 1, 1, 1, 1, 1, 1, 0, 1, 0, 0] xlate_Check_c)) [4, 5, 16, 17, 77, 78, 79] [6, 7, 8] k (xlate_Check_h2 t77 t78 t79 bt4 bt5 bt16 bt17) K = (xlate_Check_l2 k t77 t78 t79 bt4 bt5 bt16 bt17).bind fun e => (Sum.elim (fun (we : (Int × Int × Int)) => K .ret (xlate_Check_x2_0 we.1 we.2.1 we.2.2)) (fun (we : Unit) => K (.exit 5) (xlate_Check_x2_1)) e) := by
  induction k generalizing t77 t78 t79 bt4 bt5 bt16 bt17 with
  | zero => rfl
  | succ k ih =>
    rw [xlate_Check_d2]
    simp only [xlate_Check_l2, xlate_Check_s0_bind, xlate_Check_s1_bind, xlate_Check_s2_bind, xlate_Check_s3_bind, xlate_Check_s4_bind, xlate_Check_s5_bind, xlate_Check_s6_bind, xlate_Check_s7_bind, xlate_Check_s8_bind, xlate_Check_s9_bind, ih, cond_bind, within_bind, none_bind, some_bind, sum_bind, bind_bind, Sum.elim_inl, Sum.elim_inr]
theorem xlate_Check_eq (R : Type) (m_0 : ((List (ByteArray × ByteArray × Unit)) × (List (Int × Int × Int × ByteArray × (List (ByteArray × ByteArray × Unit)) × Unit)) × Unit)) (a_1 : (Int × Int × (List (Int × Int × Int × Int × Int × Unit)) × Unit)) (b_2 : (Int × Int × (List (Int × Int × Int × Int × Int × Unit)) × Unit)) (K : List SV → Option Box → Option R) : evFn xlate_Check_E (Tb40 R) FUEL Try.f14 xlate_Check_c [.dat y12 m_0 [], .dat y11 a_1 [], .dat y11 b_2 []] none K = (xlate_Check m_0 a_1 b_2).bind fun r => K [.dat (.int .i64) r.1 [], .dat (.int .i64) r.2.1 [], .dat (.int .i64) r.2.2 []] none := by
  rw [xlate_Check_t]
  simp only [xlate_Check, xlate_Check_s0_bind, xlate_Check_s1_bind, xlate_Check_s2_bind, xlate_Check_s3_bind, xlate_Check_s4_bind, xlate_Check_s5_bind, xlate_Check_s6_bind, xlate_Check_s7_bind, xlate_Check_s8_bind, xlate_Check_s9_bind, xlate_Check_lp0, xlate_Check_lp1, xlate_Check_lp2, xlate_Check_y0_0, xlate_Check_y0_1, xlate_Check_y1_0, xlate_Check_y1_1, xlate_Check_y2_0, xlate_Check_y2_1, cond_bind, within_bind, none_bind, some_bind, sum_bind, bind_bind, Sum.elim_inl, Sum.elim_inr]
def xlate_Check_g : Pure := fun R l b K => noBox b (args3 y12 y11 y11 l (fun x0 x1 x2 => (xlate_Check x0 x1 x2).bind fun r => K [.dat (.int .i64) r.1 [], .dat (.int .i64) r.2.1 [], .dat (.int .i64) r.2.2 []] none))
theorem xlate_Check_n : xlate_Check_g.Nat := fun R S l b F G K h => noBox_nat (args3_nat fun _ _ _ => bindr_nat fun _ => h _ _)
def Tb41 : Funs := Tb40.add 14 [y12, y11, y11] xlate_Check_g
theorem Tb41_nat : Tb41.Nat := add_nat Tb40_nat xlate_Check_n
theorem Tb41_owes : ∀ f, Owes Try.prog Tb41 f := add_owes (E := xlate_Check_E) (Tab.env_ok tab_ok _ _ _ _) mixed Tb40_nat Tb40_owes (fn := Try.f14) (code := xlate_Check_c) Try.func14 (by kernel_rfl) (by kernel_rfl) fun l b r b' h => by
  obtain ⟨rfl, h⟩ := noBox_some h
  obtain ⟨x0, x1, x2, h1, h2⟩ := own3 (E := xlate_Check_E) rfl h
  exact ⟨FUEL, (h2 _ _ _ _ _ _).trans ((xlate_Check_eq _ x0 x1 x2 _).trans h1)⟩
noncomputable abbrev codes_Bijective_c : Code := Try.f18.body.getD .skip
def codes_Bijective_E : Env := tab.env (fun _ => []) (fun _ => []) [] [(.sl 44 (.pair .str (.pair .str .unit)))]
theorem codes_Bijective_t (R : Type) (kk : Nat) (l_0 : (List (ByteArray × ByteArray × Unit))) (K : List SV → Option Box → Option R) : evFn codes_Bijective_E (Tb41 R) kk Try.f18 codes_Bijective_c [.dat (.sl 44 (.pair .str (.pair .str .unit))) l_0 []] none K =
  codes_Bijective_s0 l_0 (fun a0 => K [.dat .bool a0 []] none) := by kernel_rfl
theorem codes_Bijective_eq (R : Type) (l_0 : (List (ByteArray × ByteArray × Unit))) (K : List SV → Option Box → Option R) : evFn codes_Bijective_E (Tb41 R) FUEL Try.f18 codes_Bijective_c [.dat (.sl 44 (.pair .str (.pair .str .unit))) l_0 []] none K = (codes_Bijective l_0).bind fun r => K [.dat .bool r []] none := by
  rw [codes_Bijective_t]
  simp only [codes_Bijective, codes_Bijective_s0_bind, cond_bind, within_bind, none_bind, some_bind, sum_bind, bind_bind, Sum.elim_inl, Sum.elim_inr]
def codes_Bijective_g : Pure := fun R l b K => noBox b (args1 (.sl 44 (.pair .str (.pair .str .unit))) l (fun x0 => (codes_Bijective x0).bind fun r => K [.dat .bool r []] none))
theorem codes_Bijective_n : codes_Bijective_g.Nat := fun R S l b F G K h => noBox_nat (args1_nat fun _ => bindr_nat fun _ => h _ _)
def Tb42 : Funs := Tb41.add 18 [(.sl 44 (.pair .str (.pair .str .unit)))] codes_Bijective_g
theorem Tb42_nat : Tb42.Nat := add_nat Tb41_nat codes_Bijective_n
theorem Tb42_owes : ∀ f, Owes Try.prog Tb42 f := add_owes (E := codes_Bijective_E) (Tab.env_ok tab_ok _ _ _ _) mixed Tb41_nat Tb41_owes (fn := Try.f18) (code := codes_Bijective_c) Try.func18 (by kernel_rfl) (by kernel_rfl) fun l b r b' h => by
  obtain ⟨rfl, h⟩ := noBox_some h
  obtain ⟨x0, h1, h2⟩ := own1 (E := codes_Bijective_E) rfl h
  exact ⟨FUEL, (h2 _ _ _ _ _ _).trans ((codes_Bijective_eq _ x0 _).trans h1)⟩
noncomputable abbrev invert_undone_c : Code := Try.f19.body.getD .skip
def invert_undone_E : Env := tab.env (fun _ => []) (fun _ => []) [] [y7, y11, y11]
theorem invert_undone_t (R : Type) (kk : Nat) (r_0 : (Int × Int × Int × ByteArray × (List (ByteArray × ByteArray × Unit)) × Unit)) (a_1 : (Int × Int × (List (Int × Int × Int × Int × Int × Unit)) × Unit)) (b_2 : (Int × Int × (List (Int × Int × Int × Int × Int × Unit)) × Unit)) (K : List SV → Option Box → Option R) : evFn invert_undone_E (Tb42 R) kk Try.f19 invert_undone_c [.dat y7 r_0 [], .dat y11 a_1 [], .dat y11 b_2 []] none K =
  invert_undone_s0 r_0 a_1 b_2 (fun a0 => K [.dat .bool a0 []] none) := by kernel_rfl
theorem invert_undone_eq (R : Type) (r_0 : (Int × Int × Int × ByteArray × (List (ByteArray × ByteArray × Unit)) × Unit)) (a_1 : (Int × Int × (List (Int × Int × Int × Int × Int × Unit)) × Unit)) (b_2 : (Int × Int × (List (Int × Int × Int × Int × Int × Unit)) × Unit)) (K : List SV → Option Box → Option R) : evFn invert_undone_E (Tb42 R) FUEL Try.f19 invert_undone_c [.dat y7 r_0 [], .dat y11 a_1 [], .dat y11 b_2 []] none K = (invert_undone r_0 a_1 b_2).bind fun r => K [.dat .bool r []] none := by
  rw [invert_undone_t]
  simp only [invert_undone, invert_undone_s0_bind, cond_bind, within_bind, none_bind, some_bind, sum_bind, bind_bind, Sum.elim_inl, Sum.elim_inr]
def invert_undone_g : Pure := fun R l b K => noBox b (args3 y7 y11 y11 l (fun x0 x1 x2 => (invert_undone x0 x1 x2).bind fun r => K [.dat .bool r []] none))
theorem invert_undone_n : invert_undone_g.Nat := fun R S l b F G K h => noBox_nat (args3_nat fun _ _ _ => bindr_nat fun _ => h _ _)
def Tb43 : Funs := Tb42.add 19 [y7, y11, y11] invert_undone_g
theorem Tb43_nat : Tb43.Nat := add_nat Tb42_nat invert_undone_n
theorem Tb43_owes : ∀ f, Owes Try.prog Tb43 f := add_owes (E := invert_undone_E) (Tab.env_ok tab_ok _ _ _ _) mixed Tb42_nat Tb42_owes (fn := Try.f19) (code := invert_undone_c) Try.func19 (by kernel_rfl) (by kernel_rfl) fun l b r b' h => by
  obtain ⟨rfl, h⟩ := noBox_some h
  obtain ⟨x0, x1, x2, h1, h2⟩ := own3 (E := invert_undone_E) rfl h
  exact ⟨FUEL, (h2 _ _ _ _ _ _).trans ((invert_undone_eq _ x0 x1 x2 _).trans h1)⟩
noncomputable abbrev invert_Check_c : Code := Try.f7.body.getD .skip
def invert_Check_E : Env := tab.env (fun i => bif Nat.beq i 5 then [4, 5, 29, 30, 31] else []) (fun i => bif Nat.beq i 5 then [6] else []) [] [y12, y11, y11]
def invert_Check_h0 (t29 : (List (Int × Int × Int × ByteArray × (List (ByteArray × ByteArray × Unit)) × Unit))) (t30 : Int) (t31 : Int) (bt4 : (Int × Int × (List (Int × Int × Int × Int × Int × Unit)) × Unit)) (bt5 : (Int × Int × (List (Int × Int × Int × Int × Int × Unit)) × Unit)) : State := ⟨[[.undef], [.undef], [.undef], [.undef], [.ptr 5 y11 []], [.ptr 6 y11 []], [.undef], [.undef], [.undef], [.undef], [.undef], [.undef], [.undef], [.undef], [.undef], [.undef], [.undef], [.undef], [.undef], [.undef], [.undef], [.undef], [.undef], [.undef], [.undef], [.undef], [.undef], [.undef], [.undef], [.dat (.sl 42 y7) t29 []], [.dat (.int .i64) t30 []], [.dat (.int .i64) t31 []], [.undef], [.undef], [.undef], [.undef], [.undef], [.undef], [.undef], [.undef], [.undef]], [none, none, none, none, none, some ⟨y11, bt4, []⟩, some ⟨y11, bt5, []⟩, none, none, none, none, none, none, none, none, none, none, none, none, none, none, none, none, none, none, none, none, none, none, none, none, none, none, none, none, none, none, none, none, none, none, none]⟩
def invert_Check_x0_0 (t6 : Bool) : State := ⟨[[.undef], [.undef], [.undef], [.undef], [.undef], [.undef], [.dat .bool t6 []], [.undef], [.undef], [.undef], [.undef], [.undef], [.undef], [.undef], [.undef], [.undef], [.undef], [.undef], [.undef], [.undef], [.undef], [.undef], [.undef], [.undef], [.undef], [.undef], [.undef], [.undef], [.undef], [.undef], [.undef], [.undef], [.undef], [.undef], [.undef], [.undef], [.undef], [.undef], [.undef], [.undef], [.undef]], [none, none, none, none, none, none, none, none, none, none, none, none, none, none, none, none, none, none, none, none, none, none, none, none, none, none, none, none, none, none, none, none, none, none, none, none, none, none, none, none, none, none]⟩
def invert_Check_x0_1  : State := ⟨[[.undef], [.undef], [.undef], [.undef], [.undef], [.undef], [.undef], [.undef], [.undef], [.undef], [.undef], [.undef], [.undef], [.undef], [.undef], [.undef], [.undef], [.undef], [.undef], [.undef], [.undef], [.undef], [.undef], [.undef], [.undef], [.undef], [.undef], [.undef], [.undef], [.undef], [.undef], [.undef], [.undef], [.undef], [.undef], [.undef], [.undef], [.undef], [.undef], [.undef], [.undef]], [none, none, none, none, none, none, none, none, none, none, none, none, none, none, none, none, none, none, none, none, none, none, none, none, none, none, none, none, none, none, none, none, none, none, none, none, none, none, none, none, none, none]⟩
theorem invert_Check_t (R : Type) (kk : Nat) (m_0 : ((List (ByteArray × ByteArray × Unit)) × (List (Int × Int × Int × ByteArray × (List (ByteArray × ByteArray × Unit)) × Unit)) × Unit)) (a_1 : (Int × Int × (List (Int × Int × Int × Int × Int × Unit)) × Unit)) (b_2 : (Int × Int × (List (Int × Int × Int × Int × Int × Unit)) × Unit)) (K : List SV → Option Box → Option R) : evFn invert_Check_E (Tb43 R) kk Try.f7 invert_Check_c [.dat y12 m_0 [], .dat y11 a_1 [], .dat y11 b_2 []] none K =
  invert_Check_s0 m_0 a_1 b_2 (fun a0 => K [.dat .bool a0 []] none) (fun a0 a1 a2 a3 a4 => loopR (ev invert_Check_E (Tb43 R) kk (sub [1, 1, 0, 1, 0, 0] invert_Check_c)) [4, 5, 29, 30, 31] [6] kk (invert_Check_h0 a0 a1 a2 a3 a4) (kBlock 0 (kSeq invert_Check_E (Tb43 R) kk (sub [1, 1, 1] invert_Check_c) (kFin invert_Check_E Try.f7.results.toList none K)))) := by kernel_rfl
theorem invert_Check_d0 (R : Type) (kk k : Nat) (t29 : (List (Int × Int × Int × ByteArray × (List (ByteArray × ByteArray × Unit)) × Unit))) (t30 : Int) (t31 : Int) (bt4 : (Int × Int × (List (Int × Int × Int × Int × Int × Unit)) × Unit)) (bt5 : (Int × Int × (List (Int × Int × Int × Int × Int × Unit)) × Unit)) (K : Ex → State → Option R) : loopR (ev invert_Check_E (Tb43 R) kk (sub [1, 1, 0, 1, 0, 0] invert_Check_c)) [4, 5, 29, 30, 31] [6] (k + 1) (invert_Check_h0 t29 t30 t31 bt4 bt5) K =
  invert_Check_s1 t29 t30 t31 bt4 bt5 (fun a0 => K .ret (invert_Check_x0_0 a0)) (fun a0 a1 a2 a3 a4 => loopR (ev invert_Check_E (Tb43 R) kk (sub [1, 1, 0, 1, 0, 0] invert_Check_c)) [4, 5, 29, 30, 31] [6] k (invert_Check_h0 a0 a1 a2 a3 a4) K) (K (.exit 0) (invert_Check_x0_1)) := by kernel_rfl
theorem invert_Check_y0_0 (R : Type) (kk : Nat) (t6 : Bool) (K : List SV → Option Box → Option R) : (kBlock 0 (kSeq invert_Check_E (Tb43 R) kk (sub [1, 1, 1] invert_Check_c) (kFin invert_Check_E Try.f7.results.toList none K))) .ret (invert_Check_x0_0 t6) =
  invert_Check_s2 t6 (fun a0 => K [.dat .bool a0 []] none) := by kernel_rfl
theorem invert_Check_y0_1 (R : Type) (kk : Nat)  (K : List SV → Option Box → Option R) : (kBlock 0 (kSeq invert_Check_E (Tb43 R) kk (sub [1, 1, 1] invert_Check_c) (kFin invert_Check_E Try.f7.results.toList none K))) (.exit 0) (invert_Check_x0_1) =
  invert_Check_s3 (fun a0 => K [.dat .bool a0 []] none) := by kernel_rfl
theorem invert_Check_lp0 (R : Type) (k : Nat) (t29 : (List (Int × Int × Int × ByteArray × (List (ByteArray × ByteArray × Unit)) × Unit))) (t30 : Int) (t31 : Int) (bt4 : (Int × Int × (List (Int × Int × Int × Int × Int × Unit)) × Unit)) (bt5 : (Int × Int × (List (Int × Int × Int × Int × Int × Unit)) × Unit)) (K : Ex → State → Option R) : loopR (ev invert_Check_E (Tb43 R) FUEL (sub [1, 1, 0, 1, 0, 0] invert_Check_c)) [4, 5, 29, 30, 31] [6] k (invert_Check_h0 t29 t30 t31 bt4 bt5) K = (invert_Check_l0 k t29 t30 t31 bt4 bt5).bind fun e => (Sum.elim (fun (we : Bool) => K .ret (invert_Check_x0_0 we)) (fun (we : Unit) => K (.exit 0) (invert_Check_x0_1)) e) := by
  induction k generalizing t29 t30 t31 bt4 bt5 with
  | zero => rfl
  | succ k ih =>
    rw [invert_Check_d0]
    simp only [invert_Check_l0, invert_Check_s0_bind, invert_Check_s1_bind, invert_Check_s2_bind, invert_Check_s3_bind, ih, cond_bind, within_bind, none_bind, some_bind, sum_bind, bind_bind, Sum.elim_inl, Sum.elim_inr]
theorem invert_Check_eq (R : Type) (m_0 : ((List (ByteArray × ByteArray × Unit)) × (List (Int × Int × Int × ByteArray × (List (ByteArray × ByteArray × Unit)) × Unit)) × Unit)) (a_1 : (Int × Int × (List (Int × Int × Int × Int × Int × Unit)) × Unit)) (b_2 : (Int × Int × (List (Int × Int × Int × Int × Int × Unit)) × Unit)) (K : List SV → Option Box → Option R) : evFn invert_Check_E (Tb43 R) FUEL Try.f7 invert_Check_c [.dat y12 m_0 [], .dat y11 a_1 [], .dat y11 b_2 []] none K = (invert_Check m_0 a_1 b_2).bind fun r => K [.dat .bool r []] none := by
  rw [invert_Check_t]
  simp only [invert_Check, invert_Check_s0_bind, invert_Check_s1_bind, invert_Check_s2_bind, invert_Check_s3_bind, invert_Check_lp0, invert_Check_y0_0, invert_Check_y0_1, cond_bind, within_bind, none_bind, some_bind, sum_bind, bind_bind, Sum.elim_inl, Sum.elim_inr]
def invert_Check_g : Pure := fun R l b K => noBox b (args3 y12 y11 y11 l (fun x0 x1 x2 => (invert_Check x0 x1 x2).bind fun r => K [.dat .bool r []] none))
theorem invert_Check_n : invert_Check_g.Nat := fun R S l b F G K h => noBox_nat (args3_nat fun _ _ _ => bindr_nat fun _ => h _ _)
def Tb44 : Funs := Tb43.add 7 [y12, y11, y11] invert_Check_g
theorem Tb44_nat : Tb44.Nat := add_nat Tb43_nat invert_Check_n
theorem Tb44_owes : ∀ f, Owes Try.prog Tb44 f := add_owes (E := invert_Check_E) (Tab.env_ok tab_ok _ _ _ _) mixed Tb43_nat Tb43_owes (fn := Try.f7) (code := invert_Check_c) Try.func7 (by kernel_rfl) (by kernel_rfl) fun l b r b' h => by
  obtain ⟨rfl, h⟩ := noBox_some h
  obtain ⟨x0, x1, x2, h1, h2⟩ := own3 (E := invert_Check_E) rfl h
  exact ⟨FUEL, (h2 _ _ _ _ _ _).trans ((invert_Check_eq _ x0 x1 x2 _).trans h1)⟩
noncomputable abbrev groatlaw22_awake_c : Code := Try.f5.body.getD .skip
def groatlaw22_awake_E : Env := tab.env (fun _ => []) (fun _ => []) [] []
theorem groatlaw22_awake_t (R : Type) (kk : Nat)  (K : List SV → Option Box → Option R) : evFn groatlaw22_awake_E (Tb44 R) kk Try.f5 groatlaw22_awake_c [] none K =
  groatlaw22_awake_s0 (fun a0 => K [.dat .bool a0 []] none) := by kernel_rfl
theorem groatlaw22_awake_eq (R : Type)  (K : List SV → Option Box → Option R) : evFn groatlaw22_awake_E (Tb44 R) FUEL Try.f5 groatlaw22_awake_c [] none K = (groatlaw22_awake).bind fun r => K [.dat .bool r []] none := by
  rw [groatlaw22_awake_t]
  simp only [groatlaw22_awake, groatlaw22_awake_s0_bind, cond_bind, within_bind, none_bind, some_bind, sum_bind, bind_bind, Sum.elim_inl, Sum.elim_inr]
def groatlaw22_awake_g : Pure := fun R l b K => noBox b (args0 l ((groatlaw22_awake).bind fun r => K [.dat .bool r []] none))
theorem groatlaw22_awake_n : groatlaw22_awake_g.Nat := fun R S l b F G K h => noBox_nat (args0_nat (bindr_nat fun _ => h _ _))
def Tb45 : Funs := Tb44.add 5 [] groatlaw22_awake_g
theorem Tb45_nat : Tb45.Nat := add_nat Tb44_nat groatlaw22_awake_n
theorem Tb45_owes : ∀ f, Owes Try.prog Tb45 f := add_owes (E := groatlaw22_awake_E) (Tab.env_ok tab_ok _ _ _ _) mixed Tb44_nat Tb44_owes (fn := Try.f5) (code := groatlaw22_awake_c) Try.func5 (by kernel_rfl) (by kernel_rfl) fun l b r b' h => by
  obtain ⟨rfl, h⟩ := noBox_some h
  obtain ⟨h1, h2⟩ := own0 (E := groatlaw22_awake_E) rfl h
  exact ⟨FUEL, (h2 _ _ _ _ _ _).trans ((groatlaw22_awake_eq _  _).trans h1)⟩
noncomputable abbrev groatref20_Great_c : Code := Try.f37.body.getD .skip
def groatref20_Great_E : Env := tab.env (fun i => bif Nat.beq i 4 then [1, 3] else []) (fun i => bif Nat.beq i 4 then [2] else []) [] [y7]
def groatref20_Great_h0 (t3 : Int) (bt1 : (Int × Int × Int × ByteArray × (List (ByteArray × ByteArray × Unit)) × Unit)) : State := ⟨[[.undef], [.ptr 2 y7 []], [.undef], [.dat (.int .i64) t3 []], [.undef], [.undef], [.undef], [.undef], [.undef], [.undef], [.undef], [.undef], [.undef], [.undef], [.undef], [.undef], [.undef], [.undef], [.undef], [.undef], [.undef], [.undef], [.undef], [.undef], [.undef], [.undef], [.undef], [.undef], [.undef], [.undef], [.undef], [.undef], [.undef], [.undef], [.undef], [.undef], [.undef], [.undef], [.undef]], [none, none, some ⟨y7, bt1, []⟩, none, none, none, none, none, none, none, none, none, none, none, none, none, none, none, none, none, none, none, none, none, none, none, none, none, none, none, none, none, none, none, none, none, none, none, none, none]⟩
def groatref20_Great_x0_0 (t2 : Bool) : State := ⟨[[.undef], [.undef], [.dat .bool t2 []], [.undef], [.undef], [.undef], [.undef], [.undef], [.undef], [.undef], [.undef], [.undef], [.undef], [.undef], [.undef], [.undef], [.undef], [.undef], [.undef], [.undef], [.undef], [.undef], [.undef], [.undef], [.undef], [.undef], [.undef], [.undef], [.undef], [.undef], [.undef], [.undef], [.undef], [.undef], [.undef], [.undef], [.undef], [.undef], [.undef]], [none, none, none, none, none, none, none, none, none, none, none, none, none, none, none, none, none, none, none, none, none, none, none, none, none, none, none, none, none, none, none, none, none, none, none, none, none, none, none, none]⟩
def groatref20_Great_x0_1  : State := ⟨[[.undef], [.undef], [.undef], [.undef], [.undef], [.undef], [.undef], [.undef], [.undef], [.undef], [.undef], [.undef], [.undef], [.undef], [.undef], [.undef], [.undef], [.undef], [.undef], [.undef], [.undef], [.undef], [.undef], [.undef], [.undef], [.undef], [.undef], [.undef], [.undef], [.undef], [.undef], [.undef], [.undef], [.undef], [.undef], [.undef], [.undef], [.undef], [.undef]], [none, none, none, none, none, none, none, none, none, none, none, none, none, none, none, none, none, none, none, none, none, none, none, none, none, none, none, none, none, none, none, none, none, none, none, none, none, none, none, none]⟩
theorem groatref20_Great_t (R : Type) (kk : Nat) (r_0 : (Int × Int × Int × ByteArray × (List (ByteArray × ByteArray × Unit)) × Unit)) (K : List SV → Option Box → Option R) : evFn groatref20_Great_E (Tb45 R) kk Try.f37 groatref20_Great_c [.dat y7 r_0 []] none K =
  groatref20_Great_s0 r_0 (fun a0 => K [.dat .bool a0 []] none) (fun a0 a1 => loopR (ev groatref20_Great_E (Tb45 R) kk (sub [1, 1, 0, 1, 0, 0] groatref20_Great_c)) [1, 3] [2] kk (groatref20_Great_h0 a0 a1) (kBlock 0 (kSeq groatref20_Great_E (Tb45 R) kk (sub [1, 1, 1] groatref20_Great_c) (kFin groatref20_Great_E Try.f37.results.toList none K)))) := by kernel_rfl
theorem groatref20_Great_d0 (R : Type) (kk k : Nat) (t3 : Int) (bt1 : (Int × Int × Int × ByteArray × (List (ByteArray × ByteArray × Unit)) × Unit)) (K : Ex → State → Option R) : loopR (ev groatref20_Great_E (Tb45 R) kk (sub [1, 1, 0, 1, 0, 0] groatref20_Great_c)) [1, 3] [2] (k + 1) (groatref20_Great_h0 t3 bt1) K =
  groatref20_Great_s1 t3 bt1 (fun a0 => K .ret (groatref20_Great_x0_0 a0)) (fun a0 a1 => loopR (ev groatref20_Great_E (Tb45 R) kk (sub [1, 1, 0, 1, 0, 0] groatref20_Great_c)) [1, 3] [2] k (groatref20_Great_h0 a0 a1) K) (K (.exit 0) (groatref20_Great_x0_1)) := by kernel_rfl
theorem groatref20_Great_y0_0 (R : Type) (kk : Nat) (t2 : Bool) (K : List SV → Option Box → Option R) : (kBlock 0 (kSeq groatref20_Great_E (Tb45 R) kk (sub [1, 1, 1] groatref20_Great_c) (kFin groatref20_Great_E Try.f37.results.toList none K))) .ret (groatref20_Great_x0_0 t2) =
  groatref20_Great_s2 t2 (fun a0 => K [.dat .bool a0 []] none) := by kernel_rfl
theorem groatref20_Great_y0_1 (R : Type) (kk : Nat)  (K : List SV → Option Box → Option R) : (kBlock 0 (kSeq groatref20_Great_E (Tb45 R) kk (sub [1, 1, 1] groatref20_Great_c) (kFin groatref20_Great_E Try.f37.results.toList none K))) (.exit 0) (groatref20_Great_x0_1) =
  groatref20_Great_s3 (fun a0 => K [.dat .bool a0 []] none) := by kernel_rfl
theorem groatref20_Great_lp0 (R : Type) (k : Nat) (t3 : Int) (bt1 : (Int × Int × Int × ByteArray × (List (ByteArray × ByteArray × Unit)) × Unit)) (K : Ex → State → Option R) : loopR (ev groatref20_Great_E (Tb45 R) FUEL (sub [1, 1, 0, 1, 0, 0] groatref20_Great_c)) [1, 3] [2] k (groatref20_Great_h0 t3 bt1) K = (groatref20_Great_l0 k t3 bt1).bind fun e => (Sum.elim (fun (we : Bool) => K .ret (groatref20_Great_x0_0 we)) (fun (we : Unit) => K (.exit 0) (groatref20_Great_x0_1)) e) := by
  induction k generalizing t3 bt1 with
  | zero => rfl
  | succ k ih =>
    rw [groatref20_Great_d0]
    simp only [groatref20_Great_l0, groatref20_Great_s0_bind, groatref20_Great_s1_bind, groatref20_Great_s2_bind, groatref20_Great_s3_bind, ih, cond_bind, within_bind, none_bind, some_bind, sum_bind, bind_bind, Sum.elim_inl, Sum.elim_inr]
theorem groatref20_Great_eq (R : Type) (r_0 : (Int × Int × Int × ByteArray × (List (ByteArray × ByteArray × Unit)) × Unit)) (K : List SV → Option Box → Option R) : evFn groatref20_Great_E (Tb45 R) FUEL Try.f37 groatref20_Great_c [.dat y7 r_0 []] none K = (groatref20_Great r_0).bind fun r => K [.dat .bool r []] none := by
  rw [groatref20_Great_t]
  simp only [groatref20_Great, groatref20_Great_s0_bind, groatref20_Great_s1_bind, groatref20_Great_s2_bind, groatref20_Great_s3_bind, groatref20_Great_lp0, groatref20_Great_y0_0, groatref20_Great_y0_1, cond_bind, within_bind, none_bind, some_bind, sum_bind, bind_bind, Sum.elim_inl, Sum.elim_inr]
def groatref20_Great_g : Pure := fun R l b K => noBox b (args1 y7 l (fun x0 => (groatref20_Great x0).bind fun r => K [.dat .bool r []] none))
theorem groatref20_Great_n : groatref20_Great_g.Nat := fun R S l b F G K h => noBox_nat (args1_nat fun _ => bindr_nat fun _ => h _ _)
def Tb46 : Funs := Tb45.add 37 [y7] groatref20_Great_g
theorem Tb46_nat : Tb46.Nat := add_nat Tb45_nat groatref20_Great_n
theorem Tb46_owes : ∀ f, Owes Try.prog Tb46 f := add_owes (E := groatref20_Great_E) (Tab.env_ok tab_ok _ _ _ _) mixed Tb45_nat Tb45_owes (fn := Try.f37) (code := groatref20_Great_c) Try.func37 (by kernel_rfl) (by kernel_rfl) fun l b r b' h => by
  obtain ⟨rfl, h⟩ := noBox_some h
  obtain ⟨x0, h1, h2⟩ := own1 (E := groatref20_Great_E) rfl h
  exact ⟨FUEL, (h2 _ _ _ _ _ _).trans ((groatref20_Great_eq _ x0 _).trans h1)⟩
noncomputable abbrev groatref21_Great_c : Code := Try.f17.body.getD .skip
def groatref21_Great_E : Env := tab.env (fun i => bif Nat.beq i 4 then [1, 3] else bif Nat.beq i 9 then [1, 4] else []) (fun i => bif Nat.beq i 4 then [1, 2] else bif Nat.beq i 9 then [2] else []) [] [y12]
def groatref21_Great_h0 (t3 : Int) (bt1 : ((List (ByteArray × ByteArray × Unit)) × (List (Int × Int × Int × ByteArray × (List (ByteArray × ByteArray × Unit)) × Unit)) × Unit)) : State := ⟨[[.undef], [.ptr 2 y12 []], [.undef], [.dat (.int .i64) t3 []], [.undef], [.undef], [.undef], [.undef], [.undef], [.undef], [.undef], [.undef], [.undef], [.undef], [.undef], [.undef], [.undef], [.undef], [.undef], [.undef], [.undef], [.undef], [.undef], [.undef], [.undef], [.undef], [.undef], [.undef], [.undef], [.undef], [.undef], [.undef], [.undef], [.undef], [.undef], [.undef], [.undef], [.undef], [.undef], [.undef], [.undef], [.undef], [.undef], [.undef], [.undef], [.undef], [.undef], [.undef], [.undef], [.undef], [.undef], [.undef], [.undef]], [none, none, some ⟨y12, bt1, []⟩, none, none, none, none, none, none, none, none, none, none, none, none, none, none, none, none, none, none, none, none, none, none, none, none, none, none, none, none, none, none, none, none, none, none, none, none, none, none, none, none, none, none, none, none, none, none, none, none, none, none, none]⟩
def groatref21_Great_x0_0 (t2 : Bool) (bt1 : ((List (ByteArray × ByteArray × Unit)) × (List (Int × Int × Int × ByteArray × (List (ByteArray × ByteArray × Unit)) × Unit)) × Unit)) : State := ⟨[[.undef], [.ptr 2 y12 []], [.dat .bool t2 []], [.undef], [.undef], [.undef], [.undef], [.undef], [.undef], [.undef], [.undef], [.undef], [.undef], [.undef], [.undef], [.undef], [.undef], [.undef], [.undef], [.undef], [.undef], [.undef], [.undef], [.undef], [.undef], [.undef], [.undef], [.undef], [.undef], [.undef], [.undef], [.undef], [.undef], [.undef], [.undef], [.undef], [.undef], [.undef], [.undef], [.undef], [.undef], [.undef], [.undef], [.undef], [.undef], [.undef], [.undef], [.undef], [.undef], [.undef], [.undef], [.undef], [.undef]], [none, none, some ⟨y12, bt1, []⟩, none, none, none, none, none, none, none, none, none, none, none, none, none, none, none, none, none, none, none, none, none, none, none, none, none, none, none, none, none, none, none, none, none, none, none, none, none, none, none, none, none, none, none, none, none, none, none, none, none, none, none]⟩
def groatref21_Great_x0_1 (bt1 : ((List (ByteArray × ByteArray × Unit)) × (List (Int × Int × Int × ByteArray × (List (ByteArray × ByteArray × Unit)) × Unit)) × Unit)) : State := ⟨[[.undef], [.ptr 2 y12 []], [.undef], [.undef], [.undef], [.undef], [.undef], [.undef], [.undef], [.undef], [.undef], [.undef], [.undef], [.undef], [.undef], [.undef], [.undef], [.undef], [.undef], [.undef], [.undef], [.undef], [.undef], [.undef], [.undef], [.undef], [.undef], [.undef], [.undef], [.undef], [.undef], [.undef], [.undef], [.undef], [.undef], [.undef], [.undef], [.undef], [.undef], [.undef], [.undef], [.undef], [.undef], [.undef], [.undef], [.undef], [.undef], [.undef], [.undef], [.undef], [.undef], [.undef], [.undef]], [none, none, some ⟨y12, bt1, []⟩, none, none, none, none, none, none, none, none, none, none, none, none, none, none, none, none, none, none, none, none, none, none, none, none, none, none, none, none, none, none, none, none, none, none, none, none, none, none, none, none, none, none, none, none, none, none, none, none, none, none, none]⟩
def groatref21_Great_h1 (t4 : Int) (bt1 : ((List (ByteArray × ByteArray × Unit)) × (List (Int × Int × Int × ByteArray × (List (ByteArray × ByteArray × Unit)) × Unit)) × Unit)) : State := ⟨[[.undef], [.ptr 2 y12 []], [.undef], [.undef], [.dat (.int .i64) t4 []], [.undef], [.undef], [.undef], [.undef], [.undef], [.undef], [.undef], [.undef], [.undef], [.undef], [.undef], [.undef], [.undef], [.undef], [.undef], [.undef], [.undef], [.undef], [.undef], [.undef], [.undef], [.undef], [.undef], [.undef], [.undef], [.undef], [.undef], [.undef], [.undef], [.undef], [.undef], [.undef], [.undef], [.undef], [.undef], [.undef], [.undef], [.undef], [.undef], [.undef], [.undef], [.undef], [.undef], [.undef], [.undef], [.undef], [.undef], [.undef]], [none, none, some ⟨y12, bt1, []⟩, none, none, none, none, none, none, none, none, none, none, none, none, none, none, none, none, none, none, none, none, none, none, none, none, none, none, none, none, none, none, none, none, none, none, none, none, none, none, none, none, none, none, none, none, none, none, none, none, none, none, none]⟩
def groatref21_Great_x1_0 (t2 : Bool) : State := ⟨[[.undef], [.undef], [.dat .bool t2 []], [.undef], [.undef], [.undef], [.undef], [.undef], [.undef], [.undef], [.undef], [.undef], [.undef], [.undef], [.undef], [.undef], [.undef], [.undef], [.undef], [.undef], [.undef], [.undef], [.undef], [.undef], [.undef], [.undef], [.undef], [.undef], [.undef], [.undef], [.undef], [.undef], [.undef], [.undef], [.undef], [.undef], [.undef], [.undef], [.undef], [.undef], [.undef], [.undef], [.undef], [.undef], [.undef], [.undef], [.undef], [.undef], [.undef], [.undef], [.undef], [.undef], [.undef]], [none, none, none, none, none, none, none, none, none, none, none, none, none, none, none, none, none, none, none, none, none, none, none, none, none, none, none, none, none, none, none, none, none, none, none, none, none, none, none, none, none, none, none, none, none, none, none, none, none, none, none, none, none, none]⟩
def groatref21_Great_x1_1  : State := ⟨[[.undef], [.undef], [.undef], [.undef], [.undef], [.undef], [.undef], [.undef], [.undef], [.undef], [.undef], [.undef], [.undef], [.undef], [.undef], [.undef], [.undef], [.undef], [.undef], [.undef], [.undef], [.undef], [.undef], [.undef], [.undef], [.undef], [.undef], [.undef], [.undef], [.undef], [.undef], [.undef], [.undef], [.undef], [.undef], [.undef], [.undef], [.undef], [.undef], [.undef], [.undef], [.undef], [.undef], [.undef], [.undef], [.undef], [.undef], [.undef], [.undef], [.undef], [.undef], [.undef], [.undef]], [none, none, none, none, none, none, none, none, none, none, none, none, none, none, none, none, none, none, none, none, none, none, none, none, none, none, none, none, none, none, none, none, none, none, none, none, none, none, none, none, none, none, none, none, none, none, none, none, none, none, none, none, none, none]⟩
theorem groatref21_Great_t (R : Type) (kk : Nat) (m_0 : ((List (ByteArray × ByteArray × Unit)) × (List (Int × Int × Int × ByteArray × (List (ByteArray × ByteArray × Unit)) × Unit)) × Unit)) (K : List SV → Option Box → Option R) : evFn groatref21_Great_E (Tb46 R) kk Try.f17 groatref21_Great_c [.dat y12 m_0 []] none K =
  groatref21_Great_s0 m_0 (fun a0 => K [.dat .bool a0 []] none) (fun a0 a1 => loopR (ev groatref21_Great_E (Tb46 R) kk (sub [1, 1, 0, 1, 0, 0] groatref21_Great_c)) [1, 3] [1, 2] kk (groatref21_Great_h0 a0 a1) (kBlock 0 (kSeq groatref21_Great_E (Tb46 R) kk (sub [1, 1, 1] groatref21_Great_c) (kFin groatref21_Great_E Try.f17.results.toList none K)))) := by kernel_rfl
theorem groatref21_Great_d0 (R : Type) (kk k : Nat) (t3 : Int) (bt1 : ((List (ByteArray × ByteArray × Unit)) × (List (Int × Int × Int × ByteArray × (List (ByteArray × ByteArray × Unit)) × Unit)) × Unit)) (K : Ex → State → Option R) : loopR (ev groatref21_Great_E (Tb46 R) kk (sub [1, 1, 0, 1, 0, 0] groatref21_Great_c)) [1, 3] [1, 2] (k + 1) (groatref21_Great_h0 t3 bt1) K =
  groatref21_Great_s1 t3 bt1 (fun a0 a1 => K .ret (groatref21_Great_x0_0 a0 a1)) (fun a0 a1 => loopR (ev groatref21_Great_E (Tb46 R) kk (sub [1, 1, 0, 1, 0, 0] groatref21_Great_c)) [1, 3] [1, 2] k (groatref21_Great_h0 a0 a1) K) (fun a0 => K (.exit 0) (groatref21_Great_x0_1 a0)) := by kernel_rfl
theorem groatref21_Great_y0_0 (R : Type) (kk : Nat) (t2 : Bool) (bt1 : ((List (ByteArray × ByteArray × Unit)) × (List (Int × Int × Int × ByteArray × (List (ByteArray × ByteArray × Unit)) × Unit)) × Unit)) (K : List SV → Option Box → Option R) : (kBlock 0 (kSeq groatref21_Great_E (Tb46 R) kk (sub [1, 1, 1] groatref21_Great_c) (kFin groatref21_Great_E Try.f17.results.toList none K))) .ret (groatref21_Great_x0_0 t2 bt1) =
  groatref21_Great_s2 t2 bt1 (fun a0 => K [.dat .bool a0 []] none) := by kernel_rfl
theorem groatref21_Great_y0_1 (R : Type) (kk : Nat) (bt1 : ((List (ByteArray × ByteArray × Unit)) × (List (Int × Int × Int × ByteArray × (List (ByteArray × ByteArray × Unit)) × Unit)) × Unit)) (K : List SV → Option Box → Option R) : (kBlock 0 (kSeq groatref21_Great_E (Tb46 R) kk (sub [1, 1, 1] groatref21_Great_c) (kFin groatref21_Great_E Try.f17.results.toList none K))) (.exit 0) (groatref21_Great_x0_1 bt1) =
  groatref21_Great_s3 bt1 (fun a0 a1 => loopR (ev groatref21_Great_E (Tb46 R) kk (sub [1, 1, 1, 0, 1, 0, 0] groatref21_Great_c)) [1, 4] [2] kk (groatref21_Great_h1 a0 a1) (kBlock 2 (kSeq groatref21_Great_E (Tb46 R) kk (sub [1, 1, 1, 1] groatref21_Great_c) (kFin groatref21_Great_E Try.f17.results.toList none K)))) := by kernel_rfl
theorem groatref21_Great_d1 (R : Type) (kk k : Nat) (t4 : Int) (bt1 : ((List (ByteArray × ByteArray × Unit)) × (List (Int × Int × Int × ByteArray × (List (ByteArray × ByteArray × Unit)) × Unit)) × Unit)) (K : Ex → State → Option R) : loopR (ev groatref21_Great_E (Tb46 R) kk (sub [1, 1, 1, 0, 1, 0, 0] groatref21_Great_c)) [1, 4] [2] (k + 1) (groatref21_Great_h1 t4 bt1) K =
  groatref21_Great_s4 t4 bt1 (fun a0 => K .ret (groatref21_Great_x1_0 a0)) (fun a0 a1 => loopR (ev groatref21_Great_E (Tb46 R) kk (sub [1, 1, 1, 0, 1, 0, 0] groatref21_Great_c)) [1, 4] [2] k (groatref21_Great_h1 a0 a1) K) (K (.exit 2) (groatref21_Great_x1_1)) := by kernel_rfl
theorem groatref21_Great_y1_0 (R : Type) (kk : Nat) (t2 : Bool) (K : List SV → Option Box → Option R) : (kBlock 2 (kSeq groatref21_Great_E (Tb46 R) kk (sub [1, 1, 1, 1] groatref21_Great_c) (kFin groatref21_Great_E Try.f17.results.toList none K))) .ret (groatref21_Great_x1_0 t2) =
  groatref21_Great_s5 t2 (fun a0 => K [.dat .bool a0 []] none) := by kernel_rfl
theorem groatref21_Great_y1_1 (R : Type) (kk : Nat)  (K : List SV → Option Box → Option R) : (kBlock 2 (kSeq groatref21_Great_E (Tb46 R) kk (sub [1, 1, 1, 1] groatref21_Great_c) (kFin groatref21_Great_E Try.f17.results.toList none K))) (.exit 2) (groatref21_Great_x1_1) =
  groatref21_Great_s6 (fun a0 => K [.dat .bool a0 []] none) := by kernel_rfl
theorem groatref21_Great_lp0 (R : Type) (k : Nat) (t3 : Int) (bt1 : ((List (ByteArray × ByteArray × Unit)) × (List (Int × Int × Int × ByteArray × (List (ByteArray × ByteArray × Unit)) × Unit)) × Unit)) (K : Ex → State → Option R) : loopR (ev groatref21_Great_E (Tb46 R) FUEL (sub [1, 1, 0, 1, 0, 0] groatref21_Great_c)) [1, 3] [1, 2] k (groatref21_Great_h0 t3 bt1) K = (groatref21_Great_l0 k t3 bt1).bind fun e => (Sum.elim (fun (we : (Bool × ((List (ByteArray × ByteArray × Unit)) × (List (Int × Int × Int × ByteArray × (List (ByteArray × ByteArray × Unit)) × Unit)) × Unit))) => K .ret (groatref21_Great_x0_0 we.1 we.2)) (fun (we : ((List (ByteArray × ByteArray × Unit)) × (List (Int × Int × Int × ByteArray × (List (ByteArray × ByteArray × Unit)) × Unit)) × Unit)) => K (.exit 0) (groatref21_Great_x0_1 we)) e) := by
  induction k generalizing t3 bt1 with
  | zero => rfl
  | succ k ih =>
    rw [groatref21_Great_d0]
    simp only [groatref21_Great_l0, groatref21_Great_s0_bind, groatref21_Great_s1_bind, groatref21_Great_s2_bind, groatref21_Great_s3_bind, groatref21_Great_s4_bind, groatref21_Great_s5_bind, groatref21_Great_s6_bind, ih, cond_bind, within_bind, none_bind, some_bind, sum_bind, bind_bind, Sum.elim_inl, Sum.elim_inr]
theorem groatref21_Great_lp1 (R : Type) (k : Nat) (t4 : Int) (bt1 : ((List (ByteArray × ByteArray × Unit)) × (List (Int × Int × Int × ByteArray × (List (ByteArray × ByteArray × Unit)) × Unit)) × Unit)) (K : Ex → State → Option R) : loopR (ev groatref21_Great_E (Tb46 R) FUEL (sub [1, 1, 1, 0, 1, 0, 0] groatref21_Great_c)) [1, 4] [2] k (groatref21_Great_h1 t4 bt1) K = (groatref21_Great_l1 k t4 bt1).bind fun e => (Sum.elim (fun (we : Bool) => K .ret (groatref21_Great_x1_0 we)) (fun (we : Unit) => K (.exit 2) (groatref21_Great_x1_1)) e) := by
  induction k generalizing t4 bt1 with
  | zero => rfl
  | succ k ih =>
    rw [groatref21_Great_d1]
    simp only [groatref21_Great_l1, groatref21_Great_s0_bind, groatref21_Great_s1_bind, groatref21_Great_s2_bind, groatref21_Great_s3_bind, groatref21_Great_s4_bind, groatref21_Great_s5_bind, groatref21_Great_s6_bind, ih, cond_bind, within_bind, none_bind, some_bind, sum_bind, bind_bind, Sum.elim_inl, Sum.elim_inr]
theorem groatref21_Great_eq (R : Type) (m_0 : ((List (ByteArray × ByteArray × Unit)) × (List (Int × Int × Int × ByteArray × (List (ByteArray × ByteArray × Unit)) × Unit)) × Unit)) (K : List SV → Option Box → Option R) : evFn groatref21_Great_E (Tb46 R) FUEL Try.f17 groatref21_Great_c [.dat y12 m_0 []] none K = (groatref21_Great m_0).bind fun r => K [.dat .bool r []] none := by
  rw [groatref21_Great_t]
  simp only [groatref21_Great, groatref21_Great_s0_bind, groatref21_Great_s1_bind, groatref21_Great_s2_bind, groatref21_Great_s3_bind, groatref21_Great_s4_bind, groatref21_Great_s5_bind, groatref21_Great_s6_bind, groatref21_Great_lp0, groatref21_Great_lp1, groatref21_Great_y0_0, groatref21_Great_y0_1, groatref21_Great_y1_0, groatref21_Great_y1_1, cond_bind, within_bind, none_bind, some_bind, sum_bind, bind_bind, Sum.elim_inl, Sum.elim_inr]
def groatref21_Great_g : Pure := fun R l b K => noBox b (args1 y12 l (fun x0 => (groatref21_Great x0).bind fun r => K [.dat .bool r []] none))
theorem groatref21_Great_n : groatref21_Great_g.Nat := fun R S l b F G K h => noBox_nat (args1_nat fun _ => bindr_nat fun _ => h _ _)
def Tb47 : Funs := Tb46.add 17 [y12] groatref21_Great_g
theorem Tb47_nat : Tb47.Nat := add_nat Tb46_nat groatref21_Great_n
theorem Tb47_owes : ∀ f, Owes Try.prog Tb47 f := add_owes (E := groatref21_Great_E) (Tab.env_ok tab_ok _ _ _ _) mixed Tb46_nat Tb46_owes (fn := Try.f17) (code := groatref21_Great_c) Try.func17 (by kernel_rfl) (by kernel_rfl) fun l b r b' h => by
  obtain ⟨rfl, h⟩ := noBox_some h
  obtain ⟨x0, h1, h2⟩ := own1 (E := groatref21_Great_E) rfl h
  exact ⟨FUEL, (h2 _ _ _ _ _ _).trans ((groatref21_Great_eq _ x0 _).trans h1)⟩
noncomputable abbrev groatlaw22_great_c : Code := Try.f6.body.getD .skip
def groatlaw22_great_E : Env := tab.env (fun _ => []) (fun _ => []) [] [y12, (.arr 2 y11)]
theorem groatlaw22_great_t (R : Type) (kk : Nat) (m_0 : ((List (ByteArray × ByteArray × Unit)) × (List (Int × Int × Int × ByteArray × (List (ByteArray × ByteArray × Unit)) × Unit)) × Unit)) (s_1 : (List (Int × Int × (List (Int × Int × Int × Int × Int × Unit)) × Unit))) (K : List SV → Option Box → Option R) : evFn groatlaw22_great_E (Tb47 R) kk Try.f6 groatlaw22_great_c [.dat y12 m_0 [], .dat (.arr 2 y11) s_1 []] none K =
  groatlaw22_great_s0 m_0 s_1 (fun a0 => K [.dat .bool a0 []] none) := by kernel_rfl
theorem groatlaw22_great_eq (R : Type) (m_0 : ((List (ByteArray × ByteArray × Unit)) × (List (Int × Int × Int × ByteArray × (List (ByteArray × ByteArray × Unit)) × Unit)) × Unit)) (s_1 : (List (Int × Int × (List (Int × Int × Int × Int × Int × Unit)) × Unit))) (K : List SV → Option Box → Option R) : evFn groatlaw22_great_E (Tb47 R) FUEL Try.f6 groatlaw22_great_c [.dat y12 m_0 [], .dat (.arr 2 y11) s_1 []] none K = (groatlaw22_great m_0 s_1).bind fun r => K [.dat .bool r []] none := by
  rw [groatlaw22_great_t]
  simp only [groatlaw22_great, groatlaw22_great_s0_bind, cond_bind, within_bind, none_bind, some_bind, sum_bind, bind_bind, Sum.elim_inl, Sum.elim_inr]
def groatlaw22_great_g : Pure := fun R l b K => noBox b (args2 y12 (.arr 2 y11) l (fun x0 x1 => (groatlaw22_great x0 x1).bind fun r => K [.dat .bool r []] none))
theorem groatlaw22_great_n : groatlaw22_great_g.Nat := fun R S l b F G K h => noBox_nat (args2_nat fun _ _ => bindr_nat fun _ => h _ _)
def Tb48 : Funs := Tb47.add 6 [y12, (.arr 2 y11)] groatlaw22_great_g
theorem Tb48_nat : Tb48.Nat := add_nat Tb47_nat groatlaw22_great_n
theorem Tb48_owes : ∀ f, Owes Try.prog Tb48 f := add_owes (E := groatlaw22_great_E) (Tab.env_ok tab_ok _ _ _ _) mixed Tb47_nat Tb47_owes (fn := Try.f6) (code := groatlaw22_great_c) Try.func6 (by kernel_rfl) (by kernel_rfl) fun l b r b' h => by
  obtain ⟨rfl, h⟩ := noBox_some h
  obtain ⟨x0, x1, h1, h2⟩ := own2 (E := groatlaw22_great_E) rfl h
  exact ⟨FUEL, (h2 _ _ _ _ _ _).trans ((groatlaw22_great_eq _ x0 x1 _).trans h1)⟩
noncomputable abbrev groatref19_Copy_c : Code := Try.f20.body.getD .skip
def groatref19_Copy_E : Env := tab.env (fun _ => []) (fun _ => []) [] [(.sl 44 (.pair .str (.pair .str .unit)))]
theorem groatref19_Copy_t (R : Type) (kk : Nat) (l_0 : (List (ByteArray × ByteArray × Unit))) (K : List SV → Option Box → Option R) : evFn groatref19_Copy_E (Tb48 R) kk Try.f20 groatref19_Copy_c [.dat (.sl 44 (.pair .str (.pair .str .unit))) l_0 []] none K =
  groatref19_Copy_s0 l_0 (fun a0 => K [.dat (.sl 44 (.pair .str (.pair .str .unit))) a0 [[]]] none) := by kernel_rfl
theorem groatref19_Copy_eq (R : Type) (l_0 : (List (ByteArray × ByteArray × Unit))) (K : List SV → Option Box → Option R) : evFn groatref19_Copy_E (Tb48 R) FUEL Try.f20 groatref19_Copy_c [.dat (.sl 44 (.pair .str (.pair .str .unit))) l_0 []] none K = (groatref19_Copy l_0).bind fun r => K [.dat (.sl 44 (.pair .str (.pair .str .unit))) r [[]]] none := by
  rw [groatref19_Copy_t]
  simp only [groatref19_Copy, groatref19_Copy_s0_bind, cond_bind, within_bind, none_bind, some_bind, sum_bind, bind_bind, Sum.elim_inl, Sum.elim_inr]
def groatref19_Copy_g : Pure := fun R l b K => noBox b (args1 (.sl 44 (.pair .str (.pair .str .unit))) l (fun x0 => (groatref19_Copy x0).bind fun r => K [.dat (.sl 44 (.pair .str (.pair .str .unit))) r [[]]] none))
theorem groatref19_Copy_n : groatref19_Copy_g.Nat := fun R S l b F G K h => noBox_nat (args1_nat fun _ => bindr_nat fun _ => h _ _)
def Tb49 : Funs := Tb48.add 20 [(.sl 44 (.pair .str (.pair .str .unit)))] groatref19_Copy_g
theorem Tb49_nat : Tb49.Nat := add_nat Tb48_nat groatref19_Copy_n
theorem Tb49_owes : ∀ f, Owes Try.prog Tb49 f := add_owes (E := groatref19_Copy_E) (Tab.env_ok tab_ok _ _ _ _) mixed Tb48_nat Tb48_owes (fn := Try.f20) (code := groatref19_Copy_c) Try.func20 (by kernel_rfl) (by kernel_rfl) fun l b r b' h => by
  obtain ⟨rfl, h⟩ := noBox_some h
  obtain ⟨x0, h1, h2⟩ := own1 (E := groatref19_Copy_E) rfl h
  exact ⟨FUEL, (h2 _ _ _ _ _ _).trans ((groatref19_Copy_eq _ x0 _).trans h1)⟩
noncomputable abbrev groatref20_Copy_c : Code := Try.f21.body.getD .skip
def groatref20_Copy_E : Env := tab.env (fun _ => []) (fun _ => []) [2] [y7]
theorem groatref20_Copy_t (R : Type) (kk : Nat) (r_0 : (Int × Int × Int × ByteArray × (List (ByteArray × ByteArray × Unit)) × Unit)) (K : List SV → Option Box → Option R) : evFn groatref20_Copy_E (Tb49 R) kk Try.f21 groatref20_Copy_c [.dat y7 r_0 []] none K =
  groatref20_Copy_s0 r_0 (fun a0 => K [.dat y7 a0 [[4]]] none) := by kernel_rfl
theorem groatref20_Copy_eq (R : Type) (r_0 : (Int × Int × Int × ByteArray × (List (ByteArray × ByteArray × Unit)) × Unit)) (K : List SV → Option Box → Option R) : evFn groatref20_Copy_E (Tb49 R) FUEL Try.f21 groatref20_Copy_c [.dat y7 r_0 []] none K = (groatref20_Copy r_0).bind fun r => K [.dat y7 r [[4]]] none := by
  rw [groatref20_Copy_t]
  simp only [groatref20_Copy, groatref20_Copy_s0_bind, cond_bind, within_bind, none_bind, some_bind, sum_bind, bind_bind, Sum.elim_inl, Sum.elim_inr]
def groatref20_Copy_g : Pure := fun R l b K => noBox b (args1 y7 l (fun x0 => (groatref20_Copy x0).bind fun r => K [.dat y7 r [[4]]] none))
theorem groatref20_Copy_n : groatref20_Copy_g.Nat := fun R S l b F G K h => noBox_nat (args1_nat fun _ => bindr_nat fun _ => h _ _)
def Tb50 : Funs := Tb49.add 21 [y7] groatref20_Copy_g
theorem Tb50_nat : Tb50.Nat := add_nat Tb49_nat groatref20_Copy_n
theorem Tb50_owes : ∀ f, Owes Try.prog Tb50 f := add_owes (E := groatref20_Copy_E) (Tab.env_ok tab_ok _ _ _ _) mixed Tb49_nat Tb49_owes (fn := Try.f21) (code := groatref20_Copy_c) Try.func21 (by kernel_rfl) (by kernel_rfl) fun l b r b' h => by
  obtain ⟨rfl, h⟩ := noBox_some h
  obtain ⟨x0, h1, h2⟩ := own1 (E := groatref20_Copy_E) rfl h
  exact ⟨FUEL, (h2 _ _ _ _ _ _).trans ((groatref20_Copy_eq _ x0 _).trans h1)⟩
noncomputable abbrev groatref21_Copy_c : Code := Try.f8.body.getD .skip
def groatref21_Copy_E : Env := tab.env (fun i => bif Nat.beq i 3 then [1, 2, 3, 4] else []) (fun i => bif Nat.beq i 3 then [2, 3] else []) [2] [y12]
def groatref21_Copy_h0 (t4 : Int) (bt1 : ((List (ByteArray × ByteArray × Unit)) × (List (Int × Int × Int × ByteArray × (List (ByteArray × ByteArray × Unit)) × Unit)) × Unit)) (bt2 : ((List (ByteArray × ByteArray × Unit)) × (List (Int × Int × Int × ByteArray × (List (ByteArray × ByteArray × Unit)) × Unit)) × Unit)) (bt3 : ((List (ByteArray × ByteArray × Unit)) × (List (Int × Int × Int × ByteArray × (List (ByteArray × ByteArray × Unit)) × Unit)) × Unit)) : State := ⟨[[.undef], [.ptr 2 y12 []], [.ptr 3 y12 []], [.ptr 4 y12 []], [.dat (.int .i64) t4 []], [.undef], [.undef], [.undef], [.undef], [.undef], [.undef], [.undef], [.undef], [.undef], [.undef], [.undef], [.undef], [.undef], [.undef], [.undef], [.undef], [.undef], [.undef], [.undef], [.undef], [.undef], [.undef], [.undef]], [none, none, some ⟨y12, bt1, []⟩, some ⟨y12, bt2, [[0], [1]]⟩, some ⟨y12, bt3, [[0], [1]]⟩, none, none, none, none, none, none, none, none, none, none, none, none, none, none, none, none, none, none, none, none, none, none, none, none]⟩
def groatref21_Copy_x0_0 (bt2 : ((List (ByteArray × ByteArray × Unit)) × (List (Int × Int × Int × ByteArray × (List (ByteArray × ByteArray × Unit)) × Unit)) × Unit)) (bt3 : ((List (ByteArray × ByteArray × Unit)) × (List (Int × Int × Int × ByteArray × (List (ByteArray × ByteArray × Unit)) × Unit)) × Unit)) : State := ⟨[[.undef], [.undef], [.ptr 3 y12 []], [.ptr 4 y12 []], [.undef], [.undef], [.undef], [.undef], [.undef], [.undef], [.undef], [.undef], [.undef], [.undef], [.undef], [.undef], [.undef], [.undef], [.undef], [.undef], [.undef], [.undef], [.undef], [.undef], [.undef], [.undef], [.undef], [.undef]], [none, none, none, some ⟨y12, bt2, [[0], [1]]⟩, some ⟨y12, bt3, [[0], [1]]⟩, none, none, none, none, none, none, none, none, none, none, none, none, none, none, none, none, none, none, none, none, none, none, none, none]⟩
theorem groatref21_Copy_t (R : Type) (kk : Nat) (m_0 : ((List (ByteArray × ByteArray × Unit)) × (List (Int × Int × Int × ByteArray × (List (ByteArray × ByteArray × Unit)) × Unit)) × Unit)) (K : List SV → Option Box → Option R) : evFn groatref21_Copy_E (Tb50 R) kk Try.f8 groatref21_Copy_c [.dat y12 m_0 []] none K =
  groatref21_Copy_s0 m_0 (fun a0 a1 a2 a3 => loopR (ev groatref21_Copy_E (Tb50 R) kk (sub [1, 1, 0, 1, 0, 0] groatref21_Copy_c)) [1, 2, 3, 4] [2, 3] kk (groatref21_Copy_h0 a0 a1 a2 a3) (kBlock 0 (kSeq groatref21_Copy_E (Tb50 R) kk (sub [1, 1, 1] groatref21_Copy_c) (kFin groatref21_Copy_E Try.f8.results.toList none K)))) := by kernel_rfl
theorem groatref21_Copy_d0 (R : Type) (kk k : Nat) (t4 : Int) (bt1 : ((List (ByteArray × ByteArray × Unit)) × (List (Int × Int × Int × ByteArray × (List (ByteArray × ByteArray × Unit)) × Unit)) × Unit)) (bt2 : ((List (ByteArray × ByteArray × Unit)) × (List (Int × Int × Int × ByteArray × (List (ByteArray × ByteArray × Unit)) × Unit)) × Unit)) (bt3 : ((List (ByteArray × ByteArray × Unit)) × (List (Int × Int × Int × ByteArray × (List (ByteArray × ByteArray × Unit)) × Unit)) × Unit)) (K : Ex → State → Option R) : loopR (ev groatref21_Copy_E (Tb50 R) kk (sub [1, 1, 0, 1, 0, 0] groatref21_Copy_c)) [1, 2, 3, 4] [2, 3] (k + 1) (groatref21_Copy_h0 t4 bt1 bt2 bt3) K =
  groatref21_Copy_s1 t4 bt1 bt2 bt3 (fun a0 a1 a2 a3 => loopR (ev groatref21_Copy_E (Tb50 R) kk (sub [1, 1, 0, 1, 0, 0] groatref21_Copy_c)) [1, 2, 3, 4] [2, 3] k (groatref21_Copy_h0 a0 a1 a2 a3) K) (fun a0 a1 => K (.exit 0) (groatref21_Copy_x0_0 a0 a1)) := by kernel_rfl
theorem groatref21_Copy_y0_0 (R : Type) (kk : Nat) (bt2 : ((List (ByteArray × ByteArray × Unit)) × (List (Int × Int × Int × ByteArray × (List (ByteArray × ByteArray × Unit)) × Unit)) × Unit)) (bt3 : ((List (ByteArray × ByteArray × Unit)) × (List (Int × Int × Int × ByteArray × (List (ByteArray × ByteArray × Unit)) × Unit)) × Unit)) (K : List SV → Option Box → Option R) : (kBlock 0 (kSeq groatref21_Copy_E (Tb50 R) kk (sub [1, 1, 1] groatref21_Copy_c) (kFin groatref21_Copy_E Try.f8.results.toList none K))) (.exit 0) (groatref21_Copy_x0_0 bt2 bt3) =
  groatref21_Copy_s2 bt2 bt3 (fun a0 => K [.dat y12 a0 [[0], [1]]] none) := by kernel_rfl
theorem groatref21_Copy_lp0 (R : Type) (k : Nat) (t4 : Int) (bt1 : ((List (ByteArray × ByteArray × Unit)) × (List (Int × Int × Int × ByteArray × (List (ByteArray × ByteArray × Unit)) × Unit)) × Unit)) (bt2 : ((List (ByteArray × ByteArray × Unit)) × (List (Int × Int × Int × ByteArray × (List (ByteArray × ByteArray × Unit)) × Unit)) × Unit)) (bt3 : ((List (ByteArray × ByteArray × Unit)) × (List (Int × Int × Int × ByteArray × (List (ByteArray × ByteArray × Unit)) × Unit)) × Unit)) (K : Ex → State → Option R) : loopR (ev groatref21_Copy_E (Tb50 R) FUEL (sub [1, 1, 0, 1, 0, 0] groatref21_Copy_c)) [1, 2, 3, 4] [2, 3] k (groatref21_Copy_h0 t4 bt1 bt2 bt3) K = (groatref21_Copy_l0 k t4 bt1 bt2 bt3).bind fun e => K (.exit 0) (groatref21_Copy_x0_0 e.1 e.2) := by
  induction k generalizing t4 bt1 bt2 bt3 with
  | zero => rfl
  | succ k ih =>
    rw [groatref21_Copy_d0]
    simp only [groatref21_Copy_l0, groatref21_Copy_s0_bind, groatref21_Copy_s1_bind, groatref21_Copy_s2_bind, ih, cond_bind, within_bind, none_bind, some_bind, sum_bind, bind_bind, Sum.elim_inl, Sum.elim_inr]
theorem groatref21_Copy_eq (R : Type) (m_0 : ((List (ByteArray × ByteArray × Unit)) × (List (Int × Int × Int × ByteArray × (List (ByteArray × ByteArray × Unit)) × Unit)) × Unit)) (K : List SV → Option Box → Option R) : evFn groatref21_Copy_E (Tb50 R) FUEL Try.f8 groatref21_Copy_c [.dat y12 m_0 []] none K = (groatref21_Copy m_0).bind fun r => K [.dat y12 r [[0], [1]]] none := by
  rw [groatref21_Copy_t]
  simp only [groatref21_Copy, groatref21_Copy_s0_bind, groatref21_Copy_s1_bind, groatref21_Copy_s2_bind, groatref21_Copy_lp0, groatref21_Copy_y0_0, cond_bind, within_bind, none_bind, some_bind, sum_bind, bind_bind, Sum.elim_inl, Sum.elim_inr]
def groatref21_Copy_g : Pure := fun R l b K => noBox b (args1 y12 l (fun x0 => (groatref21_Copy x0).bind fun r => K [.dat y12 r [[0], [1]]] none))
theorem groatref21_Copy_n : groatref21_Copy_g.Nat := fun R S l b F G K h => noBox_nat (args1_nat fun _ => bindr_nat fun _ => h _ _)
def Tb51 : Funs := Tb50.add 8 [y12] groatref21_Copy_g
theorem Tb51_nat : Tb51.Nat := add_nat Tb50_nat groatref21_Copy_n
theorem Tb51_owes : ∀ f, Owes Try.prog Tb51 f := add_owes (E := groatref21_Copy_E) (Tab.env_ok tab_ok _ _ _ _) mixed Tb50_nat Tb50_owes (fn := Try.f8) (code := groatref21_Copy_c) Try.func8 (by kernel_rfl) (by kernel_rfl) fun l b r b' h => by
  obtain ⟨rfl, h⟩ := noBox_some h
  obtain ⟨x0, h1, h2⟩ := own1 (E := groatref21_Copy_E) rfl h
  exact ⟨FUEL, (h2 _ _ _ _ _ _).trans ((groatref21_Copy_eq _ x0 _).trans h1)⟩
noncomputable abbrev groatref13_Copy_c : Code := Try.f9.body.getD .skip
def groatref13_Copy_E : Env := tab.env (fun _ => []) (fun _ => []) [2] [y11]
theorem groatref13_Copy_t (R : Type) (kk : Nat) (s_0 : (Int × Int × (List (Int × Int × Int × Int × Int × Unit)) × Unit)) (K : List SV → Option Box → Option R) : evFn groatref13_Copy_E (Tb51 R) kk Try.f9 groatref13_Copy_c [.dat y11 s_0 []] none K =
  groatref13_Copy_s0 s_0 (fun a0 => K [.dat y11 a0 [[2]]] none) := by kernel_rfl
theorem groatref13_Copy_eq (R : Type) (s_0 : (Int × Int × (List (Int × Int × Int × Int × Int × Unit)) × Unit)) (K : List SV → Option Box → Option R) : evFn groatref13_Copy_E (Tb51 R) FUEL Try.f9 groatref13_Copy_c [.dat y11 s_0 []] none K = (groatref13_Copy s_0).bind fun r => K [.dat y11 r [[2]]] none := by
  rw [groatref13_Copy_t]
  simp only [groatref13_Copy, groatref13_Copy_s0_bind, cond_bind, within_bind, none_bind, some_bind, sum_bind, bind_bind, Sum.elim_inl, Sum.elim_inr]
def groatref13_Copy_g : Pure := fun R l b K => noBox b (args1 y11 l (fun x0 => (groatref13_Copy x0).bind fun r => K [.dat y11 r [[2]]] none))
theorem groatref13_Copy_n : groatref13_Copy_g.Nat := fun R S l b F G K h => noBox_nat (args1_nat fun _ => bindr_nat fun _ => h _ _)
def Tb52 : Funs := Tb51.add 9 [y11] groatref13_Copy_g
theorem Tb52_nat : Tb52.Nat := add_nat Tb51_nat groatref13_Copy_n
theorem Tb52_owes : ∀ f, Owes Try.prog Tb52 f := add_owes (E := groatref13_Copy_E) (Tab.env_ok tab_ok _ _ _ _) mixed Tb51_nat Tb51_owes (fn := Try.f9) (code := groatref13_Copy_c) Try.func9 (by kernel_rfl) (by kernel_rfl) fun l b r b' h => by
  obtain ⟨rfl, h⟩ := noBox_some h
  obtain ⟨x0, h1, h2⟩ := own1 (E := groatref13_Copy_E) rfl h
  exact ⟨FUEL, (h2 _ _ _ _ _ _).trans ((groatref13_Copy_eq _ x0 _).trans h1)⟩
noncomputable abbrev groatref11_Check_c : Code := Try.f43.body.getD .skip
def groatref11_Check_E : Env := tab.env (fun _ => []) (fun _ => []) [] [y5]
theorem groatref11_Check_t (R : Type) (kk : Nat) (s_0 : (Int × Int × Int × Int × Int × Unit)) (K : List SV → Option Box → Option R) : evFn groatref11_Check_E (Tb52 R) kk Try.f43 groatref11_Check_c [.dat y5 s_0 []] none K =
  groatref11_Check_s0 s_0 (fun a0 => K [.dat (.int .i64) a0 []] none) := by kernel_rfl
theorem groatref11_Check_eq (R : Type) (s_0 : (Int × Int × Int × Int × Int × Unit)) (K : List SV → Option Box → Option R) : evFn groatref11_Check_E (Tb52 R) FUEL Try.f43 groatref11_Check_c [.dat y5 s_0 []] none K = (groatref11_Check s_0).bind fun r => K [.dat (.int .i64) r []] none := by
  rw [groatref11_Check_t]
  simp only [groatref11_Check, groatref11_Check_s0_bind, cond_bind, within_bind, none_bind, some_bind, sum_bind, bind_bind, Sum.elim_inl, Sum.elim_inr]
def groatref11_Check_g : Pure := fun R l b K => noBox b (args1 y5 l (fun x0 => (groatref11_Check x0).bind fun r => K [.dat (.int .i64) r []] none))
theorem groatref11_Check_n : groatref11_Check_g.Nat := fun R S l b F G K h => noBox_nat (args1_nat fun _ => bindr_nat fun _ => h _ _)
def Tb53 : Funs := Tb52.add 43 [y5] groatref11_Check_g
theorem Tb53_nat : Tb53.Nat := add_nat Tb52_nat groatref11_Check_n
theorem Tb53_owes : ∀ f, Owes Try.prog Tb53 f := add_owes (E := groatref11_Check_E) (Tab.env_ok tab_ok _ _ _ _) mixed Tb52_nat Tb52_owes (fn := Try.f43) (code := groatref11_Check_c) Try.func43 (by kernel_rfl) (by kernel_rfl) fun l b r b' h => by
  obtain ⟨rfl, h⟩ := noBox_some h
  obtain ⟨x0, h1, h2⟩ := own1 (E := groatref11_Check_E) rfl h
  exact ⟨FUEL, (h2 _ _ _ _ _ _).trans ((groatref11_Check_eq _ x0 _).trans h1)⟩
noncomputable abbrev groatref13_Check_c : Code := Try.f69.body.getD .skip
def groatref13_Check_E : Env := tab.env (fun i => bif Nat.beq i 7 then [1, 4, 5] else []) (fun i => bif Nat.beq i 7 then [2, 3] else []) [] [y11]
end Go.Proofs.Ythdphoohfdiodaa
