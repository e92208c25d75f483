/- No condition. -/
import Derived.Test.YtkecopkmmcgciaaDoorK2
import Derived.Test.YtkecopkmmcgciaaDoorProg
set_option linter.unusedVariables false
set_option linter.unusedSimpArgs false
set_option maxRecDepth 100000
namespace Go.Proofs.YtkecopkmmcgciaaDoor
open Go Go.Ref Groat
abbrev y0 : Go.Ref.Ty := (.pair (.sl 53 (.pair .str (.pair .str .unit))) .unit)
abbrev y1 : Go.Ref.Ty := (.pair (.int .i64) (.pair (.int .i64) (.pair (.int .i64) .unit)))
abbrev y2 : Go.Ref.Ty := (.pair .str y0)
abbrev y3 : Go.Ref.Ty := (.pair (.int .i64) y1)
abbrev y4 : Go.Ref.Ty := (.pair (.int .i64) y2)
abbrev y5 : Go.Ref.Ty := (.pair (.int .i64) y3)
abbrev y6 : Go.Ref.Ty := (.pair (.int .i64) y4)
abbrev y7 : Go.Ref.Ty := (.pair (.int .i64) y6)
abbrev y8 : Go.Ref.Ty := (.pair (.sl 48 y5) .unit)
abbrev y9 : Go.Ref.Ty := (.pair (.int .i64) y8)
abbrev y10 : Go.Ref.Ty := (.pair (.int .i64) y9)
def tys : List (Option Ty) := [none, none, some (.int .i64), some (.int .i64), some .bool, some (.int .u8), some (.int .u8), some (.pair (.int .i64) (.pair (.int .i64) (.pair .bool (.pair (.int .u8) .unit)))), some (.pair (.int .i64) (.pair (.int .i64) (.pair .bool (.pair (.int .u8) .unit)))), some .str, some .str, some .str, some (.int .u64), none, none, none, none, none, none, none, none, some (.int .i32), some (.sl 53 (.pair .str (.pair .str .unit))), some y7, some y7, some (.sl 48 y5), some y10, some y10, none, none, some (.int .i64), none, none, none, none, none, some (.pair (.int .i64) (.pair .str .unit)), some (.pair (.int .i64) (.pair .str .unit)), none, none, none, none, none, some (.arr 2 y10), none, none, none, some y5, some y5, none, none, none, some (.pair .str (.pair .str .unit)), some (.pair .str (.pair .str .unit)), none, none, none, none, none, none, none, none, none, none, none, none, none, none, none, none, none, some (.sl 92 (.pair (.int .i64) (.pair .str .unit))), none, none, some (.sl 76 (.sl 3 (.int .i64))), none, some (.sl 3 (.int .i64)), none, none, none, none, none, none, none, none, none, none, none, none, none, none, some (.pair (.int .i64) (.pair .str .unit)), some (.pair (.int .i64) (.pair .str .unit)), none, none, none, none, none, none, none, some (.int .u64), none, none, none, none, some (.sl 5 (.int .u8)), none, none, none, none, none, none, none, none, none, none, some (.arr 256 .bool), some (.arr 256 .bool), none, none, none, none, none, some (.int .u32), none, none, some (.int .u64), none, none, none, none, none, none, none, none, none, none, some (.arr 256 (.int .u8)), some (.pair (.int .u8) (.pair (.int .u8) .unit)), some (.pair (.int .u8) (.pair (.int .u8) .unit)), some (.arr 16 (.pair (.int .u8) (.pair (.int .u8) .unit))), none, none, none, none, none, none, none, none, some (.int .u8), some (.int .u8), none, some (.int .i32), some (.int .i32), none, none]
def bts : List Nat := [0, 8, 8, 8, 1, 1, 1, 24, 24, 16, 16, 16, 8, 24, 24, 8, 8, 8, 8, 8, 16, 4, 24, 64, 64, 24, 40, 40, 8, 8, 8, 8, 8, 8, 8, 8, 24, 24, 0, 8, 0, 8, 8, 80, 8, 8, 8, 40, 40, 8, 8, 8, 32, 32, 0, 8, 8, 8, 8, 8, 8, 0, 8, 0, 8, 0, 8, 8, 8, 8, 8, 24, 0, 8, 24, 8, 24, 8, 8, 0, 8, 0, 8, 8, 8, 8, 8, 8, 0, 8, 8, 24, 24, 8, 8, 8, 8, 0, 8, 8, 8, 0, 8, 8, 8, 24, 32, 32, 8, 16, 16, 0, 8, 8, 8, 8, 256, 256, 0, 8, 8, 8, 8, 4, 0, 8, 8, 0, 8, 8, 0, 8, 8, 8, 8, 8, 8, 256, 2, 2, 32, 8, 8, 8, 40, 40, 0, 0, 0, 1, 1, 8, 4, 4, 48, 48]
def pts : List Bool := [false, false, false, false, false, false, false, false, false, false, false, false, false, false, false, true, true, true, false, false, false, false, false, false, false, false, false, false, false, false, false, false, false, false, false, false, false, false, false, false, false, false, false, false, false, false, false, false, false, false, false, false, false, false, false, false, false, false, false, false, false, false, false, false, false, false, false, false, false, false, false, false, false, false, false, false, false, false, false, false, false, false, false, false, false, false, false, false, false, false, false, false, false, false, false, false, false, false, false, false, false, false, false, false, true, false, false, false, false, false, false, false, false, false, false, false, false, false, false, false, false, true, false, false, false, false, false, false, false, true, false, false, false, false, false, false, false, false, false, false, false, false, false, false, false, false, false, false, false, false, false, false, false, false, false, false]
def mps : List (TypeId × TypeId × TypeId) := [(96, 3, 4), (99, 9, 4)]
def tab : Tab := ⟨tys, bts, pts, mps⟩
theorem tab_ok : tab.ok Tryd.prog = true := by kernel_rfl
theorem mixed : Tryd.prog.follows .mixedOrders = true := by kernel_rfl
def Tb0 : Funs := Funs.none
theorem Tb0_nat : Tb0.Nat := none_nat
theorem Tb0_owes : ∀ f, Owes Tryd.prog Tb0 f := none_owes
noncomputable abbrev groatref14_both_c : Code := Tryd.f36.body.getD .skip
def groatref14_both_E : Env := tab.env (fun _ => []) (fun _ => []) [] []
theorem groatref14_both_t (R : Type) (kk : Nat)  (K : List SV → Option Box → Option R) : evFn groatref14_both_E (Tb0 R) kk Tryd.f36 groatref14_both_c [] none K =
  groatref14_both_s0 (fun a0 => K [.dat (.sl 76 (.sl 3 (.int .i64))) a0 [[]]] none) := by kernel_rfl
theorem groatref14_both_eq (R : Type)  (K : List SV → Option Box → Option R) : evFn groatref14_both_E (Tb0 R) FUEL Tryd.f36 groatref14_both_c [] none K = (groatref14_both).bind fun r => K [.dat (.sl 76 (.sl 3 (.int .i64))) r [[]]] none := by
  rw [groatref14_both_t]
  simp only [groatref14_both, groatref14_both_s0_bind, cond_bind, within_bind, none_bind, some_bind, sum_bind, bind_bind, Sum.elim_inl, Sum.elim_inr]
def groatref14_both_g : Pure := fun R l b K => noBox b (args0 l ((groatref14_both).bind fun r => K [.dat (.sl 76 (.sl 3 (.int .i64))) r [[]]] none))
theorem groatref14_both_n : groatref14_both_g.Nat := fun R S l b F G K h => noBox_nat (args0_nat (bindr_nat fun _ => h _ _))
def Tb1 : Funs := Tb0.add 36 [] groatref14_both_g
theorem Tb1_nat : Tb1.Nat := add_nat Tb0_nat groatref14_both_n
theorem Tb1_owes : ∀ f, Owes Tryd.prog Tb1 f := add_owes (E := groatref14_both_E) (Tab.env_ok tab_ok _ _ _ _) mixed Tb0_nat Tb0_owes (fn := Tryd.f36) (code := groatref14_both_c) Tryd.func36 (by kernel_rfl) (by kernel_rfl) fun l b r b' h => by
  obtain ⟨rfl, h⟩ := noBox_some h
  obtain ⟨h1, h2⟩ := own0 (E := groatref14_both_E) rfl h
  exact ⟨FUEL, (h2 _ _ _ _ _ _).trans ((groatref14_both_eq _  _).trans h1)⟩
noncomputable abbrev groatref14_Schema_c : Code := Tryd.f18.body.getD .skip
def groatref14_Schema_E : Env := tab.env (fun i => bif Nat.beq i 4 then [0, 2, 3, 4, 5] else []) (fun i => bif Nat.beq i 4 then [2, 3] else []) [2] [(.int .i64)]
def groatref14_Schema_h0 (which_0 : Int) (t4 : (List (List Int))) (t5 : Int) (bt2 : (Int × Int × (List (Int × Int × Int × Int × Int × Unit)) × Unit)) (bt3 : (Int × Int × (List (Int × Int × Int × Int × Int × Unit)) × Unit)) : State := ⟨[[.dat (.int .i64) which_0 []], [.undef], [.ptr 3 y10 []], [.ptr 4 y10 []], [.dat (.sl 76 (.sl 3 (.int .i64))) t4 [[]]], [.dat (.int .i64) t5 []], [.undef], [.undef], [.undef], [.undef], [.undef], [.undef], [.undef], [.undef], [.undef], [.undef], [.undef], [.undef], [.undef], [.undef], [.undef], [.undef], [.undef], [.undef], [.undef], [.undef], [.undef], [.undef], [.undef], [.undef], [.undef], [.undef], [.undef], [.undef], [.undef], [.undef], [.undef], [.undef], [.undef], [.undef], [.undef], [.undef], [.undef], [.undef], [.undef], [.undef], [.undef], [.undef], [.undef], [.undef], [.undef], [.undef], [.undef], [.undef], [.undef], [.undef], [.undef], [.undef]], [none, none, none, some ⟨y10, bt2, [[2]]⟩, some ⟨y10, bt3, [[2]]⟩, none, none, none, none, none, none, none, none, none, none, none, none, none, none, none, none, none, none, none, none, none, none, none, none, none, none, none, none, none, none, none, none, none, none, none, none, none, none, none, none, none, none, none, none, none, none, none, none, none, none, none, none, none, none]⟩
def groatref14_Schema_x0_0 (bt2 : (Int × Int × (List (Int × Int × Int × Int × Int × Unit)) × Unit)) (bt3 : (Int × Int × (List (Int × Int × Int × Int × Int × Unit)) × Unit)) : State := ⟨[[.undef], [.undef], [.ptr 3 y10 []], [.ptr 4 y10 []], [.undef], [.undef], [.undef], [.undef], [.undef], [.undef], [.undef], [.undef], [.undef], [.undef], [.undef], [.undef], [.undef], [.undef], [.undef], [.undef], [.undef], [.undef], [.undef], [.undef], [.undef], [.undef], [.undef], [.undef], [.undef], [.undef], [.undef], [.undef], [.undef], [.undef], [.undef], [.undef], [.undef], [.undef], [.undef], [.undef], [.undef], [.undef], [.undef], [.undef], [.undef], [.undef], [.undef], [.undef], [.undef], [.undef], [.undef], [.undef], [.undef], [.undef], [.undef], [.undef], [.undef], [.undef]], [none, none, none, some ⟨y10, bt2, [[2]]⟩, some ⟨y10, bt3, [[2]]⟩, none, none, none, none, none, none, none, none, none, none, none, none, none, none, none, none, none, none, none, none, none, none, none, none, none, none, none, none, none, none, none, none, none, none, none, none, none, none, none, none, none, none, none, none, none, none, none, none, none, none, none, none, none, none]⟩
theorem groatref14_Schema_t (R : Type) (kk : Nat) (which_0 : Int) (K : List SV → Option Box → Option R) : evFn groatref14_Schema_E (Tb1 R) kk Tryd.f18 groatref14_Schema_c [.dat (.int .i64) which_0 []] none K =
  groatref14_Schema_s0 which_0 (fun a0 a1 a2 a3 a4 => loopR (ev groatref14_Schema_E (Tb1 R) kk (sub [1, 1, 1, 0, 1, 0, 0] groatref14_Schema_c)) [0, 2, 3, 4, 5] [2, 3] kk (groatref14_Schema_h0 a0 a1 a2 a3 a4) (kBlock 0 (kSeq groatref14_Schema_E (Tb1 R) kk (sub [1, 1, 1, 1] groatref14_Schema_c) (kFin groatref14_Schema_E Tryd.f18.results.toList none K)))) := by kernel_rfl
theorem groatref14_Schema_d0 (R : Type) (kk k : Nat) (which_0 : Int) (t4 : (List (List Int))) (t5 : Int) (bt2 : (Int × Int × (List (Int × Int × Int × Int × Int × Unit)) × Unit)) (bt3 : (Int × Int × (List (Int × Int × Int × Int × Int × Unit)) × Unit)) (K : Ex → State → Option R) : loopR (ev groatref14_Schema_E (Tb1 R) kk (sub [1, 1, 1, 0, 1, 0, 0] groatref14_Schema_c)) [0, 2, 3, 4, 5] [2, 3] (k + 1) (groatref14_Schema_h0 which_0 t4 t5 bt2 bt3) K =
  groatref14_Schema_s1 which_0 t4 t5 bt2 bt3 (fun a0 a1 a2 a3 a4 => loopR (ev groatref14_Schema_E (Tb1 R) kk (sub [1, 1, 1, 0, 1, 0, 0] groatref14_Schema_c)) [0, 2, 3, 4, 5] [2, 3] k (groatref14_Schema_h0 a0 a1 a2 a3 a4) K) (fun a0 a1 => K (.exit 0) (groatref14_Schema_x0_0 a0 a1)) := by kernel_rfl
theorem groatref14_Schema_y0_0 (R : Type) (kk : Nat) (bt2 : (Int × Int × (List (Int × Int × Int × Int × Int × Unit)) × Unit)) (bt3 : (Int × Int × (List (Int × Int × Int × Int × Int × Unit)) × Unit)) (K : List SV → Option Box → Option R) : (kBlock 0 (kSeq groatref14_Schema_E (Tb1 R) kk (sub [1, 1, 1, 1] groatref14_Schema_c) (kFin groatref14_Schema_E Tryd.f18.results.toList none K))) (.exit 0) (groatref14_Schema_x0_0 bt2 bt3) =
  groatref14_Schema_s2 bt2 bt3 (fun a0 => K [.dat y10 a0 [[2]]] none) := by kernel_rfl
theorem groatref14_Schema_lp0 (R : Type) (k : Nat) (which_0 : Int) (t4 : (List (List Int))) (t5 : Int) (bt2 : (Int × Int × (List (Int × Int × Int × Int × Int × Unit)) × Unit)) (bt3 : (Int × Int × (List (Int × Int × Int × Int × Int × Unit)) × Unit)) (K : Ex → State → Option R) : loopR (ev groatref14_Schema_E (Tb1 R) FUEL (sub [1, 1, 1, 0, 1, 0, 0] groatref14_Schema_c)) [0, 2, 3, 4, 5] [2, 3] k (groatref14_Schema_h0 which_0 t4 t5 bt2 bt3) K = (groatref14_Schema_l0 k which_0 t4 t5 bt2 bt3).bind fun e => K (.exit 0) (groatref14_Schema_x0_0 e.1 e.2) := by
  induction k generalizing which_0 t4 t5 bt2 bt3 with
  | zero => rfl
  | succ k ih =>
    rw [groatref14_Schema_d0]
    simp only [groatref14_Schema_l0, groatref14_Schema_s0_bind, groatref14_Schema_s1_bind, groatref14_Schema_s2_bind, ih, cond_bind, within_bind, none_bind, some_bind, sum_bind, bind_bind, Sum.elim_inl, Sum.elim_inr]
theorem groatref14_Schema_eq (R : Type) (which_0 : Int) (K : List SV → Option Box → Option R) : evFn groatref14_Schema_E (Tb1 R) FUEL Tryd.f18 groatref14_Schema_c [.dat (.int .i64) which_0 []] none K = (groatref14_Schema which_0).bind fun r => K [.dat y10 r [[2]]] none := by
  rw [groatref14_Schema_t]
  simp only [groatref14_Schema, groatref14_Schema_s0_bind, groatref14_Schema_s1_bind, groatref14_Schema_s2_bind, groatref14_Schema_lp0, groatref14_Schema_y0_0, cond_bind, within_bind, none_bind, some_bind, sum_bind, bind_bind, Sum.elim_inl, Sum.elim_inr]
def groatref14_Schema_g : Pure := fun R l b K => noBox b (args1 (.int .i64) l (fun x0 => (groatref14_Schema x0).bind fun r => K [.dat y10 r [[2]]] none))
theorem groatref14_Schema_n : groatref14_Schema_g.Nat := fun R S l b F G K h => noBox_nat (args1_nat fun _ => bindr_nat fun _ => h _ _)
def Tb2 : Funs := Tb1.add 18 [(.int .i64)] groatref14_Schema_g
theorem Tb2_nat : Tb2.Nat := add_nat Tb1_nat groatref14_Schema_n
theorem Tb2_owes : ∀ f, Owes Tryd.prog Tb2 f := add_owes (E := groatref14_Schema_E) (Tab.env_ok tab_ok _ _ _ _) mixed Tb1_nat Tb1_owes (fn := Tryd.f18) (code := groatref14_Schema_c) Tryd.func18 (by kernel_rfl) (by kernel_rfl) fun l b r b' h => by
  obtain ⟨rfl, h⟩ := noBox_some h
  obtain ⟨x0, h1, h2⟩ := own1 (E := groatref14_Schema_E) rfl h
  exact ⟨FUEL, (h2 _ _ _ _ _ _).trans ((groatref14_Schema_eq _ x0 _).trans h1)⟩
noncomputable abbrev schema_Find_c : Code := Tryd.f27.body.getD .skip
def schema_Find_E : Env := tab.env (fun i => bif Nat.beq i 2 then [1, 4, 9, 10, 11] else []) (fun i => bif Nat.beq i 2 then [4, 5] else []) [4] [y10, (.int .i64)]
def schema_Find_h0 (no_1 : Int) (t9 : (List (Int × Int × Int × Int × Int × Unit))) (t10 : Int) (t11 : Int) (bt4 : (Int × Int × Int × Int × Int × Unit)) : State := ⟨[[.undef], [.dat (.int .i64) no_1 []], [.undef], [.undef], [.ptr 5 y5 []], [.undef], [.undef], [.undef], [.undef], [.dat (.sl 48 y5) t9 []], [.dat (.int .i64) t10 []], [.dat (.int .i64) t11 []], [.undef], [.undef], [.undef], [.undef], [.undef], [.undef], [.undef], [.undef], [.undef], [.undef]], [none, none, none, none, none, some ⟨y5, bt4, []⟩, none, none, none, none, none, none, none, none, none, none, none, none, none, none, none, none, none]⟩
def schema_Find_x0_0 (t5 : Bool) (bt4 : (Int × Int × Int × Int × Int × Unit)) : State := ⟨[[.undef], [.undef], [.undef], [.undef], [.ptr 5 y5 []], [.dat .bool t5 []], [.undef], [.undef], [.undef], [.undef], [.undef], [.undef], [.undef], [.undef], [.undef], [.undef], [.undef], [.undef], [.undef], [.undef], [.undef], [.undef]], [none, none, none, none, none, some ⟨y5, bt4, []⟩, none, none, none, none, none, none, none, none, none, none, none, none, none, none, none, none, none]⟩
def schema_Find_x0_1 (bt4 : (Int × Int × Int × Int × Int × Unit)) : State := ⟨[[.undef], [.undef], [.undef], [.undef], [.ptr 5 y5 []], [.undef], [.undef], [.undef], [.undef], [.undef], [.undef], [.undef], [.undef], [.undef], [.undef], [.undef], [.undef], [.undef], [.undef], [.undef], [.undef], [.undef]], [none, none, none, none, none, some ⟨y5, bt4, []⟩, none, none, none, none, none, none, none, none, none, none, none, none, none, none, none, none, none]⟩
theorem schema_Find_t (R : Type) (kk : Nat) (s_0 : (Int × Int × (List (Int × Int × Int × Int × Int × Unit)) × Unit)) (no_1 : Int) (K : List SV → Option Box → Option R) : evFn schema_Find_E (Tb2 R) kk Tryd.f27 schema_Find_c [.dat y10 s_0 [], .dat (.int .i64) no_1 []] none K =
  schema_Find_s0 s_0 no_1 (fun a0 a1 a2 a3 a4 => loopR (ev schema_Find_E (Tb2 R) kk (sub [1, 0, 1, 0, 0] schema_Find_c)) [1, 4, 9, 10, 11] [4, 5] kk (schema_Find_h0 a0 a1 a2 a3 a4) (kBlock 0 (kSeq schema_Find_E (Tb2 R) kk (sub [1, 1] schema_Find_c) (kFin schema_Find_E Tryd.f27.results.toList none K)))) := by kernel_rfl
theorem schema_Find_d0 (R : Type) (kk k : Nat) (no_1 : Int) (t9 : (List (Int × Int × Int × Int × Int × Unit))) (t10 : Int) (t11 : Int) (bt4 : (Int × Int × Int × Int × Int × Unit)) (K : Ex → State → Option R) : loopR (ev schema_Find_E (Tb2 R) kk (sub [1, 0, 1, 0, 0] schema_Find_c)) [1, 4, 9, 10, 11] [4, 5] (k + 1) (schema_Find_h0 no_1 t9 t10 t11 bt4) K =
  schema_Find_s1 no_1 t9 t10 t11 bt4 (fun a0 a1 => K .ret (schema_Find_x0_0 a0 a1)) (fun a0 a1 a2 a3 a4 => loopR (ev schema_Find_E (Tb2 R) kk (sub [1, 0, 1, 0, 0] schema_Find_c)) [1, 4, 9, 10, 11] [4, 5] k (schema_Find_h0 a0 a1 a2 a3 a4) K) (fun a0 => K (.exit 0) (schema_Find_x0_1 a0)) := by kernel_rfl
theorem schema_Find_y0_0 (R : Type) (kk : Nat) (t5 : Bool) (bt4 : (Int × Int × Int × Int × Int × Unit)) (K : List SV → Option Box → Option R) : (kBlock 0 (kSeq schema_Find_E (Tb2 R) kk (sub [1, 1] schema_Find_c) (kFin schema_Find_E Tryd.f27.results.toList none K))) .ret (schema_Find_x0_0 t5 bt4) =
  schema_Find_s2 t5 bt4 (fun a0 a1 => K [.dat y5 a0 [], .dat .bool a1 []] none) := by kernel_rfl
theorem schema_Find_y0_1 (R : Type) (kk : Nat) (bt4 : (Int × Int × Int × Int × Int × Unit)) (K : List SV → Option Box → Option R) : (kBlock 0 (kSeq schema_Find_E (Tb2 R) kk (sub [1, 1] schema_Find_c) (kFin schema_Find_E Tryd.f27.results.toList none K))) (.exit 0) (schema_Find_x0_1 bt4) =
  schema_Find_s3 bt4 (fun a0 a1 => K [.dat y5 a0 [], .dat .bool a1 []] none) := by kernel_rfl
theorem schema_Find_lp0 (R : Type) (k : Nat) (no_1 : Int) (t9 : (List (Int × Int × Int × Int × Int × Unit))) (t10 : Int) (t11 : Int) (bt4 : (Int × Int × Int × Int × Int × Unit)) (K : Ex → State → Option R) : loopR (ev schema_Find_E (Tb2 R) FUEL (sub [1, 0, 1, 0, 0] schema_Find_c)) [1, 4, 9, 10, 11] [4, 5] k (schema_Find_h0 no_1 t9 t10 t11 bt4) K = (schema_Find_l0 k no_1 t9 t10 t11 bt4).bind fun e => (Sum.elim (fun (we : (Bool × (Int × Int × Int × Int × Int × Unit))) => K .ret (schema_Find_x0_0 we.1 we.2)) (fun (we : (Int × Int × Int × Int × Int × Unit)) => K (.exit 0) (schema_Find_x0_1 we)) e) := by
  induction k generalizing no_1 t9 t10 t11 bt4 with
  | zero => rfl
  | succ k ih =>
    rw [schema_Find_d0]
    simp only [schema_Find_l0, schema_Find_s0_bind, schema_Find_s1_bind, schema_Find_s2_bind, schema_Find_s3_bind, ih, cond_bind, within_bind, none_bind, some_bind, sum_bind, bind_bind, Sum.elim_inl, Sum.elim_inr]
theorem schema_Find_eq (R : Type) (s_0 : (Int × Int × (List (Int × Int × Int × Int × Int × Unit)) × Unit)) (no_1 : Int) (K : List SV → Option Box → Option R) : evFn schema_Find_E (Tb2 R) FUEL Tryd.f27 schema_Find_c [.dat y10 s_0 [], .dat (.int .i64) no_1 []] none K = (schema_Find s_0 no_1).bind fun r => K [.dat y5 r.1 [], .dat .bool r.2 []] none := by
  rw [schema_Find_t]
  simp only [schema_Find, schema_Find_s0_bind, schema_Find_s1_bind, schema_Find_s2_bind, schema_Find_s3_bind, schema_Find_lp0, schema_Find_y0_0, schema_Find_y0_1, cond_bind, within_bind, none_bind, some_bind, sum_bind, bind_bind, Sum.elim_inl, Sum.elim_inr]
def schema_Find_g : Pure := fun R l b K => noBox b (args2 y10 (.int .i64) l (fun x0 x1 => (schema_Find x0 x1).bind fun r => K [.dat y5 r.1 [], .dat .bool r.2 []] none))
theorem schema_Find_n : schema_Find_g.Nat := fun R S l b F G K h => noBox_nat (args2_nat fun _ _ => bindr_nat fun _ => h _ _)
def Tb3 : Funs := Tb2.add 27 [y10, (.int .i64)] schema_Find_g
theorem Tb3_nat : Tb3.Nat := add_nat Tb2_nat schema_Find_n
theorem Tb3_owes : ∀ f, Owes Tryd.prog Tb3 f := add_owes (E := schema_Find_E) (Tab.env_ok tab_ok _ _ _ _) mixed Tb2_nat Tb2_owes (fn := Tryd.f27) (code := schema_Find_c) Tryd.func27 (by kernel_rfl) (by kernel_rfl) fun l b r b' h => by
  obtain ⟨rfl, h⟩ := noBox_some h
  obtain ⟨x0, x1, h1, h2⟩ := own2 (E := schema_Find_E) rfl h
  exact ⟨FUEL, (h2 _ _ _ _ _ _).trans ((schema_Find_eq _ x0 x1 _).trans h1)⟩
noncomputable abbrev digits_All_c : Code := Tryd.f44.body.getD .skip
def digits_All_E : Env := tab.env (fun i => bif Nat.beq i 2 then [6] else []) (fun i => bif Nat.beq i 2 then [2] else []) [] [.str]
def digits_All_h0 (bt6 : (ByteArray × Nat)) : State := ⟨[[.undef], [.undef], [.undef], [.undef], [.undef], [.undef], [.ptr 7 (.spc .iter .unit .unit) []], [.undef], [.undef], [.undef], [.undef], [.undef], [.undef], [.undef], [.undef], [.undef]], [none, none, none, none, none, none, none, some ⟨(.spc .iter .unit .unit), bt6, []⟩, none, none, none, none, none, none, none, none, none]⟩
def digits_All_x0_0 (t2 : Bool) : State := ⟨[[.undef], [.undef], [.dat .bool t2 []], [.undef], [.undef], [.undef], [.undef], [.undef], [.undef], [.undef], [.undef], [.undef], [.undef], [.undef], [.undef], [.undef]], [none, none, none, none, none, none, none, none, none, none, none, none, none, none, none, none, none]⟩
def digits_All_x0_1  : State := ⟨[[.undef], [.undef], [.undef], [.undef], [.undef], [.undef], [.undef], [.undef], [.undef], [.undef], [.undef], [.undef], [.undef], [.undef], [.undef], [.undef]], [none, none, none, none, none, none, none, none, none, none, none, none, none, none, none, none, none]⟩
theorem digits_All_t (R : Type) (kk : Nat) (s_0 : ByteArray) (K : List SV → Option Box → Option R) : evFn digits_All_E (Tb3 R) kk Tryd.f44 digits_All_c [.dat .str s_0 []] none K =
  digits_All_s0 s_0 (fun a0 => loopR (ev digits_All_E (Tb3 R) kk (sub [1, 0, 1, 0, 0] digits_All_c)) [6] [2] kk (digits_All_h0 a0) (kBlock 0 (kSeq digits_All_E (Tb3 R) kk (sub [1, 1] digits_All_c) (kFin digits_All_E Tryd.f44.results.toList none K)))) := by kernel_rfl
theorem digits_All_d0 (R : Type) (kk k : Nat) (bt6 : (ByteArray × Nat)) (K : Ex → State → Option R) : loopR (ev digits_All_E (Tb3 R) kk (sub [1, 0, 1, 0, 0] digits_All_c)) [6] [2] (k + 1) (digits_All_h0 bt6) K =
  digits_All_s1 bt6 (fun a0 => K .ret (digits_All_x0_0 a0)) (fun a0 => loopR (ev digits_All_E (Tb3 R) kk (sub [1, 0, 1, 0, 0] digits_All_c)) [6] [2] k (digits_All_h0 a0) K) (K (.exit 0) (digits_All_x0_1)) := by kernel_rfl
theorem digits_All_y0_0 (R : Type) (kk : Nat) (t2 : Bool) (K : List SV → Option Box → Option R) : (kBlock 0 (kSeq digits_All_E (Tb3 R) kk (sub [1, 1] digits_All_c) (kFin digits_All_E Tryd.f44.results.toList none K))) .ret (digits_All_x0_0 t2) =
  digits_All_s2 t2 (fun a0 => K [.dat .bool a0 []] none) := by kernel_rfl
theorem digits_All_y0_1 (R : Type) (kk : Nat)  (K : List SV → Option Box → Option R) : (kBlock 0 (kSeq digits_All_E (Tb3 R) kk (sub [1, 1] digits_All_c) (kFin digits_All_E Tryd.f44.results.toList none K))) (.exit 0) (digits_All_x0_1) =
  digits_All_s3 (fun a0 => K [.dat .bool a0 []] none) := by kernel_rfl
theorem digits_All_lp0 (R : Type) (k : Nat) (bt6 : (ByteArray × Nat)) (K : Ex → State → Option R) : loopR (ev digits_All_E (Tb3 R) FUEL (sub [1, 0, 1, 0, 0] digits_All_c)) [6] [2] k (digits_All_h0 bt6) K = (digits_All_l0 k bt6).bind fun e => (Sum.elim (fun (we : Bool) => K .ret (digits_All_x0_0 we)) (fun (we : Unit) => K (.exit 0) (digits_All_x0_1)) e) := by
  induction k generalizing bt6 with
  | zero => rfl
  | succ k ih =>
    rw [digits_All_d0]
    simp only [digits_All_l0, digits_All_s0_bind, digits_All_s1_bind, digits_All_s2_bind, digits_All_s3_bind, ih, cond_bind, within_bind, none_bind, some_bind, sum_bind, bind_bind, Sum.elim_inl, Sum.elim_inr]
theorem digits_All_eq (R : Type) (s_0 : ByteArray) (K : List SV → Option Box → Option R) : evFn digits_All_E (Tb3 R) FUEL Tryd.f44 digits_All_c [.dat .str s_0 []] none K = (digits_All s_0).bind fun r => K [.dat .bool r []] none := by
  rw [digits_All_t]
  simp only [digits_All, digits_All_s0_bind, digits_All_s1_bind, digits_All_s2_bind, digits_All_s3_bind, digits_All_lp0, digits_All_y0_0, digits_All_y0_1, cond_bind, within_bind, none_bind, some_bind, sum_bind, bind_bind, Sum.elim_inl, Sum.elim_inr]
def digits_All_g : Pure := fun R l b K => noBox b (args1 .str l (fun x0 => (digits_All x0).bind fun r => K [.dat .bool r []] none))
theorem digits_All_n : digits_All_g.Nat := fun R S l b F G K h => noBox_nat (args1_nat fun _ => bindr_nat fun _ => h _ _)
def Tb4 : Funs := Tb3.add 44 [.str] digits_All_g
theorem Tb4_nat : Tb4.Nat := add_nat Tb3_nat digits_All_n
theorem Tb4_owes : ∀ f, Owes Tryd.prog Tb4 f := add_owes (E := digits_All_E) (Tab.env_ok tab_ok _ _ _ _) mixed Tb3_nat Tb3_owes (fn := Tryd.f44) (code := digits_All_c) Tryd.func44 (by kernel_rfl) (by kernel_rfl) fun l b r b' h => by
  obtain ⟨rfl, h⟩ := noBox_some h
  obtain ⟨x0, h1, h2⟩ := own1 (E := digits_All_E) rfl h
  exact ⟨FUEL, (h2 _ _ _ _ _ _).trans ((digits_All_eq _ x0 _).trans h1)⟩
def Tryd.laysRepeat_ren : Go.Shelf.Ren := ⟨fun | 105 => 45 | 212 => 59 | 99 => 60 | 165 => 61 | 166 => 62 | 170 => 63 | 169 => 64 | 263 => 78 | 264 => 79 | 206 => 80 | 240 => 81 | 241 => 82 | 276 => 87 | 277 => 88 | n => n, fun | 9 => 9 | 3 => 3 | 4 => 4 | 20 => 20 | 0 => 0 | 46 => 100 | 109 => 101 | 5 => 5 | 72 => 107 | 76 => 111 | 51 => 123 | 146 => 124 | 53 => 126 | 148 => 127 | 70 => 104 | 37 => 105 | 75 => 110 | 127 => 129 | 164 => 133 | 80 => 114 | n => n, fun n => n⟩
theorem Tryd.laysRepeat : Go.Proofs.Lays.n105 Go.Proofs.Tryd.prog Tryd.laysRepeat_ren := {
  mixed := by kernel_rfl,
  f99 := Go.Proofs.Tryd.func60.trans (congrArg some (by kernel_rfl)),
  f105 := Go.Proofs.Tryd.func45.trans (congrArg some (by kernel_rfl)),
  f165 := Go.Proofs.Tryd.func61.trans (congrArg some (by kernel_rfl)),
  f166 := Go.Proofs.Tryd.func62.trans (congrArg some (by kernel_rfl)),
  f169 := Go.Proofs.Tryd.func64.trans (congrArg some (by kernel_rfl)),
  f170 := Go.Proofs.Tryd.func63.trans (congrArg some (by kernel_rfl)),
  f206 := Go.Proofs.Tryd.func80.trans (congrArg some (by kernel_rfl)),
  f212 := Go.Proofs.Tryd.func59.trans (congrArg some (by kernel_rfl)),
  f240 := Go.Proofs.Tryd.func81.trans (congrArg some (by kernel_rfl)),
  f241 := Go.Proofs.Tryd.func82.trans (congrArg some (by kernel_rfl)),
  f263 := Go.Proofs.Tryd.func78.trans (congrArg some (by kernel_rfl)),
  f264 := Go.Proofs.Tryd.func79.trans (congrArg some (by kernel_rfl)),
  f276 := Go.Proofs.Tryd.func87.trans (congrArg some (by kernel_rfl)),
  f277 := Go.Proofs.Tryd.func88.trans (congrArg some (by kernel_rfl)),
  t0 := Go.Proofs.Tryd.underlying0,
  a0 := Go.Proofs.Tryd.isAgg0,
  z0 := Go.Proofs.Tryd.sizeOf0,
  v0 := Go.Proofs.Tryd.zeroValue0,
  t3 := Go.Proofs.Tryd.underlying3,
  a3 := Go.Proofs.Tryd.isAgg3,
  z3 := Go.Proofs.Tryd.sizeOf3,
  v3 := Go.Proofs.Tryd.zeroValue3,
  t4 := Go.Proofs.Tryd.underlying4,
  a4 := Go.Proofs.Tryd.isAgg4,
  z4 := Go.Proofs.Tryd.sizeOf4,
  v4 := Go.Proofs.Tryd.zeroValue4,
  t5 := Go.Proofs.Tryd.underlying5,
  a5 := Go.Proofs.Tryd.isAgg5,
  z5 := Go.Proofs.Tryd.sizeOf5,
  v5 := Go.Proofs.Tryd.zeroValue5,
  t9 := Go.Proofs.Tryd.underlying9,
  a9 := Go.Proofs.Tryd.isAgg9,
  z9 := Go.Proofs.Tryd.sizeOf9,
  v9 := Go.Proofs.Tryd.zeroValue9,
  t20 := Go.Proofs.Tryd.underlying20,
  a20 := Go.Proofs.Tryd.isAgg20,
  z20 := Go.Proofs.Tryd.sizeOf20,
  v20 := Go.Proofs.Tryd.zeroValue20,
  t37 := Go.Proofs.Tryd.underlying105,
  a37 := Go.Proofs.Tryd.isAgg105,
  z37 := Go.Proofs.Tryd.sizeOf105,
  v37 := Go.Proofs.Tryd.zeroValue105,
  t46 := Go.Proofs.Tryd.underlying100,
  a46 := Go.Proofs.Tryd.isAgg100,
  z46 := Go.Proofs.Tryd.sizeOf100,
  v46 := Go.Proofs.Tryd.zeroValue100,
  t51 := Go.Proofs.Tryd.underlying123,
  a51 := Go.Proofs.Tryd.isAgg123,
  z51 := Go.Proofs.Tryd.sizeOf123,
  v51 := Go.Proofs.Tryd.zeroValue123,
  t53 := Go.Proofs.Tryd.underlying126,
  a53 := Go.Proofs.Tryd.isAgg126,
  z53 := Go.Proofs.Tryd.sizeOf126,
  v53 := Go.Proofs.Tryd.zeroValue126,
  t70 := Go.Proofs.Tryd.underlying104,
  a70 := Go.Proofs.Tryd.isAgg104,
  z70 := Go.Proofs.Tryd.sizeOf104,
  v70 := Go.Proofs.Tryd.zeroValue104,
  t72 := Go.Proofs.Tryd.underlying107,
  a72 := Go.Proofs.Tryd.isAgg107,
  z72 := Go.Proofs.Tryd.sizeOf107,
  v72 := Go.Proofs.Tryd.zeroValue107,
  t75 := Go.Proofs.Tryd.underlying110,
  a75 := Go.Proofs.Tryd.isAgg110,
  z75 := Go.Proofs.Tryd.sizeOf110,
  v75 := Go.Proofs.Tryd.zeroValue110,
  t76 := Go.Proofs.Tryd.underlying111,
  a76 := Go.Proofs.Tryd.isAgg111,
  z76 := Go.Proofs.Tryd.sizeOf111,
  v76 := Go.Proofs.Tryd.zeroValue111,
  t109 := Go.Proofs.Tryd.underlying101,
  a109 := Go.Proofs.Tryd.isAgg101,
  z109 := Go.Proofs.Tryd.sizeOf101,
  v109 := Go.Proofs.Tryd.zeroValue101,
  t127 := Go.Proofs.Tryd.underlying129,
  a127 := Go.Proofs.Tryd.isAgg129,
  z127 := Go.Proofs.Tryd.sizeOf129,
  v127 := Go.Proofs.Tryd.zeroValue129,
  t146 := Go.Proofs.Tryd.underlying124,
  a146 := Go.Proofs.Tryd.isAgg124,
  z146 := Go.Proofs.Tryd.sizeOf124,
  v146 := Go.Proofs.Tryd.zeroValue124,
  t148 := Go.Proofs.Tryd.underlying127,
  a148 := Go.Proofs.Tryd.isAgg127,
  z148 := Go.Proofs.Tryd.sizeOf127,
  v148 := Go.Proofs.Tryd.zeroValue127,
  t164 := Go.Proofs.Tryd.underlying133,
  a164 := Go.Proofs.Tryd.isAgg133,
  z164 := Go.Proofs.Tryd.sizeOf133,
  v164 := Go.Proofs.Tryd.zeroValue133 }
theorem Tryd.extraRepeat : Go.Proofs.Builder.Extra Go.Proofs.Tryd.prog Tryd.laysRepeat_ren := {
  sizeBuilder := by kernel_rfl,
  liesBuilder := by kernel_rfl,
  t5 := Tryd.laysRepeat.t5,
  a5 := Tryd.laysRepeat.a5,
  z5 := Tryd.laysRepeat.z5,
  v5 := Tryd.laysRepeat.v5,
  infoByte := by kernel_rfl,
  cellsByte := by kernel_rfl,
  sizeByte := by kernel_rfl,
  neB5 := by decide }
noncomputable abbrev strings_Repeat_c : Code := Tryd.f45.body.getD .skip
theorem strings_Repeat_ent : Ent Tryd.prog 45 := ⟨Tryd.f45, strings_Repeat_c, Tryd.func45, by kernel_rfl, by kernel_rfl⟩
def strings_Repeat_g : Pure := fun R l b K => noBox b (args2 .str (.int .i64) l fun x0 x1 => (strings_Repeat x0 x1).bind fun r => K [.dat .str r []] none)
theorem strings_Repeat_n : strings_Repeat_g.Nat := fun R S l b F G K h => noBox_nat (args2_nat fun _ _ => bindr_nat fun _ => h _ _)
def Tb5 : Funs := Tb4.add 45 [] strings_Repeat_g
theorem Tb5_nat : Tb5.Nat := add_nat Tb4_nat strings_Repeat_n
theorem Tb5_owes : ∀ f, Owes Tryd.prog Tb5 f := lib_si_s Tb4_owes strings_Repeat_ent strings_Repeat (strings_Repeat_calls Tryd.laysRepeat Tryd.extraRepeat (by kernel_rfl))
noncomputable abbrev strings_trimRightByte_c : Code := Tryd.f66.body.getD .skip
def strings_trimRightByte_E : Env := tab.env (fun i => bif Nat.beq i 1 then [0, 1] else []) (fun i => bif Nat.beq i 1 then [0] else []) [] [.str, (.int .u8)]
def strings_trimRightByte_h0 (s_0 : ByteArray) (c_1 : Int) : State := ⟨[[.dat .str s_0 []], [.dat (.int .u8) c_1 []], [.undef], [.undef], [.undef], [.undef], [.undef], [.undef], [.undef], [.undef], [.undef], [.undef], [.undef], [.undef], [.undef], [.undef], [.undef], [.undef], [.undef], [.undef], [.undef], [.undef], [.undef]], [none, none, none, none, none, none, none, none, none, none, none, none, none, none, none, none, none, none, none, none, none, none, none, none]⟩
def strings_trimRightByte_x0_0 (s_0 : ByteArray) : State := ⟨[[.dat .str s_0 []], [.undef], [.undef], [.undef], [.undef], [.undef], [.undef], [.undef], [.undef], [.undef], [.undef], [.undef], [.undef], [.undef], [.undef], [.undef], [.undef], [.undef], [.undef], [.undef], [.undef], [.undef], [.undef]], [none, none, none, none, none, none, none, none, none, none, none, none, none, none, none, none, none, none, none, none, none, none, none, none]⟩
theorem strings_trimRightByte_t (R : Type) (kk : Nat) (s_0 : ByteArray) (c_1 : Int) (K : List SV → Option Box → Option R) : evFn strings_trimRightByte_E (Tb5 R) kk Tryd.f66 strings_trimRightByte_c [.dat .str s_0 [], .dat (.int .u8) c_1 []] none K =
  strings_trimRightByte_s0 s_0 c_1 (fun a0 a1 => loopR (ev strings_trimRightByte_E (Tb5 R) kk (sub [1, 0, 0, 0] strings_trimRightByte_c)) [0, 1] [0] kk (strings_trimRightByte_h0 a0 a1) (kBlock 0 (kSeq strings_trimRightByte_E (Tb5 R) kk (sub [1, 1] strings_trimRightByte_c) (kFin strings_trimRightByte_E Tryd.f66.results.toList none K)))) := by kernel_rfl
theorem strings_trimRightByte_d0 (R : Type) (kk k : Nat) (s_0 : ByteArray) (c_1 : Int) (K : Ex → State → Option R) : loopR (ev strings_trimRightByte_E (Tb5 R) kk (sub [1, 0, 0, 0] strings_trimRightByte_c)) [0, 1] [0] (k + 1) (strings_trimRightByte_h0 s_0 c_1) K =
  strings_trimRightByte_s1 s_0 c_1 (fun a0 a1 => loopR (ev strings_trimRightByte_E (Tb5 R) kk (sub [1, 0, 0, 0] strings_trimRightByte_c)) [0, 1] [0] k (strings_trimRightByte_h0 a0 a1) K) (fun a0 => K (.exit 0) (strings_trimRightByte_x0_0 a0)) := by kernel_rfl
theorem strings_trimRightByte_y0_0 (R : Type) (kk : Nat) (s_0 : ByteArray) (K : List SV → Option Box → Option R) : (kBlock 0 (kSeq strings_trimRightByte_E (Tb5 R) kk (sub [1, 1] strings_trimRightByte_c) (kFin strings_trimRightByte_E Tryd.f66.results.toList none K))) (.exit 0) (strings_trimRightByte_x0_0 s_0) =
  strings_trimRightByte_s2 s_0 (fun a0 => K [.dat .str a0 []] none) := by kernel_rfl
theorem strings_trimRightByte_lp0 (R : Type) (k : Nat) (s_0 : ByteArray) (c_1 : Int) (K : Ex → State → Option R) : loopR (ev strings_trimRightByte_E (Tb5 R) FUEL (sub [1, 0, 0, 0] strings_trimRightByte_c)) [0, 1] [0] k (strings_trimRightByte_h0 s_0 c_1) K = (strings_trimRightByte_l0 k s_0 c_1).bind fun e => K (.exit 0) (strings_trimRightByte_x0_0 e) := by
  induction k generalizing s_0 c_1 with
  | zero => rfl
  | succ k ih =>
    rw [strings_trimRightByte_d0]
    simp only [strings_trimRightByte_l0, strings_trimRightByte_s0_bind, strings_trimRightByte_s1_bind, strings_trimRightByte_s2_bind, ih, cond_bind, within_bind, none_bind, some_bind, sum_bind, bind_bind, Sum.elim_inl, Sum.elim_inr]
theorem strings_trimRightByte_eq (R : Type) (s_0 : ByteArray) (c_1 : Int) (K : List SV → Option Box → Option R) : evFn strings_trimRightByte_E (Tb5 R) FUEL Tryd.f66 strings_trimRightByte_c [.dat .str s_0 [], .dat (.int .u8) c_1 []] none K = (strings_trimRightByte s_0 c_1).bind fun r => K [.dat .str r []] none := by
  rw [strings_trimRightByte_t]
  simp only [strings_trimRightByte, strings_trimRightByte_s0_bind, strings_trimRightByte_s1_bind, strings_trimRightByte_s2_bind, strings_trimRightByte_lp0, strings_trimRightByte_y0_0, cond_bind, within_bind, none_bind, some_bind, sum_bind, bind_bind, Sum.elim_inl, Sum.elim_inr]
def strings_trimRightByte_g : Pure := fun R l b K => noBox b (args2 .str (.int .u8) l (fun x0 x1 => (strings_trimRightByte x0 x1).bind fun r => K [.dat .str r []] none))
theorem strings_trimRightByte_n : strings_trimRightByte_g.Nat := fun R S l b F G K h => noBox_nat (args2_nat fun _ _ => bindr_nat fun _ => h _ _)
def Tb6 : Funs := Tb5.add 66 [.str, (.int .u8)] strings_trimRightByte_g
theorem Tb6_nat : Tb6.Nat := add_nat Tb5_nat strings_trimRightByte_n
theorem Tb6_owes : ∀ f, Owes Tryd.prog Tb6 f := add_owes (E := strings_trimRightByte_E) (Tab.env_ok tab_ok _ _ _ _) mixed Tb5_nat Tb5_owes (fn := Tryd.f66) (code := strings_trimRightByte_c) Tryd.func66 (by kernel_rfl) (by kernel_rfl) fun l b r b' h => by
  obtain ⟨rfl, h⟩ := noBox_some h
  obtain ⟨x0, x1, h1, h2⟩ := own2 (E := strings_trimRightByte_E) rfl h
  exact ⟨FUEL, (h2 _ _ _ _ _ _).trans ((strings_trimRightByte_eq _ x0 x1 _).trans h1)⟩
noncomputable abbrev strings_trimLeftByte_c : Code := Tryd.f65.body.getD .skip
def strings_trimLeftByte_E : Env := tab.env (fun i => bif Nat.beq i 1 then [0, 1] else []) (fun i => bif Nat.beq i 1 then [0] else []) [] [.str, (.int .u8)]
def strings_trimLeftByte_h0 (s_0 : ByteArray) (c_1 : Int) : State := ⟨[[.dat .str s_0 []], [.dat (.int .u8) c_1 []], [.undef], [.undef], [.undef], [.undef], [.undef], [.undef], [.undef], [.undef], [.undef], [.undef], [.undef], [.undef], [.undef], [.undef], [.undef]], [none, none, none, none, none, none, none, none, none, none, none, none, none, none, none, none, none, none]⟩
def strings_trimLeftByte_x0_0 (s_0 : ByteArray) : State := ⟨[[.dat .str s_0 []], [.undef], [.undef], [.undef], [.undef], [.undef], [.undef], [.undef], [.undef], [.undef], [.undef], [.undef], [.undef], [.undef], [.undef], [.undef], [.undef]], [none, none, none, none, none, none, none, none, none, none, none, none, none, none, none, none, none, none]⟩
theorem strings_trimLeftByte_t (R : Type) (kk : Nat) (s_0 : ByteArray) (c_1 : Int) (K : List SV → Option Box → Option R) : evFn strings_trimLeftByte_E (Tb6 R) kk Tryd.f65 strings_trimLeftByte_c [.dat .str s_0 [], .dat (.int .u8) c_1 []] none K =
  strings_trimLeftByte_s0 s_0 c_1 (fun a0 a1 => loopR (ev strings_trimLeftByte_E (Tb6 R) kk (sub [1, 0, 0, 0] strings_trimLeftByte_c)) [0, 1] [0] kk (strings_trimLeftByte_h0 a0 a1) (kBlock 0 (kSeq strings_trimLeftByte_E (Tb6 R) kk (sub [1, 1] strings_trimLeftByte_c) (kFin strings_trimLeftByte_E Tryd.f65.results.toList none K)))) := by kernel_rfl
theorem strings_trimLeftByte_d0 (R : Type) (kk k : Nat) (s_0 : ByteArray) (c_1 : Int) (K : Ex → State → Option R) : loopR (ev strings_trimLeftByte_E (Tb6 R) kk (sub [1, 0, 0, 0] strings_trimLeftByte_c)) [0, 1] [0] (k + 1) (strings_trimLeftByte_h0 s_0 c_1) K =
  strings_trimLeftByte_s1 s_0 c_1 (fun a0 a1 => loopR (ev strings_trimLeftByte_E (Tb6 R) kk (sub [1, 0, 0, 0] strings_trimLeftByte_c)) [0, 1] [0] k (strings_trimLeftByte_h0 a0 a1) K) (fun a0 => K (.exit 0) (strings_trimLeftByte_x0_0 a0)) := by kernel_rfl
theorem strings_trimLeftByte_y0_0 (R : Type) (kk : Nat) (s_0 : ByteArray) (K : List SV → Option Box → Option R) : (kBlock 0 (kSeq strings_trimLeftByte_E (Tb6 R) kk (sub [1, 1] strings_trimLeftByte_c) (kFin strings_trimLeftByte_E Tryd.f65.results.toList none K))) (.exit 0) (strings_trimLeftByte_x0_0 s_0) =
  strings_trimLeftByte_s2 s_0 (fun a0 => K [.dat .str a0 []] none) := by kernel_rfl
theorem strings_trimLeftByte_lp0 (R : Type) (k : Nat) (s_0 : ByteArray) (c_1 : Int) (K : Ex → State → Option R) : loopR (ev strings_trimLeftByte_E (Tb6 R) FUEL (sub [1, 0, 0, 0] strings_trimLeftByte_c)) [0, 1] [0] k (strings_trimLeftByte_h0 s_0 c_1) K = (strings_trimLeftByte_l0 k s_0 c_1).bind fun e => K (.exit 0) (strings_trimLeftByte_x0_0 e) := by
  induction k generalizing s_0 c_1 with
  | zero => rfl
  | succ k ih =>
    rw [strings_trimLeftByte_d0]
    simp only [strings_trimLeftByte_l0, strings_trimLeftByte_s0_bind, strings_trimLeftByte_s1_bind, strings_trimLeftByte_s2_bind, ih, cond_bind, within_bind, none_bind, some_bind, sum_bind, bind_bind, Sum.elim_inl, Sum.elim_inr]
theorem strings_trimLeftByte_eq (R : Type) (s_0 : ByteArray) (c_1 : Int) (K : List SV → Option Box → Option R) : evFn strings_trimLeftByte_E (Tb6 R) FUEL Tryd.f65 strings_trimLeftByte_c [.dat .str s_0 [], .dat (.int .u8) c_1 []] none K = (strings_trimLeftByte s_0 c_1).bind fun r => K [.dat .str r []] none := by
  rw [strings_trimLeftByte_t]
  simp only [strings_trimLeftByte, strings_trimLeftByte_s0_bind, strings_trimLeftByte_s1_bind, strings_trimLeftByte_s2_bind, strings_trimLeftByte_lp0, strings_trimLeftByte_y0_0, cond_bind, within_bind, none_bind, some_bind, sum_bind, bind_bind, Sum.elim_inl, Sum.elim_inr]
def strings_trimLeftByte_g : Pure := fun R l b K => noBox b (args2 .str (.int .u8) l (fun x0 x1 => (strings_trimLeftByte x0 x1).bind fun r => K [.dat .str r []] none))
theorem strings_trimLeftByte_n : strings_trimLeftByte_g.Nat := fun R S l b F G K h => noBox_nat (args2_nat fun _ _ => bindr_nat fun _ => h _ _)
def Tb7 : Funs := Tb6.add 65 [.str, (.int .u8)] strings_trimLeftByte_g
theorem Tb7_nat : Tb7.Nat := add_nat Tb6_nat strings_trimLeftByte_n
theorem Tb7_owes : ∀ f, Owes Tryd.prog Tb7 f := add_owes (E := strings_trimLeftByte_E) (Tab.env_ok tab_ok _ _ _ _) mixed Tb6_nat Tb6_owes (fn := Tryd.f65) (code := strings_trimLeftByte_c) Tryd.func65 (by kernel_rfl) (by kernel_rfl) fun l b r b' h => by
  obtain ⟨rfl, h⟩ := noBox_some h
  obtain ⟨x0, x1, h1, h2⟩ := own2 (E := strings_trimLeftByte_E) rfl h
  exact ⟨FUEL, (h2 _ _ _ _ _ _).trans ((strings_trimLeftByte_eq _ x0 x1 _).trans h1)⟩
noncomputable abbrev strings_Trim_c : Code := Tryd.f46.body.getD .skip
def strings_Trim_E : Env := tab.env (fun _ => []) (fun _ => []) [] [.str, .str]
theorem strings_Trim_t (R : Type) (kk : Nat) (s_0 : ByteArray) (cutset_1 : ByteArray) (K : List SV → Option Box → Option R) : evFn strings_Trim_E (Tb7 R) kk Tryd.f46 strings_Trim_c [.dat .str s_0 [], .dat .str cutset_1 []] none K =
  strings_Trim_s0 s_0 cutset_1 (fun a0 => K [.dat .str a0 []] none) := by kernel_rfl
theorem strings_Trim_eq (R : Type) (s_0 : ByteArray) (cutset_1 : ByteArray) (K : List SV → Option Box → Option R) : evFn strings_Trim_E (Tb7 R) FUEL Tryd.f46 strings_Trim_c [.dat .str s_0 [], .dat .str cutset_1 []] none K = (strings_Trim s_0 cutset_1).bind fun r => K [.dat .str r []] none := by
  rw [strings_Trim_t]
  simp only [strings_Trim, strings_Trim_s0_bind, cond_bind, within_bind, none_bind, some_bind, sum_bind, bind_bind, Sum.elim_inl, Sum.elim_inr]
def strings_Trim_g : Pure := fun R l b K => noBox b (args2 .str .str l (fun x0 x1 => (strings_Trim x0 x1).bind fun r => K [.dat .str r []] none))
theorem strings_Trim_n : strings_Trim_g.Nat := fun R S l b F G K h => noBox_nat (args2_nat fun _ _ => bindr_nat fun _ => h _ _)
def Tb8 : Funs := Tb7.add 46 [.str, .str] strings_Trim_g
theorem Tb8_nat : Tb8.Nat := add_nat Tb7_nat strings_Trim_n
theorem Tb8_owes : ∀ f, Owes Tryd.prog Tb8 f := add_owes (E := strings_Trim_E) (Tab.env_ok tab_ok _ _ _ _) mixed Tb7_nat Tb7_owes (fn := Tryd.f46) (code := strings_Trim_c) Tryd.func46 (by kernel_rfl) (by kernel_rfl) fun l b r b' h => by
  obtain ⟨rfl, h⟩ := noBox_some h
  obtain ⟨x0, x1, h1, h2⟩ := own2 (E := strings_Trim_E) rfl h
  exact ⟨FUEL, (h2 _ _ _ _ _ _).trans ((strings_Trim_eq _ x0 x1 _).trans h1)⟩
noncomputable abbrev digits_Pad_c : Code := Tryd.f28.body.getD .skip
def digits_Pad_E : Env := tab.env (fun _ => []) (fun _ => []) [] [.str, (.int .i64)]
theorem digits_Pad_t (R : Type) (kk : Nat) (s_0 : ByteArray) (width_1 : Int) (K : List SV → Option Box → Option R) : evFn digits_Pad_E (Tb8 R) kk Tryd.f28 digits_Pad_c [.dat .str s_0 [], .dat (.int .i64) width_1 []] none K =
  digits_Pad_s0 s_0 width_1 (fun a0 a1 => K [.dat .str a0 [], .dat .bool a1 []] none) := by kernel_rfl
theorem digits_Pad_eq (R : Type) (s_0 : ByteArray) (width_1 : Int) (K : List SV → Option Box → Option R) : evFn digits_Pad_E (Tb8 R) FUEL Tryd.f28 digits_Pad_c [.dat .str s_0 [], .dat (.int .i64) width_1 []] none K = (digits_Pad s_0 width_1).bind fun r => K [.dat .str r.1 [], .dat .bool r.2 []] none := by
  rw [digits_Pad_t]
  simp only [digits_Pad, digits_Pad_s0_bind, cond_bind, within_bind, none_bind, some_bind, sum_bind, bind_bind, Sum.elim_inl, Sum.elim_inr]
def digits_Pad_g : Pure := fun R l b K => noBox b (args2 .str (.int .i64) l (fun x0 x1 => (digits_Pad x0 x1).bind fun r => K [.dat .str r.1 [], .dat .bool r.2 []] none))
theorem digits_Pad_n : digits_Pad_g.Nat := fun R S l b F G K h => noBox_nat (args2_nat fun _ _ => bindr_nat fun _ => h _ _)
def Tb9 : Funs := Tb8.add 28 [.str, (.int .i64)] digits_Pad_g
theorem Tb9_nat : Tb9.Nat := add_nat Tb8_nat digits_Pad_n
theorem Tb9_owes : ∀ f, Owes Tryd.prog Tb9 f := add_owes (E := digits_Pad_E) (Tab.env_ok tab_ok _ _ _ _) mixed Tb8_nat Tb8_owes (fn := Tryd.f28) (code := digits_Pad_c) Tryd.func28 (by kernel_rfl) (by kernel_rfl) fun l b r b' h => by
  obtain ⟨rfl, h⟩ := noBox_some h
  obtain ⟨x0, x1, h1, h2⟩ := own2 (E := digits_Pad_E) rfl h
  exact ⟨FUEL, (h2 _ _ _ _ _ _).trans ((digits_Pad_eq _ x0 x1 _).trans h1)⟩
noncomputable abbrev codes_Apply_c : Code := Tryd.f29.body.getD .skip
def codes_Apply_E : Env := tab.env (fun i => bif Nat.beq i 2 then [1, 8, 9, 10] else []) (fun i => bif Nat.beq i 2 then [4, 5] else []) [] [(.sl 53 (.pair .str (.pair .str .unit))), .str]
def codes_Apply_h0 (text_1 : ByteArray) (t8 : (List (ByteArray × ByteArray × Unit))) (t9 : Int) (t10 : Int) : State := ⟨[[.undef], [.dat .str text_1 []], [.undef], [.undef], [.undef], [.undef], [.undef], [.undef], [.dat (.sl 53 (.pair .str (.pair .str .unit))) t8 []], [.dat (.int .i64) t9 []], [.dat (.int .i64) t10 []], [.undef], [.undef], [.undef], [.undef], [.undef], [.undef], [.undef], [.undef], [.undef], [.undef]], [none, none, none, none, none, none, none, none, none, none, none, none, none, none, none, none, none, none, none, none, none, none]⟩
def codes_Apply_x0_0 (t4 : ByteArray) (t5 : Bool) : State := ⟨[[.undef], [.undef], [.undef], [.undef], [.dat .str t4 []], [.dat .bool t5 []], [.undef], [.undef], [.undef], [.undef], [.undef], [.undef], [.undef], [.undef], [.undef], [.undef], [.undef], [.undef], [.undef], [.undef], [.undef]], [none, none, none, none, none, none, none, none, none, none, none, none, none, none, none, none, none, none, none, none, none, none]⟩
def codes_Apply_x0_1  : State := ⟨[[.undef], [.undef], [.undef], [.undef], [.undef], [.undef], [.undef], [.undef], [.undef], [.undef], [.undef], [.undef], [.undef], [.undef], [.undef], [.undef], [.undef], [.undef], [.undef], [.undef], [.undef]], [none, none, none, none, none, none, none, none, none, none, none, none, none, none, none, none, none, none, none, none, none, none]⟩
theorem codes_Apply_t (R : Type) (kk : Nat) (l_0 : (List (ByteArray × ByteArray × Unit))) (text_1 : ByteArray) (K : List SV → Option Box → Option R) : evFn codes_Apply_E (Tb9 R) kk Tryd.f29 codes_Apply_c [.dat (.sl 53 (.pair .str (.pair .str .unit))) l_0 [], .dat .str text_1 []] none K =
  codes_Apply_s0 l_0 text_1 (fun a0 a1 a2 a3 => loopR (ev codes_Apply_E (Tb9 R) kk (sub [1, 0, 1, 0, 0] codes_Apply_c)) [1, 8, 9, 10] [4, 5] kk (codes_Apply_h0 a0 a1 a2 a3) (kBlock 0 (kSeq codes_Apply_E (Tb9 R) kk (sub [1, 1] codes_Apply_c) (kFin codes_Apply_E Tryd.f29.results.toList none K)))) := by kernel_rfl
theorem codes_Apply_d0 (R : Type) (kk k : Nat) (text_1 : ByteArray) (t8 : (List (ByteArray × ByteArray × Unit))) (t9 : Int) (t10 : Int) (K : Ex → State → Option R) : loopR (ev codes_Apply_E (Tb9 R) kk (sub [1, 0, 1, 0, 0] codes_Apply_c)) [1, 8, 9, 10] [4, 5] (k + 1) (codes_Apply_h0 text_1 t8 t9 t10) K =
  codes_Apply_s1 text_1 t8 t9 t10 (fun a0 a1 => K .ret (codes_Apply_x0_0 a0 a1)) (fun a0 a1 a2 a3 => loopR (ev codes_Apply_E (Tb9 R) kk (sub [1, 0, 1, 0, 0] codes_Apply_c)) [1, 8, 9, 10] [4, 5] k (codes_Apply_h0 a0 a1 a2 a3) K) (K (.exit 0) (codes_Apply_x0_1)) := by kernel_rfl
theorem codes_Apply_y0_0 (R : Type) (kk : Nat) (t4 : ByteArray) (t5 : Bool) (K : List SV → Option Box → Option R) : (kBlock 0 (kSeq codes_Apply_E (Tb9 R) kk (sub [1, 1] codes_Apply_c) (kFin codes_Apply_E Tryd.f29.results.toList none K))) .ret (codes_Apply_x0_0 t4 t5) =
  codes_Apply_s2 t4 t5 (fun a0 a1 => K [.dat .str a0 [], .dat .bool a1 []] none) := by kernel_rfl
theorem codes_Apply_y0_1 (R : Type) (kk : Nat)  (K : List SV → Option Box → Option R) : (kBlock 0 (kSeq codes_Apply_E (Tb9 R) kk (sub [1, 1] codes_Apply_c) (kFin codes_Apply_E Tryd.f29.results.toList none K))) (.exit 0) (codes_Apply_x0_1) =
  codes_Apply_s3 (fun a0 a1 => K [.dat .str a0 [], .dat .bool a1 []] none) := by kernel_rfl
theorem codes_Apply_lp0 (R : Type) (k : Nat) (text_1 : ByteArray) (t8 : (List (ByteArray × ByteArray × Unit))) (t9 : Int) (t10 : Int) (K : Ex → State → Option R) : loopR (ev codes_Apply_E (Tb9 R) FUEL (sub [1, 0, 1, 0, 0] codes_Apply_c)) [1, 8, 9, 10] [4, 5] k (codes_Apply_h0 text_1 t8 t9 t10) K = (codes_Apply_l0 k text_1 t8 t9 t10).bind fun e => (Sum.elim (fun (we : (ByteArray × Bool)) => K .ret (codes_Apply_x0_0 we.1 we.2)) (fun (we : Unit) => K (.exit 0) (codes_Apply_x0_1)) e) := by
  induction k generalizing text_1 t8 t9 t10 with
  | zero => rfl
  | succ k ih =>
    rw [codes_Apply_d0]
    simp only [codes_Apply_l0, codes_Apply_s0_bind, codes_Apply_s1_bind, codes_Apply_s2_bind, codes_Apply_s3_bind, ih, cond_bind, within_bind, none_bind, some_bind, sum_bind, bind_bind, Sum.elim_inl, Sum.elim_inr]
theorem codes_Apply_eq (R : Type) (l_0 : (List (ByteArray × ByteArray × Unit))) (text_1 : ByteArray) (K : List SV → Option Box → Option R) : evFn codes_Apply_E (Tb9 R) FUEL Tryd.f29 codes_Apply_c [.dat (.sl 53 (.pair .str (.pair .str .unit))) l_0 [], .dat .str text_1 []] none K = (codes_Apply l_0 text_1).bind fun r => K [.dat .str r.1 [], .dat .bool r.2 []] none := by
  rw [codes_Apply_t]
  simp only [codes_Apply, codes_Apply_s0_bind, codes_Apply_s1_bind, codes_Apply_s2_bind, codes_Apply_s3_bind, codes_Apply_lp0, codes_Apply_y0_0, codes_Apply_y0_1, cond_bind, within_bind, none_bind, some_bind, sum_bind, bind_bind, Sum.elim_inl, Sum.elim_inr]
def codes_Apply_g : Pure := fun R l b K => noBox b (args2 (.sl 53 (.pair .str (.pair .str .unit))) .str l (fun x0 x1 => (codes_Apply x0 x1).bind fun r => K [.dat .str r.1 [], .dat .bool r.2 []] none))
theorem codes_Apply_n : codes_Apply_g.Nat := fun R S l b F G K h => noBox_nat (args2_nat fun _ _ => bindr_nat fun _ => h _ _)
def Tb10 : Funs := Tb9.add 29 [(.sl 53 (.pair .str (.pair .str .unit))), .str] codes_Apply_g
theorem Tb10_nat : Tb10.Nat := add_nat Tb9_nat codes_Apply_n
theorem Tb10_owes : ∀ f, Owes Tryd.prog Tb10 f := add_owes (E := codes_Apply_E) (Tab.env_ok tab_ok _ _ _ _) mixed Tb9_nat Tb9_owes (fn := Tryd.f29) (code := codes_Apply_c) Tryd.func29 (by kernel_rfl) (by kernel_rfl) fun l b r b' h => by
  obtain ⟨rfl, h⟩ := noBox_some h
  obtain ⟨x0, x1, h1, h2⟩ := own2 (E := codes_Apply_E) rfl h
  exact ⟨FUEL, (h2 _ _ _ _ _ _).trans ((codes_Apply_eq _ x0 x1 _).trans h1)⟩
noncomputable abbrev rule_Apply_c : Code := Tryd.f13.body.getD .skip
def rule_Apply_E : Env := tab.env (fun _ => []) (fun _ => []) [6] [y7, y10, .str]
theorem rule_Apply_t (R : Type) (kk : Nat) (r_0 : (Int × Int × Int × ByteArray × (List (ByteArray × ByteArray × Unit)) × Unit)) (b_1 : (Int × Int × (List (Int × Int × Int × Int × Int × Unit)) × Unit)) (text_2 : ByteArray) (K : List SV → Option Box → Option R) : evFn rule_Apply_E (Tb10 R) kk Tryd.f13 rule_Apply_c [.dat y7 r_0 [], .dat y10 b_1 [], .dat .str text_2 []] none K =
  rule_Apply_s0 r_0 b_1 text_2 (fun a0 a1 => K [.dat (.pair (.int .i64) (.pair .str .unit)) a0 [], .dat (.int .i64) a1 []] none) := by kernel_rfl
theorem rule_Apply_eq (R : Type) (r_0 : (Int × Int × Int × ByteArray × (List (ByteArray × ByteArray × Unit)) × Unit)) (b_1 : (Int × Int × (List (Int × Int × Int × Int × Int × Unit)) × Unit)) (text_2 : ByteArray) (K : List SV → Option Box → Option R) : evFn rule_Apply_E (Tb10 R) FUEL Tryd.f13 rule_Apply_c [.dat y7 r_0 [], .dat y10 b_1 [], .dat .str text_2 []] none K = (rule_Apply r_0 b_1 text_2).bind fun r => K [.dat (.pair (.int .i64) (.pair .str .unit)) r.1 [], .dat (.int .i64) r.2 []] none := by
  rw [rule_Apply_t]
  simp only [rule_Apply, rule_Apply_s0_bind, cond_bind, within_bind, none_bind, some_bind, sum_bind, bind_bind, Sum.elim_inl, Sum.elim_inr]
def rule_Apply_g : Pure := fun R l b K => noBox b (args3 y7 y10 .str l (fun x0 x1 x2 => (rule_Apply x0 x1 x2).bind fun r => K [.dat (.pair (.int .i64) (.pair .str .unit)) r.1 [], .dat (.int .i64) r.2 []] none))
theorem rule_Apply_n : rule_Apply_g.Nat := fun R S l b F G K h => noBox_nat (args3_nat fun _ _ _ => bindr_nat fun _ => h _ _)
def Tb11 : Funs := Tb10.add 13 [y7, y10, .str] rule_Apply_g
theorem Tb11_nat : Tb11.Nat := add_nat Tb10_nat rule_Apply_n
theorem Tb11_owes : ∀ f, Owes Tryd.prog Tb11 f := add_owes (E := rule_Apply_E) (Tab.env_ok tab_ok _ _ _ _) mixed Tb10_nat Tb10_owes (fn := Tryd.f13) (code := rule_Apply_c) Tryd.func13 (by kernel_rfl) (by kernel_rfl) fun l b r b' h => by
  obtain ⟨rfl, h⟩ := noBox_some h
  obtain ⟨x0, x1, x2, h1, h2⟩ := own3 (E := rule_Apply_E) rfl h
  exact ⟨FUEL, (h2 _ _ _ _ _ _).trans ((rule_Apply_eq _ x0 x1 x2 _).trans h1)⟩
noncomputable abbrev rule_ends_c : Code := Tryd.f19.body.getD .skip
def rule_ends_E : Env := tab.env (fun _ => []) (fun _ => []) [6, 7] [y7, y10, y10]
theorem rule_ends_t (R : Type) (kk : Nat) (r_0 : (Int × Int × Int × ByteArray × (List (ByteArray × ByteArray × Unit)) × Unit)) (a_1 : (Int × Int × (List (Int × Int × Int × Int × Int × Unit)) × Unit)) (b_2 : (Int × Int × (List (Int × Int × Int × Int × Int × Unit)) × Unit)) (K : List SV → Option Box → Option R) : evFn rule_ends_E (Tb11 R) kk Tryd.f19 rule_ends_c [.dat y7 r_0 [], .dat y10 a_1 [], .dat y10 b_2 []] none K =
  rule_ends_s0 r_0 a_1 b_2 (fun a0 a1 a2 => K [.dat y5 a0 [], .dat y5 a1 [], .dat (.int .i64) a2 []] none) := by kernel_rfl
theorem rule_ends_eq (R : Type) (r_0 : (Int × Int × Int × ByteArray × (List (ByteArray × ByteArray × Unit)) × Unit)) (a_1 : (Int × Int × (List (Int × Int × Int × Int × Int × Unit)) × Unit)) (b_2 : (Int × Int × (List (Int × Int × Int × Int × Int × Unit)) × Unit)) (K : List SV → Option Box → Option R) : evFn rule_ends_E (Tb11 R) FUEL Tryd.f19 rule_ends_c [.dat y7 r_0 [], .dat y10 a_1 [], .dat y10 b_2 []] none K = (rule_ends r_0 a_1 b_2).bind fun r => K [.dat y5 r.1 [], .dat y5 r.2.1 [], .dat (.int .i64) r.2.2 []] none := by
  rw [rule_ends_t]
  simp only [rule_ends, rule_ends_s0_bind, cond_bind, within_bind, none_bind, some_bind, sum_bind, bind_bind, Sum.elim_inl, Sum.elim_inr]
def rule_ends_g : Pure := fun R l b K => noBox b (args3 y7 y10 y10 l (fun x0 x1 x2 => (rule_ends x0 x1 x2).bind fun r => K [.dat y5 r.1 [], .dat y5 r.2.1 [], .dat (.int .i64) r.2.2 []] none))
theorem rule_ends_n : rule_ends_g.Nat := fun R S l b F G K h => noBox_nat (args3_nat fun _ _ _ => bindr_nat fun _ => h _ _)
def Tb12 : Funs := Tb11.add 19 [y7, y10, y10] rule_ends_g
theorem Tb12_nat : Tb12.Nat := add_nat Tb11_nat rule_ends_n
theorem Tb12_owes : ∀ f, Owes Tryd.prog Tb12 f := add_owes (E := rule_ends_E) (Tab.env_ok tab_ok _ _ _ _) mixed Tb11_nat Tb11_owes (fn := Tryd.f19) (code := rule_ends_c) Tryd.func19 (by kernel_rfl) (by kernel_rfl) fun l b r b' h => by
  obtain ⟨rfl, h⟩ := noBox_some h
  obtain ⟨x0, x1, x2, h1, h2⟩ := own3 (E := rule_ends_E) rfl h
  exact ⟨FUEL, (h2 _ _ _ _ _ _).trans ((rule_ends_eq _ x0 x1 x2 _).trans h1)⟩
noncomputable abbrev class_sets_c : Code := Tryd.f55.body.getD .skip
def class_sets_E : Env := tab.env (fun _ => []) (fun _ => []) [] [(.int .i64)]
theorem class_sets_t (R : Type) (kk : Nat) (class_0 : Int) (K : List SV → Option Box → Option R) : evFn class_sets_E (Tb12 R) kk Tryd.f55 class_sets_c [.dat (.int .i64) class_0 []] none K =
  class_sets_s0 class_0 (fun a0 => K [.dat (.int .i64) a0 []] none) := by kernel_rfl
theorem class_sets_eq (R : Type) (class_0 : Int) (K : List SV → Option Box → Option R) : evFn class_sets_E (Tb12 R) FUEL Tryd.f55 class_sets_c [.dat (.int .i64) class_0 []] none K = (class_sets class_0).bind fun r => K [.dat (.int .i64) r []] none := by
  rw [class_sets_t]
  simp only [class_sets, class_sets_s0_bind, cond_bind, within_bind, none_bind, some_bind, sum_bind, bind_bind, Sum.elim_inl, Sum.elim_inr]
def class_sets_g : Pure := fun R l b K => noBox b (args1 (.int .i64) l (fun x0 => (class_sets x0).bind fun r => K [.dat (.int .i64) r []] none))
theorem class_sets_n : class_sets_g.Nat := fun R S l b F G K h => noBox_nat (args1_nat fun _ => bindr_nat fun _ => h _ _)
def Tb13 : Funs := Tb12.add 55 [(.int .i64)] class_sets_g
theorem Tb13_nat : Tb13.Nat := add_nat Tb12_nat class_sets_n
theorem Tb13_owes : ∀ f, Owes Tryd.prog Tb13 f := add_owes (E := class_sets_E) (Tab.env_ok tab_ok _ _ _ _) mixed Tb12_nat Tb12_owes (fn := Tryd.f55) (code := class_sets_c) Tryd.func55 (by kernel_rfl) (by kernel_rfl) fun l b r b' h => by
  obtain ⟨rfl, h⟩ := noBox_some h
  obtain ⟨x0, h1, h2⟩ := own1 (E := class_sets_E) rfl h
  exact ⟨FUEL, (h2 _ _ _ _ _ _).trans ((class_sets_eq _ x0 _).trans h1)⟩
noncomputable abbrev class_Known_c : Code := Tryd.f52.body.getD .skip
def class_Known_E : Env := tab.env (fun _ => []) (fun _ => []) [] [(.int .i64)]
theorem class_Known_t (R : Type) (kk : Nat) (class_0 : Int) (K : List SV → Option Box → Option R) : evFn class_Known_E (Tb13 R) kk Tryd.f52 class_Known_c [.dat (.int .i64) class_0 []] none K =
  class_Known_s0 class_0 (fun a0 => K [.dat .bool a0 []] none) := by kernel_rfl
theorem class_Known_eq (R : Type) (class_0 : Int) (K : List SV → Option Box → Option R) : evFn class_Known_E (Tb13 R) FUEL Tryd.f52 class_Known_c [.dat (.int .i64) class_0 []] none K = (class_Known class_0).bind fun r => K [.dat .bool r []] none := by
  rw [class_Known_t]
  simp only [class_Known, class_Known_s0_bind, cond_bind, within_bind, none_bind, some_bind, sum_bind, bind_bind, Sum.elim_inl, Sum.elim_inr]
def class_Known_g : Pure := fun R l b K => noBox b (args1 (.int .i64) l (fun x0 => (class_Known x0).bind fun r => K [.dat .bool r []] none))
theorem class_Known_n : class_Known_g.Nat := fun R S l b F G K h => noBox_nat (args1_nat fun _ => bindr_nat fun _ => h _ _)
def Tb14 : Funs := Tb13.add 52 [(.int .i64)] class_Known_g
theorem Tb14_nat : Tb14.Nat := add_nat Tb13_nat class_Known_n
theorem Tb14_owes : ∀ f, Owes Tryd.prog Tb14 f := add_owes (E := class_Known_E) (Tab.env_ok tab_ok _ _ _ _) mixed Tb13_nat Tb13_owes (fn := Tryd.f52) (code := class_Known_c) Tryd.func52 (by kernel_rfl) (by kernel_rfl) fun l b r b' h => by
  obtain ⟨rfl, h⟩ := noBox_some h
  obtain ⟨x0, h1, h2⟩ := own1 (E := class_Known_E) rfl h
  exact ⟨FUEL, (h2 _ _ _ _ _ _).trans ((class_Known_eq _ x0 _).trans h1)⟩
noncomputable abbrev prefix_width_c : Code := Tryd.f74.body.getD .skip
def prefix_width_E : Env := tab.env (fun _ => []) (fun _ => []) [] [(.int .i64)]
theorem prefix_width_t (R : Type) (kk : Nat) (form_0 : Int) (K : List SV → Option Box → Option R) : evFn prefix_width_E (Tb14 R) kk Tryd.f74 prefix_width_c [.dat (.int .i64) form_0 []] none K =
  prefix_width_s0 form_0 (fun a0 => K [.dat (.int .i64) a0 []] none) := by kernel_rfl
theorem prefix_width_eq (R : Type) (form_0 : Int) (K : List SV → Option Box → Option R) : evFn prefix_width_E (Tb14 R) FUEL Tryd.f74 prefix_width_c [.dat (.int .i64) form_0 []] none K = (prefix_width form_0).bind fun r => K [.dat (.int .i64) r []] none := by
  rw [prefix_width_t]
  simp only [prefix_width, prefix_width_s0_bind, cond_bind, within_bind, none_bind, some_bind, sum_bind, bind_bind, Sum.elim_inl, Sum.elim_inr]
def prefix_width_g : Pure := fun R l b K => noBox b (args1 (.int .i64) l (fun x0 => (prefix_width x0).bind fun r => K [.dat (.int .i64) r []] none))
theorem prefix_width_n : prefix_width_g.Nat := fun R S l b F G K h => noBox_nat (args1_nat fun _ => bindr_nat fun _ => h _ _)
def Tb15 : Funs := Tb14.add 74 [(.int .i64)] prefix_width_g
theorem Tb15_nat : Tb15.Nat := add_nat Tb14_nat prefix_width_n
theorem Tb15_owes : ∀ f, Owes Tryd.prog Tb15 f := add_owes (E := prefix_width_E) (Tab.env_ok tab_ok _ _ _ _) mixed Tb14_nat Tb14_owes (fn := Tryd.f74) (code := prefix_width_c) Tryd.func74 (by kernel_rfl) (by kernel_rfl) fun l b r b' h => by
  obtain ⟨rfl, h⟩ := noBox_some h
  obtain ⟨x0, h1, h2⟩ := own1 (E := prefix_width_E) rfl h
  exact ⟨FUEL, (h2 _ _ _ _ _ _).trans ((prefix_width_eq _ x0 _).trans h1)⟩
noncomputable abbrev prefix_Most_c : Code := Tryd.f53.body.getD .skip
def prefix_Most_E : Env := tab.env (fun i => bif Nat.beq i 3 then [3, 5, 6] else []) (fun i => bif Nat.beq i 3 then [3] else []) [] [(.int .i64)]
def prefix_Most_h0 (t3 : Int) (t5 : Int) (t6 : Int) : State := ⟨[[.undef], [.undef], [.undef], [.dat (.int .i64) t3 []], [.undef], [.dat (.int .i64) t5 []], [.dat (.int .i64) t6 []], [.undef], [.undef], [.undef], [.undef], [.undef], [.undef]], [none, none, none, none, none, none, none, none, none, none, none, none, none, none]⟩
def prefix_Most_x0_0 (t3 : Int) : State := ⟨[[.undef], [.undef], [.undef], [.dat (.int .i64) t3 []], [.undef], [.undef], [.undef], [.undef], [.undef], [.undef], [.undef], [.undef], [.undef]], [none, none, none, none, none, none, none, none, none, none, none, none, none, none]⟩
theorem prefix_Most_t (R : Type) (kk : Nat) (form_0 : Int) (K : List SV → Option Box → Option R) : evFn prefix_Most_E (Tb15 R) kk Tryd.f53 prefix_Most_c [.dat (.int .i64) form_0 []] none K =
  prefix_Most_s0 form_0 (fun a0 a1 a2 => loopR (ev prefix_Most_E (Tb15 R) kk (sub [1, 1, 0, 1, 0, 0] prefix_Most_c)) [3, 5, 6] [3] kk (prefix_Most_h0 a0 a1 a2) (kBlock 0 (kSeq prefix_Most_E (Tb15 R) kk (sub [1, 1, 1] prefix_Most_c) (kFin prefix_Most_E Tryd.f53.results.toList none K)))) := by kernel_rfl
theorem prefix_Most_d0 (R : Type) (kk k : Nat) (t3 : Int) (t5 : Int) (t6 : Int) (K : Ex → State → Option R) : loopR (ev prefix_Most_E (Tb15 R) kk (sub [1, 1, 0, 1, 0, 0] prefix_Most_c)) [3, 5, 6] [3] (k + 1) (prefix_Most_h0 t3 t5 t6) K =
  prefix_Most_s1 t3 t5 t6 (fun a0 a1 a2 => loopR (ev prefix_Most_E (Tb15 R) kk (sub [1, 1, 0, 1, 0, 0] prefix_Most_c)) [3, 5, 6] [3] k (prefix_Most_h0 a0 a1 a2) K) (fun a0 => K (.exit 0) (prefix_Most_x0_0 a0)) := by kernel_rfl
theorem prefix_Most_y0_0 (R : Type) (kk : Nat) (t3 : Int) (K : List SV → Option Box → Option R) : (kBlock 0 (kSeq prefix_Most_E (Tb15 R) kk (sub [1, 1, 1] prefix_Most_c) (kFin prefix_Most_E Tryd.f53.results.toList none K))) (.exit 0) (prefix_Most_x0_0 t3) =
  prefix_Most_s2 t3 (fun a0 => K [.dat (.int .i64) a0 []] none) := by kernel_rfl
theorem prefix_Most_lp0 (R : Type) (k : Nat) (t3 : Int) (t5 : Int) (t6 : Int) (K : Ex → State → Option R) : loopR (ev prefix_Most_E (Tb15 R) FUEL (sub [1, 1, 0, 1, 0, 0] prefix_Most_c)) [3, 5, 6] [3] k (prefix_Most_h0 t3 t5 t6) K = (prefix_Most_l0 k t3 t5 t6).bind fun e => K (.exit 0) (prefix_Most_x0_0 e) := by
  induction k generalizing t3 t5 t6 with
  | zero => rfl
  | succ k ih =>
    rw [prefix_Most_d0]
    simp only [prefix_Most_l0, prefix_Most_s0_bind, prefix_Most_s1_bind, prefix_Most_s2_bind, ih, cond_bind, within_bind, none_bind, some_bind, sum_bind, bind_bind, Sum.elim_inl, Sum.elim_inr]
theorem prefix_Most_eq (R : Type) (form_0 : Int) (K : List SV → Option Box → Option R) : evFn prefix_Most_E (Tb15 R) FUEL Tryd.f53 prefix_Most_c [.dat (.int .i64) form_0 []] none K = (prefix_Most form_0).bind fun r => K [.dat (.int .i64) r []] none := by
  rw [prefix_Most_t]
  simp only [prefix_Most, prefix_Most_s0_bind, prefix_Most_s1_bind, prefix_Most_s2_bind, prefix_Most_lp0, prefix_Most_y0_0, cond_bind, within_bind, none_bind, some_bind, sum_bind, bind_bind, Sum.elim_inl, Sum.elim_inr]
def prefix_Most_g : Pure := fun R l b K => noBox b (args1 (.int .i64) l (fun x0 => (prefix_Most x0).bind fun r => K [.dat (.int .i64) r []] none))
theorem prefix_Most_n : prefix_Most_g.Nat := fun R S l b F G K h => noBox_nat (args1_nat fun _ => bindr_nat fun _ => h _ _)
def Tb16 : Funs := Tb15.add 53 [(.int .i64)] prefix_Most_g
theorem Tb16_nat : Tb16.Nat := add_nat Tb15_nat prefix_Most_n
theorem Tb16_owes : ∀ f, Owes Tryd.prog Tb16 f := add_owes (E := prefix_Most_E) (Tab.env_ok tab_ok _ _ _ _) mixed Tb15_nat Tb15_owes (fn := Tryd.f53) (code := prefix_Most_c) Tryd.func53 (by kernel_rfl) (by kernel_rfl) fun l b r b' h => by
  obtain ⟨rfl, h⟩ := noBox_some h
  obtain ⟨x0, h1, h2⟩ := own1 (E := prefix_Most_E) rfl h
  exact ⟨FUEL, (h2 _ _ _ _ _ _).trans ((prefix_Most_eq _ x0 _).trans h1)⟩
noncomputable abbrev spec_Check_c : Code := Tryd.f37.body.getD .skip
def spec_Check_E : Env := tab.env (fun _ => []) (fun _ => []) [] [y5]
theorem spec_Check_t (R : Type) (kk : Nat) (s_0 : (Int × Int × Int × Int × Int × Unit)) (K : List SV → Option Box → Option R) : evFn spec_Check_E (Tb16 R) kk Tryd.f37 spec_Check_c [.dat y5 s_0 []] none K =
  spec_Check_s0 s_0 (fun a0 => K [.dat (.int .i64) a0 []] none) := by kernel_rfl
theorem spec_Check_eq (R : Type) (s_0 : (Int × Int × Int × Int × Int × Unit)) (K : List SV → Option Box → Option R) : evFn spec_Check_E (Tb16 R) FUEL Tryd.f37 spec_Check_c [.dat y5 s_0 []] none K = (spec_Check s_0).bind fun r => K [.dat (.int .i64) r []] none := by
  rw [spec_Check_t]
  simp only [spec_Check, spec_Check_s0_bind, cond_bind, within_bind, none_bind, some_bind, sum_bind, bind_bind, Sum.elim_inl, Sum.elim_inr]
def spec_Check_g : Pure := fun R l b K => noBox b (args1 y5 l (fun x0 => (spec_Check x0).bind fun r => K [.dat (.int .i64) r []] none))
theorem spec_Check_n : spec_Check_g.Nat := fun R S l b F G K h => noBox_nat (args1_nat fun _ => bindr_nat fun _ => h _ _)
def Tb17 : Funs := Tb16.add 37 [y5] spec_Check_g
theorem Tb17_nat : Tb17.Nat := add_nat Tb16_nat spec_Check_n
theorem Tb17_owes : ∀ f, Owes Tryd.prog Tb17 f := add_owes (E := spec_Check_E) (Tab.env_ok tab_ok _ _ _ _) mixed Tb16_nat Tb16_owes (fn := Tryd.f37) (code := spec_Check_c) Tryd.func37 (by kernel_rfl) (by kernel_rfl) fun l b r b' h => by
  obtain ⟨rfl, h⟩ := noBox_some h
  obtain ⟨x0, h1, h2⟩ := own1 (E := spec_Check_E) rfl h
  exact ⟨FUEL, (h2 _ _ _ _ _ _).trans ((spec_Check_eq _ x0 _).trans h1)⟩
noncomputable abbrev class_Wider_c : Code := Tryd.f54.body.getD .skip
def class_Wider_E : Env := tab.env (fun _ => []) (fun _ => []) [] [(.int .i64), (.int .i64)]
theorem class_Wider_t (R : Type) (kk : Nat) (a_0 : Int) (b_1 : Int) (K : List SV → Option Box → Option R) : evFn class_Wider_E (Tb17 R) kk Tryd.f54 class_Wider_c [.dat (.int .i64) a_0 [], .dat (.int .i64) b_1 []] none K =
  class_Wider_s0 a_0 b_1 (fun a0 => K [.dat .bool a0 []] none) := by kernel_rfl
theorem class_Wider_eq (R : Type) (a_0 : Int) (b_1 : Int) (K : List SV → Option Box → Option R) : evFn class_Wider_E (Tb17 R) FUEL Tryd.f54 class_Wider_c [.dat (.int .i64) a_0 [], .dat (.int .i64) b_1 []] none K = (class_Wider a_0 b_1).bind fun r => K [.dat .bool r []] none := by
  rw [class_Wider_t]
  simp only [class_Wider, class_Wider_s0_bind, cond_bind, within_bind, none_bind, some_bind, sum_bind, bind_bind, Sum.elim_inl, Sum.elim_inr]
def class_Wider_g : Pure := fun R l b K => noBox b (args2 (.int .i64) (.int .i64) l (fun x0 x1 => (class_Wider x0 x1).bind fun r => K [.dat .bool r []] none))
theorem class_Wider_n : class_Wider_g.Nat := fun R S l b F G K h => noBox_nat (args2_nat fun _ _ => bindr_nat fun _ => h _ _)
def Tb18 : Funs := Tb17.add 54 [(.int .i64), (.int .i64)] class_Wider_g
theorem Tb18_nat : Tb18.Nat := add_nat Tb17_nat class_Wider_n
theorem Tb18_owes : ∀ f, Owes Tryd.prog Tb18 f := add_owes (E := class_Wider_E) (Tab.env_ok tab_ok _ _ _ _) mixed Tb17_nat Tb17_owes (fn := Tryd.f54) (code := class_Wider_c) Tryd.func54 (by kernel_rfl) (by kernel_rfl) fun l b r b' h => by
  obtain ⟨rfl, h⟩ := noBox_some h
  obtain ⟨x0, x1, h1, h2⟩ := own2 (E := class_Wider_E) rfl h
  exact ⟨FUEL, (h2 _ _ _ _ _ _).trans ((class_Wider_eq _ x0 x1 _).trans h1)⟩
noncomputable abbrev spec_classes_c : Code := Tryd.f38.body.getD .skip
def spec_classes_E : Env := tab.env (fun _ => []) (fun _ => []) [] [(.int .i64), (.int .i64)]
theorem spec_classes_t (R : Type) (kk : Nat) (a_0 : Int) (b_1 : Int) (K : List SV → Option Box → Option R) : evFn spec_classes_E (Tb18 R) kk Tryd.f38 spec_classes_c [.dat (.int .i64) a_0 [], .dat (.int .i64) b_1 []] none K =
  spec_classes_s0 a_0 b_1 (fun a0 => K [.dat .bool a0 []] none) := by kernel_rfl
theorem spec_classes_eq (R : Type) (a_0 : Int) (b_1 : Int) (K : List SV → Option Box → Option R) : evFn spec_classes_E (Tb18 R) FUEL Tryd.f38 spec_classes_c [.dat (.int .i64) a_0 [], .dat (.int .i64) b_1 []] none K = (spec_classes a_0 b_1).bind fun r => K [.dat .bool r []] none := by
  rw [spec_classes_t]
  simp only [spec_classes, spec_classes_s0_bind, cond_bind, within_bind, none_bind, some_bind, sum_bind, bind_bind, Sum.elim_inl, Sum.elim_inr]
def spec_classes_g : Pure := fun R l b K => noBox b (args2 (.int .i64) (.int .i64) l (fun x0 x1 => (spec_classes x0 x1).bind fun r => K [.dat .bool r []] none))
theorem spec_classes_n : spec_classes_g.Nat := fun R S l b F G K h => noBox_nat (args2_nat fun _ _ => bindr_nat fun _ => h _ _)
def Tb19 : Funs := Tb18.add 38 [(.int .i64), (.int .i64)] spec_classes_g
theorem Tb19_nat : Tb19.Nat := add_nat Tb18_nat spec_classes_n
theorem Tb19_owes : ∀ f, Owes Tryd.prog Tb19 f := add_owes (E := spec_classes_E) (Tab.env_ok tab_ok _ _ _ _) mixed Tb18_nat Tb18_owes (fn := Tryd.f38) (code := spec_classes_c) Tryd.func38 (by kernel_rfl) (by kernel_rfl) fun l b r b' h => by
  obtain ⟨rfl, h⟩ := noBox_some h
  obtain ⟨x0, x1, h1, h2⟩ := own2 (E := spec_classes_E) rfl h
  exact ⟨FUEL, (h2 _ _ _ _ _ _).trans ((spec_classes_eq _ x0 x1 _).trans h1)⟩
noncomputable abbrev spec_Wider_c : Code := Tryd.f20.body.getD .skip
def spec_Wider_E : Env := tab.env (fun _ => []) (fun _ => []) [] [y5, y5]
theorem spec_Wider_t (R : Type) (kk : Nat) (a_0 : (Int × Int × Int × Int × Int × Unit)) (b_1 : (Int × Int × Int × Int × Int × Unit)) (K : List SV → Option Box → Option R) : evFn spec_Wider_E (Tb19 R) kk Tryd.f20 spec_Wider_c [.dat y5 a_0 [], .dat y5 b_1 []] none K =
  spec_Wider_s0 a_0 b_1 (fun a0 => K [.dat .bool a0 []] none) := by kernel_rfl
theorem spec_Wider_eq (R : Type) (a_0 : (Int × Int × Int × Int × Int × Unit)) (b_1 : (Int × Int × Int × Int × Int × Unit)) (K : List SV → Option Box → Option R) : evFn spec_Wider_E (Tb19 R) FUEL Tryd.f20 spec_Wider_c [.dat y5 a_0 [], .dat y5 b_1 []] none K = (spec_Wider a_0 b_1).bind fun r => K [.dat .bool r []] none := by
  rw [spec_Wider_t]
  simp only [spec_Wider, spec_Wider_s0_bind, cond_bind, within_bind, none_bind, some_bind, sum_bind, bind_bind, Sum.elim_inl, Sum.elim_inr]
def spec_Wider_g : Pure := fun R l b K => noBox b (args2 y5 y5 l (fun x0 x1 => (spec_Wider x0 x1).bind fun r => K [.dat .bool r []] none))
theorem spec_Wider_n : spec_Wider_g.Nat := fun R S l b F G K h => noBox_nat (args2_nat fun _ _ => bindr_nat fun _ => h _ _)
def Tb20 : Funs := Tb19.add 20 [y5, y5] spec_Wider_g
theorem Tb20_nat : Tb20.Nat := add_nat Tb19_nat spec_Wider_n
theorem Tb20_owes : ∀ f, Owes Tryd.prog Tb20 f := add_owes (E := spec_Wider_E) (Tab.env_ok tab_ok _ _ _ _) mixed Tb19_nat Tb19_owes (fn := Tryd.f20) (code := spec_Wider_c) Tryd.func20 (by kernel_rfl) (by kernel_rfl) fun l b r b' h => by
  obtain ⟨rfl, h⟩ := noBox_some h
  obtain ⟨x0, x1, h1, h2⟩ := own2 (E := spec_Wider_E) rfl h
  exact ⟨FUEL, (h2 _ _ _ _ _ _).trans ((spec_Wider_eq _ x0 x1 _).trans h1)⟩
noncomputable abbrev class_of_c : Code := Tryd.f56.body.getD .skip
def class_of_E : Env := tab.env (fun _ => []) (fun _ => []) [] [(.int .u8)]
theorem class_of_t (R : Type) (kk : Nat) (b_0 : Int) (K : List SV → Option Box → Option R) : evFn class_of_E (Tb20 R) kk Tryd.f56 class_of_c [.dat (.int .u8) b_0 []] none K =
  class_of_s0 b_0 (fun a0 => K [.dat (.int .i64) a0 []] none) := by kernel_rfl
theorem class_of_eq (R : Type) (b_0 : Int) (K : List SV → Option Box → Option R) : evFn class_of_E (Tb20 R) FUEL Tryd.f56 class_of_c [.dat (.int .u8) b_0 []] none K = (class_of b_0).bind fun r => K [.dat (.int .i64) r []] none := by
  rw [class_of_t]
  simp only [class_of, class_of_s0_bind, cond_bind, within_bind, none_bind, some_bind, sum_bind, bind_bind, Sum.elim_inl, Sum.elim_inr]
def class_of_g : Pure := fun R l b K => noBox b (args1 (.int .u8) l (fun x0 => (class_of x0).bind fun r => K [.dat (.int .i64) r []] none))
theorem class_of_n : class_of_g.Nat := fun R S l b F G K h => noBox_nat (args1_nat fun _ => bindr_nat fun _ => h _ _)
def Tb21 : Funs := Tb20.add 56 [(.int .u8)] class_of_g
theorem Tb21_nat : Tb21.Nat := add_nat Tb20_nat class_of_n
theorem Tb21_owes : ∀ f, Owes Tryd.prog Tb21 f := add_owes (E := class_of_E) (Tab.env_ok tab_ok _ _ _ _) mixed Tb20_nat Tb20_owes (fn := Tryd.f56) (code := class_of_c) Tryd.func56 (by kernel_rfl) (by kernel_rfl) fun l b r b' h => by
  obtain ⟨rfl, h⟩ := noBox_some h
  obtain ⟨x0, h1, h2⟩ := own1 (E := class_of_E) rfl h
  exact ⟨FUEL, (h2 _ _ _ _ _ _).trans ((class_of_eq _ x0 _).trans h1)⟩
noncomputable abbrev class_First_c : Code := Tryd.f39.body.getD .skip
def class_First_E : Env := tab.env (fun i => bif Nat.beq i 3 then [1, 5, 6] else []) (fun i => bif Nat.beq i 3 then [4] else []) [] [(.int .i64), .str]
def class_First_h0 (s_1 : ByteArray) (t5 : Int) (t6 : Int) : State := ⟨[[.undef], [.dat .str s_1 []], [.undef], [.undef], [.undef], [.dat (.int .i64) t5 []], [.dat (.int .i64) t6 []], [.undef], [.undef], [.undef], [.undef], [.undef], [.undef], [.undef], [.undef], [.undef], [.undef], [.undef], [.undef], [.undef], [.undef], [.undef], [.undef]], [none, none, none, none, none, none, none, none, none, none, none, none, none, none, none, none, none, none, none, none, none, none, none, none]⟩
def class_First_x0_0 (t4 : Int) : State := ⟨[[.undef], [.undef], [.undef], [.undef], [.dat (.int .i64) t4 []], [.undef], [.undef], [.undef], [.undef], [.undef], [.undef], [.undef], [.undef], [.undef], [.undef], [.undef], [.undef], [.undef], [.undef], [.undef], [.undef], [.undef], [.undef]], [none, none, none, none, none, none, none, none, none, none, none, none, none, none, none, none, none, none, none, none, none, none, none, none]⟩
def class_First_x0_1  : State := ⟨[[.undef], [.undef], [.undef], [.undef], [.undef], [.undef], [.undef], [.undef], [.undef], [.undef], [.undef], [.undef], [.undef], [.undef], [.undef], [.undef], [.undef], [.undef], [.undef], [.undef], [.undef], [.undef], [.undef]], [none, none, none, none, none, none, none, none, none, none, none, none, none, none, none, none, none, none, none, none, none, none, none, none]⟩
theorem class_First_t (R : Type) (kk : Nat) (class_0 : Int) (s_1 : ByteArray) (K : List SV → Option Box → Option R) : evFn class_First_E (Tb21 R) kk Tryd.f39 class_First_c [.dat (.int .i64) class_0 [], .dat .str s_1 []] none K =
  class_First_s0 class_0 s_1 (fun a0 a1 a2 => loopR (ev class_First_E (Tb21 R) kk (sub [1, 1, 0, 1, 0, 0] class_First_c)) [1, 5, 6] [4] kk (class_First_h0 a0 a1 a2) (kBlock 0 (kSeq class_First_E (Tb21 R) kk (sub [1, 1, 1] class_First_c) (kFin class_First_E Tryd.f39.results.toList none K)))) := by kernel_rfl
theorem class_First_d0 (R : Type) (kk k : Nat) (s_1 : ByteArray) (t5 : Int) (t6 : Int) (K : Ex → State → Option R) : loopR (ev class_First_E (Tb21 R) kk (sub [1, 1, 0, 1, 0, 0] class_First_c)) [1, 5, 6] [4] (k + 1) (class_First_h0 s_1 t5 t6) K =
  class_First_s1 s_1 t5 t6 (fun a0 => K .ret (class_First_x0_0 a0)) (fun a0 a1 a2 => loopR (ev class_First_E (Tb21 R) kk (sub [1, 1, 0, 1, 0, 0] class_First_c)) [1, 5, 6] [4] k (class_First_h0 a0 a1 a2) K) (K (.exit 0) (class_First_x0_1)) := by kernel_rfl
theorem class_First_y0_0 (R : Type) (kk : Nat) (t4 : Int) (K : List SV → Option Box → Option R) : (kBlock 0 (kSeq class_First_E (Tb21 R) kk (sub [1, 1, 1] class_First_c) (kFin class_First_E Tryd.f39.results.toList none K))) .ret (class_First_x0_0 t4) =
  class_First_s2 t4 (fun a0 => K [.dat (.int .i64) a0 []] none) := by kernel_rfl
theorem class_First_y0_1 (R : Type) (kk : Nat)  (K : List SV → Option Box → Option R) : (kBlock 0 (kSeq class_First_E (Tb21 R) kk (sub [1, 1, 1] class_First_c) (kFin class_First_E Tryd.f39.results.toList none K))) (.exit 0) (class_First_x0_1) =
  class_First_s3 (fun a0 => K [.dat (.int .i64) a0 []] none) := by kernel_rfl
theorem class_First_lp0 (R : Type) (k : Nat) (s_1 : ByteArray) (t5 : Int) (t6 : Int) (K : Ex → State → Option R) : loopR (ev class_First_E (Tb21 R) FUEL (sub [1, 1, 0, 1, 0, 0] class_First_c)) [1, 5, 6] [4] k (class_First_h0 s_1 t5 t6) K = (class_First_l0 k s_1 t5 t6).bind fun e => (Sum.elim (fun (we : Int) => K .ret (class_First_x0_0 we)) (fun (we : Unit) => K (.exit 0) (class_First_x0_1)) e) := by
  induction k generalizing s_1 t5 t6 with
  | zero => rfl
  | succ k ih =>
    rw [class_First_d0]
    simp only [class_First_l0, class_First_s0_bind, class_First_s1_bind, class_First_s2_bind, class_First_s3_bind, ih, cond_bind, within_bind, none_bind, some_bind, sum_bind, bind_bind, Sum.elim_inl, Sum.elim_inr]
theorem class_First_eq (R : Type) (class_0 : Int) (s_1 : ByteArray) (K : List SV → Option Box → Option R) : evFn class_First_E (Tb21 R) FUEL Tryd.f39 class_First_c [.dat (.int .i64) class_0 [], .dat .str s_1 []] none K = (class_First class_0 s_1).bind fun r => K [.dat (.int .i64) r []] none := by
  rw [class_First_t]
  simp only [class_First, class_First_s0_bind, class_First_s1_bind, class_First_s2_bind, class_First_s3_bind, class_First_lp0, class_First_y0_0, class_First_y0_1, cond_bind, within_bind, none_bind, some_bind, sum_bind, bind_bind, Sum.elim_inl, Sum.elim_inr]
def class_First_g : Pure := fun R l b K => noBox b (args2 (.int .i64) .str l (fun x0 x1 => (class_First x0 x1).bind fun r => K [.dat (.int .i64) r []] none))
theorem class_First_n : class_First_g.Nat := fun R S l b F G K h => noBox_nat (args2_nat fun _ _ => bindr_nat fun _ => h _ _)
def Tb22 : Funs := Tb21.add 39 [(.int .i64), .str] class_First_g
theorem Tb22_nat : Tb22.Nat := add_nat Tb21_nat class_First_n
theorem Tb22_owes : ∀ f, Owes Tryd.prog Tb22 f := add_owes (E := class_First_E) (Tab.env_ok tab_ok _ _ _ _) mixed Tb21_nat Tb21_owes (fn := Tryd.f39) (code := class_First_c) Tryd.func39 (by kernel_rfl) (by kernel_rfl) fun l b r b' h => by
  obtain ⟨rfl, h⟩ := noBox_some h
  obtain ⟨x0, x1, h1, h2⟩ := own2 (E := class_First_E) rfl h
  exact ⟨FUEL, (h2 _ _ _ _ _ _).trans ((class_First_eq _ x0 x1 _).trans h1)⟩
noncomputable abbrev tag_first_c : Code := Tryd.f75.body.getD .skip
def tag_first_E : Env := tab.env (fun _ => []) (fun _ => []) [] [(.int .i64)]
theorem tag_first_t (R : Type) (kk : Nat) (b_0 : Int) (K : List SV → Option Box → Option R) : evFn tag_first_E (Tb22 R) kk Tryd.f75 tag_first_c [.dat (.int .i64) b_0 []] none K =
  tag_first_s0 b_0 (fun a0 => K [.dat .bool a0 []] none) := by kernel_rfl
theorem tag_first_eq (R : Type) (b_0 : Int) (K : List SV → Option Box → Option R) : evFn tag_first_E (Tb22 R) FUEL Tryd.f75 tag_first_c [.dat (.int .i64) b_0 []] none K = (tag_first b_0).bind fun r => K [.dat .bool r []] none := by
  rw [tag_first_t]
  simp only [tag_first, tag_first_s0_bind, cond_bind, within_bind, none_bind, some_bind, sum_bind, bind_bind, Sum.elim_inl, Sum.elim_inr]
def tag_first_g : Pure := fun R l b K => noBox b (args1 (.int .i64) l (fun x0 => (tag_first x0).bind fun r => K [.dat .bool r []] none))
theorem tag_first_n : tag_first_g.Nat := fun R S l b F G K h => noBox_nat (args1_nat fun _ => bindr_nat fun _ => h _ _)
def Tb23 : Funs := Tb22.add 75 [(.int .i64)] tag_first_g
theorem Tb23_nat : Tb23.Nat := add_nat Tb22_nat tag_first_n
theorem Tb23_owes : ∀ f, Owes Tryd.prog Tb23 f := add_owes (E := tag_first_E) (Tab.env_ok tab_ok _ _ _ _) mixed Tb22_nat Tb22_owes (fn := Tryd.f75) (code := tag_first_c) Tryd.func75 (by kernel_rfl) (by kernel_rfl) fun l b r b' h => by
  obtain ⟨rfl, h⟩ := noBox_some h
  obtain ⟨x0, h1, h2⟩ := own1 (E := tag_first_E) rfl h
  exact ⟨FUEL, (h2 _ _ _ _ _ _).trans ((tag_first_eq _ x0 _).trans h1)⟩
noncomputable abbrev tag_Right_c : Code := Tryd.f76.body.getD .skip
def tag_Right_E : Env := tab.env (fun _ => []) (fun _ => []) [] [(.int .i64)]
theorem tag_Right_t (R : Type) (kk : Nat) (tag_0 : Int) (K : List SV → Option Box → Option R) : evFn tag_Right_E (Tb23 R) kk Tryd.f76 tag_Right_c [.dat (.int .i64) tag_0 []] none K =
  tag_Right_s0 tag_0 (fun a0 => K [.dat .bool a0 []] none) := by kernel_rfl
theorem tag_Right_eq (R : Type) (tag_0 : Int) (K : List SV → Option Box → Option R) : evFn tag_Right_E (Tb23 R) FUEL Tryd.f76 tag_Right_c [.dat (.int .i64) tag_0 []] none K = (tag_Right tag_0).bind fun r => K [.dat .bool r []] none := by
  rw [tag_Right_t]
  simp only [tag_Right, tag_Right_s0_bind, cond_bind, within_bind, none_bind, some_bind, sum_bind, bind_bind, Sum.elim_inl, Sum.elim_inr]
def tag_Right_g : Pure := fun R l b K => noBox b (args1 (.int .i64) l (fun x0 => (tag_Right x0).bind fun r => K [.dat .bool r []] none))
theorem tag_Right_n : tag_Right_g.Nat := fun R S l b F G K h => noBox_nat (args1_nat fun _ => bindr_nat fun _ => h _ _)
def Tb24 : Funs := Tb23.add 76 [(.int .i64)] tag_Right_g
theorem Tb24_nat : Tb24.Nat := add_nat Tb23_nat tag_Right_n
theorem Tb24_owes : ∀ f, Owes Tryd.prog Tb24 f := add_owes (E := tag_Right_E) (Tab.env_ok tab_ok _ _ _ _) mixed Tb23_nat Tb23_owes (fn := Tryd.f76) (code := tag_Right_c) Tryd.func76 (by kernel_rfl) (by kernel_rfl) fun l b r b' h => by
  obtain ⟨rfl, h⟩ := noBox_some h
  obtain ⟨x0, h1, h2⟩ := own1 (E := tag_Right_E) rfl h
  exact ⟨FUEL, (h2 _ _ _ _ _ _).trans ((tag_Right_eq _ x0 _).trans h1)⟩
noncomputable abbrev tag_Get_c : Code := Tryd.f57.body.getD .skip
def tag_Get_E : Env := tab.env (fun _ => []) (fun _ => []) [] [.str, (.int .i64)]
theorem tag_Get_t (R : Type) (kk : Nat) (b_0 : ByteArray) (at_1 : Int) (K : List SV → Option Box → Option R) : evFn tag_Get_E (Tb24 R) kk Tryd.f57 tag_Get_c [.dat .str b_0 [], .dat (.int .i64) at_1 []] none K =
  tag_Get_s0 b_0 at_1 (fun a0 a1 a2 => K [.dat (.int .i64) a0 [], .dat (.int .i64) a1 [], .dat (.int .i64) a2 []] none) := by kernel_rfl
theorem tag_Get_eq (R : Type) (b_0 : ByteArray) (at_1 : Int) (K : List SV → Option Box → Option R) : evFn tag_Get_E (Tb24 R) FUEL Tryd.f57 tag_Get_c [.dat .str b_0 [], .dat (.int .i64) at_1 []] none K = (tag_Get b_0 at_1).bind fun r => K [.dat (.int .i64) r.1 [], .dat (.int .i64) r.2.1 [], .dat (.int .i64) r.2.2 []] none := by
  rw [tag_Get_t]
  simp only [tag_Get, tag_Get_s0_bind, cond_bind, within_bind, none_bind, some_bind, sum_bind, bind_bind, Sum.elim_inl, Sum.elim_inr]
def tag_Get_g : Pure := fun R l b K => noBox b (args2 .str (.int .i64) l (fun x0 x1 => (tag_Get x0 x1).bind fun r => K [.dat (.int .i64) r.1 [], .dat (.int .i64) r.2.1 [], .dat (.int .i64) r.2.2 []] none))
theorem tag_Get_n : tag_Get_g.Nat := fun R S l b F G K h => noBox_nat (args2_nat fun _ _ => bindr_nat fun _ => h _ _)
def Tb25 : Funs := Tb24.add 57 [.str, (.int .i64)] tag_Get_g
theorem Tb25_nat : Tb25.Nat := add_nat Tb24_nat tag_Get_n
theorem Tb25_owes : ∀ f, Owes Tryd.prog Tb25 f := add_owes (E := tag_Get_E) (Tab.env_ok tab_ok _ _ _ _) mixed Tb24_nat Tb24_owes (fn := Tryd.f57) (code := tag_Get_c) Tryd.func57 (by kernel_rfl) (by kernel_rfl) fun l b r b' h => by
  obtain ⟨rfl, h⟩ := noBox_some h
  obtain ⟨x0, x1, h1, h2⟩ := own2 (E := tag_Get_E) rfl h
  exact ⟨FUEL, (h2 _ _ _ _ _ _).trans ((tag_Get_eq _ x0 x1 _).trans h1)⟩
noncomputable abbrev ber_Size_c : Code := Tryd.f77.body.getD .skip
def ber_Size_E : Env := tab.env (fun _ => []) (fun _ => []) [] [(.int .i64)]
theorem ber_Size_t (R : Type) (kk : Nat) (n_0 : Int) (K : List SV → Option Box → Option R) : evFn ber_Size_E (Tb25 R) kk Tryd.f77 ber_Size_c [.dat (.int .i64) n_0 []] none K =
  ber_Size_s0 n_0 (fun a0 => K [.dat (.int .i64) a0 []] none) := by kernel_rfl
theorem ber_Size_eq (R : Type) (n_0 : Int) (K : List SV → Option Box → Option R) : evFn ber_Size_E (Tb25 R) FUEL Tryd.f77 ber_Size_c [.dat (.int .i64) n_0 []] none K = (ber_Size n_0).bind fun r => K [.dat (.int .i64) r []] none := by
  rw [ber_Size_t]
  simp only [ber_Size, ber_Size_s0_bind, cond_bind, within_bind, none_bind, some_bind, sum_bind, bind_bind, Sum.elim_inl, Sum.elim_inr]
def ber_Size_g : Pure := fun R l b K => noBox b (args1 (.int .i64) l (fun x0 => (ber_Size x0).bind fun r => K [.dat (.int .i64) r []] none))
theorem ber_Size_n : ber_Size_g.Nat := fun R S l b F G K h => noBox_nat (args1_nat fun _ => bindr_nat fun _ => h _ _)
def Tb26 : Funs := Tb25.add 77 [(.int .i64)] ber_Size_g
theorem Tb26_nat : Tb26.Nat := add_nat Tb25_nat ber_Size_n
theorem Tb26_owes : ∀ f, Owes Tryd.prog Tb26 f := add_owes (E := ber_Size_E) (Tab.env_ok tab_ok _ _ _ _) mixed Tb25_nat Tb25_owes (fn := Tryd.f77) (code := ber_Size_c) Tryd.func77 (by kernel_rfl) (by kernel_rfl) fun l b r b' h => by
  obtain ⟨rfl, h⟩ := noBox_some h
  obtain ⟨x0, h1, h2⟩ := own1 (E := ber_Size_E) rfl h
  exact ⟨FUEL, (h2 _ _ _ _ _ _).trans ((ber_Size_eq _ x0 _).trans h1)⟩
noncomputable abbrev ber_Get_c : Code := Tryd.f58.body.getD .skip
def ber_Get_E : Env := tab.env (fun i => bif Nat.beq i 14 then [0, 1, 7, 8, 44, 45] else []) (fun i => bif Nat.beq i 14 then [1, 7, 8] else []) [] [.str, (.int .i64)]
def ber_Get_h0 (b_0 : ByteArray) (at_1 : Int) (t7 : Int) (t8 : Int) (t44 : Int) (t45 : Int) : State := ⟨[[.dat .str b_0 []], [.dat (.int .i64) at_1 []], [.undef], [.undef], [.undef], [.undef], [.undef], [.dat (.int .i64) t7 []], [.dat (.int .i64) t8 []], [.undef], [.undef], [.undef], [.undef], [.undef], [.undef], [.undef], [.undef], [.undef], [.undef], [.undef], [.undef], [.undef], [.undef], [.undef], [.undef], [.undef], [.undef], [.undef], [.undef], [.undef], [.undef], [.undef], [.undef], [.undef], [.undef], [.undef], [.undef], [.undef], [.undef], [.undef], [.undef], [.undef], [.undef], [.undef], [.dat (.int .i64) t44 []], [.dat (.int .i64) t45 []], [.undef], [.undef], [.undef], [.undef], [.undef], [.undef], [.undef], [.undef], [.undef], [.undef], [.undef], [.undef], [.undef], [.undef], [.undef], [.undef], [.undef], [.undef], [.undef], [.undef], [.undef]], [none, none, none, none, none, none, none, none, none, none, none, none, none, none, none, none, none, none, none, none, none, none, none, none, none, none, none, none, none, none, none, none, none, none, none, none, none, none, none, none, none, none, none, none, none, none, none, none, none, none, none, none, none, none, none, none, none, none, none, none, none, none, none, none, none, none, none, none]⟩
def ber_Get_x0_0 (at_1 : Int) (t7 : Int) (t8 : Int) : State := ⟨[[.undef], [.dat (.int .i64) at_1 []], [.undef], [.undef], [.undef], [.undef], [.undef], [.dat (.int .i64) t7 []], [.dat (.int .i64) t8 []], [.undef], [.undef], [.undef], [.undef], [.undef], [.undef], [.undef], [.undef], [.undef], [.undef], [.undef], [.undef], [.undef], [.undef], [.undef], [.undef], [.undef], [.undef], [.undef], [.undef], [.undef], [.undef], [.undef], [.undef], [.undef], [.undef], [.undef], [.undef], [.undef], [.undef], [.undef], [.undef], [.undef], [.undef], [.undef], [.undef], [.undef], [.undef], [.undef], [.undef], [.undef], [.undef], [.undef], [.undef], [.undef], [.undef], [.undef], [.undef], [.undef], [.undef], [.undef], [.undef], [.undef], [.undef], [.undef], [.undef], [.undef], [.undef]], [none, none, none, none, none, none, none, none, none, none, none, none, none, none, none, none, none, none, none, none, none, none, none, none, none, none, none, none, none, none, none, none, none, none, none, none, none, none, none, none, none, none, none, none, none, none, none, none, none, none, none, none, none, none, none, none, none, none, none, none, none, none, none, none, none, none, none, none]⟩
theorem ber_Get_t (R : Type) (kk : Nat) (b_0 : ByteArray) (at_1 : Int) (K : List SV → Option Box → Option R) : evFn ber_Get_E (Tb26 R) kk Tryd.f58 ber_Get_c [.dat .str b_0 [], .dat (.int .i64) at_1 []] none K =
  ber_Get_s0 b_0 at_1 (fun a0 a1 a2 => K [.dat (.int .i64) a0 [], .dat (.int .i64) a1 [], .dat (.int .i64) a2 []] none) (fun a0 a1 a2 a3 a4 a5 => loopR (ev ber_Get_E (Tb26 R) kk (sub [1, 1, 1, 1, 1, 1, 1, 0, 1, 0, 0] ber_Get_c)) [0, 1, 7, 8, 44, 45] [1, 7, 8] kk (ber_Get_h0 a0 a1 a2 a3 a4 a5) (kBlock 0 (kSeq ber_Get_E (Tb26 R) kk (sub [1, 1, 1, 1, 1, 1, 1, 1] ber_Get_c) (kFin ber_Get_E Tryd.f58.results.toList none K)))) := by kernel_rfl
theorem ber_Get_d0 (R : Type) (kk k : Nat) (b_0 : ByteArray) (at_1 : Int) (t7 : Int) (t8 : Int) (t44 : Int) (t45 : Int) (K : Ex → State → Option R) : loopR (ev ber_Get_E (Tb26 R) kk (sub [1, 1, 1, 1, 1, 1, 1, 0, 1, 0, 0] ber_Get_c)) [0, 1, 7, 8, 44, 45] [1, 7, 8] (k + 1) (ber_Get_h0 b_0 at_1 t7 t8 t44 t45) K =
  ber_Get_s1 b_0 at_1 t7 t8 t44 t45 (fun a0 a1 a2 a3 a4 a5 => loopR (ev ber_Get_E (Tb26 R) kk (sub [1, 1, 1, 1, 1, 1, 1, 0, 1, 0, 0] ber_Get_c)) [0, 1, 7, 8, 44, 45] [1, 7, 8] k (ber_Get_h0 a0 a1 a2 a3 a4 a5) K) (fun a0 a1 a2 => K (.exit 0) (ber_Get_x0_0 a0 a1 a2)) := by kernel_rfl
theorem ber_Get_y0_0 (R : Type) (kk : Nat) (at_1 : Int) (t7 : Int) (t8 : Int) (K : List SV → Option Box → Option R) : (kBlock 0 (kSeq ber_Get_E (Tb26 R) kk (sub [1, 1, 1, 1, 1, 1, 1, 1] ber_Get_c) (kFin ber_Get_E Tryd.f58.results.toList none K))) (.exit 0) (ber_Get_x0_0 at_1 t7 t8) =
  ber_Get_s2 at_1 t7 t8 (fun a0 a1 a2 => K [.dat (.int .i64) a0 [], .dat (.int .i64) a1 [], .dat (.int .i64) a2 []] none) := by kernel_rfl
theorem ber_Get_lp0 (R : Type) (k : Nat) (b_0 : ByteArray) (at_1 : Int) (t7 : Int) (t8 : Int) (t44 : Int) (t45 : Int) (K : Ex → State → Option R) : loopR (ev ber_Get_E (Tb26 R) FUEL (sub [1, 1, 1, 1, 1, 1, 1, 0, 1, 0, 0] ber_Get_c)) [0, 1, 7, 8, 44, 45] [1, 7, 8] k (ber_Get_h0 b_0 at_1 t7 t8 t44 t45) K = (ber_Get_l0 k b_0 at_1 t7 t8 t44 t45).bind fun e => K (.exit 0) (ber_Get_x0_0 e.1 e.2.1 e.2.2) := by
  induction k generalizing b_0 at_1 t7 t8 t44 t45 with
  | zero => rfl
  | succ k ih =>
    rw [ber_Get_d0]
    simp only [ber_Get_l0, ber_Get_s0_bind, ber_Get_s1_bind, ber_Get_s2_bind, ih, cond_bind, within_bind, none_bind, some_bind, sum_bind, bind_bind, Sum.elim_inl, Sum.elim_inr]
theorem ber_Get_eq (R : Type) (b_0 : ByteArray) (at_1 : Int) (K : List SV → Option Box → Option R) : evFn ber_Get_E (Tb26 R) FUEL Tryd.f58 ber_Get_c [.dat .str b_0 [], .dat (.int .i64) at_1 []] none K = (ber_Get b_0 at_1).bind fun r => K [.dat (.int .i64) r.1 [], .dat (.int .i64) r.2.1 [], .dat (.int .i64) r.2.2 []] none := by
  rw [ber_Get_t]
  simp only [ber_Get, ber_Get_s0_bind, ber_Get_s1_bind, ber_Get_s2_bind, ber_Get_lp0, ber_Get_y0_0, cond_bind, within_bind, none_bind, some_bind, sum_bind, bind_bind, Sum.elim_inl, Sum.elim_inr]
def ber_Get_g : Pure := fun R l b K => noBox b (args2 .str (.int .i64) l (fun x0 x1 => (ber_Get x0 x1).bind fun r => K [.dat (.int .i64) r.1 [], .dat (.int .i64) r.2.1 [], .dat (.int .i64) r.2.2 []] none))
theorem ber_Get_n : ber_Get_g.Nat := fun R S l b F G K h => noBox_nat (args2_nat fun _ _ => bindr_nat fun _ => h _ _)
def Tb27 : Funs := Tb26.add 58 [.str, (.int .i64)] ber_Get_g
theorem Tb27_nat : Tb27.Nat := add_nat Tb26_nat ber_Get_n
theorem Tb27_owes : ∀ f, Owes Tryd.prog Tb27 f := add_owes (E := ber_Get_E) (Tab.env_ok tab_ok _ _ _ _) mixed Tb26_nat Tb26_owes (fn := Tryd.f58) (code := ber_Get_c) Tryd.func58 (by kernel_rfl) (by kernel_rfl) fun l b r b' h => by
  obtain ⟨rfl, h⟩ := noBox_some h
  obtain ⟨x0, x1, h1, h2⟩ := own2 (E := ber_Get_E) rfl h
  exact ⟨FUEL, (h2 _ _ _ _ _ _).trans ((ber_Get_eq _ x0 x1 _).trans h1)⟩
noncomputable abbrev tlv_Get_c : Code := Tryd.f40.body.getD .skip
def tlv_Get_E : Env := tab.env (fun i => bif Nat.beq i 4 then [0, 5, 6, 7, 13] else []) (fun i => bif Nat.beq i 4 then [2, 3, 4, 5] else []) [] [.str]
def tlv_Get_h0 (b_0 : ByteArray) (t5 : (List (Int × ByteArray × Unit))) (t7 : Int) (bt6 : (List (Int × Bool))) : State := ⟨[[.dat .str b_0 []], [.undef], [.undef], [.undef], [.undef], [.dat (.sl 92 (.pair (.int .i64) (.pair .str .unit))) t5 [[]]], [.ptr 14 (.spc .mp (.int .i64) .bool) []], [.dat (.int .i64) t7 []], [.undef], [.undef], [.undef], [.undef], [.undef], [.ptr 14 (.spc .mp (.int .i64) .bool) []], [.undef], [.undef], [.undef], [.undef], [.undef], [.undef], [.undef], [.undef], [.undef], [.undef], [.undef], [.undef], [.undef], [.undef], [.undef], [.undef], [.undef], [.undef], [.undef], [.undef], [.undef], [.undef], [.undef], [.undef], [.undef], [.undef], [.undef], [.undef], [.undef], [.undef], [.undef], [.undef], [.undef], [.undef], [.undef], [.undef], [.undef], [.undef], [.undef], [.undef], [.undef], [.undef], [.undef], [.undef], [.undef], [.undef], [.undef], [.undef], [.undef], [.undef], [.undef], [.undef], [.undef], [.undef], [.undef], [.undef], [.undef], [.undef]], [none, none, none, none, none, none, none, none, none, none, none, none, none, none, some ⟨(.spc .mp (.int .i64) .bool), bt6, []⟩, none, none, none, none, none, none, none, none, none, none, none, none, none, none, none, none, none, none, none, none, none, none, none, none, none, none, none, none, none, none, none, none, none, none, none, none, none, none, none, none, none, none, none, none, none, none, none, none, none, none, none, none, none, none, none, none, none, none]⟩
def tlv_Get_x0_0 (t2 : (List (Int × ByteArray × Unit))) (t3 : Int) (t4 : Int) (t5 : (List (Int × ByteArray × Unit))) : State := ⟨[[.undef], [.undef], [.dat (.sl 92 (.pair (.int .i64) (.pair .str .unit))) t2 [[]]], [.dat (.int .i64) t3 []], [.dat (.int .i64) t4 []], [.dat (.sl 92 (.pair (.int .i64) (.pair .str .unit))) t5 [[]]], [.undef], [.undef], [.undef], [.undef], [.undef], [.undef], [.undef], [.undef], [.undef], [.undef], [.undef], [.undef], [.undef], [.undef], [.undef], [.undef], [.undef], [.undef], [.undef], [.undef], [.undef], [.undef], [.undef], [.undef], [.undef], [.undef], [.undef], [.undef], [.undef], [.undef], [.undef], [.undef], [.undef], [.undef], [.undef], [.undef], [.undef], [.undef], [.undef], [.undef], [.undef], [.undef], [.undef], [.undef], [.undef], [.undef], [.undef], [.undef], [.undef], [.undef], [.undef], [.undef], [.undef], [.undef], [.undef], [.undef], [.undef], [.undef], [.undef], [.undef], [.undef], [.undef], [.undef], [.undef], [.undef], [.undef]], [none, none, none, none, none, none, none, none, none, none, none, none, none, none, none, none, none, none, none, none, none, none, none, none, none, none, none, none, none, none, none, none, none, none, none, none, none, none, none, none, none, none, none, none, none, none, none, none, none, none, none, none, none, none, none, none, none, none, none, none, none, none, none, none, none, none, none, none, none, none, none, none, none]⟩
def tlv_Get_x0_1 (t5 : (List (Int × ByteArray × Unit))) : State := ⟨[[.undef], [.undef], [.undef], [.undef], [.undef], [.dat (.sl 92 (.pair (.int .i64) (.pair .str .unit))) t5 [[]]], [.undef], [.undef], [.undef], [.undef], [.undef], [.undef], [.undef], [.undef], [.undef], [.undef], [.undef], [.undef], [.undef], [.undef], [.undef], [.undef], [.undef], [.undef], [.undef], [.undef], [.undef], [.undef], [.undef], [.undef], [.undef], [.undef], [.undef], [.undef], [.undef], [.undef], [.undef], [.undef], [.undef], [.undef], [.undef], [.undef], [.undef], [.undef], [.undef], [.undef], [.undef], [.undef], [.undef], [.undef], [.undef], [.undef], [.undef], [.undef], [.undef], [.undef], [.undef], [.undef], [.undef], [.undef], [.undef], [.undef], [.undef], [.undef], [.undef], [.undef], [.undef], [.undef], [.undef], [.undef], [.undef], [.undef]], [none, none, none, none, none, none, none, none, none, none, none, none, none, none, none, none, none, none, none, none, none, none, none, none, none, none, none, none, none, none, none, none, none, none, none, none, none, none, none, none, none, none, none, none, none, none, none, none, none, none, none, none, none, none, none, none, none, none, none, none, none, none, none, none, none, none, none, none, none, none, none, none, none]⟩
theorem tlv_Get_t (R : Type) (kk : Nat) (b_0 : ByteArray) (K : List SV → Option Box → Option R) : evFn tlv_Get_E (Tb27 R) kk Tryd.f40 tlv_Get_c [.dat .str b_0 []] none K =
  tlv_Get_s0 b_0 (fun a0 a1 a2 a3 => loopR (ev tlv_Get_E (Tb27 R) kk (sub [1, 1, 1, 0, 1, 0, 0] tlv_Get_c)) [0, 5, 6, 7, 13] [2, 3, 4, 5] kk (tlv_Get_h0 a0 a1 a2 a3) (kBlock 0 (kSeq tlv_Get_E (Tb27 R) kk (sub [1, 1, 1, 1] tlv_Get_c) (kFin tlv_Get_E Tryd.f40.results.toList none K)))) := by kernel_rfl
theorem tlv_Get_d0 (R : Type) (kk k : Nat) (b_0 : ByteArray) (t5 : (List (Int × ByteArray × Unit))) (t7 : Int) (bt6 : (List (Int × Bool))) (K : Ex → State → Option R) : loopR (ev tlv_Get_E (Tb27 R) kk (sub [1, 1, 1, 0, 1, 0, 0] tlv_Get_c)) [0, 5, 6, 7, 13] [2, 3, 4, 5] (k + 1) (tlv_Get_h0 b_0 t5 t7 bt6) K =
  tlv_Get_s1 b_0 t5 t7 bt6 (fun a0 a1 a2 a3 => K .ret (tlv_Get_x0_0 a0 a1 a2 a3)) (fun a0 a1 a2 a3 => loopR (ev tlv_Get_E (Tb27 R) kk (sub [1, 1, 1, 0, 1, 0, 0] tlv_Get_c)) [0, 5, 6, 7, 13] [2, 3, 4, 5] k (tlv_Get_h0 a0 a1 a2 a3) K) (fun a0 => K (.exit 0) (tlv_Get_x0_1 a0)) := by kernel_rfl
theorem tlv_Get_y0_0 (R : Type) (kk : Nat) (t2 : (List (Int × ByteArray × Unit))) (t3 : Int) (t4 : Int) (t5 : (List (Int × ByteArray × Unit))) (K : List SV → Option Box → Option R) : (kBlock 0 (kSeq tlv_Get_E (Tb27 R) kk (sub [1, 1, 1, 1] tlv_Get_c) (kFin tlv_Get_E Tryd.f40.results.toList none K))) .ret (tlv_Get_x0_0 t2 t3 t4 t5) =
  tlv_Get_s2 t2 t3 t4 t5 (fun a0 a1 a2 => K [.dat (.sl 92 (.pair (.int .i64) (.pair .str .unit))) a0 [[]], .dat (.int .i64) a1 [], .dat (.int .i64) a2 []] none) := by kernel_rfl
theorem tlv_Get_y0_1 (R : Type) (kk : Nat) (t5 : (List (Int × ByteArray × Unit))) (K : List SV → Option Box → Option R) : (kBlock 0 (kSeq tlv_Get_E (Tb27 R) kk (sub [1, 1, 1, 1] tlv_Get_c) (kFin tlv_Get_E Tryd.f40.results.toList none K))) (.exit 0) (tlv_Get_x0_1 t5) =
  tlv_Get_s3 t5 (fun a0 a1 a2 => K [.dat (.sl 92 (.pair (.int .i64) (.pair .str .unit))) a0 [], .dat (.int .i64) a1 [], .dat (.int .i64) a2 []] none) := by kernel_rfl
theorem tlv_Get_lp0 (R : Type) (k : Nat) (b_0 : ByteArray) (t5 : (List (Int × ByteArray × Unit))) (t7 : Int) (bt6 : (List (Int × Bool))) (K : Ex → State → Option R) : loopR (ev tlv_Get_E (Tb27 R) FUEL (sub [1, 1, 1, 0, 1, 0, 0] tlv_Get_c)) [0, 5, 6, 7, 13] [2, 3, 4, 5] k (tlv_Get_h0 b_0 t5 t7 bt6) K = (tlv_Get_l0 k b_0 t5 t7 bt6).bind fun e => (Sum.elim (fun (we : ((List (Int × ByteArray × Unit)) × Int × Int × (List (Int × ByteArray × Unit)))) => K .ret (tlv_Get_x0_0 we.1 we.2.1 we.2.2.1 we.2.2.2)) (fun (we : (List (Int × ByteArray × Unit))) => K (.exit 0) (tlv_Get_x0_1 we)) e) := by
  induction k generalizing b_0 t5 t7 bt6 with
  | zero => rfl
  | succ k ih =>
    rw [tlv_Get_d0]
    simp only [tlv_Get_l0, tlv_Get_s0_bind, tlv_Get_s1_bind, tlv_Get_s2_bind, tlv_Get_s3_bind, ih, cond_bind, within_bind, none_bind, some_bind, sum_bind, bind_bind, Sum.elim_inl, Sum.elim_inr]
theorem tlv_Get_eq (R : Type) (b_0 : ByteArray) (K : List SV → Option Box → Option R) : evFn tlv_Get_E (Tb27 R) FUEL Tryd.f40 tlv_Get_c [.dat .str b_0 []] none K = (tlv_Get b_0).bind fun r => (Sum.elim (fun (wr : ((List (Int × ByteArray × Unit)) × Int × Int)) => K [.dat (.sl 92 (.pair (.int .i64) (.pair .str .unit))) wr.1 [[]], .dat (.int .i64) wr.2.1 [], .dat (.int .i64) wr.2.2 []] none) (fun (wr : ((List (Int × ByteArray × Unit)) × Int × Int)) => K [.dat (.sl 92 (.pair (.int .i64) (.pair .str .unit))) wr.1 [], .dat (.int .i64) wr.2.1 [], .dat (.int .i64) wr.2.2 []] none) r) := by
  rw [tlv_Get_t]
  simp only [tlv_Get, tlv_Get_s0_bind, tlv_Get_s1_bind, tlv_Get_s2_bind, tlv_Get_s3_bind, tlv_Get_lp0, tlv_Get_y0_0, tlv_Get_y0_1, cond_bind, within_bind, none_bind, some_bind, sum_bind, bind_bind, Sum.elim_inl, Sum.elim_inr]
def tlv_Get_g : Pure := fun R l b K => noBox b (args1 .str l (fun x0 => (tlv_Get x0).bind fun r => (Sum.elim (fun (wr : ((List (Int × ByteArray × Unit)) × Int × Int)) => K [.dat (.sl 92 (.pair (.int .i64) (.pair .str .unit))) wr.1 [[]], .dat (.int .i64) wr.2.1 [], .dat (.int .i64) wr.2.2 []] none) (fun (wr : ((List (Int × ByteArray × Unit)) × Int × Int)) => K [.dat (.sl 92 (.pair (.int .i64) (.pair .str .unit))) wr.1 [], .dat (.int .i64) wr.2.1 [], .dat (.int .i64) wr.2.2 []] none) r)))
theorem tlv_Get_n : tlv_Get_g.Nat := fun R S l b F G K h => noBox_nat (args1_nat fun _ => bindr_nat fun _ => sum_nat (fun _ => h _ _) (fun _ => h _ _))
def Tb28 : Funs := Tb27.add 40 [.str] tlv_Get_g
theorem Tb28_nat : Tb28.Nat := add_nat Tb27_nat tlv_Get_n
theorem Tb28_owes : ∀ f, Owes Tryd.prog Tb28 f := add_owes (E := tlv_Get_E) (Tab.env_ok tab_ok _ _ _ _) mixed Tb27_nat Tb27_owes (fn := Tryd.f40) (code := tlv_Get_c) Tryd.func40 (by kernel_rfl) (by kernel_rfl) fun l b r b' h => by
  obtain ⟨rfl, h⟩ := noBox_some h
  obtain ⟨x0, h1, h2⟩ := own1 (E := tlv_Get_E) rfl h
  exact ⟨FUEL, (h2 _ _ _ _ _ _).trans ((tlv_Get_eq _ x0 _).trans h1)⟩
noncomputable abbrev spec_Value_c : Code := Tryd.f21.body.getD .skip
def spec_Value_E : Env := tab.env (fun _ => []) (fun _ => []) [] [y5, .str]
theorem spec_Value_t (R : Type) (kk : Nat) (s_0 : (Int × Int × Int × Int × Int × Unit)) (text_1 : ByteArray) (K : List SV → Option Box → Option R) : evFn spec_Value_E (Tb28 R) kk Tryd.f21 spec_Value_c [.dat y5 s_0 [], .dat .str text_1 []] none K =
  spec_Value_s0 s_0 text_1 (fun a0 => K [.dat (.int .i64) a0 []] none) := by kernel_rfl
theorem spec_Value_eq (R : Type) (s_0 : (Int × Int × Int × Int × Int × Unit)) (text_1 : ByteArray) (K : List SV → Option Box → Option R) : evFn spec_Value_E (Tb28 R) FUEL Tryd.f21 spec_Value_c [.dat y5 s_0 [], .dat .str text_1 []] none K = (spec_Value s_0 text_1).bind fun r => K [.dat (.int .i64) r []] none := by
  rw [spec_Value_t]
  simp only [spec_Value, spec_Value_s0_bind, cond_bind, within_bind, none_bind, some_bind, sum_bind, bind_bind, Sum.elim_inl, Sum.elim_inr]
def spec_Value_g : Pure := fun R l b K => noBox b (args2 y5 .str l (fun x0 x1 => (spec_Value x0 x1).bind fun r => K [.dat (.int .i64) r []] none))
theorem spec_Value_n : spec_Value_g.Nat := fun R S l b F G K h => noBox_nat (args2_nat fun _ _ => bindr_nat fun _ => h _ _)
def Tb29 : Funs := Tb28.add 21 [y5, .str] spec_Value_g
theorem Tb29_nat : Tb29.Nat := add_nat Tb28_nat spec_Value_n
theorem Tb29_owes : ∀ f, Owes Tryd.prog Tb29 f := add_owes (E := spec_Value_E) (Tab.env_ok tab_ok _ _ _ _) mixed Tb28_nat Tb28_owes (fn := Tryd.f21) (code := spec_Value_c) Tryd.func21 (by kernel_rfl) (by kernel_rfl) fun l b r b' h => by
  obtain ⟨rfl, h⟩ := noBox_some h
  obtain ⟨x0, x1, h1, h2⟩ := own2 (E := spec_Value_E) rfl h
  exact ⟨FUEL, (h2 _ _ _ _ _ _).trans ((spec_Value_eq _ x0 x1 _).trans h1)⟩
noncomputable abbrev rule_padded_c : Code := Tryd.f22.body.getD .skip
def rule_padded_E : Env := tab.env (fun _ => []) (fun _ => []) [] [y5]
theorem rule_padded_t (R : Type) (kk : Nat) (s_0 : (Int × Int × Int × Int × Int × Unit)) (K : List SV → Option Box → Option R) : evFn rule_padded_E (Tb29 R) kk Tryd.f22 rule_padded_c [.dat y5 s_0 []] none K =
  rule_padded_s0 s_0 (fun a0 => K [.dat .bool a0 []] none) := by kernel_rfl
theorem rule_padded_eq (R : Type) (s_0 : (Int × Int × Int × Int × Int × Unit)) (K : List SV → Option Box → Option R) : evFn rule_padded_E (Tb29 R) FUEL Tryd.f22 rule_padded_c [.dat y5 s_0 []] none K = (rule_padded s_0).bind fun r => K [.dat .bool r []] none := by
  rw [rule_padded_t]
  simp only [rule_padded, rule_padded_s0_bind, cond_bind, within_bind, none_bind, some_bind, sum_bind, bind_bind, Sum.elim_inl, Sum.elim_inr]
def rule_padded_g : Pure := fun R l b K => noBox b (args1 y5 l (fun x0 => (rule_padded x0).bind fun r => K [.dat .bool r []] none))
theorem rule_padded_n : rule_padded_g.Nat := fun R S l b F G K h => noBox_nat (args1_nat fun _ => bindr_nat fun _ => h _ _)
def Tb30 : Funs := Tb29.add 22 [y5] rule_padded_g
theorem Tb30_nat : Tb30.Nat := add_nat Tb29_nat rule_padded_n
theorem Tb30_owes : ∀ f, Owes Tryd.prog Tb30 f := add_owes (E := rule_padded_E) (Tab.env_ok tab_ok _ _ _ _) mixed Tb29_nat Tb29_owes (fn := Tryd.f22) (code := rule_padded_c) Tryd.func22 (by kernel_rfl) (by kernel_rfl) fun l b r b' h => by
  obtain ⟨rfl, h⟩ := noBox_some h
  obtain ⟨x0, h1, h2⟩ := own1 (E := rule_padded_E) rfl h
  exact ⟨FUEL, (h2 _ _ _ _ _ _).trans ((rule_padded_eq _ x0 _).trans h1)⟩
noncomputable abbrev codes_Check_c : Code := Tryd.f41.body.getD .skip
def codes_Check_E : Env := tab.env (fun i => bif Nat.beq i 5 then [4, 10, 11, 12, 13] else []) (fun i => bif Nat.beq i 5 then [2, 3] else []) [] [(.sl 53 (.pair .str (.pair .str .unit)))]
def codes_Check_h0 (t11 : (List (ByteArray × ByteArray × Unit))) (t12 : Int) (t13 : Int) (bt4 : (List (ByteArray × Bool))) : State := ⟨[[.undef], [.undef], [.undef], [.undef], [.ptr 11 (.spc .mp .str .bool) []], [.undef], [.undef], [.undef], [.undef], [.undef], [.ptr 11 (.spc .mp .str .bool) []], [.dat (.sl 53 (.pair .str (.pair .str .unit))) t11 []], [.dat (.int .i64) t12 []], [.dat (.int .i64) t13 []], [.undef], [.undef], [.undef], [.undef], [.undef], [.undef], [.undef], [.undef], [.undef], [.undef], [.undef], [.undef], [.undef]], [none, none, none, none, none, none, none, none, none, none, none, some ⟨(.spc .mp .str .bool), bt4, []⟩, none, none, none, none, none, none, none, none, none, none, none, none, none, none, none, none]⟩
def codes_Check_x0_0 (t2 : Int) (t3 : Int) : State := ⟨[[.undef], [.undef], [.dat (.int .i64) t2 []], [.dat (.int .i64) t3 []], [.undef], [.undef], [.undef], [.undef], [.undef], [.undef], [.undef], [.undef], [.undef], [.undef], [.undef], [.undef], [.undef], [.undef], [.undef], [.undef], [.undef], [.undef], [.undef], [.undef], [.undef], [.undef], [.undef]], [none, none, none, none, none, none, none, none, none, none, none, none, none, none, none, none, none, none, none, none, none, none, none, none, none, none, none, none]⟩
def codes_Check_x0_1  : State := ⟨[[.undef], [.undef], [.undef], [.undef], [.undef], [.undef], [.undef], [.undef], [.undef], [.undef], [.undef], [.undef], [.undef], [.undef], [.undef], [.undef], [.undef], [.undef], [.undef], [.undef], [.undef], [.undef], [.undef], [.undef], [.undef], [.undef], [.undef]], [none, none, none, none, none, none, none, none, none, none, none, none, none, none, none, none, none, none, none, none, none, none, none, none, none, none, none, none]⟩
theorem codes_Check_t (R : Type) (kk : Nat) (l_0 : (List (ByteArray × ByteArray × Unit))) (K : List SV → Option Box → Option R) : evFn codes_Check_E (Tb30 R) kk Tryd.f41 codes_Check_c [.dat (.sl 53 (.pair .str (.pair .str .unit))) l_0 []] none K =
  codes_Check_s0 l_0 (fun a0 a1 => K [.dat (.int .i64) a0 [], .dat (.int .i64) a1 []] none) (fun a0 a1 a2 a3 => loopR (ev codes_Check_E (Tb30 R) kk (sub [1, 1, 1, 0, 1, 0, 0] codes_Check_c)) [4, 10, 11, 12, 13] [2, 3] kk (codes_Check_h0 a0 a1 a2 a3) (kBlock 0 (kSeq codes_Check_E (Tb30 R) kk (sub [1, 1, 1, 1] codes_Check_c) (kFin codes_Check_E Tryd.f41.results.toList none K)))) := by kernel_rfl
theorem codes_Check_d0 (R : Type) (kk k : Nat) (t11 : (List (ByteArray × ByteArray × Unit))) (t12 : Int) (t13 : Int) (bt4 : (List (ByteArray × Bool))) (K : Ex → State → Option R) : loopR (ev codes_Check_E (Tb30 R) kk (sub [1, 1, 1, 0, 1, 0, 0] codes_Check_c)) [4, 10, 11, 12, 13] [2, 3] (k + 1) (codes_Check_h0 t11 t12 t13 bt4) K =
  codes_Check_s1 t11 t12 t13 bt4 (fun a0 a1 => K .ret (codes_Check_x0_0 a0 a1)) (fun a0 a1 a2 a3 => loopR (ev codes_Check_E (Tb30 R) kk (sub [1, 1, 1, 0, 1, 0, 0] codes_Check_c)) [4, 10, 11, 12, 13] [2, 3] k (codes_Check_h0 a0 a1 a2 a3) K) (K (.exit 0) (codes_Check_x0_1)) := by kernel_rfl
theorem codes_Check_y0_0 (R : Type) (kk : Nat) (t2 : Int) (t3 : Int) (K : List SV → Option Box → Option R) : (kBlock 0 (kSeq codes_Check_E (Tb30 R) kk (sub [1, 1, 1, 1] codes_Check_c) (kFin codes_Check_E Tryd.f41.results.toList none K))) .ret (codes_Check_x0_0 t2 t3) =
  codes_Check_s2 t2 t3 (fun a0 a1 => K [.dat (.int .i64) a0 [], .dat (.int .i64) a1 []] none) := by kernel_rfl
theorem codes_Check_y0_1 (R : Type) (kk : Nat)  (K : List SV → Option Box → Option R) : (kBlock 0 (kSeq codes_Check_E (Tb30 R) kk (sub [1, 1, 1, 1] codes_Check_c) (kFin codes_Check_E Tryd.f41.results.toList none K))) (.exit 0) (codes_Check_x0_1) =
  codes_Check_s3 (fun a0 a1 => K [.dat (.int .i64) a0 [], .dat (.int .i64) a1 []] none) := by kernel_rfl
theorem codes_Check_lp0 (R : Type) (k : Nat) (t11 : (List (ByteArray × ByteArray × Unit))) (t12 : Int) (t13 : Int) (bt4 : (List (ByteArray × Bool))) (K : Ex → State → Option R) : loopR (ev codes_Check_E (Tb30 R) FUEL (sub [1, 1, 1, 0, 1, 0, 0] codes_Check_c)) [4, 10, 11, 12, 13] [2, 3] k (codes_Check_h0 t11 t12 t13 bt4) K = (codes_Check_l0 k t11 t12 t13 bt4).bind fun e => (Sum.elim (fun (we : (Int × Int)) => K .ret (codes_Check_x0_0 we.1 we.2)) (fun (we : Unit) => K (.exit 0) (codes_Check_x0_1)) e) := by
  induction k generalizing t11 t12 t13 bt4 with
  | zero => rfl
  | succ k ih =>
    rw [codes_Check_d0]
    simp only [codes_Check_l0, codes_Check_s0_bind, codes_Check_s1_bind, codes_Check_s2_bind, codes_Check_s3_bind, ih, cond_bind, within_bind, none_bind, some_bind, sum_bind, bind_bind, Sum.elim_inl, Sum.elim_inr]
theorem codes_Check_eq (R : Type) (l_0 : (List (ByteArray × ByteArray × Unit))) (K : List SV → Option Box → Option R) : evFn codes_Check_E (Tb30 R) FUEL Tryd.f41 codes_Check_c [.dat (.sl 53 (.pair .str (.pair .str .unit))) l_0 []] none K = (codes_Check l_0).bind fun r => K [.dat (.int .i64) r.1 [], .dat (.int .i64) r.2 []] none := by
  rw [codes_Check_t]
  simp only [codes_Check, codes_Check_s0_bind, codes_Check_s1_bind, codes_Check_s2_bind, codes_Check_s3_bind, codes_Check_lp0, codes_Check_y0_0, codes_Check_y0_1, cond_bind, within_bind, none_bind, some_bind, sum_bind, bind_bind, Sum.elim_inl, Sum.elim_inr]
def codes_Check_g : Pure := fun R l b K => noBox b (args1 (.sl 53 (.pair .str (.pair .str .unit))) l (fun x0 => (codes_Check x0).bind fun r => K [.dat (.int .i64) r.1 [], .dat (.int .i64) r.2 []] none))
theorem codes_Check_n : codes_Check_g.Nat := fun R S l b F G K h => noBox_nat (args1_nat fun _ => bindr_nat fun _ => h _ _)
def Tb31 : Funs := Tb30.add 41 [(.sl 53 (.pair .str (.pair .str .unit)))] codes_Check_g
theorem Tb31_nat : Tb31.Nat := add_nat Tb30_nat codes_Check_n
theorem Tb31_owes : ∀ f, Owes Tryd.prog Tb31 f := add_owes (E := codes_Check_E) (Tab.env_ok tab_ok _ _ _ _) mixed Tb30_nat Tb30_owes (fn := Tryd.f41) (code := codes_Check_c) Tryd.func41 (by kernel_rfl) (by kernel_rfl) fun l b r b' h => by
  obtain ⟨rfl, h⟩ := noBox_some h
  obtain ⟨x0, h1, h2⟩ := own1 (E := codes_Check_E) rfl h
  exact ⟨FUEL, (h2 _ _ _ _ _ _).trans ((codes_Check_eq _ x0 _).trans h1)⟩
noncomputable abbrev rule_table_c : Code := Tryd.f23.body.getD .skip
def rule_table_E : Env := tab.env (fun i => bif Nat.beq i 5 then [4, 5, 25, 26, 27] else []) (fun i => bif Nat.beq i 5 then [6] else []) [] [(.sl 53 (.pair .str (.pair .str .unit))), y5, y5]
def rule_table_h0 (t25 : (List (ByteArray × ByteArray × Unit))) (t26 : Int) (t27 : Int) (bt4 : (Int × Int × Int × Int × Int × Unit)) (bt5 : (Int × Int × Int × Int × Int × Unit)) : State := ⟨[[.undef], [.undef], [.undef], [.undef], [.ptr 5 y5 []], [.ptr 6 y5 []], [.undef], [.undef], [.undef], [.undef], [.undef], [.undef], [.undef], [.undef], [.undef], [.undef], [.undef], [.undef], [.undef], [.undef], [.undef], [.undef], [.undef], [.undef], [.undef], [.dat (.sl 53 (.pair .str (.pair .str .unit))) t25 []], [.dat (.int .i64) t26 []], [.dat (.int .i64) t27 []], [.undef], [.undef], [.undef], [.undef], [.undef], [.undef], [.undef], [.undef], [.undef], [.undef], [.undef], [.undef], [.undef], [.undef], [.undef], [.undef], [.undef], [.undef]], [none, none, none, none, none, some ⟨y5, bt4, []⟩, some ⟨y5, bt5, []⟩, none, none, none, none, none, none, none, none, none, none, none, none, none, none, none, none, none, none, none, none, none, none, none, none, none, none, none, none, none, none, none, none, none, none, none, none, none, none, none, none]⟩
def rule_table_x0_0 (t6 : Int) : State := ⟨[[.undef], [.undef], [.undef], [.undef], [.undef], [.undef], [.dat (.int .i64) t6 []], [.undef], [.undef], [.undef], [.undef], [.undef], [.undef], [.undef], [.undef], [.undef], [.undef], [.undef], [.undef], [.undef], [.undef], [.undef], [.undef], [.undef], [.undef], [.undef], [.undef], [.undef], [.undef], [.undef], [.undef], [.undef], [.undef], [.undef], [.undef], [.undef], [.undef], [.undef], [.undef], [.undef], [.undef], [.undef], [.undef], [.undef], [.undef], [.undef]], [none, none, none, none, none, none, none, none, none, none, none, none, none, none, none, none, none, none, none, none, none, none, none, none, none, none, none, none, none, none, none, none, none, none, none, none, none, none, none, none, none, none, none, none, none, none, none]⟩
def rule_table_x0_1  : State := ⟨[[.undef], [.undef], [.undef], [.undef], [.undef], [.undef], [.undef], [.undef], [.undef], [.undef], [.undef], [.undef], [.undef], [.undef], [.undef], [.undef], [.undef], [.undef], [.undef], [.undef], [.undef], [.undef], [.undef], [.undef], [.undef], [.undef], [.undef], [.undef], [.undef], [.undef], [.undef], [.undef], [.undef], [.undef], [.undef], [.undef], [.undef], [.undef], [.undef], [.undef], [.undef], [.undef], [.undef], [.undef], [.undef], [.undef]], [none, none, none, none, none, none, none, none, none, none, none, none, none, none, none, none, none, none, none, none, none, none, none, none, none, none, none, none, none, none, none, none, none, none, none, none, none, none, none, none, none, none, none, none, none, none, none]⟩
theorem rule_table_t (R : Type) (kk : Nat) (l_0 : (List (ByteArray × ByteArray × Unit))) (from_1 : (Int × Int × Int × Int × Int × Unit)) (to_2 : (Int × Int × Int × Int × Int × Unit)) (K : List SV → Option Box → Option R) : evFn rule_table_E (Tb31 R) kk Tryd.f23 rule_table_c [.dat (.sl 53 (.pair .str (.pair .str .unit))) l_0 [], .dat y5 from_1 [], .dat y5 to_2 []] none K =
  rule_table_s0 l_0 from_1 to_2 (fun a0 => K [.dat (.int .i64) a0 []] none) (fun a0 a1 a2 a3 a4 => loopR (ev rule_table_E (Tb31 R) kk (sub [1, 1, 0, 1, 0, 0] rule_table_c)) [4, 5, 25, 26, 27] [6] kk (rule_table_h0 a0 a1 a2 a3 a4) (kBlock 0 (kSeq rule_table_E (Tb31 R) kk (sub [1, 1, 1] rule_table_c) (kFin rule_table_E Tryd.f23.results.toList none K)))) := by kernel_rfl
theorem rule_table_d0 (R : Type) (kk k : Nat) (t25 : (List (ByteArray × ByteArray × Unit))) (t26 : Int) (t27 : Int) (bt4 : (Int × Int × Int × Int × Int × Unit)) (bt5 : (Int × Int × Int × Int × Int × Unit)) (K : Ex → State → Option R) : loopR (ev rule_table_E (Tb31 R) kk (sub [1, 1, 0, 1, 0, 0] rule_table_c)) [4, 5, 25, 26, 27] [6] (k + 1) (rule_table_h0 t25 t26 t27 bt4 bt5) K =
  rule_table_s1 t25 t26 t27 bt4 bt5 (fun a0 => K .ret (rule_table_x0_0 a0)) (fun a0 a1 a2 a3 a4 => loopR (ev rule_table_E (Tb31 R) kk (sub [1, 1, 0, 1, 0, 0] rule_table_c)) [4, 5, 25, 26, 27] [6] k (rule_table_h0 a0 a1 a2 a3 a4) K) (K (.exit 0) (rule_table_x0_1)) := by kernel_rfl
theorem rule_table_y0_0 (R : Type) (kk : Nat) (t6 : Int) (K : List SV → Option Box → Option R) : (kBlock 0 (kSeq rule_table_E (Tb31 R) kk (sub [1, 1, 1] rule_table_c) (kFin rule_table_E Tryd.f23.results.toList none K))) .ret (rule_table_x0_0 t6) =
  rule_table_s2 t6 (fun a0 => K [.dat (.int .i64) a0 []] none) := by kernel_rfl
theorem rule_table_y0_1 (R : Type) (kk : Nat)  (K : List SV → Option Box → Option R) : (kBlock 0 (kSeq rule_table_E (Tb31 R) kk (sub [1, 1, 1] rule_table_c) (kFin rule_table_E Tryd.f23.results.toList none K))) (.exit 0) (rule_table_x0_1) =
  rule_table_s3 (fun a0 => K [.dat (.int .i64) a0 []] none) := by kernel_rfl
theorem rule_table_lp0 (R : Type) (k : Nat) (t25 : (List (ByteArray × ByteArray × Unit))) (t26 : Int) (t27 : Int) (bt4 : (Int × Int × Int × Int × Int × Unit)) (bt5 : (Int × Int × Int × Int × Int × Unit)) (K : Ex → State → Option R) : loopR (ev rule_table_E (Tb31 R) FUEL (sub [1, 1, 0, 1, 0, 0] rule_table_c)) [4, 5, 25, 26, 27] [6] k (rule_table_h0 t25 t26 t27 bt4 bt5) K = (rule_table_l0 k t25 t26 t27 bt4 bt5).bind fun e => (Sum.elim (fun (we : Int) => K .ret (rule_table_x0_0 we)) (fun (we : Unit) => K (.exit 0) (rule_table_x0_1)) e) := by
  induction k generalizing t25 t26 t27 bt4 bt5 with
  | zero => rfl
  | succ k ih =>
    rw [rule_table_d0]
    simp only [rule_table_l0, rule_table_s0_bind, rule_table_s1_bind, rule_table_s2_bind, rule_table_s3_bind, ih, cond_bind, within_bind, none_bind, some_bind, sum_bind, bind_bind, Sum.elim_inl, Sum.elim_inr]
theorem rule_table_eq (R : Type) (l_0 : (List (ByteArray × ByteArray × Unit))) (from_1 : (Int × Int × Int × Int × Int × Unit)) (to_2 : (Int × Int × Int × Int × Int × Unit)) (K : List SV → Option Box → Option R) : evFn rule_table_E (Tb31 R) FUEL Tryd.f23 rule_table_c [.dat (.sl 53 (.pair .str (.pair .str .unit))) l_0 [], .dat y5 from_1 [], .dat y5 to_2 []] none K = (rule_table l_0 from_1 to_2).bind fun r => K [.dat (.int .i64) r []] none := by
  rw [rule_table_t]
  simp only [rule_table, rule_table_s0_bind, rule_table_s1_bind, rule_table_s2_bind, rule_table_s3_bind, rule_table_lp0, rule_table_y0_0, rule_table_y0_1, cond_bind, within_bind, none_bind, some_bind, sum_bind, bind_bind, Sum.elim_inl, Sum.elim_inr]
def rule_table_g : Pure := fun R l b K => noBox b (args3 (.sl 53 (.pair .str (.pair .str .unit))) y5 y5 l (fun x0 x1 x2 => (rule_table x0 x1 x2).bind fun r => K [.dat (.int .i64) r []] none))
theorem rule_table_n : rule_table_g.Nat := fun R S l b F G K h => noBox_nat (args3_nat fun _ _ _ => bindr_nat fun _ => h _ _)
def Tb32 : Funs := Tb31.add 23 [(.sl 53 (.pair .str (.pair .str .unit))), y5, y5] rule_table_g
theorem Tb32_nat : Tb32.Nat := add_nat Tb31_nat rule_table_n
theorem Tb32_owes : ∀ f, Owes Tryd.prog Tb32 f := add_owes (E := rule_table_E) (Tab.env_ok tab_ok _ _ _ _) mixed Tb31_nat Tb31_owes (fn := Tryd.f23) (code := rule_table_c) Tryd.func23 (by kernel_rfl) (by kernel_rfl) fun l b r b' h => by
  obtain ⟨rfl, h⟩ := noBox_some h
  obtain ⟨x0, x1, x2, h1, h2⟩ := own3 (E := rule_table_E) rfl h
  exact ⟨FUEL, (h2 _ _ _ _ _ _).trans ((rule_table_eq _ x0 x1 x2 _).trans h1)⟩
noncomputable abbrev rule_Check_c : Code := Tryd.f9.body.getD .skip
def rule_Check_E : Env := tab.env (fun _ => []) (fun _ => []) [] [y7, y10, y10]
theorem rule_Check_t (R : Type) (kk : Nat) (r_0 : (Int × Int × Int × ByteArray × (List (ByteArray × ByteArray × Unit)) × Unit)) (a_1 : (Int × Int × (List (Int × Int × Int × Int × Int × Unit)) × Unit)) (b_2 : (Int × Int × (List (Int × Int × Int × Int × Int × Unit)) × Unit)) (K : List SV → Option Box → Option R) : evFn rule_Check_E (Tb32 R) kk Tryd.f9 rule_Check_c [.dat y7 r_0 [], .dat y10 a_1 [], .dat y10 b_2 []] none K =
  rule_Check_s0 r_0 a_1 b_2 (fun a0 => K [.dat (.int .i64) a0 []] none) := by kernel_rfl
theorem rule_Check_eq (R : Type) (r_0 : (Int × Int × Int × ByteArray × (List (ByteArray × ByteArray × Unit)) × Unit)) (a_1 : (Int × Int × (List (Int × Int × Int × Int × Int × Unit)) × Unit)) (b_2 : (Int × Int × (List (Int × Int × Int × Int × Int × Unit)) × Unit)) (K : List SV → Option Box → Option R) : evFn rule_Check_E (Tb32 R) FUEL Tryd.f9 rule_Check_c [.dat y7 r_0 [], .dat y10 a_1 [], .dat y10 b_2 []] none K = (rule_Check r_0 a_1 b_2).bind fun r => K [.dat (.int .i64) r []] none := by
  rw [rule_Check_t]
  simp only [rule_Check, rule_Check_s0_bind, cond_bind, within_bind, none_bind, some_bind, sum_bind, bind_bind, Sum.elim_inl, Sum.elim_inr]
def rule_Check_g : Pure := fun R l b K => noBox b (args3 y7 y10 y10 l (fun x0 x1 x2 => (rule_Check x0 x1 x2).bind fun r => K [.dat (.int .i64) r []] none))
theorem rule_Check_n : rule_Check_g.Nat := fun R S l b F G K h => noBox_nat (args3_nat fun _ _ _ => bindr_nat fun _ => h _ _)
def Tb33 : Funs := Tb32.add 9 [y7, y10, y10] rule_Check_g
theorem Tb33_nat : Tb33.Nat := add_nat Tb32_nat rule_Check_n
theorem Tb33_owes : ∀ f, Owes Tryd.prog Tb33 f := add_owes (E := rule_Check_E) (Tab.env_ok tab_ok _ _ _ _) mixed Tb32_nat Tb32_owes (fn := Tryd.f9) (code := rule_Check_c) Tryd.func9 (by kernel_rfl) (by kernel_rfl) fun l b r b' h => by
  obtain ⟨rfl, h⟩ := noBox_some h
  obtain ⟨x0, x1, x2, h1, h2⟩ := own3 (E := rule_Check_E) rfl h
  exact ⟨FUEL, (h2 _ _ _ _ _ _).trans ((rule_Check_eq _ x0 x1 x2 _).trans h1)⟩
noncomputable abbrev groatlaw20_awake_c : Code := Tryd.f7.body.getD .skip
def groatlaw20_awake_E : Env := tab.env (fun _ => []) (fun _ => []) [] []
theorem groatlaw20_awake_t (R : Type) (kk : Nat)  (K : List SV → Option Box → Option R) : evFn groatlaw20_awake_E (Tb33 R) kk Tryd.f7 groatlaw20_awake_c [] none K =
  groatlaw20_awake_s0 (fun a0 => K [.dat .bool a0 []] none) := by kernel_rfl
theorem groatlaw20_awake_eq (R : Type)  (K : List SV → Option Box → Option R) : evFn groatlaw20_awake_E (Tb33 R) FUEL Tryd.f7 groatlaw20_awake_c [] none K = (groatlaw20_awake).bind fun r => K [.dat .bool r []] none := by
  rw [groatlaw20_awake_t]
  simp only [groatlaw20_awake, groatlaw20_awake_s0_bind, cond_bind, within_bind, none_bind, some_bind, sum_bind, bind_bind, Sum.elim_inl, Sum.elim_inr]
def groatlaw20_awake_g : Pure := fun R l b K => noBox b (args0 l ((groatlaw20_awake).bind fun r => K [.dat .bool r []] none))
theorem groatlaw20_awake_n : groatlaw20_awake_g.Nat := fun R S l b F G K h => noBox_nat (args0_nat (bindr_nat fun _ => h _ _))
def Tb34 : Funs := Tb33.add 7 [] groatlaw20_awake_g
theorem Tb34_nat : Tb34.Nat := add_nat Tb33_nat groatlaw20_awake_n
theorem Tb34_owes : ∀ f, Owes Tryd.prog Tb34 f := add_owes (E := groatlaw20_awake_E) (Tab.env_ok tab_ok _ _ _ _) mixed Tb33_nat Tb33_owes (fn := Tryd.f7) (code := groatlaw20_awake_c) Tryd.func7 (by kernel_rfl) (by kernel_rfl) fun l b r b' h => by
  obtain ⟨rfl, h⟩ := noBox_some h
  obtain ⟨h1, h2⟩ := own0 (E := groatlaw20_awake_E) rfl h
  exact ⟨FUEL, (h2 _ _ _ _ _ _).trans ((groatlaw20_awake_eq _  _).trans h1)⟩
noncomputable abbrev groatref20_Great_c : Code := Tryd.f8.body.getD .skip
def groatref20_Great_E : Env := tab.env (fun i => bif Nat.beq i 4 then [1, 3] else []) (fun i => bif Nat.beq i 4 then [2] else []) [] [y7]
def groatref20_Great_h0 (t3 : Int) (bt1 : (Int × Int × Int × ByteArray × (List (ByteArray × ByteArray × Unit)) × Unit)) : State := ⟨[[.undef], [.ptr 2 y7 []], [.undef], [.dat (.int .i64) t3 []], [.undef], [.undef], [.undef], [.undef], [.undef], [.undef], [.undef], [.undef], [.undef], [.undef], [.undef], [.undef], [.undef], [.undef], [.undef], [.undef], [.undef], [.undef], [.undef], [.undef], [.undef], [.undef], [.undef], [.undef], [.undef], [.undef], [.undef], [.undef], [.undef], [.undef], [.undef], [.undef], [.undef], [.undef], [.undef]], [none, none, some ⟨y7, bt1, []⟩, none, none, none, none, none, none, none, none, none, none, none, none, none, none, none, none, none, none, none, none, none, none, none, none, none, none, none, none, none, none, none, none, none, none, none, none, none]⟩
def groatref20_Great_x0_0 (t2 : Bool) : State := ⟨[[.undef], [.undef], [.dat .bool t2 []], [.undef], [.undef], [.undef], [.undef], [.undef], [.undef], [.undef], [.undef], [.undef], [.undef], [.undef], [.undef], [.undef], [.undef], [.undef], [.undef], [.undef], [.undef], [.undef], [.undef], [.undef], [.undef], [.undef], [.undef], [.undef], [.undef], [.undef], [.undef], [.undef], [.undef], [.undef], [.undef], [.undef], [.undef], [.undef], [.undef]], [none, none, none, none, none, none, none, none, none, none, none, none, none, none, none, none, none, none, none, none, none, none, none, none, none, none, none, none, none, none, none, none, none, none, none, none, none, none, none, none]⟩
def groatref20_Great_x0_1  : State := ⟨[[.undef], [.undef], [.undef], [.undef], [.undef], [.undef], [.undef], [.undef], [.undef], [.undef], [.undef], [.undef], [.undef], [.undef], [.undef], [.undef], [.undef], [.undef], [.undef], [.undef], [.undef], [.undef], [.undef], [.undef], [.undef], [.undef], [.undef], [.undef], [.undef], [.undef], [.undef], [.undef], [.undef], [.undef], [.undef], [.undef], [.undef], [.undef], [.undef]], [none, none, none, none, none, none, none, none, none, none, none, none, none, none, none, none, none, none, none, none, none, none, none, none, none, none, none, none, none, none, none, none, none, none, none, none, none, none, none, none]⟩
theorem groatref20_Great_t (R : Type) (kk : Nat) (r_0 : (Int × Int × Int × ByteArray × (List (ByteArray × ByteArray × Unit)) × Unit)) (K : List SV → Option Box → Option R) : evFn groatref20_Great_E (Tb34 R) kk Tryd.f8 groatref20_Great_c [.dat y7 r_0 []] none K =
  groatref20_Great_s0 r_0 (fun a0 => K [.dat .bool a0 []] none) (fun a0 a1 => loopR (ev groatref20_Great_E (Tb34 R) kk (sub [1, 1, 0, 1, 0, 0] groatref20_Great_c)) [1, 3] [2] kk (groatref20_Great_h0 a0 a1) (kBlock 0 (kSeq groatref20_Great_E (Tb34 R) kk (sub [1, 1, 1] groatref20_Great_c) (kFin groatref20_Great_E Tryd.f8.results.toList none K)))) := by kernel_rfl
theorem groatref20_Great_d0 (R : Type) (kk k : Nat) (t3 : Int) (bt1 : (Int × Int × Int × ByteArray × (List (ByteArray × ByteArray × Unit)) × Unit)) (K : Ex → State → Option R) : loopR (ev groatref20_Great_E (Tb34 R) kk (sub [1, 1, 0, 1, 0, 0] groatref20_Great_c)) [1, 3] [2] (k + 1) (groatref20_Great_h0 t3 bt1) K =
  groatref20_Great_s1 t3 bt1 (fun a0 => K .ret (groatref20_Great_x0_0 a0)) (fun a0 a1 => loopR (ev groatref20_Great_E (Tb34 R) kk (sub [1, 1, 0, 1, 0, 0] groatref20_Great_c)) [1, 3] [2] k (groatref20_Great_h0 a0 a1) K) (K (.exit 0) (groatref20_Great_x0_1)) := by kernel_rfl
theorem groatref20_Great_y0_0 (R : Type) (kk : Nat) (t2 : Bool) (K : List SV → Option Box → Option R) : (kBlock 0 (kSeq groatref20_Great_E (Tb34 R) kk (sub [1, 1, 1] groatref20_Great_c) (kFin groatref20_Great_E Tryd.f8.results.toList none K))) .ret (groatref20_Great_x0_0 t2) =
  groatref20_Great_s2 t2 (fun a0 => K [.dat .bool a0 []] none) := by kernel_rfl
theorem groatref20_Great_y0_1 (R : Type) (kk : Nat)  (K : List SV → Option Box → Option R) : (kBlock 0 (kSeq groatref20_Great_E (Tb34 R) kk (sub [1, 1, 1] groatref20_Great_c) (kFin groatref20_Great_E Tryd.f8.results.toList none K))) (.exit 0) (groatref20_Great_x0_1) =
  groatref20_Great_s3 (fun a0 => K [.dat .bool a0 []] none) := by kernel_rfl
theorem groatref20_Great_lp0 (R : Type) (k : Nat) (t3 : Int) (bt1 : (Int × Int × Int × ByteArray × (List (ByteArray × ByteArray × Unit)) × Unit)) (K : Ex → State → Option R) : loopR (ev groatref20_Great_E (Tb34 R) FUEL (sub [1, 1, 0, 1, 0, 0] groatref20_Great_c)) [1, 3] [2] k (groatref20_Great_h0 t3 bt1) K = (groatref20_Great_l0 k t3 bt1).bind fun e => (Sum.elim (fun (we : Bool) => K .ret (groatref20_Great_x0_0 we)) (fun (we : Unit) => K (.exit 0) (groatref20_Great_x0_1)) e) := by
  induction k generalizing t3 bt1 with
  | zero => rfl
  | succ k ih =>
    rw [groatref20_Great_d0]
    simp only [groatref20_Great_l0, groatref20_Great_s0_bind, groatref20_Great_s1_bind, groatref20_Great_s2_bind, groatref20_Great_s3_bind, ih, cond_bind, within_bind, none_bind, some_bind, sum_bind, bind_bind, Sum.elim_inl, Sum.elim_inr]
theorem groatref20_Great_eq (R : Type) (r_0 : (Int × Int × Int × ByteArray × (List (ByteArray × ByteArray × Unit)) × Unit)) (K : List SV → Option Box → Option R) : evFn groatref20_Great_E (Tb34 R) FUEL Tryd.f8 groatref20_Great_c [.dat y7 r_0 []] none K = (groatref20_Great r_0).bind fun r => K [.dat .bool r []] none := by
  rw [groatref20_Great_t]
  simp only [groatref20_Great, groatref20_Great_s0_bind, groatref20_Great_s1_bind, groatref20_Great_s2_bind, groatref20_Great_s3_bind, groatref20_Great_lp0, groatref20_Great_y0_0, groatref20_Great_y0_1, cond_bind, within_bind, none_bind, some_bind, sum_bind, bind_bind, Sum.elim_inl, Sum.elim_inr]
def groatref20_Great_g : Pure := fun R l b K => noBox b (args1 y7 l (fun x0 => (groatref20_Great x0).bind fun r => K [.dat .bool r []] none))
theorem groatref20_Great_n : groatref20_Great_g.Nat := fun R S l b F G K h => noBox_nat (args1_nat fun _ => bindr_nat fun _ => h _ _)
def Tb35 : Funs := Tb34.add 8 [y7] groatref20_Great_g
theorem Tb35_nat : Tb35.Nat := add_nat Tb34_nat groatref20_Great_n
theorem Tb35_owes : ∀ f, Owes Tryd.prog Tb35 f := add_owes (E := groatref20_Great_E) (Tab.env_ok tab_ok _ _ _ _) mixed Tb34_nat Tb34_owes (fn := Tryd.f8) (code := groatref20_Great_c) Tryd.func8 (by kernel_rfl) (by kernel_rfl) fun l b r b' h => by
  obtain ⟨rfl, h⟩ := noBox_some h
  obtain ⟨x0, h1, h2⟩ := own1 (E := groatref20_Great_E) rfl h
  exact ⟨FUEL, (h2 _ _ _ _ _ _).trans ((groatref20_Great_eq _ x0 _).trans h1)⟩
noncomputable abbrev groatref11_Check_c : Code := Tryd.f33.body.getD .skip
def groatref11_Check_E : Env := tab.env (fun _ => []) (fun _ => []) [] [y5]
theorem groatref11_Check_t (R : Type) (kk : Nat) (s_0 : (Int × Int × Int × Int × Int × Unit)) (K : List SV → Option Box → Option R) : evFn groatref11_Check_E (Tb35 R) kk Tryd.f33 groatref11_Check_c [.dat y5 s_0 []] none K =
  groatref11_Check_s0 s_0 (fun a0 => K [.dat (.int .i64) a0 []] none) := by kernel_rfl
theorem groatref11_Check_eq (R : Type) (s_0 : (Int × Int × Int × Int × Int × Unit)) (K : List SV → Option Box → Option R) : evFn groatref11_Check_E (Tb35 R) FUEL Tryd.f33 groatref11_Check_c [.dat y5 s_0 []] none K = (groatref11_Check s_0).bind fun r => K [.dat (.int .i64) r []] none := by
  rw [groatref11_Check_t]
  simp only [groatref11_Check, groatref11_Check_s0_bind, cond_bind, within_bind, none_bind, some_bind, sum_bind, bind_bind, Sum.elim_inl, Sum.elim_inr]
def groatref11_Check_g : Pure := fun R l b K => noBox b (args1 y5 l (fun x0 => (groatref11_Check x0).bind fun r => K [.dat (.int .i64) r []] none))
theorem groatref11_Check_n : groatref11_Check_g.Nat := fun R S l b F G K h => noBox_nat (args1_nat fun _ => bindr_nat fun _ => h _ _)
def Tb36 : Funs := Tb35.add 33 [y5] groatref11_Check_g
theorem Tb36_nat : Tb36.Nat := add_nat Tb35_nat groatref11_Check_n
theorem Tb36_owes : ∀ f, Owes Tryd.prog Tb36 f := add_owes (E := groatref11_Check_E) (Tab.env_ok tab_ok _ _ _ _) mixed Tb35_nat Tb35_owes (fn := Tryd.f33) (code := groatref11_Check_c) Tryd.func33 (by kernel_rfl) (by kernel_rfl) fun l b r b' h => by
  obtain ⟨rfl, h⟩ := noBox_some h
  obtain ⟨x0, h1, h2⟩ := own1 (E := groatref11_Check_E) rfl h
  exact ⟨FUEL, (h2 _ _ _ _ _ _).trans ((groatref11_Check_eq _ x0 _).trans h1)⟩
noncomputable abbrev groatref13_Check_c : Code := Tryd.f32.body.getD .skip
def groatref13_Check_E : Env := tab.env (fun i => bif Nat.beq i 7 then [1, 4, 5] else []) (fun i => bif Nat.beq i 7 then [2, 3] else []) [] [y10]
def groatref13_Check_h0 (t4 : Int) (t5 : Int) (bt1 : (Int × Int × (List (Int × Int × Int × Int × Int × Unit)) × Unit)) : State := ⟨[[.undef], [.ptr 2 y10 []], [.undef], [.undef], [.dat (.int .i64) t4 []], [.dat (.int .i64) t5 []], [.undef], [.undef], [.undef], [.undef], [.undef], [.undef], [.undef], [.undef], [.undef], [.undef], [.undef], [.undef], [.undef], [.undef], [.undef], [.undef], [.undef], [.undef], [.undef], [.undef], [.undef], [.undef], [.undef], [.undef], [.undef], [.undef], [.undef], [.undef], [.undef], [.undef], [.undef], [.undef], [.undef], [.undef], [.undef], [.undef], [.undef], [.undef], [.undef], [.undef], [.undef], [.undef], [.undef], [.undef], [.undef], [.undef], [.undef], [.undef], [.undef]], [none, none, some ⟨y10, bt1, []⟩, none, none, none, none, none, none, none, none, none, none, none, none, none, none, none, none, none, none, none, none, none, none, none, none, none, none, none, none, none, none, none, none, none, none, none, none, none, none, none, none, none, none, none, none, none, none, none, none, none, none, none, none, none]⟩
def groatref13_Check_x0_0 (t2 : Int) (t3 : Int) : State := ⟨[[.undef], [.undef], [.dat (.int .i64) t2 []], [.dat (.int .i64) t3 []], [.undef], [.undef], [.undef], [.undef], [.undef], [.undef], [.undef], [.undef], [.undef], [.undef], [.undef], [.undef], [.undef], [.undef], [.undef], [.undef], [.undef], [.undef], [.undef], [.undef], [.undef], [.undef], [.undef], [.undef], [.undef], [.undef], [.undef], [.undef], [.undef], [.undef], [.undef], [.undef], [.undef], [.undef], [.undef], [.undef], [.undef], [.undef], [.undef], [.undef], [.undef], [.undef], [.undef], [.undef], [.undef], [.undef], [.undef], [.undef], [.undef], [.undef], [.undef]], [none, none, none, none, none, none, none, none, none, none, none, none, none, none, none, none, none, none, none, none, none, none, none, none, none, none, none, none, none, none, none, none, none, none, none, none, none, none, none, none, none, none, none, none, none, none, none, none, none, none, none, none, none, none, none, none]⟩
def groatref13_Check_x0_1  : State := ⟨[[.undef], [.undef], [.undef], [.undef], [.undef], [.undef], [.undef], [.undef], [.undef], [.undef], [.undef], [.undef], [.undef], [.undef], [.undef], [.undef], [.undef], [.undef], [.undef], [.undef], [.undef], [.undef], [.undef], [.undef], [.undef], [.undef], [.undef], [.undef], [.undef], [.undef], [.undef], [.undef], [.undef], [.undef], [.undef], [.undef], [.undef], [.undef], [.undef], [.undef], [.undef], [.undef], [.undef], [.undef], [.undef], [.undef], [.undef], [.undef], [.undef], [.undef], [.undef], [.undef], [.undef], [.undef], [.undef]], [none, none, none, none, none, none, none, none, none, none, none, none, none, none, none, none, none, none, none, none, none, none, none, none, none, none, none, none, none, none, none, none, none, none, none, none, none, none, none, none, none, none, none, none, none, none, none, none, none, none, none, none, none, none, none, none]⟩
theorem groatref13_Check_t (R : Type) (kk : Nat) (s_0 : (Int × Int × (List (Int × Int × Int × Int × Int × Unit)) × Unit)) (K : List SV → Option Box → Option R) : evFn groatref13_Check_E (Tb36 R) kk Tryd.f32 groatref13_Check_c [.dat y10 s_0 []] none K =
  groatref13_Check_s0 s_0 (fun a0 a1 => K [.dat (.int .i64) a0 [], .dat (.int .i64) a1 []] none) (fun a0 a1 a2 => loopR (ev groatref13_Check_E (Tb36 R) kk (sub [1, 1, 1, 1, 0, 1, 0, 0] groatref13_Check_c)) [1, 4, 5] [2, 3] kk (groatref13_Check_h0 a0 a1 a2) (kBlock 0 (kSeq groatref13_Check_E (Tb36 R) kk (sub [1, 1, 1, 1, 1] groatref13_Check_c) (kFin groatref13_Check_E Tryd.f32.results.toList none K)))) := by kernel_rfl
theorem groatref13_Check_d0 (R : Type) (kk k : Nat) (t4 : Int) (t5 : Int) (bt1 : (Int × Int × (List (Int × Int × Int × Int × Int × Unit)) × Unit)) (K : Ex → State → Option R) : loopR (ev groatref13_Check_E (Tb36 R) kk (sub [1, 1, 1, 1, 0, 1, 0, 0] groatref13_Check_c)) [1, 4, 5] [2, 3] (k + 1) (groatref13_Check_h0 t4 t5 bt1) K =
  groatref13_Check_s1 t4 t5 bt1 (fun a0 a1 => K .ret (groatref13_Check_x0_0 a0 a1)) (fun a0 a1 a2 => loopR (ev groatref13_Check_E (Tb36 R) kk (sub [1, 1, 1, 1, 0, 1, 0, 0] groatref13_Check_c)) [1, 4, 5] [2, 3] k (groatref13_Check_h0 a0 a1 a2) K) (K (.exit 0) (groatref13_Check_x0_1)) := by kernel_rfl
theorem groatref13_Check_y0_0 (R : Type) (kk : Nat) (t2 : Int) (t3 : Int) (K : List SV → Option Box → Option R) : (kBlock 0 (kSeq groatref13_Check_E (Tb36 R) kk (sub [1, 1, 1, 1, 1] groatref13_Check_c) (kFin groatref13_Check_E Tryd.f32.results.toList none K))) .ret (groatref13_Check_x0_0 t2 t3) =
  groatref13_Check_s2 t2 t3 (fun a0 a1 => K [.dat (.int .i64) a0 [], .dat (.int .i64) a1 []] none) := by kernel_rfl
theorem groatref13_Check_y0_1 (R : Type) (kk : Nat)  (K : List SV → Option Box → Option R) : (kBlock 0 (kSeq groatref13_Check_E (Tb36 R) kk (sub [1, 1, 1, 1, 1] groatref13_Check_c) (kFin groatref13_Check_E Tryd.f32.results.toList none K))) (.exit 0) (groatref13_Check_x0_1) =
  groatref13_Check_s3 (fun a0 a1 => K [.dat (.int .i64) a0 [], .dat (.int .i64) a1 []] none) := by kernel_rfl
theorem groatref13_Check_lp0 (R : Type) (k : Nat) (t4 : Int) (t5 : Int) (bt1 : (Int × Int × (List (Int × Int × Int × Int × Int × Unit)) × Unit)) (K : Ex → State → Option R) : loopR (ev groatref13_Check_E (Tb36 R) FUEL (sub [1, 1, 1, 1, 0, 1, 0, 0] groatref13_Check_c)) [1, 4, 5] [2, 3] k (groatref13_Check_h0 t4 t5 bt1) K = (groatref13_Check_l0 k t4 t5 bt1).bind fun e => (Sum.elim (fun (we : (Int × Int)) => K .ret (groatref13_Check_x0_0 we.1 we.2)) (fun (we : Unit) => K (.exit 0) (groatref13_Check_x0_1)) e) := by
  induction k generalizing t4 t5 bt1 with
  | zero => rfl
  | succ k ih =>
    rw [groatref13_Check_d0]
    simp only [groatref13_Check_l0, groatref13_Check_s0_bind, groatref13_Check_s1_bind, groatref13_Check_s2_bind, groatref13_Check_s3_bind, ih, cond_bind, within_bind, none_bind, some_bind, sum_bind, bind_bind, Sum.elim_inl, Sum.elim_inr]
theorem groatref13_Check_eq (R : Type) (s_0 : (Int × Int × (List (Int × Int × Int × Int × Int × Unit)) × Unit)) (K : List SV → Option Box → Option R) : evFn groatref13_Check_E (Tb36 R) FUEL Tryd.f32 groatref13_Check_c [.dat y10 s_0 []] none K = (groatref13_Check s_0).bind fun r => K [.dat (.int .i64) r.1 [], .dat (.int .i64) r.2 []] none := by
  rw [groatref13_Check_t]
  simp only [groatref13_Check, groatref13_Check_s0_bind, groatref13_Check_s1_bind, groatref13_Check_s2_bind, groatref13_Check_s3_bind, groatref13_Check_lp0, groatref13_Check_y0_0, groatref13_Check_y0_1, cond_bind, within_bind, none_bind, some_bind, sum_bind, bind_bind, Sum.elim_inl, Sum.elim_inr]
def groatref13_Check_g : Pure := fun R l b K => noBox b (args1 y10 l (fun x0 => (groatref13_Check x0).bind fun r => K [.dat (.int .i64) r.1 [], .dat (.int .i64) r.2 []] none))
theorem groatref13_Check_n : groatref13_Check_g.Nat := fun R S l b F G K h => noBox_nat (args1_nat fun _ => bindr_nat fun _ => h _ _)
def Tb37 : Funs := Tb36.add 32 [y10] groatref13_Check_g
theorem Tb37_nat : Tb37.Nat := add_nat Tb36_nat groatref13_Check_n
theorem Tb37_owes : ∀ f, Owes Tryd.prog Tb37 f := add_owes (E := groatref13_Check_E) (Tab.env_ok tab_ok _ _ _ _) mixed Tb36_nat Tb36_owes (fn := Tryd.f32) (code := groatref13_Check_c) Tryd.func32 (by kernel_rfl) (by kernel_rfl) fun l b r b' h => by
  obtain ⟨rfl, h⟩ := noBox_some h
  obtain ⟨x0, h1, h2⟩ := own1 (E := groatref13_Check_E) rfl h
  exact ⟨FUEL, (h2 _ _ _ _ _ _).trans ((groatref13_Check_eq _ x0 _).trans h1)⟩
noncomputable abbrev groatref13_Right_c : Code := Tryd.f15.body.getD .skip
def groatref13_Right_E : Env := tab.env (fun _ => []) (fun _ => []) [] [y10]
theorem groatref13_Right_t (R : Type) (kk : Nat) (s_0 : (Int × Int × (List (Int × Int × Int × Int × Int × Unit)) × Unit)) (K : List SV → Option Box → Option R) : evFn groatref13_Right_E (Tb37 R) kk Tryd.f15 groatref13_Right_c [.dat y10 s_0 []] none K =
  groatref13_Right_s0 s_0 (fun a0 => K [.dat .bool a0 []] none) := by kernel_rfl
theorem groatref13_Right_eq (R : Type) (s_0 : (Int × Int × (List (Int × Int × Int × Int × Int × Unit)) × Unit)) (K : List SV → Option Box → Option R) : evFn groatref13_Right_E (Tb37 R) FUEL Tryd.f15 groatref13_Right_c [.dat y10 s_0 []] none K = (groatref13_Right s_0).bind fun r => K [.dat .bool r []] none := by
  rw [groatref13_Right_t]
  simp only [groatref13_Right, groatref13_Right_s0_bind, cond_bind, within_bind, none_bind, some_bind, sum_bind, bind_bind, Sum.elim_inl, Sum.elim_inr]
def groatref13_Right_g : Pure := fun R l b K => noBox b (args1 y10 l (fun x0 => (groatref13_Right x0).bind fun r => K [.dat .bool r []] none))
theorem groatref13_Right_n : groatref13_Right_g.Nat := fun R S l b F G K h => noBox_nat (args1_nat fun _ => bindr_nat fun _ => h _ _)
def Tb38 : Funs := Tb37.add 15 [y10] groatref13_Right_g
theorem Tb38_nat : Tb38.Nat := add_nat Tb37_nat groatref13_Right_n
theorem Tb38_owes : ∀ f, Owes Tryd.prog Tb38 f := add_owes (E := groatref13_Right_E) (Tab.env_ok tab_ok _ _ _ _) mixed Tb37_nat Tb37_owes (fn := Tryd.f15) (code := groatref13_Right_c) Tryd.func15 (by kernel_rfl) (by kernel_rfl) fun l b r b' h => by
  obtain ⟨rfl, h⟩ := noBox_some h
  obtain ⟨x0, h1, h2⟩ := own1 (E := groatref13_Right_E) rfl h
  exact ⟨FUEL, (h2 _ _ _ _ _ _).trans ((groatref13_Right_eq _ x0 _).trans h1)⟩
noncomputable abbrev groatref13_Find_c : Code := Tryd.f16.body.getD .skip
def groatref13_Find_E : Env := tab.env (fun i => bif Nat.beq i 2 then [1, 2, 5] else []) (fun i => bif Nat.beq i 2 then [4] else []) [] [y10, (.int .i64)]
def groatref13_Find_h0 (no_1 : Int) (t5 : Int) (bt2 : (Int × Int × (List (Int × Int × Int × Int × Int × Unit)) × Unit)) : State := ⟨[[.undef], [.dat (.int .i64) no_1 []], [.ptr 3 y10 []], [.undef], [.undef], [.dat (.int .i64) t5 []], [.undef], [.undef], [.undef], [.undef], [.undef], [.undef], [.undef], [.undef], [.undef], [.undef], [.undef], [.undef], [.undef], [.undef], [.undef], [.undef]], [none, none, none, some ⟨y10, bt2, []⟩, none, none, none, none, none, none, none, none, none, none, none, none, none, none, none, none, none, none, none]⟩
def groatref13_Find_x0_0 (t4 : Int) : State := ⟨[[.undef], [.undef], [.undef], [.undef], [.dat (.int .i64) t4 []], [.undef], [.undef], [.undef], [.undef], [.undef], [.undef], [.undef], [.undef], [.undef], [.undef], [.undef], [.undef], [.undef], [.undef], [.undef], [.undef], [.undef]], [none, none, none, none, none, none, none, none, none, none, none, none, none, none, none, none, none, none, none, none, none, none, none]⟩
def groatref13_Find_x0_1  : State := ⟨[[.undef], [.undef], [.undef], [.undef], [.undef], [.undef], [.undef], [.undef], [.undef], [.undef], [.undef], [.undef], [.undef], [.undef], [.undef], [.undef], [.undef], [.undef], [.undef], [.undef], [.undef], [.undef]], [none, none, none, none, none, none, none, none, none, none, none, none, none, none, none, none, none, none, none, none, none, none, none]⟩
theorem groatref13_Find_t (R : Type) (kk : Nat) (s_0 : (Int × Int × (List (Int × Int × Int × Int × Int × Unit)) × Unit)) (no_1 : Int) (K : List SV → Option Box → Option R) : evFn groatref13_Find_E (Tb38 R) kk Tryd.f16 groatref13_Find_c [.dat y10 s_0 [], .dat (.int .i64) no_1 []] none K =
  groatref13_Find_s0 s_0 no_1 (fun a0 a1 a2 => loopR (ev groatref13_Find_E (Tb38 R) kk (sub [1, 0, 1, 0, 0] groatref13_Find_c)) [1, 2, 5] [4] kk (groatref13_Find_h0 a0 a1 a2) (kBlock 0 (kSeq groatref13_Find_E (Tb38 R) kk (sub [1, 1] groatref13_Find_c) (kFin groatref13_Find_E Tryd.f16.results.toList none K)))) := by kernel_rfl
theorem groatref13_Find_d0 (R : Type) (kk k : Nat) (no_1 : Int) (t5 : Int) (bt2 : (Int × Int × (List (Int × Int × Int × Int × Int × Unit)) × Unit)) (K : Ex → State → Option R) : loopR (ev groatref13_Find_E (Tb38 R) kk (sub [1, 0, 1, 0, 0] groatref13_Find_c)) [1, 2, 5] [4] (k + 1) (groatref13_Find_h0 no_1 t5 bt2) K =
  groatref13_Find_s1 no_1 t5 bt2 (fun a0 => K .ret (groatref13_Find_x0_0 a0)) (fun a0 a1 a2 => loopR (ev groatref13_Find_E (Tb38 R) kk (sub [1, 0, 1, 0, 0] groatref13_Find_c)) [1, 2, 5] [4] k (groatref13_Find_h0 a0 a1 a2) K) (K (.exit 0) (groatref13_Find_x0_1)) := by kernel_rfl
theorem groatref13_Find_y0_0 (R : Type) (kk : Nat) (t4 : Int) (K : List SV → Option Box → Option R) : (kBlock 0 (kSeq groatref13_Find_E (Tb38 R) kk (sub [1, 1] groatref13_Find_c) (kFin groatref13_Find_E Tryd.f16.results.toList none K))) .ret (groatref13_Find_x0_0 t4) =
  groatref13_Find_s2 t4 (fun a0 => K [.dat (.int .i64) a0 []] none) := by kernel_rfl
theorem groatref13_Find_y0_1 (R : Type) (kk : Nat)  (K : List SV → Option Box → Option R) : (kBlock 0 (kSeq groatref13_Find_E (Tb38 R) kk (sub [1, 1] groatref13_Find_c) (kFin groatref13_Find_E Tryd.f16.results.toList none K))) (.exit 0) (groatref13_Find_x0_1) =
  groatref13_Find_s3 (fun a0 => K [.dat (.int .i64) a0 []] none) := by kernel_rfl
theorem groatref13_Find_lp0 (R : Type) (k : Nat) (no_1 : Int) (t5 : Int) (bt2 : (Int × Int × (List (Int × Int × Int × Int × Int × Unit)) × Unit)) (K : Ex → State → Option R) : loopR (ev groatref13_Find_E (Tb38 R) FUEL (sub [1, 0, 1, 0, 0] groatref13_Find_c)) [1, 2, 5] [4] k (groatref13_Find_h0 no_1 t5 bt2) K = (groatref13_Find_l0 k no_1 t5 bt2).bind fun e => (Sum.elim (fun (we : Int) => K .ret (groatref13_Find_x0_0 we)) (fun (we : Unit) => K (.exit 0) (groatref13_Find_x0_1)) e) := by
  induction k generalizing no_1 t5 bt2 with
  | zero => rfl
  | succ k ih =>
    rw [groatref13_Find_d0]
    simp only [groatref13_Find_l0, groatref13_Find_s0_bind, groatref13_Find_s1_bind, groatref13_Find_s2_bind, groatref13_Find_s3_bind, ih, cond_bind, within_bind, none_bind, some_bind, sum_bind, bind_bind, Sum.elim_inl, Sum.elim_inr]
theorem groatref13_Find_eq (R : Type) (s_0 : (Int × Int × (List (Int × Int × Int × Int × Int × Unit)) × Unit)) (no_1 : Int) (K : List SV → Option Box → Option R) : evFn groatref13_Find_E (Tb38 R) FUEL Tryd.f16 groatref13_Find_c [.dat y10 s_0 [], .dat (.int .i64) no_1 []] none K = (groatref13_Find s_0 no_1).bind fun r => K [.dat (.int .i64) r []] none := by
  rw [groatref13_Find_t]
  simp only [groatref13_Find, groatref13_Find_s0_bind, groatref13_Find_s1_bind, groatref13_Find_s2_bind, groatref13_Find_s3_bind, groatref13_Find_lp0, groatref13_Find_y0_0, groatref13_Find_y0_1, cond_bind, within_bind, none_bind, some_bind, sum_bind, bind_bind, Sum.elim_inl, Sum.elim_inr]
def groatref13_Find_g : Pure := fun R l b K => noBox b (args2 y10 (.int .i64) l (fun x0 x1 => (groatref13_Find x0 x1).bind fun r => K [.dat (.int .i64) r []] none))
theorem groatref13_Find_n : groatref13_Find_g.Nat := fun R S l b F G K h => noBox_nat (args2_nat fun _ _ => bindr_nat fun _ => h _ _)
def Tb39 : Funs := Tb38.add 16 [y10, (.int .i64)] groatref13_Find_g
theorem Tb39_nat : Tb39.Nat := add_nat Tb38_nat groatref13_Find_n
theorem Tb39_owes : ∀ f, Owes Tryd.prog Tb39 f := add_owes (E := groatref13_Find_E) (Tab.env_ok tab_ok _ _ _ _) mixed Tb38_nat Tb38_owes (fn := Tryd.f16) (code := groatref13_Find_c) Tryd.func16 (by kernel_rfl) (by kernel_rfl) fun l b r b' h => by
  obtain ⟨rfl, h⟩ := noBox_some h
  obtain ⟨x0, x1, h1, h2⟩ := own2 (E := groatref13_Find_E) rfl h
  exact ⟨FUEL, (h2 _ _ _ _ _ _).trans ((groatref13_Find_eq _ x0 x1 _).trans h1)⟩
noncomputable abbrev groatref04_Is_c : Code := Tryd.f48.body.getD .skip
def groatref04_Is_E : Env := tab.env (fun _ => []) (fun _ => []) [] [(.int .i64), (.int .u8)]
theorem groatref04_Is_t (R : Type) (kk : Nat) (class_0 : Int) (b_1 : Int) (K : List SV → Option Box → Option R) : evFn groatref04_Is_E (Tb39 R) kk Tryd.f48 groatref04_Is_c [.dat (.int .i64) class_0 [], .dat (.int .u8) b_1 []] none K =
  groatref04_Is_s0 class_0 b_1 (fun a0 => K [.dat .bool a0 []] none) := by kernel_rfl
theorem groatref04_Is_eq (R : Type) (class_0 : Int) (b_1 : Int) (K : List SV → Option Box → Option R) : evFn groatref04_Is_E (Tb39 R) FUEL Tryd.f48 groatref04_Is_c [.dat (.int .i64) class_0 [], .dat (.int .u8) b_1 []] none K = (groatref04_Is class_0 b_1).bind fun r => K [.dat .bool r []] none := by
  rw [groatref04_Is_t]
  simp only [groatref04_Is, groatref04_Is_s0_bind, cond_bind, within_bind, none_bind, some_bind, sum_bind, bind_bind, Sum.elim_inl, Sum.elim_inr]
def groatref04_Is_g : Pure := fun R l b K => noBox b (args2 (.int .i64) (.int .u8) l (fun x0 x1 => (groatref04_Is x0 x1).bind fun r => K [.dat .bool r []] none))
theorem groatref04_Is_n : groatref04_Is_g.Nat := fun R S l b F G K h => noBox_nat (args2_nat fun _ _ => bindr_nat fun _ => h _ _)
def Tb40 : Funs := Tb39.add 48 [(.int .i64), (.int .u8)] groatref04_Is_g
theorem Tb40_nat : Tb40.Nat := add_nat Tb39_nat groatref04_Is_n
theorem Tb40_owes : ∀ f, Owes Tryd.prog Tb40 f := add_owes (E := groatref04_Is_E) (Tab.env_ok tab_ok _ _ _ _) mixed Tb39_nat Tb39_owes (fn := Tryd.f48) (code := groatref04_Is_c) Tryd.func48 (by kernel_rfl) (by kernel_rfl) fun l b r b' h => by
  obtain ⟨rfl, h⟩ := noBox_some h
  obtain ⟨x0, x1, h1, h2⟩ := own2 (E := groatref04_Is_E) rfl h
  exact ⟨FUEL, (h2 _ _ _ _ _ _).trans ((groatref04_Is_eq _ x0 x1 _).trans h1)⟩
noncomputable abbrev groatref04_First_c : Code := Tryd.f34.body.getD .skip
def groatref04_First_E : Env := tab.env (fun i => bif Nat.beq i 2 then [0, 1, 5] else []) (fun i => bif Nat.beq i 2 then [4] else []) [] [(.int .i64), .str]
def groatref04_First_h0 (class_0 : Int) (s_1 : ByteArray) (t5 : Int) : State := ⟨[[.dat (.int .i64) class_0 []], [.dat .str s_1 []], [.undef], [.undef], [.undef], [.dat (.int .i64) t5 []], [.undef], [.undef], [.undef], [.undef], [.undef], [.undef], [.undef], [.undef], [.undef], [.undef], [.undef], [.undef], [.undef]], [none, none, none, none, none, none, none, none, none, none, none, none, none, none, none, none, none, none, none, none]⟩
def groatref04_First_x0_0 (t4 : Int) : State := ⟨[[.undef], [.undef], [.undef], [.undef], [.dat (.int .i64) t4 []], [.undef], [.undef], [.undef], [.undef], [.undef], [.undef], [.undef], [.undef], [.undef], [.undef], [.undef], [.undef], [.undef], [.undef]], [none, none, none, none, none, none, none, none, none, none, none, none, none, none, none, none, none, none, none, none]⟩
def groatref04_First_x0_1  : State := ⟨[[.undef], [.undef], [.undef], [.undef], [.undef], [.undef], [.undef], [.undef], [.undef], [.undef], [.undef], [.undef], [.undef], [.undef], [.undef], [.undef], [.undef], [.undef], [.undef]], [none, none, none, none, none, none, none, none, none, none, none, none, none, none, none, none, none, none, none, none]⟩
theorem groatref04_First_t (R : Type) (kk : Nat) (class_0 : Int) (s_1 : ByteArray) (K : List SV → Option Box → Option R) : evFn groatref04_First_E (Tb40 R) kk Tryd.f34 groatref04_First_c [.dat (.int .i64) class_0 [], .dat .str s_1 []] none K =
  groatref04_First_s0 class_0 s_1 (fun a0 a1 a2 => loopR (ev groatref04_First_E (Tb40 R) kk (sub [1, 0, 1, 0, 0] groatref04_First_c)) [0, 1, 5] [4] kk (groatref04_First_h0 a0 a1 a2) (kBlock 0 (kSeq groatref04_First_E (Tb40 R) kk (sub [1, 1] groatref04_First_c) (kFin groatref04_First_E Tryd.f34.results.toList none K)))) := by kernel_rfl
theorem groatref04_First_d0 (R : Type) (kk k : Nat) (class_0 : Int) (s_1 : ByteArray) (t5 : Int) (K : Ex → State → Option R) : loopR (ev groatref04_First_E (Tb40 R) kk (sub [1, 0, 1, 0, 0] groatref04_First_c)) [0, 1, 5] [4] (k + 1) (groatref04_First_h0 class_0 s_1 t5) K =
  groatref04_First_s1 class_0 s_1 t5 (fun a0 => K .ret (groatref04_First_x0_0 a0)) (fun a0 a1 a2 => loopR (ev groatref04_First_E (Tb40 R) kk (sub [1, 0, 1, 0, 0] groatref04_First_c)) [0, 1, 5] [4] k (groatref04_First_h0 a0 a1 a2) K) (K (.exit 0) (groatref04_First_x0_1)) := by kernel_rfl
theorem groatref04_First_y0_0 (R : Type) (kk : Nat) (t4 : Int) (K : List SV → Option Box → Option R) : (kBlock 0 (kSeq groatref04_First_E (Tb40 R) kk (sub [1, 1] groatref04_First_c) (kFin groatref04_First_E Tryd.f34.results.toList none K))) .ret (groatref04_First_x0_0 t4) =
  groatref04_First_s2 t4 (fun a0 => K [.dat (.int .i64) a0 []] none) := by kernel_rfl
theorem groatref04_First_y0_1 (R : Type) (kk : Nat)  (K : List SV → Option Box → Option R) : (kBlock 0 (kSeq groatref04_First_E (Tb40 R) kk (sub [1, 1] groatref04_First_c) (kFin groatref04_First_E Tryd.f34.results.toList none K))) (.exit 0) (groatref04_First_x0_1) =
  groatref04_First_s3 (fun a0 => K [.dat (.int .i64) a0 []] none) := by kernel_rfl
theorem groatref04_First_lp0 (R : Type) (k : Nat) (class_0 : Int) (s_1 : ByteArray) (t5 : Int) (K : Ex → State → Option R) : loopR (ev groatref04_First_E (Tb40 R) FUEL (sub [1, 0, 1, 0, 0] groatref04_First_c)) [0, 1, 5] [4] k (groatref04_First_h0 class_0 s_1 t5) K = (groatref04_First_l0 k class_0 s_1 t5).bind fun e => (Sum.elim (fun (we : Int) => K .ret (groatref04_First_x0_0 we)) (fun (we : Unit) => K (.exit 0) (groatref04_First_x0_1)) e) := by
  induction k generalizing class_0 s_1 t5 with
  | zero => rfl
  | succ k ih =>
    rw [groatref04_First_d0]
    simp only [groatref04_First_l0, groatref04_First_s0_bind, groatref04_First_s1_bind, groatref04_First_s2_bind, groatref04_First_s3_bind, ih, cond_bind, within_bind, none_bind, some_bind, sum_bind, bind_bind, Sum.elim_inl, Sum.elim_inr]
theorem groatref04_First_eq (R : Type) (class_0 : Int) (s_1 : ByteArray) (K : List SV → Option Box → Option R) : evFn groatref04_First_E (Tb40 R) FUEL Tryd.f34 groatref04_First_c [.dat (.int .i64) class_0 [], .dat .str s_1 []] none K = (groatref04_First class_0 s_1).bind fun r => K [.dat (.int .i64) r []] none := by
  rw [groatref04_First_t]
  simp only [groatref04_First, groatref04_First_s0_bind, groatref04_First_s1_bind, groatref04_First_s2_bind, groatref04_First_s3_bind, groatref04_First_lp0, groatref04_First_y0_0, groatref04_First_y0_1, cond_bind, within_bind, none_bind, some_bind, sum_bind, bind_bind, Sum.elim_inl, Sum.elim_inr]
def groatref04_First_g : Pure := fun R l b K => noBox b (args2 (.int .i64) .str l (fun x0 x1 => (groatref04_First x0 x1).bind fun r => K [.dat (.int .i64) r []] none))
theorem groatref04_First_n : groatref04_First_g.Nat := fun R S l b F G K h => noBox_nat (args2_nat fun _ _ => bindr_nat fun _ => h _ _)
def Tb41 : Funs := Tb40.add 34 [(.int .i64), .str] groatref04_First_g
theorem Tb41_nat : Tb41.Nat := add_nat Tb40_nat groatref04_First_n
theorem Tb41_owes : ∀ f, Owes Tryd.prog Tb41 f := add_owes (E := groatref04_First_E) (Tab.env_ok tab_ok _ _ _ _) mixed Tb40_nat Tb40_owes (fn := Tryd.f34) (code := groatref04_First_c) Tryd.func34 (by kernel_rfl) (by kernel_rfl) fun l b r b' h => by
  obtain ⟨rfl, h⟩ := noBox_some h
  obtain ⟨x0, x1, h1, h2⟩ := own2 (E := groatref04_First_E) rfl h
  exact ⟨FUEL, (h2 _ _ _ _ _ _).trans ((groatref04_First_eq _ x0 x1 _).trans h1)⟩
noncomputable abbrev groatref08_First_c : Code := Tryd.f73.body.getD .skip
def groatref08_First_E : Env := tab.env (fun _ => []) (fun _ => []) [] [(.int .u8)]
theorem groatref08_First_t (R : Type) (kk : Nat) (b_0 : Int) (K : List SV → Option Box → Option R) : evFn groatref08_First_E (Tb41 R) kk Tryd.f73 groatref08_First_c [.dat (.int .u8) b_0 []] none K =
  groatref08_First_s0 b_0 (fun a0 => K [.dat (.int .i64) a0 []] none) := by kernel_rfl
theorem groatref08_First_eq (R : Type) (b_0 : Int) (K : List SV → Option Box → Option R) : evFn groatref08_First_E (Tb41 R) FUEL Tryd.f73 groatref08_First_c [.dat (.int .u8) b_0 []] none K = (groatref08_First b_0).bind fun r => K [.dat (.int .i64) r []] none := by
  rw [groatref08_First_t]
  simp only [groatref08_First, groatref08_First_s0_bind, cond_bind, within_bind, none_bind, some_bind, sum_bind, bind_bind, Sum.elim_inl, Sum.elim_inr]
def groatref08_First_g : Pure := fun R l b K => noBox b (args1 (.int .u8) l (fun x0 => (groatref08_First x0).bind fun r => K [.dat (.int .i64) r []] none))
theorem groatref08_First_n : groatref08_First_g.Nat := fun R S l b F G K h => noBox_nat (args1_nat fun _ => bindr_nat fun _ => h _ _)
def Tb42 : Funs := Tb41.add 73 [(.int .u8)] groatref08_First_g
theorem Tb42_nat : Tb42.Nat := add_nat Tb41_nat groatref08_First_n
theorem Tb42_owes : ∀ f, Owes Tryd.prog Tb42 f := add_owes (E := groatref08_First_E) (Tab.env_ok tab_ok _ _ _ _) mixed Tb41_nat Tb41_owes (fn := Tryd.f73) (code := groatref08_First_c) Tryd.func73 (by kernel_rfl) (by kernel_rfl) fun l b r b' h => by
  obtain ⟨rfl, h⟩ := noBox_some h
  obtain ⟨x0, h1, h2⟩ := own1 (E := groatref08_First_E) rfl h
  exact ⟨FUEL, (h2 _ _ _ _ _ _).trans ((groatref08_First_eq _ x0 _).trans h1)⟩
noncomputable abbrev groatref08_Get_c : Code := Tryd.f49.body.getD .skip
def groatref08_Get_E : Env := tab.env (fun _ => []) (fun _ => []) [] [.str, (.int .i64)]
theorem groatref08_Get_t (R : Type) (kk : Nat) (b_0 : ByteArray) (at_1 : Int) (K : List SV → Option Box → Option R) : evFn groatref08_Get_E (Tb42 R) kk Tryd.f49 groatref08_Get_c [.dat .str b_0 [], .dat (.int .i64) at_1 []] none K =
  groatref08_Get_s0 b_0 at_1 (fun a0 a1 a2 => K [.dat (.int .i64) a0 [], .dat (.int .i64) a1 [], .dat (.int .i64) a2 []] none) := by kernel_rfl
theorem groatref08_Get_eq (R : Type) (b_0 : ByteArray) (at_1 : Int) (K : List SV → Option Box → Option R) : evFn groatref08_Get_E (Tb42 R) FUEL Tryd.f49 groatref08_Get_c [.dat .str b_0 [], .dat (.int .i64) at_1 []] none K = (groatref08_Get b_0 at_1).bind fun r => K [.dat (.int .i64) r.1 [], .dat (.int .i64) r.2.1 [], .dat (.int .i64) r.2.2 []] none := by
  rw [groatref08_Get_t]
  simp only [groatref08_Get, groatref08_Get_s0_bind, cond_bind, within_bind, none_bind, some_bind, sum_bind, bind_bind, Sum.elim_inl, Sum.elim_inr]
def groatref08_Get_g : Pure := fun R l b K => noBox b (args2 .str (.int .i64) l (fun x0 x1 => (groatref08_Get x0 x1).bind fun r => K [.dat (.int .i64) r.1 [], .dat (.int .i64) r.2.1 [], .dat (.int .i64) r.2.2 []] none))
theorem groatref08_Get_n : groatref08_Get_g.Nat := fun R S l b F G K h => noBox_nat (args2_nat fun _ _ => bindr_nat fun _ => h _ _)
def Tb43 : Funs := Tb42.add 49 [.str, (.int .i64)] groatref08_Get_g
theorem Tb43_nat : Tb43.Nat := add_nat Tb42_nat groatref08_Get_n
theorem Tb43_owes : ∀ f, Owes Tryd.prog Tb43 f := add_owes (E := groatref08_Get_E) (Tab.env_ok tab_ok _ _ _ _) mixed Tb42_nat Tb42_owes (fn := Tryd.f49) (code := groatref08_Get_c) Tryd.func49 (by kernel_rfl) (by kernel_rfl) fun l b r b' h => by
  obtain ⟨rfl, h⟩ := noBox_some h
  obtain ⟨x0, x1, h1, h2⟩ := own2 (E := groatref08_Get_E) rfl h
  exact ⟨FUEL, (h2 _ _ _ _ _ _).trans ((groatref08_Get_eq _ x0 x1 _).trans h1)⟩
noncomputable abbrev groatref09_Get_c : Code := Tryd.f50.body.getD .skip
def groatref09_Get_E : Env := tab.env (fun _ => []) (fun _ => []) [] [.str, (.int .i64)]
theorem groatref09_Get_t (R : Type) (kk : Nat) (b_0 : ByteArray) (at_1 : Int) (K : List SV → Option Box → Option R) : evFn groatref09_Get_E (Tb43 R) kk Tryd.f50 groatref09_Get_c [.dat .str b_0 [], .dat (.int .i64) at_1 []] none K =
  groatref09_Get_s0 b_0 at_1 (fun a0 a1 a2 => K [.dat (.int .i64) a0 [], .dat (.int .i64) a1 [], .dat (.int .i64) a2 []] none) := by kernel_rfl
theorem groatref09_Get_eq (R : Type) (b_0 : ByteArray) (at_1 : Int) (K : List SV → Option Box → Option R) : evFn groatref09_Get_E (Tb43 R) FUEL Tryd.f50 groatref09_Get_c [.dat .str b_0 [], .dat (.int .i64) at_1 []] none K = (groatref09_Get b_0 at_1).bind fun r => K [.dat (.int .i64) r.1 [], .dat (.int .i64) r.2.1 [], .dat (.int .i64) r.2.2 []] none := by
  rw [groatref09_Get_t]
  simp only [groatref09_Get, groatref09_Get_s0_bind, cond_bind, within_bind, none_bind, some_bind, sum_bind, bind_bind, Sum.elim_inl, Sum.elim_inr]
def groatref09_Get_g : Pure := fun R l b K => noBox b (args2 .str (.int .i64) l (fun x0 x1 => (groatref09_Get x0 x1).bind fun r => K [.dat (.int .i64) r.1 [], .dat (.int .i64) r.2.1 [], .dat (.int .i64) r.2.2 []] none))
theorem groatref09_Get_n : groatref09_Get_g.Nat := fun R S l b F G K h => noBox_nat (args2_nat fun _ _ => bindr_nat fun _ => h _ _)
def Tb44 : Funs := Tb43.add 50 [.str, (.int .i64)] groatref09_Get_g
theorem Tb44_nat : Tb44.Nat := add_nat Tb43_nat groatref09_Get_n
theorem Tb44_owes : ∀ f, Owes Tryd.prog Tb44 f := add_owes (E := groatref09_Get_E) (Tab.env_ok tab_ok _ _ _ _) mixed Tb43_nat Tb43_owes (fn := Tryd.f50) (code := groatref09_Get_c) Tryd.func50 (by kernel_rfl) (by kernel_rfl) fun l b r b' h => by
  obtain ⟨rfl, h⟩ := noBox_some h
  obtain ⟨x0, x1, h1, h2⟩ := own2 (E := groatref09_Get_E) rfl h
  exact ⟨FUEL, (h2 _ _ _ _ _ _).trans ((groatref09_Get_eq _ x0 x1 _).trans h1)⟩
noncomputable abbrev groatref10_has_c : Code := Tryd.f51.body.getD .skip
def groatref10_has_E : Env := tab.env (fun i => bif Nat.beq i 2 then [0, 1, 2, 7] else []) (fun i => bif Nat.beq i 2 then [6] else []) [] [(.sl 92 (.pair (.int .i64) (.pair .str .unit))), (.int .i64), (.int .i64)]
def groatref10_has_h0 (l_0 : (List (Int × ByteArray × Unit))) (n_1 : Int) (tag_2 : Int) (t7 : Int) : State := ⟨[[.dat (.sl 92 (.pair (.int .i64) (.pair .str .unit))) l_0 []], [.dat (.int .i64) n_1 []], [.dat (.int .i64) tag_2 []], [.undef], [.undef], [.undef], [.undef], [.dat (.int .i64) t7 []], [.undef], [.undef], [.undef], [.undef], [.undef], [.undef], [.undef], [.undef], [.undef], [.undef], [.undef], [.undef]], [none, none, none, none, none, none, none, none, none, none, none, none, none, none, none, none, none, none, none, none, none]⟩
def groatref10_has_x0_0 (t6 : Bool) : State := ⟨[[.undef], [.undef], [.undef], [.undef], [.undef], [.undef], [.dat .bool t6 []], [.undef], [.undef], [.undef], [.undef], [.undef], [.undef], [.undef], [.undef], [.undef], [.undef], [.undef], [.undef], [.undef]], [none, none, none, none, none, none, none, none, none, none, none, none, none, none, none, none, none, none, none, none, none]⟩
def groatref10_has_x0_1  : State := ⟨[[.undef], [.undef], [.undef], [.undef], [.undef], [.undef], [.undef], [.undef], [.undef], [.undef], [.undef], [.undef], [.undef], [.undef], [.undef], [.undef], [.undef], [.undef], [.undef], [.undef]], [none, none, none, none, none, none, none, none, none, none, none, none, none, none, none, none, none, none, none, none, none]⟩
theorem groatref10_has_t (R : Type) (kk : Nat) (l_0 : (List (Int × ByteArray × Unit))) (n_1 : Int) (tag_2 : Int) (K : List SV → Option Box → Option R) : evFn groatref10_has_E (Tb44 R) kk Tryd.f51 groatref10_has_c [.dat (.sl 92 (.pair (.int .i64) (.pair .str .unit))) l_0 [], .dat (.int .i64) n_1 [], .dat (.int .i64) tag_2 []] none K =
  groatref10_has_s0 l_0 n_1 tag_2 (fun a0 a1 a2 a3 => loopR (ev groatref10_has_E (Tb44 R) kk (sub [1, 0, 1, 0, 0] groatref10_has_c)) [0, 1, 2, 7] [6] kk (groatref10_has_h0 a0 a1 a2 a3) (kBlock 0 (kSeq groatref10_has_E (Tb44 R) kk (sub [1, 1] groatref10_has_c) (kFin groatref10_has_E Tryd.f51.results.toList none K)))) := by kernel_rfl
theorem groatref10_has_d0 (R : Type) (kk k : Nat) (l_0 : (List (Int × ByteArray × Unit))) (n_1 : Int) (tag_2 : Int) (t7 : Int) (K : Ex → State → Option R) : loopR (ev groatref10_has_E (Tb44 R) kk (sub [1, 0, 1, 0, 0] groatref10_has_c)) [0, 1, 2, 7] [6] (k + 1) (groatref10_has_h0 l_0 n_1 tag_2 t7) K =
  groatref10_has_s1 l_0 n_1 tag_2 t7 (fun a0 => K .ret (groatref10_has_x0_0 a0)) (fun a0 a1 a2 a3 => loopR (ev groatref10_has_E (Tb44 R) kk (sub [1, 0, 1, 0, 0] groatref10_has_c)) [0, 1, 2, 7] [6] k (groatref10_has_h0 a0 a1 a2 a3) K) (K (.exit 0) (groatref10_has_x0_1)) := by kernel_rfl
theorem groatref10_has_y0_0 (R : Type) (kk : Nat) (t6 : Bool) (K : List SV → Option Box → Option R) : (kBlock 0 (kSeq groatref10_has_E (Tb44 R) kk (sub [1, 1] groatref10_has_c) (kFin groatref10_has_E Tryd.f51.results.toList none K))) .ret (groatref10_has_x0_0 t6) =
  groatref10_has_s2 t6 (fun a0 => K [.dat .bool a0 []] none) := by kernel_rfl
theorem groatref10_has_y0_1 (R : Type) (kk : Nat)  (K : List SV → Option Box → Option R) : (kBlock 0 (kSeq groatref10_has_E (Tb44 R) kk (sub [1, 1] groatref10_has_c) (kFin groatref10_has_E Tryd.f51.results.toList none K))) (.exit 0) (groatref10_has_x0_1) =
  groatref10_has_s3 (fun a0 => K [.dat .bool a0 []] none) := by kernel_rfl
theorem groatref10_has_lp0 (R : Type) (k : Nat) (l_0 : (List (Int × ByteArray × Unit))) (n_1 : Int) (tag_2 : Int) (t7 : Int) (K : Ex → State → Option R) : loopR (ev groatref10_has_E (Tb44 R) FUEL (sub [1, 0, 1, 0, 0] groatref10_has_c)) [0, 1, 2, 7] [6] k (groatref10_has_h0 l_0 n_1 tag_2 t7) K = (groatref10_has_l0 k l_0 n_1 tag_2 t7).bind fun e => (Sum.elim (fun (we : Bool) => K .ret (groatref10_has_x0_0 we)) (fun (we : Unit) => K (.exit 0) (groatref10_has_x0_1)) e) := by
  induction k generalizing l_0 n_1 tag_2 t7 with
  | zero => rfl
  | succ k ih =>
    rw [groatref10_has_d0]
    simp only [groatref10_has_l0, groatref10_has_s0_bind, groatref10_has_s1_bind, groatref10_has_s2_bind, groatref10_has_s3_bind, ih, cond_bind, within_bind, none_bind, some_bind, sum_bind, bind_bind, Sum.elim_inl, Sum.elim_inr]
theorem groatref10_has_eq (R : Type) (l_0 : (List (Int × ByteArray × Unit))) (n_1 : Int) (tag_2 : Int) (K : List SV → Option Box → Option R) : evFn groatref10_has_E (Tb44 R) FUEL Tryd.f51 groatref10_has_c [.dat (.sl 92 (.pair (.int .i64) (.pair .str .unit))) l_0 [], .dat (.int .i64) n_1 [], .dat (.int .i64) tag_2 []] none K = (groatref10_has l_0 n_1 tag_2).bind fun r => K [.dat .bool r []] none := by
  rw [groatref10_has_t]
  simp only [groatref10_has, groatref10_has_s0_bind, groatref10_has_s1_bind, groatref10_has_s2_bind, groatref10_has_s3_bind, groatref10_has_lp0, groatref10_has_y0_0, groatref10_has_y0_1, cond_bind, within_bind, none_bind, some_bind, sum_bind, bind_bind, Sum.elim_inl, Sum.elim_inr]
def groatref10_has_g : Pure := fun R l b K => noBox b (args3 (.sl 92 (.pair (.int .i64) (.pair .str .unit))) (.int .i64) (.int .i64) l (fun x0 x1 x2 => (groatref10_has x0 x1 x2).bind fun r => K [.dat .bool r []] none))
theorem groatref10_has_n : groatref10_has_g.Nat := fun R S l b F G K h => noBox_nat (args3_nat fun _ _ _ => bindr_nat fun _ => h _ _)
def Tb45 : Funs := Tb44.add 51 [(.sl 92 (.pair (.int .i64) (.pair .str .unit))), (.int .i64), (.int .i64)] groatref10_has_g
theorem Tb45_nat : Tb45.Nat := add_nat Tb44_nat groatref10_has_n
theorem Tb45_owes : ∀ f, Owes Tryd.prog Tb45 f := add_owes (E := groatref10_has_E) (Tab.env_ok tab_ok _ _ _ _) mixed Tb44_nat Tb44_owes (fn := Tryd.f51) (code := groatref10_has_c) Tryd.func51 (by kernel_rfl) (by kernel_rfl) fun l b r b' h => by
  obtain ⟨rfl, h⟩ := noBox_some h
  obtain ⟨x0, x1, x2, h1, h2⟩ := own3 (E := groatref10_has_E) rfl h
  exact ⟨FUEL, (h2 _ _ _ _ _ _).trans ((groatref10_has_eq _ x0 x1 x2 _).trans h1)⟩
noncomputable abbrev groatref10_Get_c : Code := Tryd.f35.body.getD .skip
def groatref10_Get_E : Env := tab.env (fun i => bif Nat.beq i 3 then [0, 5, 6] else []) (fun i => bif Nat.beq i 3 then [2, 3, 4, 5] else []) [] [.str]
def groatref10_Get_h0 (b_0 : ByteArray) (t5 : (List (Int × ByteArray × Unit))) (t6 : Int) : State := ⟨[[.dat .str b_0 []], [.undef], [.undef], [.undef], [.undef], [.dat (.sl 92 (.pair (.int .i64) (.pair .str .unit))) t5 [[]]], [.dat (.int .i64) t6 []], [.undef], [.undef], [.undef], [.undef], [.undef], [.undef], [.undef], [.undef], [.undef], [.undef], [.undef], [.undef], [.undef], [.undef], [.undef], [.undef], [.undef], [.undef], [.undef], [.undef], [.undef], [.undef], [.undef], [.undef], [.undef], [.undef], [.undef], [.undef], [.undef], [.undef], [.undef], [.undef], [.undef], [.undef], [.undef], [.undef], [.undef], [.undef], [.undef], [.undef], [.undef], [.undef], [.undef], [.undef], [.undef], [.undef], [.undef], [.undef], [.undef], [.undef], [.undef], [.undef], [.undef], [.undef], [.undef], [.undef], [.undef], [.undef], [.undef], [.undef], [.undef]], [none, none, none, none, none, none, none, none, none, none, none, none, none, none, none, none, none, none, none, none, none, none, none, none, none, none, none, none, none, none, none, none, none, none, none, none, none, none, none, none, none, none, none, none, none, none, none, none, none, none, none, none, none, none, none, none, none, none, none, none, none, none, none, none, none, none, none, none, none]⟩
def groatref10_Get_x0_0 (t2 : (List (Int × ByteArray × Unit))) (t3 : Int) (t4 : Int) (t5 : (List (Int × ByteArray × Unit))) : State := ⟨[[.undef], [.undef], [.dat (.sl 92 (.pair (.int .i64) (.pair .str .unit))) t2 [[]]], [.dat (.int .i64) t3 []], [.dat (.int .i64) t4 []], [.dat (.sl 92 (.pair (.int .i64) (.pair .str .unit))) t5 [[]]], [.undef], [.undef], [.undef], [.undef], [.undef], [.undef], [.undef], [.undef], [.undef], [.undef], [.undef], [.undef], [.undef], [.undef], [.undef], [.undef], [.undef], [.undef], [.undef], [.undef], [.undef], [.undef], [.undef], [.undef], [.undef], [.undef], [.undef], [.undef], [.undef], [.undef], [.undef], [.undef], [.undef], [.undef], [.undef], [.undef], [.undef], [.undef], [.undef], [.undef], [.undef], [.undef], [.undef], [.undef], [.undef], [.undef], [.undef], [.undef], [.undef], [.undef], [.undef], [.undef], [.undef], [.undef], [.undef], [.undef], [.undef], [.undef], [.undef], [.undef], [.undef], [.undef]], [none, none, none, none, none, none, none, none, none, none, none, none, none, none, none, none, none, none, none, none, none, none, none, none, none, none, none, none, none, none, none, none, none, none, none, none, none, none, none, none, none, none, none, none, none, none, none, none, none, none, none, none, none, none, none, none, none, none, none, none, none, none, none, none, none, none, none, none, none]⟩
def groatref10_Get_x0_1 (t5 : (List (Int × ByteArray × Unit))) : State := ⟨[[.undef], [.undef], [.undef], [.undef], [.undef], [.dat (.sl 92 (.pair (.int .i64) (.pair .str .unit))) t5 [[]]], [.undef], [.undef], [.undef], [.undef], [.undef], [.undef], [.undef], [.undef], [.undef], [.undef], [.undef], [.undef], [.undef], [.undef], [.undef], [.undef], [.undef], [.undef], [.undef], [.undef], [.undef], [.undef], [.undef], [.undef], [.undef], [.undef], [.undef], [.undef], [.undef], [.undef], [.undef], [.undef], [.undef], [.undef], [.undef], [.undef], [.undef], [.undef], [.undef], [.undef], [.undef], [.undef], [.undef], [.undef], [.undef], [.undef], [.undef], [.undef], [.undef], [.undef], [.undef], [.undef], [.undef], [.undef], [.undef], [.undef], [.undef], [.undef], [.undef], [.undef], [.undef], [.undef]], [none, none, none, none, none, none, none, none, none, none, none, none, none, none, none, none, none, none, none, none, none, none, none, none, none, none, none, none, none, none, none, none, none, none, none, none, none, none, none, none, none, none, none, none, none, none, none, none, none, none, none, none, none, none, none, none, none, none, none, none, none, none, none, none, none, none, none, none, none]⟩
theorem groatref10_Get_t (R : Type) (kk : Nat) (b_0 : ByteArray) (K : List SV → Option Box → Option R) : evFn groatref10_Get_E (Tb45 R) kk Tryd.f35 groatref10_Get_c [.dat .str b_0 []] none K =
  groatref10_Get_s0 b_0 (fun a0 a1 a2 => loopR (ev groatref10_Get_E (Tb45 R) kk (sub [1, 1, 1, 0, 0, 0] groatref10_Get_c)) [0, 5, 6] [2, 3, 4, 5] kk (groatref10_Get_h0 a0 a1 a2) (kBlock 0 (kSeq groatref10_Get_E (Tb45 R) kk (sub [1, 1, 1, 1] groatref10_Get_c) (kFin groatref10_Get_E Tryd.f35.results.toList none K)))) := by kernel_rfl
theorem groatref10_Get_d0 (R : Type) (kk k : Nat) (b_0 : ByteArray) (t5 : (List (Int × ByteArray × Unit))) (t6 : Int) (K : Ex → State → Option R) : loopR (ev groatref10_Get_E (Tb45 R) kk (sub [1, 1, 1, 0, 0, 0] groatref10_Get_c)) [0, 5, 6] [2, 3, 4, 5] (k + 1) (groatref10_Get_h0 b_0 t5 t6) K =
  groatref10_Get_s1 b_0 t5 t6 (fun a0 a1 a2 a3 => K .ret (groatref10_Get_x0_0 a0 a1 a2 a3)) (fun a0 a1 a2 => loopR (ev groatref10_Get_E (Tb45 R) kk (sub [1, 1, 1, 0, 0, 0] groatref10_Get_c)) [0, 5, 6] [2, 3, 4, 5] k (groatref10_Get_h0 a0 a1 a2) K) (fun a0 => K (.exit 0) (groatref10_Get_x0_1 a0)) := by kernel_rfl
theorem groatref10_Get_y0_0 (R : Type) (kk : Nat) (t2 : (List (Int × ByteArray × Unit))) (t3 : Int) (t4 : Int) (t5 : (List (Int × ByteArray × Unit))) (K : List SV → Option Box → Option R) : (kBlock 0 (kSeq groatref10_Get_E (Tb45 R) kk (sub [1, 1, 1, 1] groatref10_Get_c) (kFin groatref10_Get_E Tryd.f35.results.toList none K))) .ret (groatref10_Get_x0_0 t2 t3 t4 t5) =
  groatref10_Get_s2 t2 t3 t4 t5 (fun a0 a1 a2 => K [.dat (.sl 92 (.pair (.int .i64) (.pair .str .unit))) a0 [[]], .dat (.int .i64) a1 [], .dat (.int .i64) a2 []] none) := by kernel_rfl
theorem groatref10_Get_y0_1 (R : Type) (kk : Nat) (t5 : (List (Int × ByteArray × Unit))) (K : List SV → Option Box → Option R) : (kBlock 0 (kSeq groatref10_Get_E (Tb45 R) kk (sub [1, 1, 1, 1] groatref10_Get_c) (kFin groatref10_Get_E Tryd.f35.results.toList none K))) (.exit 0) (groatref10_Get_x0_1 t5) =
  groatref10_Get_s3 t5 (fun a0 a1 a2 => K [.dat (.sl 92 (.pair (.int .i64) (.pair .str .unit))) a0 [], .dat (.int .i64) a1 [], .dat (.int .i64) a2 []] none) := by kernel_rfl
theorem groatref10_Get_lp0 (R : Type) (k : Nat) (b_0 : ByteArray) (t5 : (List (Int × ByteArray × Unit))) (t6 : Int) (K : Ex → State → Option R) : loopR (ev groatref10_Get_E (Tb45 R) FUEL (sub [1, 1, 1, 0, 0, 0] groatref10_Get_c)) [0, 5, 6] [2, 3, 4, 5] k (groatref10_Get_h0 b_0 t5 t6) K = (groatref10_Get_l0 k b_0 t5 t6).bind fun e => (Sum.elim (fun (we : ((List (Int × ByteArray × Unit)) × Int × Int × (List (Int × ByteArray × Unit)))) => K .ret (groatref10_Get_x0_0 we.1 we.2.1 we.2.2.1 we.2.2.2)) (fun (we : (List (Int × ByteArray × Unit))) => K (.exit 0) (groatref10_Get_x0_1 we)) e) := by
  induction k generalizing b_0 t5 t6 with
  | zero => rfl
  | succ k ih =>
    rw [groatref10_Get_d0]
    simp only [groatref10_Get_l0, groatref10_Get_s0_bind, groatref10_Get_s1_bind, groatref10_Get_s2_bind, groatref10_Get_s3_bind, ih, cond_bind, within_bind, none_bind, some_bind, sum_bind, bind_bind, Sum.elim_inl, Sum.elim_inr]
theorem groatref10_Get_eq (R : Type) (b_0 : ByteArray) (K : List SV → Option Box → Option R) : evFn groatref10_Get_E (Tb45 R) FUEL Tryd.f35 groatref10_Get_c [.dat .str b_0 []] none K = (groatref10_Get b_0).bind fun r => (Sum.elim (fun (wr : ((List (Int × ByteArray × Unit)) × Int × Int)) => K [.dat (.sl 92 (.pair (.int .i64) (.pair .str .unit))) wr.1 [[]], .dat (.int .i64) wr.2.1 [], .dat (.int .i64) wr.2.2 []] none) (fun (wr : ((List (Int × ByteArray × Unit)) × Int × Int)) => K [.dat (.sl 92 (.pair (.int .i64) (.pair .str .unit))) wr.1 [], .dat (.int .i64) wr.2.1 [], .dat (.int .i64) wr.2.2 []] none) r) := by
  rw [groatref10_Get_t]
  simp only [groatref10_Get, groatref10_Get_s0_bind, groatref10_Get_s1_bind, groatref10_Get_s2_bind, groatref10_Get_s3_bind, groatref10_Get_lp0, groatref10_Get_y0_0, groatref10_Get_y0_1, cond_bind, within_bind, none_bind, some_bind, sum_bind, bind_bind, Sum.elim_inl, Sum.elim_inr]
def groatref10_Get_g : Pure := fun R l b K => noBox b (args1 .str l (fun x0 => (groatref10_Get x0).bind fun r => (Sum.elim (fun (wr : ((List (Int × ByteArray × Unit)) × Int × Int)) => K [.dat (.sl 92 (.pair (.int .i64) (.pair .str .unit))) wr.1 [[]], .dat (.int .i64) wr.2.1 [], .dat (.int .i64) wr.2.2 []] none) (fun (wr : ((List (Int × ByteArray × Unit)) × Int × Int)) => K [.dat (.sl 92 (.pair (.int .i64) (.pair .str .unit))) wr.1 [], .dat (.int .i64) wr.2.1 [], .dat (.int .i64) wr.2.2 []] none) r)))
theorem groatref10_Get_n : groatref10_Get_g.Nat := fun R S l b F G K h => noBox_nat (args1_nat fun _ => bindr_nat fun _ => sum_nat (fun _ => h _ _) (fun _ => h _ _))
def Tb46 : Funs := Tb45.add 35 [.str] groatref10_Get_g
theorem Tb46_nat : Tb46.Nat := add_nat Tb45_nat groatref10_Get_n
theorem Tb46_owes : ∀ f, Owes Tryd.prog Tb46 f := add_owes (E := groatref10_Get_E) (Tab.env_ok tab_ok _ _ _ _) mixed Tb45_nat Tb45_owes (fn := Tryd.f35) (code := groatref10_Get_c) Tryd.func35 (by kernel_rfl) (by kernel_rfl) fun l b r b' h => by
  obtain ⟨rfl, h⟩ := noBox_some h
  obtain ⟨x0, h1, h2⟩ := own1 (E := groatref10_Get_E) rfl h
  exact ⟨FUEL, (h2 _ _ _ _ _ _).trans ((groatref10_Get_eq _ x0 _).trans h1)⟩
noncomputable abbrev groatref11_Value_c : Code := Tryd.f17.body.getD .skip
def groatref11_Value_E : Env := tab.env (fun _ => []) (fun _ => []) [] [y5, .str]
theorem groatref11_Value_t (R : Type) (kk : Nat) (s_0 : (Int × Int × Int × Int × Int × Unit)) (text_1 : ByteArray) (K : List SV → Option Box → Option R) : evFn groatref11_Value_E (Tb46 R) kk Tryd.f17 groatref11_Value_c [.dat y5 s_0 [], .dat .str text_1 []] none K =
  groatref11_Value_s0 s_0 text_1 (fun a0 => K [.dat (.int .i64) a0 []] none) := by kernel_rfl
theorem groatref11_Value_eq (R : Type) (s_0 : (Int × Int × Int × Int × Int × Unit)) (text_1 : ByteArray) (K : List SV → Option Box → Option R) : evFn groatref11_Value_E (Tb46 R) FUEL Tryd.f17 groatref11_Value_c [.dat y5 s_0 [], .dat .str text_1 []] none K = (groatref11_Value s_0 text_1).bind fun r => K [.dat (.int .i64) r []] none := by
  rw [groatref11_Value_t]
  simp only [groatref11_Value, groatref11_Value_s0_bind, cond_bind, within_bind, none_bind, some_bind, sum_bind, bind_bind, Sum.elim_inl, Sum.elim_inr]
def groatref11_Value_g : Pure := fun R l b K => noBox b (args2 y5 .str l (fun x0 x1 => (groatref11_Value x0 x1).bind fun r => K [.dat (.int .i64) r []] none))
theorem groatref11_Value_n : groatref11_Value_g.Nat := fun R S l b F G K h => noBox_nat (args2_nat fun _ _ => bindr_nat fun _ => h _ _)
def Tb47 : Funs := Tb46.add 17 [y5, .str] groatref11_Value_g
theorem Tb47_nat : Tb47.Nat := add_nat Tb46_nat groatref11_Value_n
theorem Tb47_owes : ∀ f, Owes Tryd.prog Tb47 f := add_owes (E := groatref11_Value_E) (Tab.env_ok tab_ok _ _ _ _) mixed Tb46_nat Tb46_owes (fn := Tryd.f17) (code := groatref11_Value_c) Tryd.func17 (by kernel_rfl) (by kernel_rfl) fun l b r b' h => by
  obtain ⟨rfl, h⟩ := noBox_some h
  obtain ⟨x0, x1, h1, h2⟩ := own2 (E := groatref11_Value_E) rfl h
  exact ⟨FUEL, (h2 _ _ _ _ _ _).trans ((groatref11_Value_eq _ x0 x1 _).trans h1)⟩
noncomputable abbrev groatlaw20_RuleValid_c : Code := Tryd.f5.body.getD .skip
def groatlaw20_RuleValid_E : Env := tab.env (fun _ => []) (fun _ => []) [] [y7, (.arr 2 y10), .str]
theorem groatlaw20_RuleValid_t (R : Type) (kk : Nat) (r_0 : (Int × Int × Int × ByteArray × (List (ByteArray × ByteArray × Unit)) × Unit)) (schemas_1 : (List (Int × Int × (List (Int × Int × Int × Int × Int × Unit)) × Unit))) (text_2 : ByteArray) (K : List SV → Option Box → Option R) : evFn groatlaw20_RuleValid_E (Tb47 R) kk Tryd.f5 groatlaw20_RuleValid_c [.dat y7 r_0 [], .dat (.arr 2 y10) schemas_1 [], .dat .str text_2 []] none K =
  groatlaw20_RuleValid_s0 r_0 schemas_1 text_2 (fun a0 => K [.dat .bool a0 []] none) := by kernel_rfl
theorem groatlaw20_RuleValid_eq (R : Type) (r_0 : (Int × Int × Int × ByteArray × (List (ByteArray × ByteArray × Unit)) × Unit)) (schemas_1 : (List (Int × Int × (List (Int × Int × Int × Int × Int × Unit)) × Unit))) (text_2 : ByteArray) (K : List SV → Option Box → Option R) : evFn groatlaw20_RuleValid_E (Tb47 R) FUEL Tryd.f5 groatlaw20_RuleValid_c [.dat y7 r_0 [], .dat (.arr 2 y10) schemas_1 [], .dat .str text_2 []] none K = (groatlaw20_RuleValid r_0 schemas_1 text_2).bind fun r => K [.dat .bool r []] none := by
  rw [groatlaw20_RuleValid_t]
  simp only [groatlaw20_RuleValid, groatlaw20_RuleValid_s0_bind, cond_bind, within_bind, none_bind, some_bind, sum_bind, bind_bind, Sum.elim_inl, Sum.elim_inr]
def groatlaw20_RuleValid_g : Pure := fun R l b K => noBox b (args3 y7 (.arr 2 y10) .str l (fun x0 x1 x2 => (groatlaw20_RuleValid x0 x1 x2).bind fun r => K [.dat .bool r []] none))
def Tb48 : Funs := Tb47.add 5 [y7, (.arr 2 y10), .str] groatlaw20_RuleValid_g
theorem Tb48_owes : ∀ f, Owes Tryd.prog Tb48 f := add_owes (E := groatlaw20_RuleValid_E) (Tab.env_ok tab_ok _ _ _ _) mixed Tb47_nat Tb47_owes (fn := Tryd.f5) (code := groatlaw20_RuleValid_c) Tryd.func5 (by kernel_rfl) (by kernel_rfl) fun l b r b' h => by
  obtain ⟨rfl, h⟩ := noBox_some h
  obtain ⟨x0, x1, x2, h1, h2⟩ := own3 (E := groatlaw20_RuleValid_E) rfl h
  exact ⟨FUEL, (h2 _ _ _ _ _ _).trans ((groatlaw20_RuleValid_eq _ x0 x1 x2 _).trans h1)⟩
end Go.Proofs.YtkecopkmmcgciaaDoor
