/- No condition. -/
import Derived.Test.YtmbobepkfagkgaaGreatDoorK3
import Derived.Test.YtmbobepkfagkgaaGreatDoorProg
set_option linter.unusedVariables false
set_option linter.unusedSimpArgs false
set_option maxRecDepth 100000
namespace Go.Proofs.YtmbobepkfagkgaaGreatDoor
open Go Go.Ref Groat
abbrev uS (n : Nat) (l : List (List Go.Ref.SV)) : List (List Go.Ref.SV) := Nat.rec (motive := fun _ => List (List Go.Ref.SV)) l (fun _ r => [.undef] :: r) n
abbrev nS (n : Nat) (l : List (Option Go.Ref.Box)) : List (Option Go.Ref.Box) := Nat.rec (motive := fun _ => List (Option Go.Ref.Box)) l (fun _ r => none :: r) n
abbrev y0 : Go.Ref.Ty := (.pair (.sl 56 (.pair .str (.pair .str .unit))) .unit)
abbrev y1 : Go.Ref.Ty := (.pair (.sl 53 (.pair (.int .i64) (.pair .str .unit))) .unit)
abbrev y2 : Go.Ref.Ty := (.pair (.int .i64) (.pair (.int .i64) (.pair (.int .i64) .unit)))
abbrev y3 : Go.Ref.Ty := (.pair .str y0)
abbrev y4 : Go.Ref.Ty := (.pair .str y1)
abbrev y5 : Go.Ref.Ty := (.pair (.int .i64) y2)
abbrev y6 : Go.Ref.Ty := (.pair (.int .i64) y3)
abbrev y7 : Go.Ref.Ty := (.pair (.int .i64) y5)
abbrev y8 : Go.Ref.Ty := (.pair (.int .i64) y6)
abbrev y9 : Go.Ref.Ty := (.pair (.int .i64) y8)
abbrev y10 : Go.Ref.Ty := (.pair (.sl 92 y7) .unit)
abbrev y11 : Go.Ref.Ty := (.pair (.int .i64) y10)
abbrev y12 : Go.Ref.Ty := (.pair (.sl 58 y9) .unit)
abbrev y13 : Go.Ref.Ty := (.pair (.int .i64) y11)
abbrev y14 : Go.Ref.Ty := (.pair (.sl 56 (.pair .str (.pair .str .unit))) y12)
def tys : List (Option Ty) := [none, none, some (.int .i64), some (.int .i64), some .bool, some (.int .u8), some (.int .u8), some (.pair (.int .i64) (.pair (.int .i64) (.pair .bool (.pair (.int .u8) .unit)))), some (.pair (.int .i64) (.pair (.int .i64) (.pair .bool (.pair (.int .u8) .unit)))), some .str, some .str, some .str, some (.int .u64), none, none, none, none, none, none, none, none, some (.int .i32), some (.sl 56 (.pair .str (.pair .str .unit))), some (.sl 58 y9), some y14, some y14, some (.sl 92 y7), some y13, some y13, some (.arr 2 y13), none, none, some (.int .i64), none, none, none, none, none, none, some (.sl 53 (.pair (.int .i64) (.pair .str .unit))), some y4, some y4, none, some (.pair (.int .i64) (.pair (.int .i64) .unit)), some (.pair (.int .i64) (.pair (.int .i64) .unit)), none, none, none, none, none, none, none, some (.pair (.int .i64) (.pair .str .unit)), some (.pair (.int .i64) (.pair .str .unit)), none, some (.pair .str (.pair .str .unit)), some (.pair .str (.pair .str .unit)), some y9, some y9, none, some (.sl 28 y13), none, none, none, none, some (.int .u64), some (.pair (.int .u64) (.pair (.int .u64) .unit)), some (.pair (.int .u64) (.pair (.int .u64) .unit)), none, none, none, none, none, none, none, none, none, none, none, none, none, none, none, none, none, none, none, none, none, none, none, some y7, some y7, some (.sl 95 (.sl 3 (.int .i64))), none, some (.sl 3 (.int .i64)), none, none, none, none, none, none, none, none, none, none, none, none, none, none, none, none, none, none, none, none, none, none, none, some (.sl 135 (.pair (.int .i64) (.pair .str .unit))), none, none, none, none, none, none, none, none, none, none, none, none, none, none, some (.pair (.int .i64) (.pair .str .unit)), some (.pair (.int .i64) (.pair .str .unit)), none, none, none, none, some (.int .u64), none, none, none, none, some (.sl 5 (.int .u8)), none, none, none, none, none, none, none, none, none, none, some (.arr 256 .bool), some (.arr 256 .bool), none, none, none, none, some (.int .u32), none, none, none, none, none, none, none, none, none, none, none, none, some (.arr 256 (.int .u8)), some (.pair (.int .u8) (.pair (.int .u8) .unit)), some (.pair (.int .u8) (.pair (.int .u8) .unit)), some (.arr 16 (.pair (.int .u8) (.pair (.int .u8) .unit))), none, none, none, none, none, none, none, none, some (.int .u8), some (.int .u8), none, some (.int .i32), some (.int .i32), none, none]
def bts : List Nat := [0, 8, 8, 8, 1, 1, 1, 24, 24, 16, 16, 16, 8, 24, 24, 8, 8, 8, 8, 8, 16, 4, 24, 24, 48, 48, 24, 40, 40, 80, 8, 8, 8, 0, 8, 8, 8, 0, 8, 24, 40, 40, 8, 16, 16, 0, 8, 8, 8, 8, 8, 8, 24, 24, 8, 32, 32, 64, 64, 8, 24, 0, 8, 8, 8, 8, 16, 16, 8, 8, 8, 8, 8, 8, 8, 8, 0, 8, 8, 8, 8, 8, 0, 8, 0, 8, 8, 0, 8, 8, 8, 40, 40, 24, 8, 24, 8, 8, 0, 8, 0, 8, 8, 8, 8, 8, 8, 0, 8, 8, 8, 0, 8, 8, 8, 8, 8, 8, 8, 24, 0, 8, 8, 8, 8, 0, 8, 8, 8, 8, 8, 8, 8, 8, 24, 24, 8, 8, 0, 8, 8, 0, 8, 8, 8, 24, 32, 32, 8, 16, 16, 0, 8, 8, 8, 8, 256, 256, 0, 8, 8, 8, 4, 0, 8, 0, 8, 8, 0, 8, 8, 8, 8, 8, 8, 256, 2, 2, 32, 8, 8, 8, 40, 40, 0, 0, 0, 1, 1, 8, 4, 4, 48, 48]
def pts : List Bool := [false, false, false, false, false, false, false, false, false, false, false, false, false, false, false, true, true, true, false, false, false, false, false, false, false, false, false, false, false, false, false, false, false, false, false, false, false, false, false, false, false, false, false, false, false, false, false, false, false, false, false, false, false, false, false, false, false, false, false, false, false, false, false, false, false, false, false, false, false, false, false, false, false, false, false, false, false, false, false, false, false, false, false, false, false, false, false, false, false, false, false, false, false, false, false, false, false, false, false, false, false, false, false, false, false, false, false, false, false, false, false, false, false, false, false, false, false, false, false, false, false, false, false, false, false, false, false, false, false, false, false, false, false, false, false, false, false, false, false, false, false, false, false, false, true, false, false, false, false, false, false, false, false, false, false, false, false, false, false, false, false, true, false, false, false, false, false, true, false, false, false, false, false, false, false, false, false, false, false, false, false, false, false, false, false, false, false, false, false, false, false, false, false, false]
def mps : List (TypeId × TypeId × TypeId) := [(63, 9, 4), (137, 3, 4)]
def tab : Tab := ⟨tys, bts, pts, mps⟩
theorem tab_ok : tab.ok Tryz.prog = true := by kernel_rfl
theorem mixed : Tryz.prog.follows .mixedOrders = true := by kernel_rfl
def Tb0 : Funs := Funs.none
theorem Tb0_nat : Tb0.Nat := none_nat
theorem Tb0_owes : ∀ f, Owes Tryz.prog Tb0 f := none_owes
noncomputable abbrev r14_both_c : Code := Tryz.f45.body.getD .skip
def r14_both_E : Env := tab.env (fun _ => []) (fun _ => []) [] []
theorem r14_both_t (R : Type) (kk : Nat)  (K : List SV → Option Box → Option R) : evFn r14_both_E (Tb0 R) kk Tryz.f45 r14_both_c [] none K =
  r14_both_s0 (fun a0 => K [.dat (.sl 95 (.sl 3 (.int .i64))) a0 [[]]] none) := by kernel_rfl
theorem r14_both_eq (R : Type)  (K : List SV → Option Box → Option R) : evFn r14_both_E (Tb0 R) FUEL Tryz.f45 r14_both_c [] none K = (r14_both).bind fun r => K [.dat (.sl 95 (.sl 3 (.int .i64))) r [[]]] none := by
  rw [r14_both_t]
  simp only [r14_both, r14_both_s0_bind, cond_bind, within_bind, none_bind, some_bind, sum_bind, bind_bind, Sum.elim_inl, Sum.elim_inr]
def r14_both_g : Pure := fun R l b K => noBox b (args0 l ((r14_both).bind fun r => K [.dat (.sl 95 (.sl 3 (.int .i64))) r [[]]] none))
theorem r14_both_n : r14_both_g.Nat := fun R S l b F G K h => noBox_nat (args0_nat (bindr_nat fun _ => h _ _))
def Tb1 : Funs := Tb0.add 45 [] r14_both_g
theorem Tb1_nat : Tb1.Nat := add_nat Tb0_nat r14_both_n
theorem Tb1_owes : ∀ f, Owes Tryz.prog Tb1 f := add_owes (E := r14_both_E) (Tab.env_ok tab_ok _ _ _ _) mixed Tb0_nat Tb0_owes (fn := Tryz.f45) (code := r14_both_c) Tryz.func45 (by kernel_rfl) (by kernel_rfl) fun l b r b' h => by
  obtain ⟨rfl, h⟩ := noBox_some h
  obtain ⟨h1, h2⟩ := own0 (E := r14_both_E) rfl h
  exact ⟨FUEL, (h2 _ _ _ _ _ _).trans ((r14_both_eq _  _).trans h1)⟩
noncomputable abbrev r14_Schema_c : Code := Tryz.f19.body.getD .skip
def r14_Schema_E : Env := tab.env (fun i => bif Nat.beq i 4 then [0, 2, 3, 4, 5] else []) (fun i => bif Nat.beq i 4 then [2, 3] else []) [2] [(.int .i64)]
def r14_Schema_h0 (which_0 : Int) (t4 : Zt2) (t5 : Int) (bt2 : Zt17) (bt3 : Zt17) : State := ⟨[.dat (.int .i64) which_0 []]::(uS 1 ([.ptr 3 y13 []]::[.ptr 4 y13 []]::[.dat (.sl 95 (.sl 3 (.int .i64))) t4 [[]]]::[.dat (.int .i64) t5 []]::(uS 52 ([])))), nS 3 ((some ⟨y13, bt2, [[2]]⟩)::(some ⟨y13, bt3, [[2]]⟩)::(nS 54 ([])))⟩
def r14_Schema_x0_0 (bt2 : Zt17) (bt3 : Zt17) : State := ⟨uS 2 ([.ptr 3 y13 []]::[.ptr 4 y13 []]::(uS 54 ([]))), nS 3 ((some ⟨y13, bt2, [[2]]⟩)::(some ⟨y13, bt3, [[2]]⟩)::(nS 54 ([])))⟩
theorem r14_Schema_t (R : Type) (kk : Nat) (which_0 : Int) (K : List SV → Option Box → Option R) : evFn r14_Schema_E (Tb1 R) kk Tryz.f19 r14_Schema_c [.dat (.int .i64) which_0 []] none K =
  r14_Schema_s0 which_0 (fun a0 a1 a2 a3 a4 => loopR (ev r14_Schema_E (Tb1 R) kk (sub [1, 1, 1, 0, 1, 0, 0] r14_Schema_c)) [0, 2, 3, 4, 5] [2, 3] kk (r14_Schema_h0 a0 a1 a2 a3 a4) (kBlock 0 (kSeq r14_Schema_E (Tb1 R) kk (sub [1, 1, 1, 1] r14_Schema_c) (kFin r14_Schema_E Tryz.f19.results.toList none K)))) := by kernel_rfl
theorem r14_Schema_d0 (R : Type) (kk k : Nat) (which_0 : Int) (t4 : Zt2) (t5 : Int) (bt2 : Zt17) (bt3 : Zt17) (K : Ex → State → Option R) : loopR (ev r14_Schema_E (Tb1 R) kk (sub [1, 1, 1, 0, 1, 0, 0] r14_Schema_c)) [0, 2, 3, 4, 5] [2, 3] (k + 1) (r14_Schema_h0 which_0 t4 t5 bt2 bt3) K =
  r14_Schema_s1 which_0 t4 t5 bt2 bt3 (fun a0 a1 a2 a3 a4 => loopR (ev r14_Schema_E (Tb1 R) kk (sub [1, 1, 1, 0, 1, 0, 0] r14_Schema_c)) [0, 2, 3, 4, 5] [2, 3] k (r14_Schema_h0 a0 a1 a2 a3 a4) K) (fun a0 a1 => K (.exit 0) (r14_Schema_x0_0 a0 a1)) := by kernel_rfl
theorem r14_Schema_y0_0 (R : Type) (kk : Nat) (bt2 : Zt17) (bt3 : Zt17) (K : List SV → Option Box → Option R) : (kBlock 0 (kSeq r14_Schema_E (Tb1 R) kk (sub [1, 1, 1, 1] r14_Schema_c) (kFin r14_Schema_E Tryz.f19.results.toList none K))) (.exit 0) (r14_Schema_x0_0 bt2 bt3) =
  r14_Schema_s2 bt2 bt3 (fun a0 => K [.dat y13 a0 [[2]]] none) := by kernel_rfl
theorem r14_Schema_lp0 (R : Type) (k : Nat) (which_0 : Int) (t4 : Zt2) (t5 : Int) (bt2 : Zt17) (bt3 : Zt17) (K : Ex → State → Option R) : loopR (ev r14_Schema_E (Tb1 R) FUEL (sub [1, 1, 1, 0, 1, 0, 0] r14_Schema_c)) [0, 2, 3, 4, 5] [2, 3] k (r14_Schema_h0 which_0 t4 t5 bt2 bt3) K = (r14_Schema_l0 k which_0 t4 t5 bt2 bt3).bind fun e => K (.exit 0) (r14_Schema_x0_0 e.1 e.2) := by
  induction k generalizing which_0 t4 t5 bt2 bt3 with
  | zero => rfl
  | succ k ih =>
    rw [r14_Schema_d0]
    simp only [r14_Schema_l0, r14_Schema_s0_bind, r14_Schema_s1_bind, r14_Schema_s2_bind, ih, cond_bind, within_bind, none_bind, some_bind, sum_bind, bind_bind, Sum.elim_inl, Sum.elim_inr]
theorem r14_Schema_eq (R : Type) (which_0 : Int) (K : List SV → Option Box → Option R) : evFn r14_Schema_E (Tb1 R) FUEL Tryz.f19 r14_Schema_c [.dat (.int .i64) which_0 []] none K = (r14_Schema which_0).bind fun r => K [.dat y13 r [[2]]] none := by
  rw [r14_Schema_t]
  simp only [r14_Schema, r14_Schema_s0_bind, r14_Schema_s1_bind, r14_Schema_s2_bind, r14_Schema_lp0, r14_Schema_y0_0, cond_bind, within_bind, none_bind, some_bind, sum_bind, bind_bind, Sum.elim_inl, Sum.elim_inr]
def r14_Schema_g : Pure := fun R l b K => noBox b (args1 (.int .i64) l (fun x0 => (r14_Schema x0).bind fun r => K [.dat y13 r [[2]]] none))
theorem r14_Schema_n : r14_Schema_g.Nat := fun R S l b F G K h => noBox_nat (args1_nat fun _ => bindr_nat fun _ => h _ _)
def Tb2 : Funs := Tb1.add 19 [(.int .i64)] r14_Schema_g
theorem Tb2_nat : Tb2.Nat := add_nat Tb1_nat r14_Schema_n
theorem Tb2_owes : ∀ f, Owes Tryz.prog Tb2 f := add_owes (E := r14_Schema_E) (Tab.env_ok tab_ok _ _ _ _) mixed Tb1_nat Tb1_owes (fn := Tryz.f19) (code := r14_Schema_c) Tryz.func19 (by kernel_rfl) (by kernel_rfl) fun l b r b' h => by
  obtain ⟨rfl, h⟩ := noBox_some h
  obtain ⟨x0, h1, h2⟩ := own1 (E := r14_Schema_E) rfl h
  exact ⟨FUEL, (h2 _ _ _ _ _ _).trans ((r14_Schema_eq _ x0 _).trans h1)⟩
noncomputable abbrev class_sets_c : Code := Tryz.f89.body.getD .skip
def class_sets_E : Env := tab.env (fun _ => []) (fun _ => []) [] [(.int .i64)]
theorem class_sets_t (R : Type) (kk : Nat) (class_0 : Int) (K : List SV → Option Box → Option R) : evFn class_sets_E (Tb2 R) kk Tryz.f89 class_sets_c [.dat (.int .i64) class_0 []] none K =
  class_sets_s0 class_0 (fun a0 => K [.dat (.int .i64) a0 []] none) := by kernel_rfl
theorem class_sets_eq (R : Type) (class_0 : Int) (K : List SV → Option Box → Option R) : evFn class_sets_E (Tb2 R) FUEL Tryz.f89 class_sets_c [.dat (.int .i64) class_0 []] none K = (class_sets class_0).bind fun r => K [.dat (.int .i64) r []] none := by
  rw [class_sets_t]
  simp only [class_sets, class_sets_s0_bind, cond_bind, within_bind, none_bind, some_bind, sum_bind, bind_bind, Sum.elim_inl, Sum.elim_inr]
def class_sets_g : Pure := fun R l b K => noBox b (args1 (.int .i64) l (fun x0 => (class_sets x0).bind fun r => K [.dat (.int .i64) r []] none))
theorem class_sets_n : class_sets_g.Nat := fun R S l b F G K h => noBox_nat (args1_nat fun _ => bindr_nat fun _ => h _ _)
def Tb3 : Funs := Tb2.add 89 [(.int .i64)] class_sets_g
theorem Tb3_nat : Tb3.Nat := add_nat Tb2_nat class_sets_n
theorem Tb3_owes : ∀ f, Owes Tryz.prog Tb3 f := add_owes (E := class_sets_E) (Tab.env_ok tab_ok _ _ _ _) mixed Tb2_nat Tb2_owes (fn := Tryz.f89) (code := class_sets_c) Tryz.func89 (by kernel_rfl) (by kernel_rfl) fun l b r b' h => by
  obtain ⟨rfl, h⟩ := noBox_some h
  obtain ⟨x0, h1, h2⟩ := own1 (E := class_sets_E) rfl h
  exact ⟨FUEL, (h2 _ _ _ _ _ _).trans ((class_sets_eq _ x0 _).trans h1)⟩
noncomputable abbrev class_Known_c : Code := Tryz.f72.body.getD .skip
def class_Known_E : Env := tab.env (fun _ => []) (fun _ => []) [] [(.int .i64)]
theorem class_Known_t (R : Type) (kk : Nat) (class_0 : Int) (K : List SV → Option Box → Option R) : evFn class_Known_E (Tb3 R) kk Tryz.f72 class_Known_c [.dat (.int .i64) class_0 []] none K =
  class_Known_s0 class_0 (fun a0 => K [.dat .bool a0 []] none) := by kernel_rfl
theorem class_Known_eq (R : Type) (class_0 : Int) (K : List SV → Option Box → Option R) : evFn class_Known_E (Tb3 R) FUEL Tryz.f72 class_Known_c [.dat (.int .i64) class_0 []] none K = (class_Known class_0).bind fun r => K [.dat .bool r []] none := by
  rw [class_Known_t]
  simp only [class_Known, class_Known_s0_bind, cond_bind, within_bind, none_bind, some_bind, sum_bind, bind_bind, Sum.elim_inl, Sum.elim_inr]
def class_Known_g : Pure := fun R l b K => noBox b (args1 (.int .i64) l (fun x0 => (class_Known x0).bind fun r => K [.dat .bool r []] none))
theorem class_Known_n : class_Known_g.Nat := fun R S l b F G K h => noBox_nat (args1_nat fun _ => bindr_nat fun _ => h _ _)
def Tb4 : Funs := Tb3.add 72 [(.int .i64)] class_Known_g
theorem Tb4_nat : Tb4.Nat := add_nat Tb3_nat class_Known_n
theorem Tb4_owes : ∀ f, Owes Tryz.prog Tb4 f := add_owes (E := class_Known_E) (Tab.env_ok tab_ok _ _ _ _) mixed Tb3_nat Tb3_owes (fn := Tryz.f72) (code := class_Known_c) Tryz.func72 (by kernel_rfl) (by kernel_rfl) fun l b r b' h => by
  obtain ⟨rfl, h⟩ := noBox_some h
  obtain ⟨x0, h1, h2⟩ := own1 (E := class_Known_E) rfl h
  exact ⟨FUEL, (h2 _ _ _ _ _ _).trans ((class_Known_eq _ x0 _).trans h1)⟩
noncomputable abbrev prefix_width_c : Code := Tryz.f90.body.getD .skip
def prefix_width_E : Env := tab.env (fun _ => []) (fun _ => []) [] [(.int .i64)]
theorem prefix_width_t (R : Type) (kk : Nat) (form_0 : Int) (K : List SV → Option Box → Option R) : evFn prefix_width_E (Tb4 R) kk Tryz.f90 prefix_width_c [.dat (.int .i64) form_0 []] none K =
  prefix_width_s0 form_0 (fun a0 => K [.dat (.int .i64) a0 []] none) := by kernel_rfl
theorem prefix_width_eq (R : Type) (form_0 : Int) (K : List SV → Option Box → Option R) : evFn prefix_width_E (Tb4 R) FUEL Tryz.f90 prefix_width_c [.dat (.int .i64) form_0 []] none K = (prefix_width form_0).bind fun r => K [.dat (.int .i64) r []] none := by
  rw [prefix_width_t]
  simp only [prefix_width, prefix_width_s0_bind, cond_bind, within_bind, none_bind, some_bind, sum_bind, bind_bind, Sum.elim_inl, Sum.elim_inr]
def prefix_width_g : Pure := fun R l b K => noBox b (args1 (.int .i64) l (fun x0 => (prefix_width x0).bind fun r => K [.dat (.int .i64) r []] none))
theorem prefix_width_n : prefix_width_g.Nat := fun R S l b F G K h => noBox_nat (args1_nat fun _ => bindr_nat fun _ => h _ _)
def Tb5 : Funs := Tb4.add 90 [(.int .i64)] prefix_width_g
theorem Tb5_nat : Tb5.Nat := add_nat Tb4_nat prefix_width_n
theorem Tb5_owes : ∀ f, Owes Tryz.prog Tb5 f := add_owes (E := prefix_width_E) (Tab.env_ok tab_ok _ _ _ _) mixed Tb4_nat Tb4_owes (fn := Tryz.f90) (code := prefix_width_c) Tryz.func90 (by kernel_rfl) (by kernel_rfl) fun l b r b' h => by
  obtain ⟨rfl, h⟩ := noBox_some h
  obtain ⟨x0, h1, h2⟩ := own1 (E := prefix_width_E) rfl h
  exact ⟨FUEL, (h2 _ _ _ _ _ _).trans ((prefix_width_eq _ x0 _).trans h1)⟩
noncomputable abbrev prefix_Most_c : Code := Tryz.f73.body.getD .skip
def prefix_Most_E : Env := tab.env (fun i => bif Nat.beq i 3 then [3, 5, 6] else []) (fun i => bif Nat.beq i 3 then [3] else []) [] [(.int .i64)]
def prefix_Most_h0 (t3 : Int) (t5 : Int) (t6 : Int) : State := ⟨uS 3 ([.dat (.int .i64) t3 []]::(uS 1 ([.dat (.int .i64) t5 []]::[.dat (.int .i64) t6 []]::(uS 6 ([]))))), nS 14 []⟩
def prefix_Most_x0_0 (t3 : Int) : State := ⟨uS 3 ([.dat (.int .i64) t3 []]::(uS 9 ([]))), nS 14 []⟩
theorem prefix_Most_t (R : Type) (kk : Nat) (form_0 : Int) (K : List SV → Option Box → Option R) : evFn prefix_Most_E (Tb5 R) kk Tryz.f73 prefix_Most_c [.dat (.int .i64) form_0 []] none K =
  prefix_Most_s0 form_0 (fun a0 a1 a2 => loopR (ev prefix_Most_E (Tb5 R) kk (sub [1, 1, 0, 1, 0, 0] prefix_Most_c)) [3, 5, 6] [3] kk (prefix_Most_h0 a0 a1 a2) (kBlock 0 (kSeq prefix_Most_E (Tb5 R) kk (sub [1, 1, 1] prefix_Most_c) (kFin prefix_Most_E Tryz.f73.results.toList none K)))) := by kernel_rfl
theorem prefix_Most_d0 (R : Type) (kk k : Nat) (t3 : Int) (t5 : Int) (t6 : Int) (K : Ex → State → Option R) : loopR (ev prefix_Most_E (Tb5 R) kk (sub [1, 1, 0, 1, 0, 0] prefix_Most_c)) [3, 5, 6] [3] (k + 1) (prefix_Most_h0 t3 t5 t6) K =
  prefix_Most_s1 t3 t5 t6 (fun a0 a1 a2 => loopR (ev prefix_Most_E (Tb5 R) kk (sub [1, 1, 0, 1, 0, 0] prefix_Most_c)) [3, 5, 6] [3] k (prefix_Most_h0 a0 a1 a2) K) (fun a0 => K (.exit 0) (prefix_Most_x0_0 a0)) := by kernel_rfl
theorem prefix_Most_y0_0 (R : Type) (kk : Nat) (t3 : Int) (K : List SV → Option Box → Option R) : (kBlock 0 (kSeq prefix_Most_E (Tb5 R) kk (sub [1, 1, 1] prefix_Most_c) (kFin prefix_Most_E Tryz.f73.results.toList none K))) (.exit 0) (prefix_Most_x0_0 t3) =
  prefix_Most_s2 t3 (fun a0 => K [.dat (.int .i64) a0 []] none) := by kernel_rfl
theorem prefix_Most_lp0 (R : Type) (k : Nat) (t3 : Int) (t5 : Int) (t6 : Int) (K : Ex → State → Option R) : loopR (ev prefix_Most_E (Tb5 R) FUEL (sub [1, 1, 0, 1, 0, 0] prefix_Most_c)) [3, 5, 6] [3] k (prefix_Most_h0 t3 t5 t6) K = (prefix_Most_l0 k t3 t5 t6).bind fun e => K (.exit 0) (prefix_Most_x0_0 e) := by
  induction k generalizing t3 t5 t6 with
  | zero => rfl
  | succ k ih =>
    rw [prefix_Most_d0]
    simp only [prefix_Most_l0, prefix_Most_s0_bind, prefix_Most_s1_bind, prefix_Most_s2_bind, ih, cond_bind, within_bind, none_bind, some_bind, sum_bind, bind_bind, Sum.elim_inl, Sum.elim_inr]
theorem prefix_Most_eq (R : Type) (form_0 : Int) (K : List SV → Option Box → Option R) : evFn prefix_Most_E (Tb5 R) FUEL Tryz.f73 prefix_Most_c [.dat (.int .i64) form_0 []] none K = (prefix_Most form_0).bind fun r => K [.dat (.int .i64) r []] none := by
  rw [prefix_Most_t]
  simp only [prefix_Most, prefix_Most_s0_bind, prefix_Most_s1_bind, prefix_Most_s2_bind, prefix_Most_lp0, prefix_Most_y0_0, cond_bind, within_bind, none_bind, some_bind, sum_bind, bind_bind, Sum.elim_inl, Sum.elim_inr]
def prefix_Most_g : Pure := fun R l b K => noBox b (args1 (.int .i64) l (fun x0 => (prefix_Most x0).bind fun r => K [.dat (.int .i64) r []] none))
theorem prefix_Most_n : prefix_Most_g.Nat := fun R S l b F G K h => noBox_nat (args1_nat fun _ => bindr_nat fun _ => h _ _)
def Tb6 : Funs := Tb5.add 73 [(.int .i64)] prefix_Most_g
theorem Tb6_nat : Tb6.Nat := add_nat Tb5_nat prefix_Most_n
theorem Tb6_owes : ∀ f, Owes Tryz.prog Tb6 f := add_owes (E := prefix_Most_E) (Tab.env_ok tab_ok _ _ _ _) mixed Tb5_nat Tb5_owes (fn := Tryz.f73) (code := prefix_Most_c) Tryz.func73 (by kernel_rfl) (by kernel_rfl) fun l b r b' h => by
  obtain ⟨rfl, h⟩ := noBox_some h
  obtain ⟨x0, h1, h2⟩ := own1 (E := prefix_Most_E) rfl h
  exact ⟨FUEL, (h2 _ _ _ _ _ _).trans ((prefix_Most_eq _ x0 _).trans h1)⟩
noncomputable abbrev spec_Check_c : Code := Tryz.f47.body.getD .skip
def spec_Check_E : Env := tab.env (fun _ => []) (fun _ => []) [] [y7]
theorem spec_Check_t (R : Type) (kk : Nat) (s_0 : Zt12) (K : List SV → Option Box → Option R) : evFn spec_Check_E (Tb6 R) kk Tryz.f47 spec_Check_c [.dat y7 s_0 []] none K =
  spec_Check_s0 s_0 (fun a0 => K [.dat (.int .i64) a0 []] none) := by kernel_rfl
theorem spec_Check_eq (R : Type) (s_0 : Zt12) (K : List SV → Option Box → Option R) : evFn spec_Check_E (Tb6 R) FUEL Tryz.f47 spec_Check_c [.dat y7 s_0 []] none K = (spec_Check s_0).bind fun r => K [.dat (.int .i64) r []] none := by
  rw [spec_Check_t]
  simp only [spec_Check, spec_Check_s0_bind, cond_bind, within_bind, none_bind, some_bind, sum_bind, bind_bind, Sum.elim_inl, Sum.elim_inr]
def spec_Check_g : Pure := fun R l b K => noBox b (args1 y7 l (fun x0 => (spec_Check x0).bind fun r => K [.dat (.int .i64) r []] none))
theorem spec_Check_n : spec_Check_g.Nat := fun R S l b F G K h => noBox_nat (args1_nat fun _ => bindr_nat fun _ => h _ _)
def Tb7 : Funs := Tb6.add 47 [y7] spec_Check_g
theorem Tb7_nat : Tb7.Nat := add_nat Tb6_nat spec_Check_n
theorem Tb7_owes : ∀ f, Owes Tryz.prog Tb7 f := add_owes (E := spec_Check_E) (Tab.env_ok tab_ok _ _ _ _) mixed Tb6_nat Tb6_owes (fn := Tryz.f47) (code := spec_Check_c) Tryz.func47 (by kernel_rfl) (by kernel_rfl) fun l b r b' h => by
  obtain ⟨rfl, h⟩ := noBox_some h
  obtain ⟨x0, h1, h2⟩ := own1 (E := spec_Check_E) rfl h
  exact ⟨FUEL, (h2 _ _ _ _ _ _).trans ((spec_Check_eq _ x0 _).trans h1)⟩
noncomputable abbrev schema_Check_c : Code := Tryz.f21.body.getD .skip
def schema_Check_E : Env := tab.env (fun i => bif Nat.beq i 6 then [1, 26, 27, 28] else []) (fun i => bif Nat.beq i 6 then [2, 3] else []) [] [y13]
def schema_Check_h0 (t26 : Zt14) (t27 : Int) (t28 : Int) (bt1 : Zt17) : State := ⟨uS 1 ([.ptr 2 y13 []]::(uS 24 ([.dat (.sl 92 y7) t26 []]::[.dat (.int .i64) t27 []]::[.dat (.int .i64) t28 []]::(uS 26 ([]))))), nS 2 ((some ⟨y13, bt1, []⟩)::(nS 53 ([])))⟩
def schema_Check_x0_0 (t2 : Int) (t3 : Int) : State := ⟨uS 2 ([.dat (.int .i64) t2 []]::[.dat (.int .i64) t3 []]::(uS 51 ([]))), nS 56 []⟩
def schema_Check_x0_1  : State := ⟨uS 55 [], nS 56 []⟩
theorem schema_Check_t (R : Type) (kk : Nat) (s_0 : Zt17) (K : List SV → Option Box → Option R) : evFn schema_Check_E (Tb7 R) kk Tryz.f21 schema_Check_c [.dat y13 s_0 []] none K =
  schema_Check_s0 s_0 (fun a0 a1 => K [.dat (.int .i64) a0 [], .dat (.int .i64) a1 []] none) (fun a0 a1 a2 a3 => loopR (ev schema_Check_E (Tb7 R) kk (sub [1, 1, 0, 1, 0, 0] schema_Check_c)) [1, 26, 27, 28] [2, 3] kk (schema_Check_h0 a0 a1 a2 a3) (kBlock 1 (kSeq schema_Check_E (Tb7 R) kk (sub [1, 1, 1] schema_Check_c) (kFin schema_Check_E Tryz.f21.results.toList none K)))) := by kernel_rfl
theorem schema_Check_d0 (R : Type) (kk k : Nat) (t26 : Zt14) (t27 : Int) (t28 : Int) (bt1 : Zt17) (K : Ex → State → Option R) : loopR (ev schema_Check_E (Tb7 R) kk (sub [1, 1, 0, 1, 0, 0] schema_Check_c)) [1, 26, 27, 28] [2, 3] (k + 1) (schema_Check_h0 t26 t27 t28 bt1) K =
  schema_Check_s1 t26 t27 t28 bt1 (fun a0 a1 => K .ret (schema_Check_x0_0 a0 a1)) (fun a0 a1 a2 a3 => loopR (ev schema_Check_E (Tb7 R) kk (sub [1, 1, 0, 1, 0, 0] schema_Check_c)) [1, 26, 27, 28] [2, 3] k (schema_Check_h0 a0 a1 a2 a3) K) (K (.exit 1) (schema_Check_x0_1)) := by kernel_rfl
theorem schema_Check_y0_0 (R : Type) (kk : Nat) (t2 : Int) (t3 : Int) (K : List SV → Option Box → Option R) : (kBlock 1 (kSeq schema_Check_E (Tb7 R) kk (sub [1, 1, 1] schema_Check_c) (kFin schema_Check_E Tryz.f21.results.toList none K))) .ret (schema_Check_x0_0 t2 t3) =
  schema_Check_s2 t2 t3 (fun a0 a1 => K [.dat (.int .i64) a0 [], .dat (.int .i64) a1 []] none) := by kernel_rfl
theorem schema_Check_y0_1 (R : Type) (kk : Nat)  (K : List SV → Option Box → Option R) : (kBlock 1 (kSeq schema_Check_E (Tb7 R) kk (sub [1, 1, 1] schema_Check_c) (kFin schema_Check_E Tryz.f21.results.toList none K))) (.exit 1) (schema_Check_x0_1) =
  schema_Check_s3 (fun a0 a1 => K [.dat (.int .i64) a0 [], .dat (.int .i64) a1 []] none) := by kernel_rfl
theorem schema_Check_lp0 (R : Type) (k : Nat) (t26 : Zt14) (t27 : Int) (t28 : Int) (bt1 : Zt17) (K : Ex → State → Option R) : loopR (ev schema_Check_E (Tb7 R) FUEL (sub [1, 1, 0, 1, 0, 0] schema_Check_c)) [1, 26, 27, 28] [2, 3] k (schema_Check_h0 t26 t27 t28 bt1) K = (schema_Check_l0 k t26 t27 t28 bt1).bind fun e => (Sum.elim (fun (we : (Int × Int)) => K .ret (schema_Check_x0_0 we.1 we.2)) (fun (we : Unit) => K (.exit 1) (schema_Check_x0_1)) e) := by
  induction k generalizing t26 t27 t28 bt1 with
  | zero => rfl
  | succ k ih =>
    rw [schema_Check_d0]
    simp only [schema_Check_l0, schema_Check_s0_bind, schema_Check_s1_bind, schema_Check_s2_bind, schema_Check_s3_bind, ih, cond_bind, within_bind, none_bind, some_bind, sum_bind, bind_bind, Sum.elim_inl, Sum.elim_inr]
theorem schema_Check_eq (R : Type) (s_0 : Zt17) (K : List SV → Option Box → Option R) : evFn schema_Check_E (Tb7 R) FUEL Tryz.f21 schema_Check_c [.dat y13 s_0 []] none K = (schema_Check s_0).bind fun r => K [.dat (.int .i64) r.1 [], .dat (.int .i64) r.2 []] none := by
  rw [schema_Check_t]
  simp only [schema_Check, schema_Check_s0_bind, schema_Check_s1_bind, schema_Check_s2_bind, schema_Check_s3_bind, schema_Check_lp0, schema_Check_y0_0, schema_Check_y0_1, cond_bind, within_bind, none_bind, some_bind, sum_bind, bind_bind, Sum.elim_inl, Sum.elim_inr]
def schema_Check_g : Pure := fun R l b K => noBox b (args1 y13 l (fun x0 => (schema_Check x0).bind fun r => K [.dat (.int .i64) r.1 [], .dat (.int .i64) r.2 []] none))
theorem schema_Check_n : schema_Check_g.Nat := fun R S l b F G K h => noBox_nat (args1_nat fun _ => bindr_nat fun _ => h _ _)
def Tb8 : Funs := Tb7.add 21 [y13] schema_Check_g
theorem Tb8_nat : Tb8.Nat := add_nat Tb7_nat schema_Check_n
theorem Tb8_owes : ∀ f, Owes Tryz.prog Tb8 f := add_owes (E := schema_Check_E) (Tab.env_ok tab_ok _ _ _ _) mixed Tb7_nat Tb7_owes (fn := Tryz.f21) (code := schema_Check_c) Tryz.func21 (by kernel_rfl) (by kernel_rfl) fun l b r b' h => by
  obtain ⟨rfl, h⟩ := noBox_some h
  obtain ⟨x0, h1, h2⟩ := own1 (E := schema_Check_E) rfl h
  exact ⟨FUEL, (h2 _ _ _ _ _ _).trans ((schema_Check_eq _ x0 _).trans h1)⟩
noncomputable abbrev digits_All_c : Code := Tryz.f81.body.getD .skip
def digits_All_E : Env := tab.env (fun i => bif Nat.beq i 2 then [6] else []) (fun i => bif Nat.beq i 2 then [2] else []) [] [.str]
def digits_All_h0 (bt6 : Zt1) : State := ⟨uS 6 ([.ptr 7 (.spc .iter .unit .unit) []]::(uS 9 ([]))), nS 7 ((some ⟨(.spc .iter .unit .unit), bt6, []⟩)::(nS 9 ([])))⟩
def digits_All_x0_0 (t2 : Bool) : State := ⟨uS 2 ([.dat .bool t2 []]::(uS 13 ([]))), nS 17 []⟩
def digits_All_x0_1  : State := ⟨uS 16 [], nS 17 []⟩
theorem digits_All_t (R : Type) (kk : Nat) (s_0 : ByteArray) (K : List SV → Option Box → Option R) : evFn digits_All_E (Tb8 R) kk Tryz.f81 digits_All_c [.dat .str s_0 []] none K =
  digits_All_s0 s_0 (fun a0 => loopR (ev digits_All_E (Tb8 R) kk (sub [1, 0, 1, 0, 0] digits_All_c)) [6] [2] kk (digits_All_h0 a0) (kBlock 0 (kSeq digits_All_E (Tb8 R) kk (sub [1, 1] digits_All_c) (kFin digits_All_E Tryz.f81.results.toList none K)))) := by kernel_rfl
theorem digits_All_d0 (R : Type) (kk k : Nat) (bt6 : Zt1) (K : Ex → State → Option R) : loopR (ev digits_All_E (Tb8 R) kk (sub [1, 0, 1, 0, 0] digits_All_c)) [6] [2] (k + 1) (digits_All_h0 bt6) K =
  digits_All_s1 bt6 (fun a0 => K .ret (digits_All_x0_0 a0)) (fun a0 => loopR (ev digits_All_E (Tb8 R) kk (sub [1, 0, 1, 0, 0] digits_All_c)) [6] [2] k (digits_All_h0 a0) K) (K (.exit 0) (digits_All_x0_1)) := by kernel_rfl
theorem digits_All_y0_0 (R : Type) (kk : Nat) (t2 : Bool) (K : List SV → Option Box → Option R) : (kBlock 0 (kSeq digits_All_E (Tb8 R) kk (sub [1, 1] digits_All_c) (kFin digits_All_E Tryz.f81.results.toList none K))) .ret (digits_All_x0_0 t2) =
  digits_All_s2 t2 (fun a0 => K [.dat .bool a0 []] none) := by kernel_rfl
theorem digits_All_y0_1 (R : Type) (kk : Nat)  (K : List SV → Option Box → Option R) : (kBlock 0 (kSeq digits_All_E (Tb8 R) kk (sub [1, 1] digits_All_c) (kFin digits_All_E Tryz.f81.results.toList none K))) (.exit 0) (digits_All_x0_1) =
  digits_All_s3 (fun a0 => K [.dat .bool a0 []] none) := by kernel_rfl
theorem digits_All_lp0 (R : Type) (k : Nat) (bt6 : Zt1) (K : Ex → State → Option R) : loopR (ev digits_All_E (Tb8 R) FUEL (sub [1, 0, 1, 0, 0] digits_All_c)) [6] [2] k (digits_All_h0 bt6) K = (digits_All_l0 k bt6).bind fun e => (Sum.elim (fun (we : Bool) => K .ret (digits_All_x0_0 we)) (fun (we : Unit) => K (.exit 0) (digits_All_x0_1)) e) := by
  induction k generalizing bt6 with
  | zero => rfl
  | succ k ih =>
    rw [digits_All_d0]
    simp only [digits_All_l0, digits_All_s0_bind, digits_All_s1_bind, digits_All_s2_bind, digits_All_s3_bind, ih, cond_bind, within_bind, none_bind, some_bind, sum_bind, bind_bind, Sum.elim_inl, Sum.elim_inr]
theorem digits_All_eq (R : Type) (s_0 : ByteArray) (K : List SV → Option Box → Option R) : evFn digits_All_E (Tb8 R) FUEL Tryz.f81 digits_All_c [.dat .str s_0 []] none K = (digits_All s_0).bind fun r => K [.dat .bool r []] none := by
  rw [digits_All_t]
  simp only [digits_All, digits_All_s0_bind, digits_All_s1_bind, digits_All_s2_bind, digits_All_s3_bind, digits_All_lp0, digits_All_y0_0, digits_All_y0_1, cond_bind, within_bind, none_bind, some_bind, sum_bind, bind_bind, Sum.elim_inl, Sum.elim_inr]
def digits_All_g : Pure := fun R l b K => noBox b (args1 .str l (fun x0 => (digits_All x0).bind fun r => K [.dat .bool r []] none))
theorem digits_All_n : digits_All_g.Nat := fun R S l b F G K h => noBox_nat (args1_nat fun _ => bindr_nat fun _ => h _ _)
def Tb9 : Funs := Tb8.add 81 [.str] digits_All_g
theorem Tb9_nat : Tb9.Nat := add_nat Tb8_nat digits_All_n
theorem Tb9_owes : ∀ f, Owes Tryz.prog Tb9 f := add_owes (E := digits_All_E) (Tab.env_ok tab_ok _ _ _ _) mixed Tb8_nat Tb8_owes (fn := Tryz.f81) (code := digits_All_c) Tryz.func81 (by kernel_rfl) (by kernel_rfl) fun l b r b' h => by
  obtain ⟨rfl, h⟩ := noBox_some h
  obtain ⟨x0, h1, h2⟩ := own1 (E := digits_All_E) rfl h
  exact ⟨FUEL, (h2 _ _ _ _ _ _).trans ((digits_All_eq _ x0 _).trans h1)⟩
noncomputable abbrev mti_Right_c : Code := Tryz.f74.body.getD .skip
def mti_Right_E : Env := tab.env (fun _ => []) (fun _ => []) [] [.str]
theorem mti_Right_t (R : Type) (kk : Nat) (m_0 : ByteArray) (K : List SV → Option Box → Option R) : evFn mti_Right_E (Tb9 R) kk Tryz.f74 mti_Right_c [.dat .str m_0 []] none K =
  mti_Right_s0 m_0 (fun a0 => K [.dat .bool a0 []] none) := by kernel_rfl
theorem mti_Right_eq (R : Type) (m_0 : ByteArray) (K : List SV → Option Box → Option R) : evFn mti_Right_E (Tb9 R) FUEL Tryz.f74 mti_Right_c [.dat .str m_0 []] none K = (mti_Right m_0).bind fun r => K [.dat .bool r []] none := by
  rw [mti_Right_t]
  simp only [mti_Right, mti_Right_s0_bind, cond_bind, within_bind, none_bind, some_bind, sum_bind, bind_bind, Sum.elim_inl, Sum.elim_inr]
def mti_Right_g : Pure := fun R l b K => noBox b (args1 .str l (fun x0 => (mti_Right x0).bind fun r => K [.dat .bool r []] none))
theorem mti_Right_n : mti_Right_g.Nat := fun R S l b F G K h => noBox_nat (args1_nat fun _ => bindr_nat fun _ => h _ _)
def Tb10 : Funs := Tb9.add 74 [.str] mti_Right_g
theorem Tb10_nat : Tb10.Nat := add_nat Tb9_nat mti_Right_n
theorem Tb10_owes : ∀ f, Owes Tryz.prog Tb10 f := add_owes (E := mti_Right_E) (Tab.env_ok tab_ok _ _ _ _) mixed Tb9_nat Tb9_owes (fn := Tryz.f74) (code := mti_Right_c) Tryz.func74 (by kernel_rfl) (by kernel_rfl) fun l b r b' h => by
  obtain ⟨rfl, h⟩ := noBox_some h
  obtain ⟨x0, h1, h2⟩ := own1 (E := mti_Right_E) rfl h
  exact ⟨FUEL, (h2 _ _ _ _ _ _).trans ((mti_Right_eq _ x0 _).trans h1)⟩
noncomputable abbrev mti_Version_c : Code := Tryz.f48.body.getD .skip
def mti_Version_E : Env := tab.env (fun _ => []) (fun _ => []) [] [.str]
theorem mti_Version_t (R : Type) (kk : Nat) (m_0 : ByteArray) (K : List SV → Option Box → Option R) : evFn mti_Version_E (Tb10 R) kk Tryz.f48 mti_Version_c [.dat .str m_0 []] none K =
  mti_Version_s0 m_0 (fun a0 a1 => K [.dat (.int .i64) a0 [], .dat .bool a1 []] none) := by kernel_rfl
theorem mti_Version_eq (R : Type) (m_0 : ByteArray) (K : List SV → Option Box → Option R) : evFn mti_Version_E (Tb10 R) FUEL Tryz.f48 mti_Version_c [.dat .str m_0 []] none K = (mti_Version m_0).bind fun r => K [.dat (.int .i64) r.1 [], .dat .bool r.2 []] none := by
  rw [mti_Version_t]
  simp only [mti_Version, mti_Version_s0_bind, cond_bind, within_bind, none_bind, some_bind, sum_bind, bind_bind, Sum.elim_inl, Sum.elim_inr]
def mti_Version_g : Pure := fun R l b K => noBox b (args1 .str l (fun x0 => (mti_Version x0).bind fun r => K [.dat (.int .i64) r.1 [], .dat .bool r.2 []] none))
theorem mti_Version_n : mti_Version_g.Nat := fun R S l b F G K h => noBox_nat (args1_nat fun _ => bindr_nat fun _ => h _ _)
def Tb11 : Funs := Tb10.add 48 [.str] mti_Version_g
theorem Tb11_nat : Tb11.Nat := add_nat Tb10_nat mti_Version_n
theorem Tb11_owes : ∀ f, Owes Tryz.prog Tb11 f := add_owes (E := mti_Version_E) (Tab.env_ok tab_ok _ _ _ _) mixed Tb10_nat Tb10_owes (fn := Tryz.f48) (code := mti_Version_c) Tryz.func48 (by kernel_rfl) (by kernel_rfl) fun l b r b' h => by
  obtain ⟨rfl, h⟩ := noBox_some h
  obtain ⟨x0, h1, h2⟩ := own1 (E := mti_Version_E) rfl h
  exact ⟨FUEL, (h2 _ _ _ _ _ _).trans ((mti_Version_eq _ x0 _).trans h1)⟩
noncomputable abbrev mti_Request_c : Code := Tryz.f49.body.getD .skip
def mti_Request_E : Env := tab.env (fun _ => []) (fun _ => []) [] [.str]
theorem mti_Request_t (R : Type) (kk : Nat) (m_0 : ByteArray) (K : List SV → Option Box → Option R) : evFn mti_Request_E (Tb11 R) kk Tryz.f49 mti_Request_c [.dat .str m_0 []] none K =
  mti_Request_s0 m_0 (fun a0 => K [.dat .bool a0 []] none) := by kernel_rfl
theorem mti_Request_eq (R : Type) (m_0 : ByteArray) (K : List SV → Option Box → Option R) : evFn mti_Request_E (Tb11 R) FUEL Tryz.f49 mti_Request_c [.dat .str m_0 []] none K = (mti_Request m_0).bind fun r => K [.dat .bool r []] none := by
  rw [mti_Request_t]
  simp only [mti_Request, mti_Request_s0_bind, cond_bind, within_bind, none_bind, some_bind, sum_bind, bind_bind, Sum.elim_inl, Sum.elim_inr]
def mti_Request_g : Pure := fun R l b K => noBox b (args1 .str l (fun x0 => (mti_Request x0).bind fun r => K [.dat .bool r []] none))
theorem mti_Request_n : mti_Request_g.Nat := fun R S l b F G K h => noBox_nat (args1_nat fun _ => bindr_nat fun _ => h _ _)
def Tb12 : Funs := Tb11.add 49 [.str] mti_Request_g
theorem Tb12_nat : Tb12.Nat := add_nat Tb11_nat mti_Request_n
theorem Tb12_owes : ∀ f, Owes Tryz.prog Tb12 f := add_owes (E := mti_Request_E) (Tab.env_ok tab_ok _ _ _ _) mixed Tb11_nat Tb11_owes (fn := Tryz.f49) (code := mti_Request_c) Tryz.func49 (by kernel_rfl) (by kernel_rfl) fun l b r b' h => by
  obtain ⟨rfl, h⟩ := noBox_some h
  obtain ⟨x0, h1, h2⟩ := own1 (E := mti_Request_E) rfl h
  exact ⟨FUEL, (h2 _ _ _ _ _ _).trans ((mti_Request_eq _ x0 _).trans h1)⟩
noncomputable abbrev xlate_typed_c : Code := Tryz.f22.body.getD .skip
def xlate_typed_E : Env := tab.env (fun _ => []) (fun _ => []) [] [(.pair .str (.pair .str .unit)), y13, y13]
theorem xlate_typed_t (R : Type) (kk : Nat) (p_0 : Zt8) (a_1 : Zt17) (b_2 : Zt17) (K : List SV → Option Box → Option R) : evFn xlate_typed_E (Tb12 R) kk Tryz.f22 xlate_typed_c [.dat (.pair .str (.pair .str .unit)) p_0 [], .dat y13 a_1 [], .dat y13 b_2 []] none K =
  xlate_typed_s0 p_0 a_1 b_2 (fun a0 => K [.dat .bool a0 []] none) := by kernel_rfl
theorem xlate_typed_eq (R : Type) (p_0 : Zt8) (a_1 : Zt17) (b_2 : Zt17) (K : List SV → Option Box → Option R) : evFn xlate_typed_E (Tb12 R) FUEL Tryz.f22 xlate_typed_c [.dat (.pair .str (.pair .str .unit)) p_0 [], .dat y13 a_1 [], .dat y13 b_2 []] none K = (xlate_typed p_0 a_1 b_2).bind fun r => K [.dat .bool r []] none := by
  rw [xlate_typed_t]
  simp only [xlate_typed, xlate_typed_s0_bind, cond_bind, within_bind, none_bind, some_bind, sum_bind, bind_bind, Sum.elim_inl, Sum.elim_inr]
def xlate_typed_g : Pure := fun R l b K => noBox b (args3 (.pair .str (.pair .str .unit)) y13 y13 l (fun x0 x1 x2 => (xlate_typed x0 x1 x2).bind fun r => K [.dat .bool r []] none))
theorem xlate_typed_n : xlate_typed_g.Nat := fun R S l b F G K h => noBox_nat (args3_nat fun _ _ _ => bindr_nat fun _ => h _ _)
def Tb13 : Funs := Tb12.add 22 [(.pair .str (.pair .str .unit)), y13, y13] xlate_typed_g
theorem Tb13_nat : Tb13.Nat := add_nat Tb12_nat xlate_typed_n
theorem Tb13_owes : ∀ f, Owes Tryz.prog Tb13 f := add_owes (E := xlate_typed_E) (Tab.env_ok tab_ok _ _ _ _) mixed Tb12_nat Tb12_owes (fn := Tryz.f22) (code := xlate_typed_c) Tryz.func22 (by kernel_rfl) (by kernel_rfl) fun l b r b' h => by
  obtain ⟨rfl, h⟩ := noBox_some h
  obtain ⟨x0, x1, x2, h1, h2⟩ := own3 (E := xlate_typed_E) rfl h
  exact ⟨FUEL, (h2 _ _ _ _ _ _).trans ((xlate_typed_eq _ x0 x1 x2 _).trans h1)⟩
noncomputable abbrev schema_Find_c : Code := Tryz.f61.body.getD .skip
def schema_Find_E : Env := tab.env (fun i => bif Nat.beq i 2 then [1, 4, 9, 10, 11] else []) (fun i => bif Nat.beq i 2 then [4, 5] else []) [4] [y13, (.int .i64)]
def schema_Find_h0 (no_1 : Int) (t9 : Zt14) (t10 : Int) (t11 : Int) (bt4 : Zt12) : State := ⟨uS 1 ([.dat (.int .i64) no_1 []]::(uS 2 ([.ptr 5 y7 []]::(uS 4 ([.dat (.sl 92 y7) t9 []]::[.dat (.int .i64) t10 []]::[.dat (.int .i64) t11 []]::(uS 10 ([]))))))), nS 5 ((some ⟨y7, bt4, []⟩)::(nS 17 ([])))⟩
def schema_Find_x0_0 (t5 : Bool) (bt4 : Zt12) : State := ⟨uS 4 ([.ptr 5 y7 []]::[.dat .bool t5 []]::(uS 16 ([]))), nS 5 ((some ⟨y7, bt4, []⟩)::(nS 17 ([])))⟩
def schema_Find_x0_1 (bt4 : Zt12) : State := ⟨uS 4 ([.ptr 5 y7 []]::(uS 17 ([]))), nS 5 ((some ⟨y7, bt4, []⟩)::(nS 17 ([])))⟩
theorem schema_Find_t (R : Type) (kk : Nat) (s_0 : Zt17) (no_1 : Int) (K : List SV → Option Box → Option R) : evFn schema_Find_E (Tb13 R) kk Tryz.f61 schema_Find_c [.dat y13 s_0 [], .dat (.int .i64) no_1 []] none K =
  schema_Find_s0 s_0 no_1 (fun a0 a1 a2 a3 a4 => loopR (ev schema_Find_E (Tb13 R) kk (sub [1, 0, 1, 0, 0] schema_Find_c)) [1, 4, 9, 10, 11] [4, 5] kk (schema_Find_h0 a0 a1 a2 a3 a4) (kBlock 0 (kSeq schema_Find_E (Tb13 R) kk (sub [1, 1] schema_Find_c) (kFin schema_Find_E Tryz.f61.results.toList none K)))) := by kernel_rfl
theorem schema_Find_d0 (R : Type) (kk k : Nat) (no_1 : Int) (t9 : Zt14) (t10 : Int) (t11 : Int) (bt4 : Zt12) (K : Ex → State → Option R) : loopR (ev schema_Find_E (Tb13 R) kk (sub [1, 0, 1, 0, 0] schema_Find_c)) [1, 4, 9, 10, 11] [4, 5] (k + 1) (schema_Find_h0 no_1 t9 t10 t11 bt4) K =
  schema_Find_s1 no_1 t9 t10 t11 bt4 (fun a0 a1 => K .ret (schema_Find_x0_0 a0 a1)) (fun a0 a1 a2 a3 a4 => loopR (ev schema_Find_E (Tb13 R) kk (sub [1, 0, 1, 0, 0] schema_Find_c)) [1, 4, 9, 10, 11] [4, 5] k (schema_Find_h0 a0 a1 a2 a3 a4) K) (fun a0 => K (.exit 0) (schema_Find_x0_1 a0)) := by kernel_rfl
theorem schema_Find_y0_0 (R : Type) (kk : Nat) (t5 : Bool) (bt4 : Zt12) (K : List SV → Option Box → Option R) : (kBlock 0 (kSeq schema_Find_E (Tb13 R) kk (sub [1, 1] schema_Find_c) (kFin schema_Find_E Tryz.f61.results.toList none K))) .ret (schema_Find_x0_0 t5 bt4) =
  schema_Find_s2 t5 bt4 (fun a0 a1 => K [.dat y7 a0 [], .dat .bool a1 []] none) := by kernel_rfl
theorem schema_Find_y0_1 (R : Type) (kk : Nat) (bt4 : Zt12) (K : List SV → Option Box → Option R) : (kBlock 0 (kSeq schema_Find_E (Tb13 R) kk (sub [1, 1] schema_Find_c) (kFin schema_Find_E Tryz.f61.results.toList none K))) (.exit 0) (schema_Find_x0_1 bt4) =
  schema_Find_s3 bt4 (fun a0 a1 => K [.dat y7 a0 [], .dat .bool a1 []] none) := by kernel_rfl
theorem schema_Find_lp0 (R : Type) (k : Nat) (no_1 : Int) (t9 : Zt14) (t10 : Int) (t11 : Int) (bt4 : Zt12) (K : Ex → State → Option R) : loopR (ev schema_Find_E (Tb13 R) FUEL (sub [1, 0, 1, 0, 0] schema_Find_c)) [1, 4, 9, 10, 11] [4, 5] k (schema_Find_h0 no_1 t9 t10 t11 bt4) K = (schema_Find_l0 k no_1 t9 t10 t11 bt4).bind fun e => (Sum.elim (fun (we : (Bool × Zt12)) => K .ret (schema_Find_x0_0 we.1 we.2)) (fun (we : Zt12) => K (.exit 0) (schema_Find_x0_1 we)) e) := by
  induction k generalizing no_1 t9 t10 t11 bt4 with
  | zero => rfl
  | succ k ih =>
    rw [schema_Find_d0]
    simp only [schema_Find_l0, schema_Find_s0_bind, schema_Find_s1_bind, schema_Find_s2_bind, schema_Find_s3_bind, ih, cond_bind, within_bind, none_bind, some_bind, sum_bind, bind_bind, Sum.elim_inl, Sum.elim_inr]
theorem schema_Find_eq (R : Type) (s_0 : Zt17) (no_1 : Int) (K : List SV → Option Box → Option R) : evFn schema_Find_E (Tb13 R) FUEL Tryz.f61 schema_Find_c [.dat y13 s_0 [], .dat (.int .i64) no_1 []] none K = (schema_Find s_0 no_1).bind fun r => K [.dat y7 r.1 [], .dat .bool r.2 []] none := by
  rw [schema_Find_t]
  simp only [schema_Find, schema_Find_s0_bind, schema_Find_s1_bind, schema_Find_s2_bind, schema_Find_s3_bind, schema_Find_lp0, schema_Find_y0_0, schema_Find_y0_1, cond_bind, within_bind, none_bind, some_bind, sum_bind, bind_bind, Sum.elim_inl, Sum.elim_inr]
def schema_Find_g : Pure := fun R l b K => noBox b (args2 y13 (.int .i64) l (fun x0 x1 => (schema_Find x0 x1).bind fun r => K [.dat y7 r.1 [], .dat .bool r.2 []] none))
theorem schema_Find_n : schema_Find_g.Nat := fun R S l b F G K h => noBox_nat (args2_nat fun _ _ => bindr_nat fun _ => h _ _)
def Tb14 : Funs := Tb13.add 61 [y13, (.int .i64)] schema_Find_g
theorem Tb14_nat : Tb14.Nat := add_nat Tb13_nat schema_Find_n
theorem Tb14_owes : ∀ f, Owes Tryz.prog Tb14 f := add_owes (E := schema_Find_E) (Tab.env_ok tab_ok _ _ _ _) mixed Tb13_nat Tb13_owes (fn := Tryz.f61) (code := schema_Find_c) Tryz.func61 (by kernel_rfl) (by kernel_rfl) fun l b r b' h => by
  obtain ⟨rfl, h⟩ := noBox_some h
  obtain ⟨x0, x1, h1, h2⟩ := own2 (E := schema_Find_E) rfl h
  exact ⟨FUEL, (h2 _ _ _ _ _ _).trans ((schema_Find_eq _ x0 x1 _).trans h1)⟩
noncomputable abbrev rule_ends_c : Code := Tryz.f50.body.getD .skip
def rule_ends_E : Env := tab.env (fun _ => []) (fun _ => []) [6, 7] [y9, y13, y13]
theorem rule_ends_t (R : Type) (kk : Nat) (r_0 : Zt19) (a_1 : Zt17) (b_2 : Zt17) (K : List SV → Option Box → Option R) : evFn rule_ends_E (Tb14 R) kk Tryz.f50 rule_ends_c [.dat y9 r_0 [], .dat y13 a_1 [], .dat y13 b_2 []] none K =
  rule_ends_s0 r_0 a_1 b_2 (fun a0 a1 a2 => K [.dat y7 a0 [], .dat y7 a1 [], .dat (.int .i64) a2 []] none) := by kernel_rfl
theorem rule_ends_eq (R : Type) (r_0 : Zt19) (a_1 : Zt17) (b_2 : Zt17) (K : List SV → Option Box → Option R) : evFn rule_ends_E (Tb14 R) FUEL Tryz.f50 rule_ends_c [.dat y9 r_0 [], .dat y13 a_1 [], .dat y13 b_2 []] none K = (rule_ends r_0 a_1 b_2).bind fun r => K [.dat y7 r.1 [], .dat y7 r.2.1 [], .dat (.int .i64) r.2.2 []] none := by
  rw [rule_ends_t]
  simp only [rule_ends, rule_ends_s0_bind, cond_bind, within_bind, none_bind, some_bind, sum_bind, bind_bind, Sum.elim_inl, Sum.elim_inr]
def rule_ends_g : Pure := fun R l b K => noBox b (args3 y9 y13 y13 l (fun x0 x1 x2 => (rule_ends x0 x1 x2).bind fun r => K [.dat y7 r.1 [], .dat y7 r.2.1 [], .dat (.int .i64) r.2.2 []] none))
theorem rule_ends_n : rule_ends_g.Nat := fun R S l b F G K h => noBox_nat (args3_nat fun _ _ _ => bindr_nat fun _ => h _ _)
def Tb15 : Funs := Tb14.add 50 [y9, y13, y13] rule_ends_g
theorem Tb15_nat : Tb15.Nat := add_nat Tb14_nat rule_ends_n
theorem Tb15_owes : ∀ f, Owes Tryz.prog Tb15 f := add_owes (E := rule_ends_E) (Tab.env_ok tab_ok _ _ _ _) mixed Tb14_nat Tb14_owes (fn := Tryz.f50) (code := rule_ends_c) Tryz.func50 (by kernel_rfl) (by kernel_rfl) fun l b r b' h => by
  obtain ⟨rfl, h⟩ := noBox_some h
  obtain ⟨x0, x1, x2, h1, h2⟩ := own3 (E := rule_ends_E) rfl h
  exact ⟨FUEL, (h2 _ _ _ _ _ _).trans ((rule_ends_eq _ x0 x1 x2 _).trans h1)⟩
noncomputable abbrev class_Wider_c : Code := Tryz.f91.body.getD .skip
def class_Wider_E : Env := tab.env (fun _ => []) (fun _ => []) [] [(.int .i64), (.int .i64)]
theorem class_Wider_t (R : Type) (kk : Nat) (a_0 : Int) (b_1 : Int) (K : List SV → Option Box → Option R) : evFn class_Wider_E (Tb15 R) kk Tryz.f91 class_Wider_c [.dat (.int .i64) a_0 [], .dat (.int .i64) b_1 []] none K =
  class_Wider_s0 a_0 b_1 (fun a0 => K [.dat .bool a0 []] none) := by kernel_rfl
theorem class_Wider_eq (R : Type) (a_0 : Int) (b_1 : Int) (K : List SV → Option Box → Option R) : evFn class_Wider_E (Tb15 R) FUEL Tryz.f91 class_Wider_c [.dat (.int .i64) a_0 [], .dat (.int .i64) b_1 []] none K = (class_Wider a_0 b_1).bind fun r => K [.dat .bool r []] none := by
  rw [class_Wider_t]
  simp only [class_Wider, class_Wider_s0_bind, cond_bind, within_bind, none_bind, some_bind, sum_bind, bind_bind, Sum.elim_inl, Sum.elim_inr]
def class_Wider_g : Pure := fun R l b K => noBox b (args2 (.int .i64) (.int .i64) l (fun x0 x1 => (class_Wider x0 x1).bind fun r => K [.dat .bool r []] none))
theorem class_Wider_n : class_Wider_g.Nat := fun R S l b F G K h => noBox_nat (args2_nat fun _ _ => bindr_nat fun _ => h _ _)
def Tb16 : Funs := Tb15.add 91 [(.int .i64), (.int .i64)] class_Wider_g
theorem Tb16_nat : Tb16.Nat := add_nat Tb15_nat class_Wider_n
theorem Tb16_owes : ∀ f, Owes Tryz.prog Tb16 f := add_owes (E := class_Wider_E) (Tab.env_ok tab_ok _ _ _ _) mixed Tb15_nat Tb15_owes (fn := Tryz.f91) (code := class_Wider_c) Tryz.func91 (by kernel_rfl) (by kernel_rfl) fun l b r b' h => by
  obtain ⟨rfl, h⟩ := noBox_some h
  obtain ⟨x0, x1, h1, h2⟩ := own2 (E := class_Wider_E) rfl h
  exact ⟨FUEL, (h2 _ _ _ _ _ _).trans ((class_Wider_eq _ x0 x1 _).trans h1)⟩
noncomputable abbrev spec_classes_c : Code := Tryz.f75.body.getD .skip
def spec_classes_E : Env := tab.env (fun _ => []) (fun _ => []) [] [(.int .i64), (.int .i64)]
theorem spec_classes_t (R : Type) (kk : Nat) (a_0 : Int) (b_1 : Int) (K : List SV → Option Box → Option R) : evFn spec_classes_E (Tb16 R) kk Tryz.f75 spec_classes_c [.dat (.int .i64) a_0 [], .dat (.int .i64) b_1 []] none K =
  spec_classes_s0 a_0 b_1 (fun a0 => K [.dat .bool a0 []] none) := by kernel_rfl
theorem spec_classes_eq (R : Type) (a_0 : Int) (b_1 : Int) (K : List SV → Option Box → Option R) : evFn spec_classes_E (Tb16 R) FUEL Tryz.f75 spec_classes_c [.dat (.int .i64) a_0 [], .dat (.int .i64) b_1 []] none K = (spec_classes a_0 b_1).bind fun r => K [.dat .bool r []] none := by
  rw [spec_classes_t]
  simp only [spec_classes, spec_classes_s0_bind, cond_bind, within_bind, none_bind, some_bind, sum_bind, bind_bind, Sum.elim_inl, Sum.elim_inr]
def spec_classes_g : Pure := fun R l b K => noBox b (args2 (.int .i64) (.int .i64) l (fun x0 x1 => (spec_classes x0 x1).bind fun r => K [.dat .bool r []] none))
theorem spec_classes_n : spec_classes_g.Nat := fun R S l b F G K h => noBox_nat (args2_nat fun _ _ => bindr_nat fun _ => h _ _)
def Tb17 : Funs := Tb16.add 75 [(.int .i64), (.int .i64)] spec_classes_g
theorem Tb17_nat : Tb17.Nat := add_nat Tb16_nat spec_classes_n
theorem Tb17_owes : ∀ f, Owes Tryz.prog Tb17 f := add_owes (E := spec_classes_E) (Tab.env_ok tab_ok _ _ _ _) mixed Tb16_nat Tb16_owes (fn := Tryz.f75) (code := spec_classes_c) Tryz.func75 (by kernel_rfl) (by kernel_rfl) fun l b r b' h => by
  obtain ⟨rfl, h⟩ := noBox_some h
  obtain ⟨x0, x1, h1, h2⟩ := own2 (E := spec_classes_E) rfl h
  exact ⟨FUEL, (h2 _ _ _ _ _ _).trans ((spec_classes_eq _ x0 x1 _).trans h1)⟩
noncomputable abbrev spec_Wider_c : Code := Tryz.f51.body.getD .skip
def spec_Wider_E : Env := tab.env (fun _ => []) (fun _ => []) [] [y7, y7]
theorem spec_Wider_t (R : Type) (kk : Nat) (a_0 : Zt12) (b_1 : Zt12) (K : List SV → Option Box → Option R) : evFn spec_Wider_E (Tb17 R) kk Tryz.f51 spec_Wider_c [.dat y7 a_0 [], .dat y7 b_1 []] none K =
  spec_Wider_s0 a_0 b_1 (fun a0 => K [.dat .bool a0 []] none) := by kernel_rfl
theorem spec_Wider_eq (R : Type) (a_0 : Zt12) (b_1 : Zt12) (K : List SV → Option Box → Option R) : evFn spec_Wider_E (Tb17 R) FUEL Tryz.f51 spec_Wider_c [.dat y7 a_0 [], .dat y7 b_1 []] none K = (spec_Wider a_0 b_1).bind fun r => K [.dat .bool r []] none := by
  rw [spec_Wider_t]
  simp only [spec_Wider, spec_Wider_s0_bind, cond_bind, within_bind, none_bind, some_bind, sum_bind, bind_bind, Sum.elim_inl, Sum.elim_inr]
def spec_Wider_g : Pure := fun R l b K => noBox b (args2 y7 y7 l (fun x0 x1 => (spec_Wider x0 x1).bind fun r => K [.dat .bool r []] none))
theorem spec_Wider_n : spec_Wider_g.Nat := fun R S l b F G K h => noBox_nat (args2_nat fun _ _ => bindr_nat fun _ => h _ _)
def Tb18 : Funs := Tb17.add 51 [y7, y7] spec_Wider_g
theorem Tb18_nat : Tb18.Nat := add_nat Tb17_nat spec_Wider_n
theorem Tb18_owes : ∀ f, Owes Tryz.prog Tb18 f := add_owes (E := spec_Wider_E) (Tab.env_ok tab_ok _ _ _ _) mixed Tb17_nat Tb17_owes (fn := Tryz.f51) (code := spec_Wider_c) Tryz.func51 (by kernel_rfl) (by kernel_rfl) fun l b r b' h => by
  obtain ⟨rfl, h⟩ := noBox_some h
  obtain ⟨x0, x1, h1, h2⟩ := own2 (E := spec_Wider_E) rfl h
  exact ⟨FUEL, (h2 _ _ _ _ _ _).trans ((spec_Wider_eq _ x0 x1 _).trans h1)⟩
noncomputable abbrev class_of_c : Code := Tryz.f92.body.getD .skip
def class_of_E : Env := tab.env (fun _ => []) (fun _ => []) [] [(.int .u8)]
theorem class_of_t (R : Type) (kk : Nat) (b_0 : Int) (K : List SV → Option Box → Option R) : evFn class_of_E (Tb18 R) kk Tryz.f92 class_of_c [.dat (.int .u8) b_0 []] none K =
  class_of_s0 b_0 (fun a0 => K [.dat (.int .i64) a0 []] none) := by kernel_rfl
theorem class_of_eq (R : Type) (b_0 : Int) (K : List SV → Option Box → Option R) : evFn class_of_E (Tb18 R) FUEL Tryz.f92 class_of_c [.dat (.int .u8) b_0 []] none K = (class_of b_0).bind fun r => K [.dat (.int .i64) r []] none := by
  rw [class_of_t]
  simp only [class_of, class_of_s0_bind, cond_bind, within_bind, none_bind, some_bind, sum_bind, bind_bind, Sum.elim_inl, Sum.elim_inr]
def class_of_g : Pure := fun R l b K => noBox b (args1 (.int .u8) l (fun x0 => (class_of x0).bind fun r => K [.dat (.int .i64) r []] none))
theorem class_of_n : class_of_g.Nat := fun R S l b F G K h => noBox_nat (args1_nat fun _ => bindr_nat fun _ => h _ _)
def Tb19 : Funs := Tb18.add 92 [(.int .u8)] class_of_g
theorem Tb19_nat : Tb19.Nat := add_nat Tb18_nat class_of_n
theorem Tb19_owes : ∀ f, Owes Tryz.prog Tb19 f := add_owes (E := class_of_E) (Tab.env_ok tab_ok _ _ _ _) mixed Tb18_nat Tb18_owes (fn := Tryz.f92) (code := class_of_c) Tryz.func92 (by kernel_rfl) (by kernel_rfl) fun l b r b' h => by
  obtain ⟨rfl, h⟩ := noBox_some h
  obtain ⟨x0, h1, h2⟩ := own1 (E := class_of_E) rfl h
  exact ⟨FUEL, (h2 _ _ _ _ _ _).trans ((class_of_eq _ x0 _).trans h1)⟩
noncomputable abbrev class_First_c : Code := Tryz.f76.body.getD .skip
def class_First_E : Env := tab.env (fun i => bif Nat.beq i 3 then [1, 5, 6] else []) (fun i => bif Nat.beq i 3 then [4] else []) [] [(.int .i64), .str]
def class_First_h0 (s_1 : ByteArray) (t5 : Int) (t6 : Int) : State := ⟨uS 1 ([.dat .str s_1 []]::(uS 3 ([.dat (.int .i64) t5 []]::[.dat (.int .i64) t6 []]::(uS 16 ([]))))), nS 24 []⟩
def class_First_x0_0 (t4 : Int) : State := ⟨uS 4 ([.dat (.int .i64) t4 []]::(uS 18 ([]))), nS 24 []⟩
def class_First_x0_1  : State := ⟨uS 23 [], nS 24 []⟩
theorem class_First_t (R : Type) (kk : Nat) (class_0 : Int) (s_1 : ByteArray) (K : List SV → Option Box → Option R) : evFn class_First_E (Tb19 R) kk Tryz.f76 class_First_c [.dat (.int .i64) class_0 [], .dat .str s_1 []] none K =
  class_First_s0 class_0 s_1 (fun a0 a1 a2 => loopR (ev class_First_E (Tb19 R) kk (sub [1, 1, 0, 1, 0, 0] class_First_c)) [1, 5, 6] [4] kk (class_First_h0 a0 a1 a2) (kBlock 0 (kSeq class_First_E (Tb19 R) kk (sub [1, 1, 1] class_First_c) (kFin class_First_E Tryz.f76.results.toList none K)))) := by kernel_rfl
theorem class_First_d0 (R : Type) (kk k : Nat) (s_1 : ByteArray) (t5 : Int) (t6 : Int) (K : Ex → State → Option R) : loopR (ev class_First_E (Tb19 R) kk (sub [1, 1, 0, 1, 0, 0] class_First_c)) [1, 5, 6] [4] (k + 1) (class_First_h0 s_1 t5 t6) K =
  class_First_s1 s_1 t5 t6 (fun a0 => K .ret (class_First_x0_0 a0)) (fun a0 a1 a2 => loopR (ev class_First_E (Tb19 R) kk (sub [1, 1, 0, 1, 0, 0] class_First_c)) [1, 5, 6] [4] k (class_First_h0 a0 a1 a2) K) (K (.exit 0) (class_First_x0_1)) := by kernel_rfl
theorem class_First_y0_0 (R : Type) (kk : Nat) (t4 : Int) (K : List SV → Option Box → Option R) : (kBlock 0 (kSeq class_First_E (Tb19 R) kk (sub [1, 1, 1] class_First_c) (kFin class_First_E Tryz.f76.results.toList none K))) .ret (class_First_x0_0 t4) =
  class_First_s2 t4 (fun a0 => K [.dat (.int .i64) a0 []] none) := by kernel_rfl
theorem class_First_y0_1 (R : Type) (kk : Nat)  (K : List SV → Option Box → Option R) : (kBlock 0 (kSeq class_First_E (Tb19 R) kk (sub [1, 1, 1] class_First_c) (kFin class_First_E Tryz.f76.results.toList none K))) (.exit 0) (class_First_x0_1) =
  class_First_s3 (fun a0 => K [.dat (.int .i64) a0 []] none) := by kernel_rfl
theorem class_First_lp0 (R : Type) (k : Nat) (s_1 : ByteArray) (t5 : Int) (t6 : Int) (K : Ex → State → Option R) : loopR (ev class_First_E (Tb19 R) FUEL (sub [1, 1, 0, 1, 0, 0] class_First_c)) [1, 5, 6] [4] k (class_First_h0 s_1 t5 t6) K = (class_First_l0 k s_1 t5 t6).bind fun e => (Sum.elim (fun (we : Int) => K .ret (class_First_x0_0 we)) (fun (we : Unit) => K (.exit 0) (class_First_x0_1)) e) := by
  induction k generalizing s_1 t5 t6 with
  | zero => rfl
  | succ k ih =>
    rw [class_First_d0]
    simp only [class_First_l0, class_First_s0_bind, class_First_s1_bind, class_First_s2_bind, class_First_s3_bind, ih, cond_bind, within_bind, none_bind, some_bind, sum_bind, bind_bind, Sum.elim_inl, Sum.elim_inr]
theorem class_First_eq (R : Type) (class_0 : Int) (s_1 : ByteArray) (K : List SV → Option Box → Option R) : evFn class_First_E (Tb19 R) FUEL Tryz.f76 class_First_c [.dat (.int .i64) class_0 [], .dat .str s_1 []] none K = (class_First class_0 s_1).bind fun r => K [.dat (.int .i64) r []] none := by
  rw [class_First_t]
  simp only [class_First, class_First_s0_bind, class_First_s1_bind, class_First_s2_bind, class_First_s3_bind, class_First_lp0, class_First_y0_0, class_First_y0_1, cond_bind, within_bind, none_bind, some_bind, sum_bind, bind_bind, Sum.elim_inl, Sum.elim_inr]
def class_First_g : Pure := fun R l b K => noBox b (args2 (.int .i64) .str l (fun x0 x1 => (class_First x0 x1).bind fun r => K [.dat (.int .i64) r []] none))
theorem class_First_n : class_First_g.Nat := fun R S l b F G K h => noBox_nat (args2_nat fun _ _ => bindr_nat fun _ => h _ _)
def Tb20 : Funs := Tb19.add 76 [(.int .i64), .str] class_First_g
theorem Tb20_nat : Tb20.Nat := add_nat Tb19_nat class_First_n
theorem Tb20_owes : ∀ f, Owes Tryz.prog Tb20 f := add_owes (E := class_First_E) (Tab.env_ok tab_ok _ _ _ _) mixed Tb19_nat Tb19_owes (fn := Tryz.f76) (code := class_First_c) Tryz.func76 (by kernel_rfl) (by kernel_rfl) fun l b r b' h => by
  obtain ⟨rfl, h⟩ := noBox_some h
  obtain ⟨x0, x1, h1, h2⟩ := own2 (E := class_First_E) rfl h
  exact ⟨FUEL, (h2 _ _ _ _ _ _).trans ((class_First_eq _ x0 x1 _).trans h1)⟩
noncomputable abbrev tag_first_c : Code := Tryz.f109.body.getD .skip
def tag_first_E : Env := tab.env (fun _ => []) (fun _ => []) [] [(.int .i64)]
theorem tag_first_t (R : Type) (kk : Nat) (b_0 : Int) (K : List SV → Option Box → Option R) : evFn tag_first_E (Tb20 R) kk Tryz.f109 tag_first_c [.dat (.int .i64) b_0 []] none K =
  tag_first_s0 b_0 (fun a0 => K [.dat .bool a0 []] none) := by kernel_rfl
theorem tag_first_eq (R : Type) (b_0 : Int) (K : List SV → Option Box → Option R) : evFn tag_first_E (Tb20 R) FUEL Tryz.f109 tag_first_c [.dat (.int .i64) b_0 []] none K = (tag_first b_0).bind fun r => K [.dat .bool r []] none := by
  rw [tag_first_t]
  simp only [tag_first, tag_first_s0_bind, cond_bind, within_bind, none_bind, some_bind, sum_bind, bind_bind, Sum.elim_inl, Sum.elim_inr]
def tag_first_g : Pure := fun R l b K => noBox b (args1 (.int .i64) l (fun x0 => (tag_first x0).bind fun r => K [.dat .bool r []] none))
theorem tag_first_n : tag_first_g.Nat := fun R S l b F G K h => noBox_nat (args1_nat fun _ => bindr_nat fun _ => h _ _)
def Tb21 : Funs := Tb20.add 109 [(.int .i64)] tag_first_g
theorem Tb21_nat : Tb21.Nat := add_nat Tb20_nat tag_first_n
theorem Tb21_owes : ∀ f, Owes Tryz.prog Tb21 f := add_owes (E := tag_first_E) (Tab.env_ok tab_ok _ _ _ _) mixed Tb20_nat Tb20_owes (fn := Tryz.f109) (code := tag_first_c) Tryz.func109 (by kernel_rfl) (by kernel_rfl) fun l b r b' h => by
  obtain ⟨rfl, h⟩ := noBox_some h
  obtain ⟨x0, h1, h2⟩ := own1 (E := tag_first_E) rfl h
  exact ⟨FUEL, (h2 _ _ _ _ _ _).trans ((tag_first_eq _ x0 _).trans h1)⟩
noncomputable abbrev tag_Right_c : Code := Tryz.f110.body.getD .skip
def tag_Right_E : Env := tab.env (fun _ => []) (fun _ => []) [] [(.int .i64)]
theorem tag_Right_t (R : Type) (kk : Nat) (tag_0 : Int) (K : List SV → Option Box → Option R) : evFn tag_Right_E (Tb21 R) kk Tryz.f110 tag_Right_c [.dat (.int .i64) tag_0 []] none K =
  tag_Right_s0 tag_0 (fun a0 => K [.dat .bool a0 []] none) := by kernel_rfl
theorem tag_Right_eq (R : Type) (tag_0 : Int) (K : List SV → Option Box → Option R) : evFn tag_Right_E (Tb21 R) FUEL Tryz.f110 tag_Right_c [.dat (.int .i64) tag_0 []] none K = (tag_Right tag_0).bind fun r => K [.dat .bool r []] none := by
  rw [tag_Right_t]
  simp only [tag_Right, tag_Right_s0_bind, cond_bind, within_bind, none_bind, some_bind, sum_bind, bind_bind, Sum.elim_inl, Sum.elim_inr]
def tag_Right_g : Pure := fun R l b K => noBox b (args1 (.int .i64) l (fun x0 => (tag_Right x0).bind fun r => K [.dat .bool r []] none))
theorem tag_Right_n : tag_Right_g.Nat := fun R S l b F G K h => noBox_nat (args1_nat fun _ => bindr_nat fun _ => h _ _)
def Tb22 : Funs := Tb21.add 110 [(.int .i64)] tag_Right_g
theorem Tb22_nat : Tb22.Nat := add_nat Tb21_nat tag_Right_n
theorem Tb22_owes : ∀ f, Owes Tryz.prog Tb22 f := add_owes (E := tag_Right_E) (Tab.env_ok tab_ok _ _ _ _) mixed Tb21_nat Tb21_owes (fn := Tryz.f110) (code := tag_Right_c) Tryz.func110 (by kernel_rfl) (by kernel_rfl) fun l b r b' h => by
  obtain ⟨rfl, h⟩ := noBox_some h
  obtain ⟨x0, h1, h2⟩ := own1 (E := tag_Right_E) rfl h
  exact ⟨FUEL, (h2 _ _ _ _ _ _).trans ((tag_Right_eq _ x0 _).trans h1)⟩
noncomputable abbrev tag_Get_c : Code := Tryz.f93.body.getD .skip
def tag_Get_E : Env := tab.env (fun _ => []) (fun _ => []) [] [.str, (.int .i64)]
theorem tag_Get_t (R : Type) (kk : Nat) (b_0 : ByteArray) (at_1 : Int) (K : List SV → Option Box → Option R) : evFn tag_Get_E (Tb22 R) kk Tryz.f93 tag_Get_c [.dat .str b_0 [], .dat (.int .i64) at_1 []] none K =
  tag_Get_s0 b_0 at_1 (fun a0 a1 a2 => K [.dat (.int .i64) a0 [], .dat (.int .i64) a1 [], .dat (.int .i64) a2 []] none) := by kernel_rfl
theorem tag_Get_eq (R : Type) (b_0 : ByteArray) (at_1 : Int) (K : List SV → Option Box → Option R) : evFn tag_Get_E (Tb22 R) FUEL Tryz.f93 tag_Get_c [.dat .str b_0 [], .dat (.int .i64) at_1 []] none K = (tag_Get b_0 at_1).bind fun r => K [.dat (.int .i64) r.1 [], .dat (.int .i64) r.2.1 [], .dat (.int .i64) r.2.2 []] none := by
  rw [tag_Get_t]
  simp only [tag_Get, tag_Get_s0_bind, cond_bind, within_bind, none_bind, some_bind, sum_bind, bind_bind, Sum.elim_inl, Sum.elim_inr]
def tag_Get_g : Pure := fun R l b K => noBox b (args2 .str (.int .i64) l (fun x0 x1 => (tag_Get x0 x1).bind fun r => K [.dat (.int .i64) r.1 [], .dat (.int .i64) r.2.1 [], .dat (.int .i64) r.2.2 []] none))
theorem tag_Get_n : tag_Get_g.Nat := fun R S l b F G K h => noBox_nat (args2_nat fun _ _ => bindr_nat fun _ => h _ _)
def Tb23 : Funs := Tb22.add 93 [.str, (.int .i64)] tag_Get_g
theorem Tb23_nat : Tb23.Nat := add_nat Tb22_nat tag_Get_n
theorem Tb23_owes : ∀ f, Owes Tryz.prog Tb23 f := add_owes (E := tag_Get_E) (Tab.env_ok tab_ok _ _ _ _) mixed Tb22_nat Tb22_owes (fn := Tryz.f93) (code := tag_Get_c) Tryz.func93 (by kernel_rfl) (by kernel_rfl) fun l b r b' h => by
  obtain ⟨rfl, h⟩ := noBox_some h
  obtain ⟨x0, x1, h1, h2⟩ := own2 (E := tag_Get_E) rfl h
  exact ⟨FUEL, (h2 _ _ _ _ _ _).trans ((tag_Get_eq _ x0 x1 _).trans h1)⟩
noncomputable abbrev ber_Size_c : Code := Tryz.f111.body.getD .skip
def ber_Size_E : Env := tab.env (fun _ => []) (fun _ => []) [] [(.int .i64)]
theorem ber_Size_t (R : Type) (kk : Nat) (n_0 : Int) (K : List SV → Option Box → Option R) : evFn ber_Size_E (Tb23 R) kk Tryz.f111 ber_Size_c [.dat (.int .i64) n_0 []] none K =
  ber_Size_s0 n_0 (fun a0 => K [.dat (.int .i64) a0 []] none) := by kernel_rfl
theorem ber_Size_eq (R : Type) (n_0 : Int) (K : List SV → Option Box → Option R) : evFn ber_Size_E (Tb23 R) FUEL Tryz.f111 ber_Size_c [.dat (.int .i64) n_0 []] none K = (ber_Size n_0).bind fun r => K [.dat (.int .i64) r []] none := by
  rw [ber_Size_t]
  simp only [ber_Size, ber_Size_s0_bind, cond_bind, within_bind, none_bind, some_bind, sum_bind, bind_bind, Sum.elim_inl, Sum.elim_inr]
def ber_Size_g : Pure := fun R l b K => noBox b (args1 (.int .i64) l (fun x0 => (ber_Size x0).bind fun r => K [.dat (.int .i64) r []] none))
theorem ber_Size_n : ber_Size_g.Nat := fun R S l b F G K h => noBox_nat (args1_nat fun _ => bindr_nat fun _ => h _ _)
def Tb24 : Funs := Tb23.add 111 [(.int .i64)] ber_Size_g
theorem Tb24_nat : Tb24.Nat := add_nat Tb23_nat ber_Size_n
theorem Tb24_owes : ∀ f, Owes Tryz.prog Tb24 f := add_owes (E := ber_Size_E) (Tab.env_ok tab_ok _ _ _ _) mixed Tb23_nat Tb23_owes (fn := Tryz.f111) (code := ber_Size_c) Tryz.func111 (by kernel_rfl) (by kernel_rfl) fun l b r b' h => by
  obtain ⟨rfl, h⟩ := noBox_some h
  obtain ⟨x0, h1, h2⟩ := own1 (E := ber_Size_E) rfl h
  exact ⟨FUEL, (h2 _ _ _ _ _ _).trans ((ber_Size_eq _ x0 _).trans h1)⟩
noncomputable abbrev ber_Get_c : Code := Tryz.f94.body.getD .skip
def ber_Get_E : Env := tab.env (fun i => bif Nat.beq i 14 then [0, 1, 7, 8, 44, 45] else []) (fun i => bif Nat.beq i 14 then [1, 7, 8] else []) [] [.str, (.int .i64)]
def ber_Get_h0 (b_0 : ByteArray) (at_1 : Int) (t7 : Int) (t8 : Int) (t44 : Int) (t45 : Int) : State := ⟨[.dat .str b_0 []]::[.dat (.int .i64) at_1 []]::(uS 5 ([.dat (.int .i64) t7 []]::[.dat (.int .i64) t8 []]::(uS 35 ([.dat (.int .i64) t44 []]::[.dat (.int .i64) t45 []]::(uS 21 ([])))))), nS 68 []⟩
def ber_Get_x0_0 (at_1 : Int) (t7 : Int) (t8 : Int) : State := ⟨uS 1 ([.dat (.int .i64) at_1 []]::(uS 5 ([.dat (.int .i64) t7 []]::[.dat (.int .i64) t8 []]::(uS 58 ([]))))), nS 68 []⟩
theorem ber_Get_t (R : Type) (kk : Nat) (b_0 : ByteArray) (at_1 : Int) (K : List SV → Option Box → Option R) : evFn ber_Get_E (Tb24 R) kk Tryz.f94 ber_Get_c [.dat .str b_0 [], .dat (.int .i64) at_1 []] none K =
  ber_Get_s0 b_0 at_1 (fun a0 a1 a2 => K [.dat (.int .i64) a0 [], .dat (.int .i64) a1 [], .dat (.int .i64) a2 []] none) (fun a0 a1 a2 a3 a4 a5 => loopR (ev ber_Get_E (Tb24 R) kk (sub [1, 1, 1, 1, 1, 1, 1, 0, 1, 0, 0] ber_Get_c)) [0, 1, 7, 8, 44, 45] [1, 7, 8] kk (ber_Get_h0 a0 a1 a2 a3 a4 a5) (kBlock 0 (kSeq ber_Get_E (Tb24 R) kk (sub [1, 1, 1, 1, 1, 1, 1, 1] ber_Get_c) (kFin ber_Get_E Tryz.f94.results.toList none K)))) := by kernel_rfl
theorem ber_Get_d0 (R : Type) (kk k : Nat) (b_0 : ByteArray) (at_1 : Int) (t7 : Int) (t8 : Int) (t44 : Int) (t45 : Int) (K : Ex → State → Option R) : loopR (ev ber_Get_E (Tb24 R) kk (sub [1, 1, 1, 1, 1, 1, 1, 0, 1, 0, 0] ber_Get_c)) [0, 1, 7, 8, 44, 45] [1, 7, 8] (k + 1) (ber_Get_h0 b_0 at_1 t7 t8 t44 t45) K =
  ber_Get_s1 b_0 at_1 t7 t8 t44 t45 (fun a0 a1 a2 a3 a4 a5 => loopR (ev ber_Get_E (Tb24 R) kk (sub [1, 1, 1, 1, 1, 1, 1, 0, 1, 0, 0] ber_Get_c)) [0, 1, 7, 8, 44, 45] [1, 7, 8] k (ber_Get_h0 a0 a1 a2 a3 a4 a5) K) (fun a0 a1 a2 => K (.exit 0) (ber_Get_x0_0 a0 a1 a2)) := by kernel_rfl
theorem ber_Get_y0_0 (R : Type) (kk : Nat) (at_1 : Int) (t7 : Int) (t8 : Int) (K : List SV → Option Box → Option R) : (kBlock 0 (kSeq ber_Get_E (Tb24 R) kk (sub [1, 1, 1, 1, 1, 1, 1, 1] ber_Get_c) (kFin ber_Get_E Tryz.f94.results.toList none K))) (.exit 0) (ber_Get_x0_0 at_1 t7 t8) =
  ber_Get_s2 at_1 t7 t8 (fun a0 a1 a2 => K [.dat (.int .i64) a0 [], .dat (.int .i64) a1 [], .dat (.int .i64) a2 []] none) := by kernel_rfl
theorem ber_Get_lp0 (R : Type) (k : Nat) (b_0 : ByteArray) (at_1 : Int) (t7 : Int) (t8 : Int) (t44 : Int) (t45 : Int) (K : Ex → State → Option R) : loopR (ev ber_Get_E (Tb24 R) FUEL (sub [1, 1, 1, 1, 1, 1, 1, 0, 1, 0, 0] ber_Get_c)) [0, 1, 7, 8, 44, 45] [1, 7, 8] k (ber_Get_h0 b_0 at_1 t7 t8 t44 t45) K = (ber_Get_l0 k b_0 at_1 t7 t8 t44 t45).bind fun e => K (.exit 0) (ber_Get_x0_0 e.1 e.2.1 e.2.2) := by
  induction k generalizing b_0 at_1 t7 t8 t44 t45 with
  | zero => rfl
  | succ k ih =>
    rw [ber_Get_d0]
    simp only [ber_Get_l0, ber_Get_s0_bind, ber_Get_s1_bind, ber_Get_s2_bind, ih, cond_bind, within_bind, none_bind, some_bind, sum_bind, bind_bind, Sum.elim_inl, Sum.elim_inr]
theorem ber_Get_eq (R : Type) (b_0 : ByteArray) (at_1 : Int) (K : List SV → Option Box → Option R) : evFn ber_Get_E (Tb24 R) FUEL Tryz.f94 ber_Get_c [.dat .str b_0 [], .dat (.int .i64) at_1 []] none K = (ber_Get b_0 at_1).bind fun r => K [.dat (.int .i64) r.1 [], .dat (.int .i64) r.2.1 [], .dat (.int .i64) r.2.2 []] none := by
  rw [ber_Get_t]
  simp only [ber_Get, ber_Get_s0_bind, ber_Get_s1_bind, ber_Get_s2_bind, ber_Get_lp0, ber_Get_y0_0, cond_bind, within_bind, none_bind, some_bind, sum_bind, bind_bind, Sum.elim_inl, Sum.elim_inr]
def ber_Get_g : Pure := fun R l b K => noBox b (args2 .str (.int .i64) l (fun x0 x1 => (ber_Get x0 x1).bind fun r => K [.dat (.int .i64) r.1 [], .dat (.int .i64) r.2.1 [], .dat (.int .i64) r.2.2 []] none))
theorem ber_Get_n : ber_Get_g.Nat := fun R S l b F G K h => noBox_nat (args2_nat fun _ _ => bindr_nat fun _ => h _ _)
def Tb25 : Funs := Tb24.add 94 [.str, (.int .i64)] ber_Get_g
theorem Tb25_nat : Tb25.Nat := add_nat Tb24_nat ber_Get_n
theorem Tb25_owes : ∀ f, Owes Tryz.prog Tb25 f := add_owes (E := ber_Get_E) (Tab.env_ok tab_ok _ _ _ _) mixed Tb24_nat Tb24_owes (fn := Tryz.f94) (code := ber_Get_c) Tryz.func94 (by kernel_rfl) (by kernel_rfl) fun l b r b' h => by
  obtain ⟨rfl, h⟩ := noBox_some h
  obtain ⟨x0, x1, h1, h2⟩ := own2 (E := ber_Get_E) rfl h
  exact ⟨FUEL, (h2 _ _ _ _ _ _).trans ((ber_Get_eq _ x0 x1 _).trans h1)⟩
noncomputable abbrev tlv_Get_c : Code := Tryz.f77.body.getD .skip
def tlv_Get_E : Env := tab.env (fun i => bif Nat.beq i 4 then [0, 5, 6, 7, 13] else []) (fun i => bif Nat.beq i 4 then [2, 3, 4, 5] else []) [] [.str]
def tlv_Get_h0 (b_0 : ByteArray) (t5 : Zt10) (t7 : Int) (bt6 : Zt5) : State := ⟨[.dat .str b_0 []]::(uS 4 ([.dat (.sl 135 (.pair (.int .i64) (.pair .str .unit))) t5 [[]]]::[.ptr 14 (.spc .mp (.int .i64) .bool) []]::[.dat (.int .i64) t7 []]::(uS 5 ([.ptr 14 (.spc .mp (.int .i64) .bool) []]::(uS 58 ([])))))), nS 14 ((some ⟨(.spc .mp (.int .i64) .bool), bt6, []⟩)::(nS 58 ([])))⟩
def tlv_Get_x0_0 (t2 : Zt10) (t3 : Int) (t4 : Int) (t5 : Zt10) : State := ⟨uS 2 ([.dat (.sl 135 (.pair (.int .i64) (.pair .str .unit))) t2 [[]]]::[.dat (.int .i64) t3 []]::[.dat (.int .i64) t4 []]::[.dat (.sl 135 (.pair (.int .i64) (.pair .str .unit))) t5 [[]]]::(uS 66 ([]))), nS 73 []⟩
def tlv_Get_x0_1 (t5 : Zt10) : State := ⟨uS 5 ([.dat (.sl 135 (.pair (.int .i64) (.pair .str .unit))) t5 [[]]]::(uS 66 ([]))), nS 73 []⟩
theorem tlv_Get_t (R : Type) (kk : Nat) (b_0 : ByteArray) (K : List SV → Option Box → Option R) : evFn tlv_Get_E (Tb25 R) kk Tryz.f77 tlv_Get_c [.dat .str b_0 []] none K =
  tlv_Get_s0 b_0 (fun a0 a1 a2 a3 => loopR (ev tlv_Get_E (Tb25 R) kk (sub [1, 1, 1, 0, 1, 0, 0] tlv_Get_c)) [0, 5, 6, 7, 13] [2, 3, 4, 5] kk (tlv_Get_h0 a0 a1 a2 a3) (kBlock 0 (kSeq tlv_Get_E (Tb25 R) kk (sub [1, 1, 1, 1] tlv_Get_c) (kFin tlv_Get_E Tryz.f77.results.toList none K)))) := by kernel_rfl
theorem tlv_Get_d0 (R : Type) (kk k : Nat) (b_0 : ByteArray) (t5 : Zt10) (t7 : Int) (bt6 : Zt5) (K : Ex → State → Option R) : loopR (ev tlv_Get_E (Tb25 R) kk (sub [1, 1, 1, 0, 1, 0, 0] tlv_Get_c)) [0, 5, 6, 7, 13] [2, 3, 4, 5] (k + 1) (tlv_Get_h0 b_0 t5 t7 bt6) K =
  tlv_Get_s1 b_0 t5 t7 bt6 (fun a0 a1 a2 a3 => K .ret (tlv_Get_x0_0 a0 a1 a2 a3)) (fun a0 a1 a2 a3 => loopR (ev tlv_Get_E (Tb25 R) kk (sub [1, 1, 1, 0, 1, 0, 0] tlv_Get_c)) [0, 5, 6, 7, 13] [2, 3, 4, 5] k (tlv_Get_h0 a0 a1 a2 a3) K) (fun a0 => K (.exit 0) (tlv_Get_x0_1 a0)) := by kernel_rfl
theorem tlv_Get_y0_0 (R : Type) (kk : Nat) (t2 : Zt10) (t3 : Int) (t4 : Int) (t5 : Zt10) (K : List SV → Option Box → Option R) : (kBlock 0 (kSeq tlv_Get_E (Tb25 R) kk (sub [1, 1, 1, 1] tlv_Get_c) (kFin tlv_Get_E Tryz.f77.results.toList none K))) .ret (tlv_Get_x0_0 t2 t3 t4 t5) =
  tlv_Get_s2 t2 t3 t4 t5 (fun a0 a1 a2 => K [.dat (.sl 135 (.pair (.int .i64) (.pair .str .unit))) a0 [[]], .dat (.int .i64) a1 [], .dat (.int .i64) a2 []] none) := by kernel_rfl
theorem tlv_Get_y0_1 (R : Type) (kk : Nat) (t5 : Zt10) (K : List SV → Option Box → Option R) : (kBlock 0 (kSeq tlv_Get_E (Tb25 R) kk (sub [1, 1, 1, 1] tlv_Get_c) (kFin tlv_Get_E Tryz.f77.results.toList none K))) (.exit 0) (tlv_Get_x0_1 t5) =
  tlv_Get_s3 t5 (fun a0 a1 a2 => K [.dat (.sl 135 (.pair (.int .i64) (.pair .str .unit))) a0 [], .dat (.int .i64) a1 [], .dat (.int .i64) a2 []] none) := by kernel_rfl
theorem tlv_Get_lp0 (R : Type) (k : Nat) (b_0 : ByteArray) (t5 : Zt10) (t7 : Int) (bt6 : Zt5) (K : Ex → State → Option R) : loopR (ev tlv_Get_E (Tb25 R) FUEL (sub [1, 1, 1, 0, 1, 0, 0] tlv_Get_c)) [0, 5, 6, 7, 13] [2, 3, 4, 5] k (tlv_Get_h0 b_0 t5 t7 bt6) K = (tlv_Get_l0 k b_0 t5 t7 bt6).bind fun e => (Sum.elim (fun (we : Zt20) => K .ret (tlv_Get_x0_0 we.1 we.2.1 we.2.2.1 we.2.2.2)) (fun (we : Zt10) => K (.exit 0) (tlv_Get_x0_1 we)) e) := by
  induction k generalizing b_0 t5 t7 bt6 with
  | zero => rfl
  | succ k ih =>
    rw [tlv_Get_d0]
    simp only [tlv_Get_l0, tlv_Get_s0_bind, tlv_Get_s1_bind, tlv_Get_s2_bind, tlv_Get_s3_bind, ih, cond_bind, within_bind, none_bind, some_bind, sum_bind, bind_bind, Sum.elim_inl, Sum.elim_inr]
theorem tlv_Get_eq (R : Type) (b_0 : ByteArray) (K : List SV → Option Box → Option R) : evFn tlv_Get_E (Tb25 R) FUEL Tryz.f77 tlv_Get_c [.dat .str b_0 []] none K = (tlv_Get b_0).bind fun r => (Sum.elim (fun (wr : Zt15) => K [.dat (.sl 135 (.pair (.int .i64) (.pair .str .unit))) wr.1 [[]], .dat (.int .i64) wr.2.1 [], .dat (.int .i64) wr.2.2 []] none) (fun (wr : Zt15) => K [.dat (.sl 135 (.pair (.int .i64) (.pair .str .unit))) wr.1 [], .dat (.int .i64) wr.2.1 [], .dat (.int .i64) wr.2.2 []] none) r) := by
  rw [tlv_Get_t]
  simp only [tlv_Get, tlv_Get_s0_bind, tlv_Get_s1_bind, tlv_Get_s2_bind, tlv_Get_s3_bind, tlv_Get_lp0, tlv_Get_y0_0, tlv_Get_y0_1, cond_bind, within_bind, none_bind, some_bind, sum_bind, bind_bind, Sum.elim_inl, Sum.elim_inr]
def tlv_Get_g : Pure := fun R l b K => noBox b (args1 .str l (fun x0 => (tlv_Get x0).bind fun r => (Sum.elim (fun (wr : Zt15) => K [.dat (.sl 135 (.pair (.int .i64) (.pair .str .unit))) wr.1 [[]], .dat (.int .i64) wr.2.1 [], .dat (.int .i64) wr.2.2 []] none) (fun (wr : Zt15) => K [.dat (.sl 135 (.pair (.int .i64) (.pair .str .unit))) wr.1 [], .dat (.int .i64) wr.2.1 [], .dat (.int .i64) wr.2.2 []] none) r)))
theorem tlv_Get_n : tlv_Get_g.Nat := fun R S l b F G K h => noBox_nat (args1_nat fun _ => bindr_nat fun _ => sum_nat (fun _ => h _ _) (fun _ => h _ _))
def Tb26 : Funs := Tb25.add 77 [.str] tlv_Get_g
theorem Tb26_nat : Tb26.Nat := add_nat Tb25_nat tlv_Get_n
theorem Tb26_owes : ∀ f, Owes Tryz.prog Tb26 f := add_owes (E := tlv_Get_E) (Tab.env_ok tab_ok _ _ _ _) mixed Tb25_nat Tb25_owes (fn := Tryz.f77) (code := tlv_Get_c) Tryz.func77 (by kernel_rfl) (by kernel_rfl) fun l b r b' h => by
  obtain ⟨rfl, h⟩ := noBox_some h
  obtain ⟨x0, h1, h2⟩ := own1 (E := tlv_Get_E) rfl h
  exact ⟨FUEL, (h2 _ _ _ _ _ _).trans ((tlv_Get_eq _ x0 _).trans h1)⟩
noncomputable abbrev spec_Value_c : Code := Tryz.f52.body.getD .skip
def spec_Value_E : Env := tab.env (fun _ => []) (fun _ => []) [] [y7, .str]
theorem spec_Value_t (R : Type) (kk : Nat) (s_0 : Zt12) (text_1 : ByteArray) (K : List SV → Option Box → Option R) : evFn spec_Value_E (Tb26 R) kk Tryz.f52 spec_Value_c [.dat y7 s_0 [], .dat .str text_1 []] none K =
  spec_Value_s0 s_0 text_1 (fun a0 => K [.dat (.int .i64) a0 []] none) := by kernel_rfl
theorem spec_Value_eq (R : Type) (s_0 : Zt12) (text_1 : ByteArray) (K : List SV → Option Box → Option R) : evFn spec_Value_E (Tb26 R) FUEL Tryz.f52 spec_Value_c [.dat y7 s_0 [], .dat .str text_1 []] none K = (spec_Value s_0 text_1).bind fun r => K [.dat (.int .i64) r []] none := by
  rw [spec_Value_t]
  simp only [spec_Value, spec_Value_s0_bind, cond_bind, within_bind, none_bind, some_bind, sum_bind, bind_bind, Sum.elim_inl, Sum.elim_inr]
def spec_Value_g : Pure := fun R l b K => noBox b (args2 y7 .str l (fun x0 x1 => (spec_Value x0 x1).bind fun r => K [.dat (.int .i64) r []] none))
theorem spec_Value_n : spec_Value_g.Nat := fun R S l b F G K h => noBox_nat (args2_nat fun _ _ => bindr_nat fun _ => h _ _)
def Tb27 : Funs := Tb26.add 52 [y7, .str] spec_Value_g
theorem Tb27_nat : Tb27.Nat := add_nat Tb26_nat spec_Value_n
theorem Tb27_owes : ∀ f, Owes Tryz.prog Tb27 f := add_owes (E := spec_Value_E) (Tab.env_ok tab_ok _ _ _ _) mixed Tb26_nat Tb26_owes (fn := Tryz.f52) (code := spec_Value_c) Tryz.func52 (by kernel_rfl) (by kernel_rfl) fun l b r b' h => by
  obtain ⟨rfl, h⟩ := noBox_some h
  obtain ⟨x0, x1, h1, h2⟩ := own2 (E := spec_Value_E) rfl h
  exact ⟨FUEL, (h2 _ _ _ _ _ _).trans ((spec_Value_eq _ x0 x1 _).trans h1)⟩
noncomputable abbrev rule_padded_c : Code := Tryz.f53.body.getD .skip
def rule_padded_E : Env := tab.env (fun _ => []) (fun _ => []) [] [y7]
theorem rule_padded_t (R : Type) (kk : Nat) (s_0 : Zt12) (K : List SV → Option Box → Option R) : evFn rule_padded_E (Tb27 R) kk Tryz.f53 rule_padded_c [.dat y7 s_0 []] none K =
  rule_padded_s0 s_0 (fun a0 => K [.dat .bool a0 []] none) := by kernel_rfl
theorem rule_padded_eq (R : Type) (s_0 : Zt12) (K : List SV → Option Box → Option R) : evFn rule_padded_E (Tb27 R) FUEL Tryz.f53 rule_padded_c [.dat y7 s_0 []] none K = (rule_padded s_0).bind fun r => K [.dat .bool r []] none := by
  rw [rule_padded_t]
  simp only [rule_padded, rule_padded_s0_bind, cond_bind, within_bind, none_bind, some_bind, sum_bind, bind_bind, Sum.elim_inl, Sum.elim_inr]
def rule_padded_g : Pure := fun R l b K => noBox b (args1 y7 l (fun x0 => (rule_padded x0).bind fun r => K [.dat .bool r []] none))
theorem rule_padded_n : rule_padded_g.Nat := fun R S l b F G K h => noBox_nat (args1_nat fun _ => bindr_nat fun _ => h _ _)
def Tb28 : Funs := Tb27.add 53 [y7] rule_padded_g
theorem Tb28_nat : Tb28.Nat := add_nat Tb27_nat rule_padded_n
theorem Tb28_owes : ∀ f, Owes Tryz.prog Tb28 f := add_owes (E := rule_padded_E) (Tab.env_ok tab_ok _ _ _ _) mixed Tb27_nat Tb27_owes (fn := Tryz.f53) (code := rule_padded_c) Tryz.func53 (by kernel_rfl) (by kernel_rfl) fun l b r b' h => by
  obtain ⟨rfl, h⟩ := noBox_some h
  obtain ⟨x0, h1, h2⟩ := own1 (E := rule_padded_E) rfl h
  exact ⟨FUEL, (h2 _ _ _ _ _ _).trans ((rule_padded_eq _ x0 _).trans h1)⟩
noncomputable abbrev codes_Check_c : Code := Tryz.f78.body.getD .skip
def codes_Check_E : Env := tab.env (fun i => bif Nat.beq i 5 then [4, 10, 11, 12, 13] else []) (fun i => bif Nat.beq i 5 then [2, 3] else []) [] [(.sl 56 (.pair .str (.pair .str .unit)))]
def codes_Check_h0 (t11 : Zt13) (t12 : Int) (t13 : Int) (bt4 : Zt7) : State := ⟨uS 4 ([.ptr 11 (.spc .mp .str .bool) []]::(uS 5 ([.ptr 11 (.spc .mp .str .bool) []]::[.dat (.sl 56 (.pair .str (.pair .str .unit))) t11 []]::[.dat (.int .i64) t12 []]::[.dat (.int .i64) t13 []]::(uS 13 ([]))))), nS 11 ((some ⟨(.spc .mp .str .bool), bt4, []⟩)::(nS 16 ([])))⟩
def codes_Check_x0_0 (t2 : Int) (t3 : Int) : State := ⟨uS 2 ([.dat (.int .i64) t2 []]::[.dat (.int .i64) t3 []]::(uS 23 ([]))), nS 28 []⟩
def codes_Check_x0_1  : State := ⟨uS 27 [], nS 28 []⟩
theorem codes_Check_t (R : Type) (kk : Nat) (l_0 : Zt13) (K : List SV → Option Box → Option R) : evFn codes_Check_E (Tb28 R) kk Tryz.f78 codes_Check_c [.dat (.sl 56 (.pair .str (.pair .str .unit))) l_0 []] none K =
  codes_Check_s0 l_0 (fun a0 a1 => K [.dat (.int .i64) a0 [], .dat (.int .i64) a1 []] none) (fun a0 a1 a2 a3 => loopR (ev codes_Check_E (Tb28 R) kk (sub [1, 1, 1, 0, 1, 0, 0] codes_Check_c)) [4, 10, 11, 12, 13] [2, 3] kk (codes_Check_h0 a0 a1 a2 a3) (kBlock 0 (kSeq codes_Check_E (Tb28 R) kk (sub [1, 1, 1, 1] codes_Check_c) (kFin codes_Check_E Tryz.f78.results.toList none K)))) := by kernel_rfl
theorem codes_Check_d0 (R : Type) (kk k : Nat) (t11 : Zt13) (t12 : Int) (t13 : Int) (bt4 : Zt7) (K : Ex → State → Option R) : loopR (ev codes_Check_E (Tb28 R) kk (sub [1, 1, 1, 0, 1, 0, 0] codes_Check_c)) [4, 10, 11, 12, 13] [2, 3] (k + 1) (codes_Check_h0 t11 t12 t13 bt4) K =
  codes_Check_s1 t11 t12 t13 bt4 (fun a0 a1 => K .ret (codes_Check_x0_0 a0 a1)) (fun a0 a1 a2 a3 => loopR (ev codes_Check_E (Tb28 R) kk (sub [1, 1, 1, 0, 1, 0, 0] codes_Check_c)) [4, 10, 11, 12, 13] [2, 3] k (codes_Check_h0 a0 a1 a2 a3) K) (K (.exit 0) (codes_Check_x0_1)) := by kernel_rfl
theorem codes_Check_y0_0 (R : Type) (kk : Nat) (t2 : Int) (t3 : Int) (K : List SV → Option Box → Option R) : (kBlock 0 (kSeq codes_Check_E (Tb28 R) kk (sub [1, 1, 1, 1] codes_Check_c) (kFin codes_Check_E Tryz.f78.results.toList none K))) .ret (codes_Check_x0_0 t2 t3) =
  codes_Check_s2 t2 t3 (fun a0 a1 => K [.dat (.int .i64) a0 [], .dat (.int .i64) a1 []] none) := by kernel_rfl
theorem codes_Check_y0_1 (R : Type) (kk : Nat)  (K : List SV → Option Box → Option R) : (kBlock 0 (kSeq codes_Check_E (Tb28 R) kk (sub [1, 1, 1, 1] codes_Check_c) (kFin codes_Check_E Tryz.f78.results.toList none K))) (.exit 0) (codes_Check_x0_1) =
  codes_Check_s3 (fun a0 a1 => K [.dat (.int .i64) a0 [], .dat (.int .i64) a1 []] none) := by kernel_rfl
theorem codes_Check_lp0 (R : Type) (k : Nat) (t11 : Zt13) (t12 : Int) (t13 : Int) (bt4 : Zt7) (K : Ex → State → Option R) : loopR (ev codes_Check_E (Tb28 R) FUEL (sub [1, 1, 1, 0, 1, 0, 0] codes_Check_c)) [4, 10, 11, 12, 13] [2, 3] k (codes_Check_h0 t11 t12 t13 bt4) K = (codes_Check_l0 k t11 t12 t13 bt4).bind fun e => (Sum.elim (fun (we : (Int × Int)) => K .ret (codes_Check_x0_0 we.1 we.2)) (fun (we : Unit) => K (.exit 0) (codes_Check_x0_1)) e) := by
  induction k generalizing t11 t12 t13 bt4 with
  | zero => rfl
  | succ k ih =>
    rw [codes_Check_d0]
    simp only [codes_Check_l0, codes_Check_s0_bind, codes_Check_s1_bind, codes_Check_s2_bind, codes_Check_s3_bind, ih, cond_bind, within_bind, none_bind, some_bind, sum_bind, bind_bind, Sum.elim_inl, Sum.elim_inr]
theorem codes_Check_eq (R : Type) (l_0 : Zt13) (K : List SV → Option Box → Option R) : evFn codes_Check_E (Tb28 R) FUEL Tryz.f78 codes_Check_c [.dat (.sl 56 (.pair .str (.pair .str .unit))) l_0 []] none K = (codes_Check l_0).bind fun r => K [.dat (.int .i64) r.1 [], .dat (.int .i64) r.2 []] none := by
  rw [codes_Check_t]
  simp only [codes_Check, codes_Check_s0_bind, codes_Check_s1_bind, codes_Check_s2_bind, codes_Check_s3_bind, codes_Check_lp0, codes_Check_y0_0, codes_Check_y0_1, cond_bind, within_bind, none_bind, some_bind, sum_bind, bind_bind, Sum.elim_inl, Sum.elim_inr]
def codes_Check_g : Pure := fun R l b K => noBox b (args1 (.sl 56 (.pair .str (.pair .str .unit))) l (fun x0 => (codes_Check x0).bind fun r => K [.dat (.int .i64) r.1 [], .dat (.int .i64) r.2 []] none))
theorem codes_Check_n : codes_Check_g.Nat := fun R S l b F G K h => noBox_nat (args1_nat fun _ => bindr_nat fun _ => h _ _)
def Tb29 : Funs := Tb28.add 78 [(.sl 56 (.pair .str (.pair .str .unit)))] codes_Check_g
theorem Tb29_nat : Tb29.Nat := add_nat Tb28_nat codes_Check_n
theorem Tb29_owes : ∀ f, Owes Tryz.prog Tb29 f := add_owes (E := codes_Check_E) (Tab.env_ok tab_ok _ _ _ _) mixed Tb28_nat Tb28_owes (fn := Tryz.f78) (code := codes_Check_c) Tryz.func78 (by kernel_rfl) (by kernel_rfl) fun l b r b' h => by
  obtain ⟨rfl, h⟩ := noBox_some h
  obtain ⟨x0, h1, h2⟩ := own1 (E := codes_Check_E) rfl h
  exact ⟨FUEL, (h2 _ _ _ _ _ _).trans ((codes_Check_eq _ x0 _).trans h1)⟩
noncomputable abbrev rule_table_c : Code := Tryz.f54.body.getD .skip
def rule_table_E : Env := tab.env (fun i => bif Nat.beq i 5 then [4, 5, 25, 26, 27] else []) (fun i => bif Nat.beq i 5 then [6] else []) [] [(.sl 56 (.pair .str (.pair .str .unit))), y7, y7]
def rule_table_h0 (t25 : Zt13) (t26 : Int) (t27 : Int) (bt4 : Zt12) (bt5 : Zt12) : State := ⟨uS 4 ([.ptr 5 y7 []]::[.ptr 6 y7 []]::(uS 19 ([.dat (.sl 56 (.pair .str (.pair .str .unit))) t25 []]::[.dat (.int .i64) t26 []]::[.dat (.int .i64) t27 []]::(uS 18 ([]))))), nS 5 ((some ⟨y7, bt4, []⟩)::(some ⟨y7, bt5, []⟩)::(nS 40 ([])))⟩
def rule_table_x0_0 (t6 : Int) : State := ⟨uS 6 ([.dat (.int .i64) t6 []]::(uS 39 ([]))), nS 47 []⟩
def rule_table_x0_1  : State := ⟨uS 46 [], nS 47 []⟩
theorem rule_table_t (R : Type) (kk : Nat) (l_0 : Zt13) (from_1 : Zt12) (to_2 : Zt12) (K : List SV → Option Box → Option R) : evFn rule_table_E (Tb29 R) kk Tryz.f54 rule_table_c [.dat (.sl 56 (.pair .str (.pair .str .unit))) l_0 [], .dat y7 from_1 [], .dat y7 to_2 []] none K =
  rule_table_s0 l_0 from_1 to_2 (fun a0 => K [.dat (.int .i64) a0 []] none) (fun a0 a1 a2 a3 a4 => loopR (ev rule_table_E (Tb29 R) kk (sub [1, 1, 0, 1, 0, 0] rule_table_c)) [4, 5, 25, 26, 27] [6] kk (rule_table_h0 a0 a1 a2 a3 a4) (kBlock 0 (kSeq rule_table_E (Tb29 R) kk (sub [1, 1, 1] rule_table_c) (kFin rule_table_E Tryz.f54.results.toList none K)))) := by kernel_rfl
theorem rule_table_d0 (R : Type) (kk k : Nat) (t25 : Zt13) (t26 : Int) (t27 : Int) (bt4 : Zt12) (bt5 : Zt12) (K : Ex → State → Option R) : loopR (ev rule_table_E (Tb29 R) kk (sub [1, 1, 0, 1, 0, 0] rule_table_c)) [4, 5, 25, 26, 27] [6] (k + 1) (rule_table_h0 t25 t26 t27 bt4 bt5) K =
  rule_table_s1 t25 t26 t27 bt4 bt5 (fun a0 => K .ret (rule_table_x0_0 a0)) (fun a0 a1 a2 a3 a4 => loopR (ev rule_table_E (Tb29 R) kk (sub [1, 1, 0, 1, 0, 0] rule_table_c)) [4, 5, 25, 26, 27] [6] k (rule_table_h0 a0 a1 a2 a3 a4) K) (K (.exit 0) (rule_table_x0_1)) := by kernel_rfl
theorem rule_table_y0_0 (R : Type) (kk : Nat) (t6 : Int) (K : List SV → Option Box → Option R) : (kBlock 0 (kSeq rule_table_E (Tb29 R) kk (sub [1, 1, 1] rule_table_c) (kFin rule_table_E Tryz.f54.results.toList none K))) .ret (rule_table_x0_0 t6) =
  rule_table_s2 t6 (fun a0 => K [.dat (.int .i64) a0 []] none) := by kernel_rfl
theorem rule_table_y0_1 (R : Type) (kk : Nat)  (K : List SV → Option Box → Option R) : (kBlock 0 (kSeq rule_table_E (Tb29 R) kk (sub [1, 1, 1] rule_table_c) (kFin rule_table_E Tryz.f54.results.toList none K))) (.exit 0) (rule_table_x0_1) =
  rule_table_s3 (fun a0 => K [.dat (.int .i64) a0 []] none) := by kernel_rfl
theorem rule_table_lp0 (R : Type) (k : Nat) (t25 : Zt13) (t26 : Int) (t27 : Int) (bt4 : Zt12) (bt5 : Zt12) (K : Ex → State → Option R) : loopR (ev rule_table_E (Tb29 R) FUEL (sub [1, 1, 0, 1, 0, 0] rule_table_c)) [4, 5, 25, 26, 27] [6] k (rule_table_h0 t25 t26 t27 bt4 bt5) K = (rule_table_l0 k t25 t26 t27 bt4 bt5).bind fun e => (Sum.elim (fun (we : Int) => K .ret (rule_table_x0_0 we)) (fun (we : Unit) => K (.exit 0) (rule_table_x0_1)) e) := by
  induction k generalizing t25 t26 t27 bt4 bt5 with
  | zero => rfl
  | succ k ih =>
    rw [rule_table_d0]
    simp only [rule_table_l0, rule_table_s0_bind, rule_table_s1_bind, rule_table_s2_bind, rule_table_s3_bind, ih, cond_bind, within_bind, none_bind, some_bind, sum_bind, bind_bind, Sum.elim_inl, Sum.elim_inr]
theorem rule_table_eq (R : Type) (l_0 : Zt13) (from_1 : Zt12) (to_2 : Zt12) (K : List SV → Option Box → Option R) : evFn rule_table_E (Tb29 R) FUEL Tryz.f54 rule_table_c [.dat (.sl 56 (.pair .str (.pair .str .unit))) l_0 [], .dat y7 from_1 [], .dat y7 to_2 []] none K = (rule_table l_0 from_1 to_2).bind fun r => K [.dat (.int .i64) r []] none := by
  rw [rule_table_t]
  simp only [rule_table, rule_table_s0_bind, rule_table_s1_bind, rule_table_s2_bind, rule_table_s3_bind, rule_table_lp0, rule_table_y0_0, rule_table_y0_1, cond_bind, within_bind, none_bind, some_bind, sum_bind, bind_bind, Sum.elim_inl, Sum.elim_inr]
def rule_table_g : Pure := fun R l b K => noBox b (args3 (.sl 56 (.pair .str (.pair .str .unit))) y7 y7 l (fun x0 x1 x2 => (rule_table x0 x1 x2).bind fun r => K [.dat (.int .i64) r []] none))
theorem rule_table_n : rule_table_g.Nat := fun R S l b F G K h => noBox_nat (args3_nat fun _ _ _ => bindr_nat fun _ => h _ _)
def Tb30 : Funs := Tb29.add 54 [(.sl 56 (.pair .str (.pair .str .unit))), y7, y7] rule_table_g
theorem Tb30_nat : Tb30.Nat := add_nat Tb29_nat rule_table_n
theorem Tb30_owes : ∀ f, Owes Tryz.prog Tb30 f := add_owes (E := rule_table_E) (Tab.env_ok tab_ok _ _ _ _) mixed Tb29_nat Tb29_owes (fn := Tryz.f54) (code := rule_table_c) Tryz.func54 (by kernel_rfl) (by kernel_rfl) fun l b r b' h => by
  obtain ⟨rfl, h⟩ := noBox_some h
  obtain ⟨x0, x1, x2, h1, h2⟩ := own3 (E := rule_table_E) rfl h
  exact ⟨FUEL, (h2 _ _ _ _ _ _).trans ((rule_table_eq _ x0 x1 x2 _).trans h1)⟩
noncomputable abbrev rule_Check_c : Code := Tryz.f23.body.getD .skip
def rule_Check_E : Env := tab.env (fun _ => []) (fun _ => []) [] [y9, y13, y13]
theorem rule_Check_t (R : Type) (kk : Nat) (r_0 : Zt19) (a_1 : Zt17) (b_2 : Zt17) (K : List SV → Option Box → Option R) : evFn rule_Check_E (Tb30 R) kk Tryz.f23 rule_Check_c [.dat y9 r_0 [], .dat y13 a_1 [], .dat y13 b_2 []] none K =
  rule_Check_s0 r_0 a_1 b_2 (fun a0 => K [.dat (.int .i64) a0 []] none) := by kernel_rfl
theorem rule_Check_eq (R : Type) (r_0 : Zt19) (a_1 : Zt17) (b_2 : Zt17) (K : List SV → Option Box → Option R) : evFn rule_Check_E (Tb30 R) FUEL Tryz.f23 rule_Check_c [.dat y9 r_0 [], .dat y13 a_1 [], .dat y13 b_2 []] none K = (rule_Check r_0 a_1 b_2).bind fun r => K [.dat (.int .i64) r []] none := by
  rw [rule_Check_t]
  simp only [rule_Check, rule_Check_s0_bind, cond_bind, within_bind, none_bind, some_bind, sum_bind, bind_bind, Sum.elim_inl, Sum.elim_inr]
def rule_Check_g : Pure := fun R l b K => noBox b (args3 y9 y13 y13 l (fun x0 x1 x2 => (rule_Check x0 x1 x2).bind fun r => K [.dat (.int .i64) r []] none))
theorem rule_Check_n : rule_Check_g.Nat := fun R S l b F G K h => noBox_nat (args3_nat fun _ _ _ => bindr_nat fun _ => h _ _)
def Tb31 : Funs := Tb30.add 23 [y9, y13, y13] rule_Check_g
theorem Tb31_nat : Tb31.Nat := add_nat Tb30_nat rule_Check_n
theorem Tb31_owes : ∀ f, Owes Tryz.prog Tb31 f := add_owes (E := rule_Check_E) (Tab.env_ok tab_ok _ _ _ _) mixed Tb30_nat Tb30_owes (fn := Tryz.f23) (code := rule_Check_c) Tryz.func23 (by kernel_rfl) (by kernel_rfl) fun l b r b' h => by
  obtain ⟨rfl, h⟩ := noBox_some h
  obtain ⟨x0, x1, x2, h1, h2⟩ := own3 (E := rule_Check_E) rfl h
  exact ⟨FUEL, (h2 _ _ _ _ _ _).trans ((rule_Check_eq _ x0 x1 x2 _).trans h1)⟩
noncomputable abbrev fields_bit_c : Code := Tryz.f79.body.getD .skip
def fields_bit_E : Env := tab.env (fun _ => []) (fun _ => []) [2] [(.int .i64)]
theorem fields_bit_t (R : Type) (kk : Nat) (n_0 : Int) (K : List SV → Option Box → Option R) : evFn fields_bit_E (Tb31 R) kk Tryz.f79 fields_bit_c [.dat (.int .i64) n_0 []] none K =
  fields_bit_s0 n_0 (fun a0 => K [.dat (.pair (.int .u64) (.pair (.int .u64) .unit)) a0 []] none) := by kernel_rfl
theorem fields_bit_eq (R : Type) (n_0 : Int) (K : List SV → Option Box → Option R) : evFn fields_bit_E (Tb31 R) FUEL Tryz.f79 fields_bit_c [.dat (.int .i64) n_0 []] none K = (fields_bit n_0).bind fun r => K [.dat (.pair (.int .u64) (.pair (.int .u64) .unit)) r []] none := by
  rw [fields_bit_t]
  simp only [fields_bit, fields_bit_s0_bind, cond_bind, within_bind, none_bind, some_bind, sum_bind, bind_bind, Sum.elim_inl, Sum.elim_inr]
def fields_bit_g : Pure := fun R l b K => noBox b (args1 (.int .i64) l (fun x0 => (fields_bit x0).bind fun r => K [.dat (.pair (.int .u64) (.pair (.int .u64) .unit)) r []] none))
theorem fields_bit_n : fields_bit_g.Nat := fun R S l b F G K h => noBox_nat (args1_nat fun _ => bindr_nat fun _ => h _ _)
def Tb32 : Funs := Tb31.add 79 [(.int .i64)] fields_bit_g
theorem Tb32_nat : Tb32.Nat := add_nat Tb31_nat fields_bit_n
theorem Tb32_owes : ∀ f, Owes Tryz.prog Tb32 f := add_owes (E := fields_bit_E) (Tab.env_ok tab_ok _ _ _ _) mixed Tb31_nat Tb31_owes (fn := Tryz.f79) (code := fields_bit_c) Tryz.func79 (by kernel_rfl) (by kernel_rfl) fun l b r b' h => by
  obtain ⟨rfl, h⟩ := noBox_some h
  obtain ⟨x0, h1, h2⟩ := own1 (E := fields_bit_E) rfl h
  exact ⟨FUEL, (h2 _ _ _ _ _ _).trans ((fields_bit_eq _ x0 _).trans h1)⟩
noncomputable abbrev fields_Set_Either_c : Code := Tryz.f26.body.getD .skip
def fields_Set_Either_E : Env := tab.env (fun _ => []) (fun _ => []) [4] [(.pair (.int .u64) (.pair (.int .u64) .unit)), (.pair (.int .u64) (.pair (.int .u64) .unit))]
theorem fields_Set_Either_t (R : Type) (kk : Nat) (s_0 : Zt4) (t_1 : Zt4) (K : List SV → Option Box → Option R) : evFn fields_Set_Either_E (Tb32 R) kk Tryz.f26 fields_Set_Either_c [.dat (.pair (.int .u64) (.pair (.int .u64) .unit)) s_0 [], .dat (.pair (.int .u64) (.pair (.int .u64) .unit)) t_1 []] none K =
  fields_Set_Either_s0 s_0 t_1 (fun a0 => K [.dat (.pair (.int .u64) (.pair (.int .u64) .unit)) a0 []] none) := by kernel_rfl
theorem fields_Set_Either_eq (R : Type) (s_0 : Zt4) (t_1 : Zt4) (K : List SV → Option Box → Option R) : evFn fields_Set_Either_E (Tb32 R) FUEL Tryz.f26 fields_Set_Either_c [.dat (.pair (.int .u64) (.pair (.int .u64) .unit)) s_0 [], .dat (.pair (.int .u64) (.pair (.int .u64) .unit)) t_1 []] none K = (fields_Set_Either s_0 t_1).bind fun r => K [.dat (.pair (.int .u64) (.pair (.int .u64) .unit)) r []] none := by
  rw [fields_Set_Either_t]
  simp only [fields_Set_Either, fields_Set_Either_s0_bind, cond_bind, within_bind, none_bind, some_bind, sum_bind, bind_bind, Sum.elim_inl, Sum.elim_inr]
def fields_Set_Either_g : Pure := fun R l b K => noBox b (args2 (.pair (.int .u64) (.pair (.int .u64) .unit)) (.pair (.int .u64) (.pair (.int .u64) .unit)) l (fun x0 x1 => (fields_Set_Either x0 x1).bind fun r => K [.dat (.pair (.int .u64) (.pair (.int .u64) .unit)) r []] none))
theorem fields_Set_Either_n : fields_Set_Either_g.Nat := fun R S l b F G K h => noBox_nat (args2_nat fun _ _ => bindr_nat fun _ => h _ _)
def Tb33 : Funs := Tb32.add 26 [(.pair (.int .u64) (.pair (.int .u64) .unit)), (.pair (.int .u64) (.pair (.int .u64) .unit))] fields_Set_Either_g
theorem Tb33_nat : Tb33.Nat := add_nat Tb32_nat fields_Set_Either_n
theorem Tb33_owes : ∀ f, Owes Tryz.prog Tb33 f := add_owes (E := fields_Set_Either_E) (Tab.env_ok tab_ok _ _ _ _) mixed Tb32_nat Tb32_owes (fn := Tryz.f26) (code := fields_Set_Either_c) Tryz.func26 (by kernel_rfl) (by kernel_rfl) fun l b r b' h => by
  obtain ⟨rfl, h⟩ := noBox_some h
  obtain ⟨x0, x1, h1, h2⟩ := own2 (E := fields_Set_Either_E) rfl h
  exact ⟨FUEL, (h2 _ _ _ _ _ _).trans ((fields_Set_Either_eq _ x0 x1 _).trans h1)⟩
noncomputable abbrev fields_Set_With_c : Code := Tryz.f55.body.getD .skip
def fields_Set_With_E : Env := tab.env (fun _ => []) (fun _ => []) [4] [(.pair (.int .u64) (.pair (.int .u64) .unit)), (.int .i64)]
theorem fields_Set_With_t (R : Type) (kk : Nat) (s_0 : Zt4) (n_1 : Int) (K : List SV → Option Box → Option R) : evFn fields_Set_With_E (Tb33 R) kk Tryz.f55 fields_Set_With_c [.dat (.pair (.int .u64) (.pair (.int .u64) .unit)) s_0 [], .dat (.int .i64) n_1 []] none K =
  fields_Set_With_s0 s_0 n_1 (fun a0 => K [.dat (.pair (.int .u64) (.pair (.int .u64) .unit)) a0 []] none) := by kernel_rfl
theorem fields_Set_With_eq (R : Type) (s_0 : Zt4) (n_1 : Int) (K : List SV → Option Box → Option R) : evFn fields_Set_With_E (Tb33 R) FUEL Tryz.f55 fields_Set_With_c [.dat (.pair (.int .u64) (.pair (.int .u64) .unit)) s_0 [], .dat (.int .i64) n_1 []] none K = (fields_Set_With s_0 n_1).bind fun r => K [.dat (.pair (.int .u64) (.pair (.int .u64) .unit)) r []] none := by
  rw [fields_Set_With_t]
  simp only [fields_Set_With, fields_Set_With_s0_bind, cond_bind, within_bind, none_bind, some_bind, sum_bind, bind_bind, Sum.elim_inl, Sum.elim_inr]
def fields_Set_With_g : Pure := fun R l b K => noBox b (args2 (.pair (.int .u64) (.pair (.int .u64) .unit)) (.int .i64) l (fun x0 x1 => (fields_Set_With x0 x1).bind fun r => K [.dat (.pair (.int .u64) (.pair (.int .u64) .unit)) r []] none))
theorem fields_Set_With_n : fields_Set_With_g.Nat := fun R S l b F G K h => noBox_nat (args2_nat fun _ _ => bindr_nat fun _ => h _ _)
def Tb34 : Funs := Tb33.add 55 [(.pair (.int .u64) (.pair (.int .u64) .unit)), (.int .i64)] fields_Set_With_g
theorem Tb34_nat : Tb34.Nat := add_nat Tb33_nat fields_Set_With_n
theorem Tb34_owes : ∀ f, Owes Tryz.prog Tb34 f := add_owes (E := fields_Set_With_E) (Tab.env_ok tab_ok _ _ _ _) mixed Tb33_nat Tb33_owes (fn := Tryz.f55) (code := fields_Set_With_c) Tryz.func55 (by kernel_rfl) (by kernel_rfl) fun l b r b' h => by
  obtain ⟨rfl, h⟩ := noBox_some h
  obtain ⟨x0, x1, h1, h2⟩ := own2 (E := fields_Set_With_E) rfl h
  exact ⟨FUEL, (h2 _ _ _ _ _ _).trans ((fields_Set_With_eq _ x0 x1 _).trans h1)⟩
noncomputable abbrev fields_Of_c : Code := Tryz.f24.body.getD .skip
def fields_Of_E : Env := tab.env (fun i => bif Nat.beq i 3 then [2, 3, 6, 7, 8] else []) (fun i => bif Nat.beq i 3 then [2, 3] else []) [2] [(.sl 3 (.int .i64))]
def fields_Of_h0 (t6 : (List Int)) (t7 : Int) (t8 : Int) (bt2 : Zt4) (bt3 : Zt4) : State := ⟨uS 2 ([.ptr 3 (.pair (.int .u64) (.pair (.int .u64) .unit)) []]::[.ptr 4 (.pair (.int .u64) (.pair (.int .u64) .unit)) []]::(uS 2 ([.dat (.sl 3 (.int .i64)) t6 []]::[.dat (.int .i64) t7 []]::[.dat (.int .i64) t8 []]::(uS 8 ([]))))), nS 3 ((some ⟨(.pair (.int .u64) (.pair (.int .u64) .unit)), bt2, []⟩)::(some ⟨(.pair (.int .u64) (.pair (.int .u64) .unit)), bt3, []⟩)::(nS 13 ([])))⟩
def fields_Of_x0_0 (bt2 : Zt4) (bt3 : Zt4) : State := ⟨uS 2 ([.ptr 3 (.pair (.int .u64) (.pair (.int .u64) .unit)) []]::[.ptr 4 (.pair (.int .u64) (.pair (.int .u64) .unit)) []]::(uS 13 ([]))), nS 3 ((some ⟨(.pair (.int .u64) (.pair (.int .u64) .unit)), bt2, []⟩)::(some ⟨(.pair (.int .u64) (.pair (.int .u64) .unit)), bt3, []⟩)::(nS 13 ([])))⟩
theorem fields_Of_t (R : Type) (kk : Nat) (n_0 : (List Int)) (K : List SV → Option Box → Option R) : evFn fields_Of_E (Tb34 R) kk Tryz.f24 fields_Of_c [.dat (.sl 3 (.int .i64)) n_0 []] none K =
  fields_Of_s0 n_0 (fun a0 a1 a2 a3 a4 => loopR (ev fields_Of_E (Tb34 R) kk (sub [1, 1, 0, 1, 0, 0] fields_Of_c)) [2, 3, 6, 7, 8] [2, 3] kk (fields_Of_h0 a0 a1 a2 a3 a4) (kBlock 0 (kSeq fields_Of_E (Tb34 R) kk (sub [1, 1, 1] fields_Of_c) (kFin fields_Of_E Tryz.f24.results.toList none K)))) := by kernel_rfl
theorem fields_Of_d0 (R : Type) (kk k : Nat) (t6 : (List Int)) (t7 : Int) (t8 : Int) (bt2 : Zt4) (bt3 : Zt4) (K : Ex → State → Option R) : loopR (ev fields_Of_E (Tb34 R) kk (sub [1, 1, 0, 1, 0, 0] fields_Of_c)) [2, 3, 6, 7, 8] [2, 3] (k + 1) (fields_Of_h0 t6 t7 t8 bt2 bt3) K =
  fields_Of_s1 t6 t7 t8 bt2 bt3 (fun a0 a1 a2 a3 a4 => loopR (ev fields_Of_E (Tb34 R) kk (sub [1, 1, 0, 1, 0, 0] fields_Of_c)) [2, 3, 6, 7, 8] [2, 3] k (fields_Of_h0 a0 a1 a2 a3 a4) K) (fun a0 a1 => K (.exit 0) (fields_Of_x0_0 a0 a1)) := by kernel_rfl
theorem fields_Of_y0_0 (R : Type) (kk : Nat) (bt2 : Zt4) (bt3 : Zt4) (K : List SV → Option Box → Option R) : (kBlock 0 (kSeq fields_Of_E (Tb34 R) kk (sub [1, 1, 1] fields_Of_c) (kFin fields_Of_E Tryz.f24.results.toList none K))) (.exit 0) (fields_Of_x0_0 bt2 bt3) =
  fields_Of_s2 bt2 bt3 (fun a0 => K [.dat (.pair (.int .u64) (.pair (.int .u64) .unit)) a0 []] none) := by kernel_rfl
theorem fields_Of_lp0 (R : Type) (k : Nat) (t6 : (List Int)) (t7 : Int) (t8 : Int) (bt2 : Zt4) (bt3 : Zt4) (K : Ex → State → Option R) : loopR (ev fields_Of_E (Tb34 R) FUEL (sub [1, 1, 0, 1, 0, 0] fields_Of_c)) [2, 3, 6, 7, 8] [2, 3] k (fields_Of_h0 t6 t7 t8 bt2 bt3) K = (fields_Of_l0 k t6 t7 t8 bt2 bt3).bind fun e => K (.exit 0) (fields_Of_x0_0 e.1 e.2) := by
  induction k generalizing t6 t7 t8 bt2 bt3 with
  | zero => rfl
  | succ k ih =>
    rw [fields_Of_d0]
    simp only [fields_Of_l0, fields_Of_s0_bind, fields_Of_s1_bind, fields_Of_s2_bind, ih, cond_bind, within_bind, none_bind, some_bind, sum_bind, bind_bind, Sum.elim_inl, Sum.elim_inr]
theorem fields_Of_eq (R : Type) (n_0 : (List Int)) (K : List SV → Option Box → Option R) : evFn fields_Of_E (Tb34 R) FUEL Tryz.f24 fields_Of_c [.dat (.sl 3 (.int .i64)) n_0 []] none K = (fields_Of n_0).bind fun r => K [.dat (.pair (.int .u64) (.pair (.int .u64) .unit)) r []] none := by
  rw [fields_Of_t]
  simp only [fields_Of, fields_Of_s0_bind, fields_Of_s1_bind, fields_Of_s2_bind, fields_Of_lp0, fields_Of_y0_0, cond_bind, within_bind, none_bind, some_bind, sum_bind, bind_bind, Sum.elim_inl, Sum.elim_inr]
def fields_Of_g : Pure := fun R l b K => noBox b (args1 (.sl 3 (.int .i64)) l (fun x0 => (fields_Of x0).bind fun r => K [.dat (.pair (.int .u64) (.pair (.int .u64) .unit)) r []] none))
theorem fields_Of_n : fields_Of_g.Nat := fun R S l b F G K h => noBox_nat (args1_nat fun _ => bindr_nat fun _ => h _ _)
def Tb35 : Funs := Tb34.add 24 [(.sl 3 (.int .i64))] fields_Of_g
theorem Tb35_nat : Tb35.Nat := add_nat Tb34_nat fields_Of_n
theorem Tb35_owes : ∀ f, Owes Tryz.prog Tb35 f := add_owes (E := fields_Of_E) (Tab.env_ok tab_ok _ _ _ _) mixed Tb34_nat Tb34_owes (fn := Tryz.f24) (code := fields_Of_c) Tryz.func24 (by kernel_rfl) (by kernel_rfl) fun l b r b' h => by
  obtain ⟨rfl, h⟩ := noBox_some h
  obtain ⟨x0, h1, h2⟩ := own1 (E := fields_Of_E) rfl h
  exact ⟨FUEL, (h2 _ _ _ _ _ _).trans ((fields_Of_eq _ x0 _).trans h1)⟩
noncomputable abbrev fields_Set_Both_c : Code := Tryz.f25.body.getD .skip
def fields_Set_Both_E : Env := tab.env (fun _ => []) (fun _ => []) [4] [(.pair (.int .u64) (.pair (.int .u64) .unit)), (.pair (.int .u64) (.pair (.int .u64) .unit))]
theorem fields_Set_Both_t (R : Type) (kk : Nat) (s_0 : Zt4) (t_1 : Zt4) (K : List SV → Option Box → Option R) : evFn fields_Set_Both_E (Tb35 R) kk Tryz.f25 fields_Set_Both_c [.dat (.pair (.int .u64) (.pair (.int .u64) .unit)) s_0 [], .dat (.pair (.int .u64) (.pair (.int .u64) .unit)) t_1 []] none K =
  fields_Set_Both_s0 s_0 t_1 (fun a0 => K [.dat (.pair (.int .u64) (.pair (.int .u64) .unit)) a0 []] none) := by kernel_rfl
theorem fields_Set_Both_eq (R : Type) (s_0 : Zt4) (t_1 : Zt4) (K : List SV → Option Box → Option R) : evFn fields_Set_Both_E (Tb35 R) FUEL Tryz.f25 fields_Set_Both_c [.dat (.pair (.int .u64) (.pair (.int .u64) .unit)) s_0 [], .dat (.pair (.int .u64) (.pair (.int .u64) .unit)) t_1 []] none K = (fields_Set_Both s_0 t_1).bind fun r => K [.dat (.pair (.int .u64) (.pair (.int .u64) .unit)) r []] none := by
  rw [fields_Set_Both_t]
  simp only [fields_Set_Both, fields_Set_Both_s0_bind, cond_bind, within_bind, none_bind, some_bind, sum_bind, bind_bind, Sum.elim_inl, Sum.elim_inr]
def fields_Set_Both_g : Pure := fun R l b K => noBox b (args2 (.pair (.int .u64) (.pair (.int .u64) .unit)) (.pair (.int .u64) (.pair (.int .u64) .unit)) l (fun x0 x1 => (fields_Set_Both x0 x1).bind fun r => K [.dat (.pair (.int .u64) (.pair (.int .u64) .unit)) r []] none))
theorem fields_Set_Both_n : fields_Set_Both_g.Nat := fun R S l b F G K h => noBox_nat (args2_nat fun _ _ => bindr_nat fun _ => h _ _)
def Tb36 : Funs := Tb35.add 25 [(.pair (.int .u64) (.pair (.int .u64) .unit)), (.pair (.int .u64) (.pair (.int .u64) .unit))] fields_Set_Both_g
theorem Tb36_nat : Tb36.Nat := add_nat Tb35_nat fields_Set_Both_n
theorem Tb36_owes : ∀ f, Owes Tryz.prog Tb36 f := add_owes (E := fields_Set_Both_E) (Tab.env_ok tab_ok _ _ _ _) mixed Tb35_nat Tb35_owes (fn := Tryz.f25) (code := fields_Set_Both_c) Tryz.func25 (by kernel_rfl) (by kernel_rfl) fun l b r b' h => by
  obtain ⟨rfl, h⟩ := noBox_some h
  obtain ⟨x0, x1, h1, h2⟩ := own2 (E := fields_Set_Both_E) rfl h
  exact ⟨FUEL, (h2 _ _ _ _ _ _).trans ((fields_Set_Both_eq _ x0 x1 _).trans h1)⟩
noncomputable abbrev xlate_Check_c : Code := Tryz.f8.body.getD .skip
def xlate_Check_E : Env := tab.env (fun i => bif Nat.beq i 2 then [3, 4, 5, 26, 27, 28] else bif Nat.beq i 12 then [3, 4, 5, 13, 46, 48, 49, 50] else bif Nat.beq i 24 then [4, 5, 16, 17, 77, 78, 79] else []) (fun i => bif Nat.beq i 2 then [3, 4, 5, 6, 7, 8] else bif Nat.beq i 12 then [3, 4, 5, 6, 7, 8] else bif Nat.beq i 24 then [6, 7, 8] else []) [] [y14, y13, y13]
def xlate_Check_h0 (t26 : Zt18) (t27 : Int) (t28 : Int) (bt3 : Zt23) (bt4 : Zt17) (bt5 : Zt17) : State := ⟨uS 3 ([.ptr 4 y14 []]::[.ptr 5 y13 []]::[.ptr 6 y13 []]::(uS 20 ([.dat (.sl 28 y13) t26 [[]]]::[.dat (.int .i64) t27 []]::[.dat (.int .i64) t28 []]::(uS 92 ([]))))), nS 4 ((some ⟨y14, bt3, []⟩)::(some ⟨y13, bt4, []⟩)::(some ⟨y13, bt5, []⟩)::(nS 115 ([])))⟩
def xlate_Check_x0_0 (t6 : Int) (t7 : Int) (t8 : Int) (bt3 : Zt23) (bt4 : Zt17) (bt5 : Zt17) : State := ⟨uS 3 ([.ptr 4 y14 []]::[.ptr 5 y13 []]::[.ptr 6 y13 []]::[.dat (.int .i64) t6 []]::[.dat (.int .i64) t7 []]::[.dat (.int .i64) t8 []]::(uS 112 ([]))), nS 4 ((some ⟨y14, bt3, []⟩)::(some ⟨y13, bt4, []⟩)::(some ⟨y13, bt5, []⟩)::(nS 115 ([])))⟩
def xlate_Check_x0_1 (bt3 : Zt23) (bt4 : Zt17) (bt5 : Zt17) : State := ⟨uS 3 ([.ptr 4 y14 []]::[.ptr 5 y13 []]::[.ptr 6 y13 []]::(uS 115 ([]))), nS 4 ((some ⟨y14, bt3, []⟩)::(some ⟨y13, bt4, []⟩)::(some ⟨y13, bt5, []⟩)::(nS 115 ([])))⟩
def xlate_Check_h1 (t48 : Zt13) (t49 : Int) (t50 : Int) (bt3 : Zt23) (bt4 : Zt17) (bt5 : Zt17) (bt13 : Zt7) : State := ⟨uS 3 ([.ptr 4 y14 []]::[.ptr 5 y13 []]::[.ptr 6 y13 []]::(uS 7 ([.ptr 47 (.spc .mp .str .bool) []]::(uS 32 ([.ptr 47 (.spc .mp .str .bool) []]::(uS 1 ([.dat (.sl 56 (.pair .str (.pair .str .unit))) t48 []]::[.dat (.int .i64) t49 []]::[.dat (.int .i64) t50 []]::(uS 70 ([]))))))))), nS 4 ((some ⟨y14, bt3, []⟩)::(some ⟨y13, bt4, []⟩)::(some ⟨y13, bt5, []⟩)::(nS 40 ((some ⟨(.spc .mp .str .bool), bt13, []⟩)::(nS 74 ([])))))⟩
def xlate_Check_x1_0 (t6 : Int) (t7 : Int) (t8 : Int) (bt3 : Zt23) (bt4 : Zt17) (bt5 : Zt17) : State := ⟨uS 3 ([.ptr 4 y14 []]::[.ptr 5 y13 []]::[.ptr 6 y13 []]::[.dat (.int .i64) t6 []]::[.dat (.int .i64) t7 []]::[.dat (.int .i64) t8 []]::(uS 112 ([]))), nS 4 ((some ⟨y14, bt3, []⟩)::(some ⟨y13, bt4, []⟩)::(some ⟨y13, bt5, []⟩)::(nS 115 ([])))⟩
def xlate_Check_x1_1 (bt3 : Zt23) (bt4 : Zt17) (bt5 : Zt17) : State := ⟨uS 3 ([.ptr 4 y14 []]::[.ptr 5 y13 []]::[.ptr 6 y13 []]::(uS 115 ([]))), nS 4 ((some ⟨y14, bt3, []⟩)::(some ⟨y13, bt4, []⟩)::(some ⟨y13, bt5, []⟩)::(nS 115 ([])))⟩
def xlate_Check_h2 (t77 : Zt21) (t78 : Int) (t79 : Int) (bt4 : Zt17) (bt5 : Zt17) (bt16 : Zt4) (bt17 : Zt4) : State := ⟨uS 4 ([.ptr 5 y13 []]::[.ptr 6 y13 []]::(uS 10 ([.ptr 17 (.pair (.int .u64) (.pair (.int .u64) .unit)) []]::[.ptr 18 (.pair (.int .u64) (.pair (.int .u64) .unit)) []]::(uS 59 ([.dat (.sl 58 y9) t77 []]::[.dat (.int .i64) t78 []]::[.dat (.int .i64) t79 []]::(uS 41 ([]))))))), nS 5 ((some ⟨y13, bt4, []⟩)::(some ⟨y13, bt5, []⟩)::(nS 10 ((some ⟨(.pair (.int .u64) (.pair (.int .u64) .unit)), bt16, []⟩)::(some ⟨(.pair (.int .u64) (.pair (.int .u64) .unit)), bt17, []⟩)::(nS 103 ([])))))⟩
def xlate_Check_x2_0 (t6 : Int) (t7 : Int) (t8 : Int) : State := ⟨uS 6 ([.dat (.int .i64) t6 []]::[.dat (.int .i64) t7 []]::[.dat (.int .i64) t8 []]::(uS 112 ([]))), nS 122 []⟩
def xlate_Check_x2_1  : State := ⟨uS 121 [], nS 122 []⟩
theorem xlate_Check_t (R : Type) (kk : Nat) (m_0 : Zt23) (a_1 : Zt17) (b_2 : Zt17) (K : List SV → Option Box → Option R) : evFn xlate_Check_E (Tb36 R) kk Tryz.f8 xlate_Check_c [.dat y14 m_0 [], .dat y13 a_1 [], .dat y13 b_2 []] none K =
  xlate_Check_s0 m_0 a_1 b_2 (fun a0 a1 a2 a3 a4 a5 => loopR (ev xlate_Check_E (Tb36 R) kk (sub [1, 0, 1, 0, 0] xlate_Check_c)) [3, 4, 5, 26, 27, 28] [3, 4, 5, 6, 7, 8] kk (xlate_Check_h0 a0 a1 a2 a3 a4 a5) (kBlock 0 (kSeq xlate_Check_E (Tb36 R) kk (sub [1, 1] xlate_Check_c) (kFin xlate_Check_E Tryz.f8.results.toList none K)))) := by kernel_rfl
theorem xlate_Check_d0 (R : Type) (kk k : Nat) (t26 : Zt18) (t27 : Int) (t28 : Int) (bt3 : Zt23) (bt4 : Zt17) (bt5 : Zt17) (K : Ex → State → Option R) : loopR (ev xlate_Check_E (Tb36 R) kk (sub [1, 0, 1, 0, 0] xlate_Check_c)) [3, 4, 5, 26, 27, 28] [3, 4, 5, 6, 7, 8] (k + 1) (xlate_Check_h0 t26 t27 t28 bt3 bt4 bt5) K =
  xlate_Check_s1 t26 t27 t28 bt3 bt4 bt5 (fun a0 a1 a2 a3 a4 a5 => K .ret (xlate_Check_x0_0 a0 a1 a2 a3 a4 a5)) (fun a0 a1 a2 a3 a4 a5 => loopR (ev xlate_Check_E (Tb36 R) kk (sub [1, 0, 1, 0, 0] xlate_Check_c)) [3, 4, 5, 26, 27, 28] [3, 4, 5, 6, 7, 8] k (xlate_Check_h0 a0 a1 a2 a3 a4 a5) K) (fun a0 a1 a2 => K (.exit 0) (xlate_Check_x0_1 a0 a1 a2)) := by kernel_rfl
theorem xlate_Check_y0_0 (R : Type) (kk : Nat) (t6 : Int) (t7 : Int) (t8 : Int) (bt3 : Zt23) (bt4 : Zt17) (bt5 : Zt17) (K : List SV → Option Box → Option R) : (kBlock 0 (kSeq xlate_Check_E (Tb36 R) kk (sub [1, 1] xlate_Check_c) (kFin xlate_Check_E Tryz.f8.results.toList none K))) .ret (xlate_Check_x0_0 t6 t7 t8 bt3 bt4 bt5) =
  xlate_Check_s2 t6 t7 t8 bt3 bt4 bt5 (fun a0 a1 a2 => K [.dat (.int .i64) a0 [], .dat (.int .i64) a1 [], .dat (.int .i64) a2 []] none) := by kernel_rfl
theorem xlate_Check_y0_1 (R : Type) (kk : Nat) (bt3 : Zt23) (bt4 : Zt17) (bt5 : Zt17) (K : List SV → Option Box → Option R) : (kBlock 0 (kSeq xlate_Check_E (Tb36 R) kk (sub [1, 1] xlate_Check_c) (kFin xlate_Check_E Tryz.f8.results.toList none K))) (.exit 0) (xlate_Check_x0_1 bt3 bt4 bt5) =
  xlate_Check_s3 bt3 bt4 bt5 (fun a0 a1 a2 => K [.dat (.int .i64) a0 [], .dat (.int .i64) a1 [], .dat (.int .i64) a2 []] none) (fun a0 a1 a2 a3 a4 a5 a6 => loopR (ev xlate_Check_E (Tb36 R) kk (sub [1, 1, 1, 1, 0, 1, 0, 0] xlate_Check_c)) [3, 4, 5, 13, 46, 48, 49, 50] [3, 4, 5, 6, 7, 8] kk (xlate_Check_h1 a0 a1 a2 a3 a4 a5 a6) (kBlock 2 (kSeq xlate_Check_E (Tb36 R) kk (sub [1, 1, 1, 1, 1] xlate_Check_c) (kFin xlate_Check_E Tryz.f8.results.toList none K)))) := by kernel_rfl
theorem xlate_Check_d1 (R : Type) (kk k : Nat) (t48 : Zt13) (t49 : Int) (t50 : Int) (bt3 : Zt23) (bt4 : Zt17) (bt5 : Zt17) (bt13 : Zt7) (K : Ex → State → Option R) : loopR (ev xlate_Check_E (Tb36 R) kk (sub [1, 1, 1, 1, 0, 1, 0, 0] xlate_Check_c)) [3, 4, 5, 13, 46, 48, 49, 50] [3, 4, 5, 6, 7, 8] (k + 1) (xlate_Check_h1 t48 t49 t50 bt3 bt4 bt5 bt13) K =
  xlate_Check_s4 t48 t49 t50 bt3 bt4 bt5 bt13 (fun a0 a1 a2 a3 a4 a5 => K .ret (xlate_Check_x1_0 a0 a1 a2 a3 a4 a5)) (fun a0 a1 a2 a3 a4 a5 a6 => loopR (ev xlate_Check_E (Tb36 R) kk (sub [1, 1, 1, 1, 0, 1, 0, 0] xlate_Check_c)) [3, 4, 5, 13, 46, 48, 49, 50] [3, 4, 5, 6, 7, 8] k (xlate_Check_h1 a0 a1 a2 a3 a4 a5 a6) K) (fun a0 a1 a2 => K (.exit 2) (xlate_Check_x1_1 a0 a1 a2)) := by kernel_rfl
theorem xlate_Check_y1_0 (R : Type) (kk : Nat) (t6 : Int) (t7 : Int) (t8 : Int) (bt3 : Zt23) (bt4 : Zt17) (bt5 : Zt17) (K : List SV → Option Box → Option R) : (kBlock 2 (kSeq xlate_Check_E (Tb36 R) kk (sub [1, 1, 1, 1, 1] xlate_Check_c) (kFin xlate_Check_E Tryz.f8.results.toList none K))) .ret (xlate_Check_x1_0 t6 t7 t8 bt3 bt4 bt5) =
  xlate_Check_s5 t6 t7 t8 bt3 bt4 bt5 (fun a0 a1 a2 => K [.dat (.int .i64) a0 [], .dat (.int .i64) a1 [], .dat (.int .i64) a2 []] none) := by kernel_rfl
theorem xlate_Check_y1_1 (R : Type) (kk : Nat) (bt3 : Zt23) (bt4 : Zt17) (bt5 : Zt17) (K : List SV → Option Box → Option R) : (kBlock 2 (kSeq xlate_Check_E (Tb36 R) kk (sub [1, 1, 1, 1, 1] xlate_Check_c) (kFin xlate_Check_E Tryz.f8.results.toList none K))) (.exit 2) (xlate_Check_x1_1 bt3 bt4 bt5) =
  xlate_Check_s6 bt3 bt4 bt5 (fun a0 a1 a2 => K [.dat (.int .i64) a0 [], .dat (.int .i64) a1 [], .dat (.int .i64) a2 []] none) (fun a0 a1 a2 a3 a4 a5 a6 => loopR (ev xlate_Check_E (Tb36 R) kk (sub [1, 1, 1, 1, 1, 1, 1, 0, 1, 0, 0] xlate_Check_c)) [4, 5, 16, 17, 77, 78, 79] [6, 7, 8] kk (xlate_Check_h2 a0 a1 a2 a3 a4 a5 a6) (kBlock 5 (kSeq xlate_Check_E (Tb36 R) kk (sub [1, 1, 1, 1, 1, 1, 1, 1] xlate_Check_c) (kFin xlate_Check_E Tryz.f8.results.toList none K)))) := by kernel_rfl
theorem xlate_Check_d2 (R : Type) (kk k : Nat) (t77 : Zt21) (t78 : Int) (t79 : Int) (bt4 : Zt17) (bt5 : Zt17) (bt16 : Zt4) (bt17 : Zt4) (K : Ex → State → Option R) : loopR (ev xlate_Check_E (Tb36 R) kk (sub [1, 1, 1, 1, 1, 1, 1, 0, 1, 0, 0] xlate_Check_c)) [4, 5, 16, 17, 77, 78, 79] [6, 7, 8] (k + 1) (xlate_Check_h2 t77 t78 t79 bt4 bt5 bt16 bt17) K =
  xlate_Check_s7 t77 t78 t79 bt4 bt5 bt16 bt17 (fun a0 a1 a2 => K .ret (xlate_Check_x2_0 a0 a1 a2)) (fun a0 a1 a2 a3 a4 a5 a6 => loopR (ev xlate_Check_E (Tb36 R) kk (sub [1, 1, 1, 1, 1, 1, 1, 0, 1, 0, 0] xlate_Check_c)) [4, 5, 16, 17, 77, 78, 79] [6, 7, 8] k (xlate_Check_h2 a0 a1 a2 a3 a4 a5 a6) K) (K (.exit 5) (xlate_Check_x2_1)) := by kernel_rfl
theorem xlate_Check_y2_0 (R : Type) (kk : Nat) (t6 : Int) (t7 : Int) (t8 : Int) (K : List SV → Option Box → Option R) : (kBlock 5 (kSeq xlate_Check_E (Tb36 R) kk (sub [1, 1, 1, 1, 1, 1, 1, 1] xlate_Check_c) (kFin xlate_Check_E Tryz.f8.results.toList none K))) .ret (xlate_Check_x2_0 t6 t7 t8) =
  xlate_Check_s8 t6 t7 t8 (fun a0 a1 a2 => K [.dat (.int .i64) a0 [], .dat (.int .i64) a1 [], .dat (.int .i64) a2 []] none) := by kernel_rfl
theorem xlate_Check_y2_1 (R : Type) (kk : Nat)  (K : List SV → Option Box → Option R) : (kBlock 5 (kSeq xlate_Check_E (Tb36 R) kk (sub [1, 1, 1, 1, 1, 1, 1, 1] xlate_Check_c) (kFin xlate_Check_E Tryz.f8.results.toList none K))) (.exit 5) (xlate_Check_x2_1) =
  xlate_Check_s9 (fun a0 a1 a2 => K [.dat (.int .i64) a0 [], .dat (.int .i64) a1 [], .dat (.int .i64) a2 []] none) := by kernel_rfl
theorem xlate_Check_lp0 (R : Type) (k : Nat) (t26 : Zt18) (t27 : Int) (t28 : Int) (bt3 : Zt23) (bt4 : Zt17) (bt5 : Zt17) (K : Ex → State → Option R) : loopR (ev xlate_Check_E (Tb36 R) FUEL (sub [1, 0, 1, 0, 0] xlate_Check_c)) [3, 4, 5, 26, 27, 28] [3, 4, 5, 6, 7, 8] k (xlate_Check_h0 t26 t27 t28 bt3 bt4 bt5) K = (xlate_Check_l0 k t26 t27 t28 bt3 bt4 bt5).bind fun e => (Sum.elim (fun (we : Zt26) => K .ret (xlate_Check_x0_0 we.1 we.2.1 we.2.2.1 we.2.2.2.1 we.2.2.2.2.1 we.2.2.2.2.2)) (fun (we : Zt25) => K (.exit 0) (xlate_Check_x0_1 we.1 we.2.1 we.2.2)) e) := by
  induction k generalizing t26 t27 t28 bt3 bt4 bt5 with
  | zero => rfl
  | succ k ih =>
    rw [xlate_Check_d0]
    simp only [xlate_Check_l0, xlate_Check_s0_bind, xlate_Check_s1_bind, xlate_Check_s2_bind, xlate_Check_s3_bind, xlate_Check_s4_bind, xlate_Check_s5_bind, xlate_Check_s6_bind, xlate_Check_s7_bind, xlate_Check_s8_bind, xlate_Check_s9_bind, ih, cond_bind, within_bind, none_bind, some_bind, sum_bind, bind_bind, Sum.elim_inl, Sum.elim_inr]
theorem xlate_Check_lp1 (R : Type) (k : Nat) (t48 : Zt13) (t49 : Int) (t50 : Int) (bt3 : Zt23) (bt4 : Zt17) (bt5 : Zt17) (bt13 : Zt7) (K : Ex → State → Option R) : loopR (ev xlate_Check_E (Tb36 R) FUEL (sub [1, 1, 1, 1, 0, 1, 0, 0] xlate_Check_c)) [3, 4, 5, 13, 46, 48, 49, 50] [3, 4, 5, 6, 7, 8] k (xlate_Check_h1 t48 t49 t50 bt3 bt4 bt5 bt13) K = (xlate_Check_l1 k t48 t49 t50 bt3 bt4 bt5 bt13).bind fun e => (Sum.elim (fun (we : Zt26) => K .ret (xlate_Check_x1_0 we.1 we.2.1 we.2.2.1 we.2.2.2.1 we.2.2.2.2.1 we.2.2.2.2.2)) (fun (we : Zt25) => K (.exit 2) (xlate_Check_x1_1 we.1 we.2.1 we.2.2)) e) := by
  induction k generalizing t48 t49 t50 bt3 bt4 bt5 bt13 with
  | zero => rfl
  | succ k ih =>
    rw [xlate_Check_d1]
    simp only [xlate_Check_l1, xlate_Check_s0_bind, xlate_Check_s1_bind, xlate_Check_s2_bind, xlate_Check_s3_bind, xlate_Check_s4_bind, xlate_Check_s5_bind, xlate_Check_s6_bind, xlate_Check_s7_bind, xlate_Check_s8_bind, xlate_Check_s9_bind, ih, cond_bind, within_bind, none_bind, some_bind, sum_bind, bind_bind, Sum.elim_inl, Sum.elim_inr]
theorem xlate_Check_lp2 (R : Type) (k : Nat) (t77 : Zt21) (t78 : Int) (t79 : Int) (bt4 : Zt17) (bt5 : Zt17) (bt16 : Zt4) (bt17 : Zt4) (K : Ex → State → Option R) : loopR (ev xlate_Check_E (Tb36 R) FUEL (sub [1, 1, 1, 1, 1, 1, 1, 0, 1, 0, 0] xlate_Check_c)) [4, 5, 16, 17, 77, 78, 79] [6, 7, 8] k (xlate_Check_h2 t77 t78 t79 bt4 bt5 bt16 bt17) K = (xlate_Check_l2 k t77 t78 t79 bt4 bt5 bt16 bt17).bind fun e => (Sum.elim (fun (we : Zt0) => K .ret (xlate_Check_x2_0 we.1 we.2.1 we.2.2)) (fun (we : Unit) => K (.exit 5) (xlate_Check_x2_1)) e) := by
  induction k generalizing t77 t78 t79 bt4 bt5 bt16 bt17 with
  | zero => rfl
  | succ k ih =>
    rw [xlate_Check_d2]
    simp only [xlate_Check_l2, xlate_Check_s0_bind, xlate_Check_s1_bind, xlate_Check_s2_bind, xlate_Check_s3_bind, xlate_Check_s4_bind, xlate_Check_s5_bind, xlate_Check_s6_bind, xlate_Check_s7_bind, xlate_Check_s8_bind, xlate_Check_s9_bind, ih, cond_bind, within_bind, none_bind, some_bind, sum_bind, bind_bind, Sum.elim_inl, Sum.elim_inr]
theorem xlate_Check_eq (R : Type) (m_0 : Zt23) (a_1 : Zt17) (b_2 : Zt17) (K : List SV → Option Box → Option R) : evFn xlate_Check_E (Tb36 R) FUEL Tryz.f8 xlate_Check_c [.dat y14 m_0 [], .dat y13 a_1 [], .dat y13 b_2 []] none K = (xlate_Check m_0 a_1 b_2).bind fun r => K [.dat (.int .i64) r.1 [], .dat (.int .i64) r.2.1 [], .dat (.int .i64) r.2.2 []] none := by
  rw [xlate_Check_t]
  simp only [xlate_Check, xlate_Check_s0_bind, xlate_Check_s1_bind, xlate_Check_s2_bind, xlate_Check_s3_bind, xlate_Check_s4_bind, xlate_Check_s5_bind, xlate_Check_s6_bind, xlate_Check_s7_bind, xlate_Check_s8_bind, xlate_Check_s9_bind, xlate_Check_lp0, xlate_Check_lp1, xlate_Check_lp2, xlate_Check_y0_0, xlate_Check_y0_1, xlate_Check_y1_0, xlate_Check_y1_1, xlate_Check_y2_0, xlate_Check_y2_1, cond_bind, within_bind, none_bind, some_bind, sum_bind, bind_bind, Sum.elim_inl, Sum.elim_inr]
def xlate_Check_g : Pure := fun R l b K => noBox b (args3 y14 y13 y13 l (fun x0 x1 x2 => (xlate_Check x0 x1 x2).bind fun r => K [.dat (.int .i64) r.1 [], .dat (.int .i64) r.2.1 [], .dat (.int .i64) r.2.2 []] none))
theorem xlate_Check_n : xlate_Check_g.Nat := fun R S l b F G K h => noBox_nat (args3_nat fun _ _ _ => bindr_nat fun _ => h _ _)
def Tb37 : Funs := Tb36.add 8 [y14, y13, y13] xlate_Check_g
theorem Tb37_nat : Tb37.Nat := add_nat Tb36_nat xlate_Check_n
theorem Tb37_owes : ∀ f, Owes Tryz.prog Tb37 f := add_owes (E := xlate_Check_E) (Tab.env_ok tab_ok _ _ _ _) mixed Tb36_nat Tb36_owes (fn := Tryz.f8) (code := xlate_Check_c) Tryz.func8 (by kernel_rfl) (by kernel_rfl) fun l b r b' h => by
  obtain ⟨rfl, h⟩ := noBox_some h
  obtain ⟨x0, x1, x2, h1, h2⟩ := own3 (E := xlate_Check_E) rfl h
  exact ⟨FUEL, (h2 _ _ _ _ _ _).trans ((xlate_Check_eq _ x0 x1 x2 _).trans h1)⟩
noncomputable abbrev msg_Check_c : Code := Tryz.f35.body.getD .skip
def msg_Check_E : Env := tab.env (fun i => bif Nat.beq i 9 then [2, 4, 9, 39, 40, 41] else []) (fun i => bif Nat.beq i 9 then [4] else []) [4] [y13, y4]
def msg_Check_h0 (t9 : Int) (t39 : Zt10) (t40 : Int) (t41 : Int) (bt2 : Zt17) (bt4 : Zt4) : State := ⟨uS 2 ([.ptr 3 y13 []]::(uS 1 ([.ptr 5 (.pair (.int .i64) (.pair (.int .i64) .unit)) []]::(uS 4 ([.dat (.int .i64) t9 []]::(uS 29 ([.dat (.sl 53 (.pair (.int .i64) (.pair .str .unit))) t39 []]::[.dat (.int .i64) t40 []]::[.dat (.int .i64) t41 []]::(uS 36 ([]))))))))), nS 3 ((some ⟨y13, bt2, []⟩)::(nS 1 ((some ⟨(.pair (.int .i64) (.pair (.int .i64) .unit)), bt4, []⟩)::(nS 73 ([])))))⟩
def msg_Check_x0_0 (bt4 : Zt4) : State := ⟨uS 4 ([.ptr 5 (.pair (.int .i64) (.pair (.int .i64) .unit)) []]::(uS 73 ([]))), nS 5 ((some ⟨(.pair (.int .i64) (.pair (.int .i64) .unit)), bt4, []⟩)::(nS 73 ([])))⟩
def msg_Check_x0_1 (bt4 : Zt4) : State := ⟨uS 4 ([.ptr 5 (.pair (.int .i64) (.pair (.int .i64) .unit)) []]::(uS 73 ([]))), nS 5 ((some ⟨(.pair (.int .i64) (.pair (.int .i64) .unit)), bt4, []⟩)::(nS 73 ([])))⟩
theorem msg_Check_t (R : Type) (kk : Nat) (s_0 : Zt17) (m_1 : Zt16) (K : List SV → Option Box → Option R) : evFn msg_Check_E (Tb37 R) kk Tryz.f35 msg_Check_c [.dat y13 s_0 [], .dat y4 m_1 []] none K =
  msg_Check_s0 s_0 m_1 (fun a0 => K [.dat (.pair (.int .i64) (.pair (.int .i64) .unit)) a0 []] none) (fun a0 a1 a2 a3 a4 a5 => loopR (ev msg_Check_E (Tb37 R) kk (sub [1, 1, 1, 1, 0, 1, 0, 0] msg_Check_c)) [2, 4, 9, 39, 40, 41] [4] kk (msg_Check_h0 a0 a1 a2 a3 a4 a5) (kBlock 0 (kSeq msg_Check_E (Tb37 R) kk (sub [1, 1, 1, 1, 1] msg_Check_c) (kFin msg_Check_E Tryz.f35.results.toList none K)))) := by kernel_rfl
theorem msg_Check_d0 (R : Type) (kk k : Nat) (t9 : Int) (t39 : Zt10) (t40 : Int) (t41 : Int) (bt2 : Zt17) (bt4 : Zt4) (K : Ex → State → Option R) : loopR (ev msg_Check_E (Tb37 R) kk (sub [1, 1, 1, 1, 0, 1, 0, 0] msg_Check_c)) [2, 4, 9, 39, 40, 41] [4] (k + 1) (msg_Check_h0 t9 t39 t40 t41 bt2 bt4) K =
  msg_Check_s1 t9 t39 t40 t41 bt2 bt4 (fun a0 => K .ret (msg_Check_x0_0 a0)) (fun a0 a1 a2 a3 a4 a5 => loopR (ev msg_Check_E (Tb37 R) kk (sub [1, 1, 1, 1, 0, 1, 0, 0] msg_Check_c)) [2, 4, 9, 39, 40, 41] [4] k (msg_Check_h0 a0 a1 a2 a3 a4 a5) K) (fun a0 => K (.exit 0) (msg_Check_x0_1 a0)) := by kernel_rfl
theorem msg_Check_y0_0 (R : Type) (kk : Nat) (bt4 : Zt4) (K : List SV → Option Box → Option R) : (kBlock 0 (kSeq msg_Check_E (Tb37 R) kk (sub [1, 1, 1, 1, 1] msg_Check_c) (kFin msg_Check_E Tryz.f35.results.toList none K))) .ret (msg_Check_x0_0 bt4) =
  msg_Check_s2 bt4 (fun a0 => K [.dat (.pair (.int .i64) (.pair (.int .i64) .unit)) a0 []] none) := by kernel_rfl
theorem msg_Check_y0_1 (R : Type) (kk : Nat) (bt4 : Zt4) (K : List SV → Option Box → Option R) : (kBlock 0 (kSeq msg_Check_E (Tb37 R) kk (sub [1, 1, 1, 1, 1] msg_Check_c) (kFin msg_Check_E Tryz.f35.results.toList none K))) (.exit 0) (msg_Check_x0_1 bt4) =
  msg_Check_s3 bt4 (fun a0 => K [.dat (.pair (.int .i64) (.pair (.int .i64) .unit)) a0 []] none) := by kernel_rfl
theorem msg_Check_lp0 (R : Type) (k : Nat) (t9 : Int) (t39 : Zt10) (t40 : Int) (t41 : Int) (bt2 : Zt17) (bt4 : Zt4) (K : Ex → State → Option R) : loopR (ev msg_Check_E (Tb37 R) FUEL (sub [1, 1, 1, 1, 0, 1, 0, 0] msg_Check_c)) [2, 4, 9, 39, 40, 41] [4] k (msg_Check_h0 t9 t39 t40 t41 bt2 bt4) K = (msg_Check_l0 k t9 t39 t40 t41 bt2 bt4).bind fun e => (Sum.elim (fun (we : Zt4) => K .ret (msg_Check_x0_0 we)) (fun (we : Zt4) => K (.exit 0) (msg_Check_x0_1 we)) e) := by
  induction k generalizing t9 t39 t40 t41 bt2 bt4 with
  | zero => rfl
  | succ k ih =>
    rw [msg_Check_d0]
    simp only [msg_Check_l0, msg_Check_s0_bind, msg_Check_s1_bind, msg_Check_s2_bind, msg_Check_s3_bind, ih, cond_bind, within_bind, none_bind, some_bind, sum_bind, bind_bind, Sum.elim_inl, Sum.elim_inr]
theorem msg_Check_eq (R : Type) (s_0 : Zt17) (m_1 : Zt16) (K : List SV → Option Box → Option R) : evFn msg_Check_E (Tb37 R) FUEL Tryz.f35 msg_Check_c [.dat y13 s_0 [], .dat y4 m_1 []] none K = (msg_Check s_0 m_1).bind fun r => K [.dat (.pair (.int .i64) (.pair (.int .i64) .unit)) r []] none := by
  rw [msg_Check_t]
  simp only [msg_Check, msg_Check_s0_bind, msg_Check_s1_bind, msg_Check_s2_bind, msg_Check_s3_bind, msg_Check_lp0, msg_Check_y0_0, msg_Check_y0_1, cond_bind, within_bind, none_bind, some_bind, sum_bind, bind_bind, Sum.elim_inl, Sum.elim_inr]
def msg_Check_g : Pure := fun R l b K => noBox b (args2 y13 y4 l (fun x0 x1 => (msg_Check x0 x1).bind fun r => K [.dat (.pair (.int .i64) (.pair (.int .i64) .unit)) r []] none))
theorem msg_Check_n : msg_Check_g.Nat := fun R S l b F G K h => noBox_nat (args2_nat fun _ _ => bindr_nat fun _ => h _ _)
def Tb38 : Funs := Tb37.add 35 [y13, y4] msg_Check_g
theorem Tb38_nat : Tb38.Nat := add_nat Tb37_nat msg_Check_n
theorem Tb38_owes : ∀ f, Owes Tryz.prog Tb38 f := add_owes (E := msg_Check_E) (Tab.env_ok tab_ok _ _ _ _) mixed Tb37_nat Tb37_owes (fn := Tryz.f35) (code := msg_Check_c) Tryz.func35 (by kernel_rfl) (by kernel_rfl) fun l b r b' h => by
  obtain ⟨rfl, h⟩ := noBox_some h
  obtain ⟨x0, x1, h1, h2⟩ := own2 (E := msg_Check_E) rfl h
  exact ⟨FUEL, (h2 _ _ _ _ _ _).trans ((msg_Check_eq _ x0 x1 _).trans h1)⟩
noncomputable abbrev xlate_head_c : Code := Tryz.f36.body.getD .skip
def xlate_head_E : Env := tab.env (fun i => bif Nat.beq i 2 then [1, 9, 10, 11] else []) (fun i => bif Nat.beq i 2 then [4, 5] else []) [] [y14, .str]
def xlate_head_h0 (t_1 : ByteArray) (t9 : Zt13) (t10 : Int) (t11 : Int) : State := ⟨uS 1 ([.dat .str t_1 []]::(uS 7 ([.dat (.sl 56 (.pair .str (.pair .str .unit))) t9 []]::[.dat (.int .i64) t10 []]::[.dat (.int .i64) t11 []]::(uS 10 ([]))))), nS 23 []⟩
def xlate_head_x0_0 (t4 : ByteArray) (t5 : Bool) : State := ⟨uS 4 ([.dat .str t4 []]::[.dat .bool t5 []]::(uS 16 ([]))), nS 23 []⟩
def xlate_head_x0_1  : State := ⟨uS 22 [], nS 23 []⟩
theorem xlate_head_t (R : Type) (kk : Nat) (m_0 : Zt23) (t_1 : ByteArray) (K : List SV → Option Box → Option R) : evFn xlate_head_E (Tb38 R) kk Tryz.f36 xlate_head_c [.dat y14 m_0 [], .dat .str t_1 []] none K =
  xlate_head_s0 m_0 t_1 (fun a0 a1 a2 a3 => loopR (ev xlate_head_E (Tb38 R) kk (sub [1, 0, 1, 0, 0] xlate_head_c)) [1, 9, 10, 11] [4, 5] kk (xlate_head_h0 a0 a1 a2 a3) (kBlock 0 (kSeq xlate_head_E (Tb38 R) kk (sub [1, 1] xlate_head_c) (kFin xlate_head_E Tryz.f36.results.toList none K)))) := by kernel_rfl
theorem xlate_head_d0 (R : Type) (kk k : Nat) (t_1 : ByteArray) (t9 : Zt13) (t10 : Int) (t11 : Int) (K : Ex → State → Option R) : loopR (ev xlate_head_E (Tb38 R) kk (sub [1, 0, 1, 0, 0] xlate_head_c)) [1, 9, 10, 11] [4, 5] (k + 1) (xlate_head_h0 t_1 t9 t10 t11) K =
  xlate_head_s1 t_1 t9 t10 t11 (fun a0 a1 => K .ret (xlate_head_x0_0 a0 a1)) (fun a0 a1 a2 a3 => loopR (ev xlate_head_E (Tb38 R) kk (sub [1, 0, 1, 0, 0] xlate_head_c)) [1, 9, 10, 11] [4, 5] k (xlate_head_h0 a0 a1 a2 a3) K) (K (.exit 0) (xlate_head_x0_1)) := by kernel_rfl
theorem xlate_head_y0_0 (R : Type) (kk : Nat) (t4 : ByteArray) (t5 : Bool) (K : List SV → Option Box → Option R) : (kBlock 0 (kSeq xlate_head_E (Tb38 R) kk (sub [1, 1] xlate_head_c) (kFin xlate_head_E Tryz.f36.results.toList none K))) .ret (xlate_head_x0_0 t4 t5) =
  xlate_head_s2 t4 t5 (fun a0 a1 => K [.dat .str a0 [], .dat .bool a1 []] none) := by kernel_rfl
theorem xlate_head_y0_1 (R : Type) (kk : Nat)  (K : List SV → Option Box → Option R) : (kBlock 0 (kSeq xlate_head_E (Tb38 R) kk (sub [1, 1] xlate_head_c) (kFin xlate_head_E Tryz.f36.results.toList none K))) (.exit 0) (xlate_head_x0_1) =
  xlate_head_s3 (fun a0 a1 => K [.dat .str a0 [], .dat .bool a1 []] none) := by kernel_rfl
theorem xlate_head_lp0 (R : Type) (k : Nat) (t_1 : ByteArray) (t9 : Zt13) (t10 : Int) (t11 : Int) (K : Ex → State → Option R) : loopR (ev xlate_head_E (Tb38 R) FUEL (sub [1, 0, 1, 0, 0] xlate_head_c)) [1, 9, 10, 11] [4, 5] k (xlate_head_h0 t_1 t9 t10 t11) K = (xlate_head_l0 k t_1 t9 t10 t11).bind fun e => (Sum.elim (fun (we : Zt3) => K .ret (xlate_head_x0_0 we.1 we.2)) (fun (we : Unit) => K (.exit 0) (xlate_head_x0_1)) e) := by
  induction k generalizing t_1 t9 t10 t11 with
  | zero => rfl
  | succ k ih =>
    rw [xlate_head_d0]
    simp only [xlate_head_l0, xlate_head_s0_bind, xlate_head_s1_bind, xlate_head_s2_bind, xlate_head_s3_bind, ih, cond_bind, within_bind, none_bind, some_bind, sum_bind, bind_bind, Sum.elim_inl, Sum.elim_inr]
theorem xlate_head_eq (R : Type) (m_0 : Zt23) (t_1 : ByteArray) (K : List SV → Option Box → Option R) : evFn xlate_head_E (Tb38 R) FUEL Tryz.f36 xlate_head_c [.dat y14 m_0 [], .dat .str t_1 []] none K = (xlate_head m_0 t_1).bind fun r => K [.dat .str r.1 [], .dat .bool r.2 []] none := by
  rw [xlate_head_t]
  simp only [xlate_head, xlate_head_s0_bind, xlate_head_s1_bind, xlate_head_s2_bind, xlate_head_s3_bind, xlate_head_lp0, xlate_head_y0_0, xlate_head_y0_1, cond_bind, within_bind, none_bind, some_bind, sum_bind, bind_bind, Sum.elim_inl, Sum.elim_inr]
def xlate_head_g : Pure := fun R l b K => noBox b (args2 y14 .str l (fun x0 x1 => (xlate_head x0 x1).bind fun r => K [.dat .str r.1 [], .dat .bool r.2 []] none))
theorem xlate_head_n : xlate_head_g.Nat := fun R S l b F G K h => noBox_nat (args2_nat fun _ _ => bindr_nat fun _ => h _ _)
def Tb39 : Funs := Tb38.add 36 [y14, .str] xlate_head_g
theorem Tb39_nat : Tb39.Nat := add_nat Tb38_nat xlate_head_n
theorem Tb39_owes : ∀ f, Owes Tryz.prog Tb39 f := add_owes (E := xlate_head_E) (Tab.env_ok tab_ok _ _ _ _) mixed Tb38_nat Tb38_owes (fn := Tryz.f36) (code := xlate_head_c) Tryz.func36 (by kernel_rfl) (by kernel_rfl) fun l b r b' h => by
  obtain ⟨rfl, h⟩ := noBox_some h
  obtain ⟨x0, x1, h1, h2⟩ := own2 (E := xlate_head_E) rfl h
  exact ⟨FUEL, (h2 _ _ _ _ _ _).trans ((xlate_head_eq _ x0 x1 _).trans h1)⟩
noncomputable abbrev msg_Without_c : Code := Tryz.f62.body.getD .skip
def msg_Without_E : Env := tab.env (fun i => bif Nat.beq i 3 then [1, 4, 5, 12, 13, 14] else []) (fun i => bif Nat.beq i 3 then [4, 5] else []) [4] [y4, (.int .i64)]
def msg_Without_h0 (no_1 : Int) (t12 : Zt10) (t13 : Int) (t14 : Int) (bt4 : Zt16) (bt5 : Zt16) : State := ⟨uS 1 ([.dat (.int .i64) no_1 []]::(uS 2 ([.ptr 5 y4 []]::[.ptr 6 y4 []]::(uS 6 ([.dat (.sl 53 (.pair (.int .i64) (.pair .str .unit))) t12 []]::[.dat (.int .i64) t13 []]::[.dat (.int .i64) t14 []]::(uS 15 ([]))))))), nS 5 ((some ⟨y4, bt4, [[1]]⟩)::(some ⟨y4, bt5, [[1]]⟩)::(nS 24 ([])))⟩
def msg_Without_x0_0 (bt4 : Zt16) (bt5 : Zt16) : State := ⟨uS 4 ([.ptr 5 y4 []]::[.ptr 6 y4 []]::(uS 24 ([]))), nS 5 ((some ⟨y4, bt4, [[1]]⟩)::(some ⟨y4, bt5, [[1]]⟩)::(nS 24 ([])))⟩
theorem msg_Without_t (R : Type) (kk : Nat) (m_0 : Zt16) (no_1 : Int) (K : List SV → Option Box → Option R) : evFn msg_Without_E (Tb39 R) kk Tryz.f62 msg_Without_c [.dat y4 m_0 [], .dat (.int .i64) no_1 []] none K =
  msg_Without_s0 m_0 no_1 (fun a0 a1 a2 a3 a4 a5 => loopR (ev msg_Without_E (Tb39 R) kk (sub [1, 1, 0, 1, 0, 0] msg_Without_c)) [1, 4, 5, 12, 13, 14] [4, 5] kk (msg_Without_h0 a0 a1 a2 a3 a4 a5) (kBlock 0 (kSeq msg_Without_E (Tb39 R) kk (sub [1, 1, 1] msg_Without_c) (kFin msg_Without_E Tryz.f62.results.toList none K)))) := by kernel_rfl
theorem msg_Without_d0 (R : Type) (kk k : Nat) (no_1 : Int) (t12 : Zt10) (t13 : Int) (t14 : Int) (bt4 : Zt16) (bt5 : Zt16) (K : Ex → State → Option R) : loopR (ev msg_Without_E (Tb39 R) kk (sub [1, 1, 0, 1, 0, 0] msg_Without_c)) [1, 4, 5, 12, 13, 14] [4, 5] (k + 1) (msg_Without_h0 no_1 t12 t13 t14 bt4 bt5) K =
  msg_Without_s1 no_1 t12 t13 t14 bt4 bt5 (fun a0 a1 a2 a3 a4 a5 => loopR (ev msg_Without_E (Tb39 R) kk (sub [1, 1, 0, 1, 0, 0] msg_Without_c)) [1, 4, 5, 12, 13, 14] [4, 5] k (msg_Without_h0 a0 a1 a2 a3 a4 a5) K) (fun a0 a1 => K (.exit 0) (msg_Without_x0_0 a0 a1)) := by kernel_rfl
theorem msg_Without_y0_0 (R : Type) (kk : Nat) (bt4 : Zt16) (bt5 : Zt16) (K : List SV → Option Box → Option R) : (kBlock 0 (kSeq msg_Without_E (Tb39 R) kk (sub [1, 1, 1] msg_Without_c) (kFin msg_Without_E Tryz.f62.results.toList none K))) (.exit 0) (msg_Without_x0_0 bt4 bt5) =
  msg_Without_s2 bt4 bt5 (fun a0 => K [.dat y4 a0 [[1]]] none) := by kernel_rfl
theorem msg_Without_lp0 (R : Type) (k : Nat) (no_1 : Int) (t12 : Zt10) (t13 : Int) (t14 : Int) (bt4 : Zt16) (bt5 : Zt16) (K : Ex → State → Option R) : loopR (ev msg_Without_E (Tb39 R) FUEL (sub [1, 1, 0, 1, 0, 0] msg_Without_c)) [1, 4, 5, 12, 13, 14] [4, 5] k (msg_Without_h0 no_1 t12 t13 t14 bt4 bt5) K = (msg_Without_l0 k no_1 t12 t13 t14 bt4 bt5).bind fun e => K (.exit 0) (msg_Without_x0_0 e.1 e.2) := by
  induction k generalizing no_1 t12 t13 t14 bt4 bt5 with
  | zero => rfl
  | succ k ih =>
    rw [msg_Without_d0]
    simp only [msg_Without_l0, msg_Without_s0_bind, msg_Without_s1_bind, msg_Without_s2_bind, ih, cond_bind, within_bind, none_bind, some_bind, sum_bind, bind_bind, Sum.elim_inl, Sum.elim_inr]
theorem msg_Without_eq (R : Type) (m_0 : Zt16) (no_1 : Int) (K : List SV → Option Box → Option R) : evFn msg_Without_E (Tb39 R) FUEL Tryz.f62 msg_Without_c [.dat y4 m_0 [], .dat (.int .i64) no_1 []] none K = (msg_Without m_0 no_1).bind fun r => K [.dat y4 r [[1]]] none := by
  rw [msg_Without_t]
  simp only [msg_Without, msg_Without_s0_bind, msg_Without_s1_bind, msg_Without_s2_bind, msg_Without_lp0, msg_Without_y0_0, cond_bind, within_bind, none_bind, some_bind, sum_bind, bind_bind, Sum.elim_inl, Sum.elim_inr]
def msg_Without_g : Pure := fun R l b K => noBox b (args2 y4 (.int .i64) l (fun x0 x1 => (msg_Without x0 x1).bind fun r => K [.dat y4 r [[1]]] none))
theorem msg_Without_n : msg_Without_g.Nat := fun R S l b F G K h => noBox_nat (args2_nat fun _ _ => bindr_nat fun _ => h _ _)
def Tb40 : Funs := Tb39.add 62 [y4, (.int .i64)] msg_Without_g
theorem Tb40_nat : Tb40.Nat := add_nat Tb39_nat msg_Without_n
theorem Tb40_owes : ∀ f, Owes Tryz.prog Tb40 f := add_owes (E := msg_Without_E) (Tab.env_ok tab_ok _ _ _ _) mixed Tb39_nat Tb39_owes (fn := Tryz.f62) (code := msg_Without_c) Tryz.func62 (by kernel_rfl) (by kernel_rfl) fun l b r b' h => by
  obtain ⟨rfl, h⟩ := noBox_some h
  obtain ⟨x0, x1, h1, h2⟩ := own2 (E := msg_Without_E) rfl h
  exact ⟨FUEL, (h2 _ _ _ _ _ _).trans ((msg_Without_eq _ x0 x1 _).trans h1)⟩
noncomputable abbrev msg_With_1_c : Code := Tryz.f64.body.getD .skip
def msg_With_1_E : Env := tab.env (fun _ => []) (fun _ => []) [] [(.pair (.int .i64) (.pair .str .unit)), .unit]
theorem msg_With_1_t (R : Type) (kk : Nat) (x_0 : Zt6) (free_1 : Int) (K : List SV → Option Box → Option R) : evFn msg_With_1_E (Tb40 R) kk Tryz.f64 msg_With_1_c [.dat (.pair (.int .i64) (.pair .str .unit)) x_0 [], .ptr 0 (.int .i64) []] (some ⟨(.int .i64), free_1, []⟩) K =
  msg_With_1_s0 x_0 free_1 (fun a0 a1 => K [.dat .bool a0 []] (some ⟨(.int .i64), a1, []⟩)) := by kernel_rfl
theorem msg_With_1_eq (R : Type) (x_0 : Zt6) (free_1 : Int) (K : List SV → Option Box → Option R) : evFn msg_With_1_E (Tb40 R) FUEL Tryz.f64 msg_With_1_c [.dat (.pair (.int .i64) (.pair .str .unit)) x_0 [], .ptr 0 (.int .i64) []] (some ⟨(.int .i64), free_1, []⟩) K = (msg_With_1 x_0 free_1).bind fun r => K [.dat .bool r.1 []] (some ⟨(.int .i64), r.2, []⟩) := by
  rw [msg_With_1_t]
  simp only [msg_With_1, msg_With_1_s0_bind, cond_bind, within_bind, none_bind, some_bind, sum_bind, bind_bind, Sum.elim_inl, Sum.elim_inr]
def msg_With_1_g : Pure := fun R l b K => argZ1 (.pair (.int .i64) (.pair .str .unit)) (.int .i64) (.int .i64) [] l b fun x0 x => (msg_With_1 x0 x).bind fun r => K [.dat .bool r.1 []] (some ⟨(.int .i64), r.2, []⟩)
theorem msg_With_1_n : msg_With_1_g.Nat := fun R S l b F G K h => argZ1_nat fun _ _ => bindr_nat fun _ => h _ _
def Tb41 : Funs := Tb40.add 64 [(.pair (.int .i64) (.pair .str .unit)), .unit] msg_With_1_g
theorem Tb41_nat : Tb41.Nat := add_nat Tb40_nat msg_With_1_n
theorem Tb41_owes : ∀ f, Owes Tryz.prog Tb41 f := add_owes (E := msg_With_1_E) (Tab.env_ok tab_ok _ _ _ _) mixed Tb40_nat Tb40_owes (fn := Tryz.f64) (code := msg_With_1_c) Tryz.func64 (by kernel_rfl) (by kernel_rfl) fun l b r b' h => by
  obtain ⟨x0, x, rfl, h1, h2⟩ := ownZ1 (E := msg_With_1_E) rfl h
  exact ⟨FUEL, (h2 _ _ _ _ _ _).trans ((msg_With_1_eq _ x0 x _).trans h1)⟩
noncomputable abbrev slices_IndexFunc_api_Value_api_Value_at_msg_With_1_c : Code := Tryz.f63.body.getD .skip
def slices_IndexFunc_api_Value_api_Value_at_msg_With_1_E : Env := tab.env (fun i => bif Nat.beq i 2 then [0, 1, 7, 8] else []) (fun i => bif Nat.beq i 2 then [4] else []) [] [(.sl 53 (.pair (.int .i64) (.pair .str .unit))), .unit]
def slices_IndexFunc_api_Value_api_Value_at_msg_With_1_h0 (a_0 : Zt10) (t7 : Int) (t8 : Int) (recv : Int) : State := ⟨[.dat (.sl 53 (.pair (.int .i64) (.pair .str .unit))) a_0 []]::[.ptr 0 (.spc (.clo 64) (.int .i64) .unit) []]::(uS 5 ([.dat (.int .i64) t7 []]::[.dat (.int .i64) t8 []]::(uS 10 ([])))), (some ⟨(.int .i64), recv, []⟩)::(nS 19 ([]))⟩
def slices_IndexFunc_api_Value_api_Value_at_msg_With_1_x0_0 (t4 : Int) (recv : Int) : State := ⟨uS 4 ([.dat (.int .i64) t4 []]::(uS 14 ([]))), (some ⟨(.int .i64), recv, []⟩)::(nS 19 ([]))⟩
def slices_IndexFunc_api_Value_api_Value_at_msg_With_1_x0_1 (recv : Int) : State := ⟨uS 19 [], (some ⟨(.int .i64), recv, []⟩)::(nS 19 ([]))⟩
theorem slices_IndexFunc_api_Value_api_Value_at_msg_With_1_t (R : Type) (kk : Nat) (a_0 : Zt10) (a_1 : Int) (K : List SV → Option Box → Option R) : evFn slices_IndexFunc_api_Value_api_Value_at_msg_With_1_E (Tb41 R) kk Tryz.f63 slices_IndexFunc_api_Value_api_Value_at_msg_With_1_c [.dat (.sl 53 (.pair (.int .i64) (.pair .str .unit))) a_0 [], .ptr 0 (.spc (.clo 64) (.int .i64) .unit) []] (some ⟨(.int .i64), a_1, []⟩) K =
  slices_IndexFunc_api_Value_api_Value_at_msg_With_1_s0 a_0 a_1 (fun a0 a1 a2 a3 => loopR (ev slices_IndexFunc_api_Value_api_Value_at_msg_With_1_E (Tb41 R) kk (sub [1, 0, 1, 0, 0] slices_IndexFunc_api_Value_api_Value_at_msg_With_1_c)) [0, 1, 7, 8] [4] kk (slices_IndexFunc_api_Value_api_Value_at_msg_With_1_h0 a0 a1 a2 a3) (kBlock 0 (kSeq slices_IndexFunc_api_Value_api_Value_at_msg_With_1_E (Tb41 R) kk (sub [1, 1] slices_IndexFunc_api_Value_api_Value_at_msg_With_1_c) (kFin slices_IndexFunc_api_Value_api_Value_at_msg_With_1_E Tryz.f63.results.toList (some ⟨(.int .i64), a_1, []⟩) K)))) := by kernel_rfl
theorem slices_IndexFunc_api_Value_api_Value_at_msg_With_1_d0 (R : Type) (kk k : Nat) (a_0 : Zt10) (t7 : Int) (t8 : Int) (recv : Int) (K : Ex → State → Option R) : loopR (ev slices_IndexFunc_api_Value_api_Value_at_msg_With_1_E (Tb41 R) kk (sub [1, 0, 1, 0, 0] slices_IndexFunc_api_Value_api_Value_at_msg_With_1_c)) [0, 1, 7, 8] [4] (k + 1) (slices_IndexFunc_api_Value_api_Value_at_msg_With_1_h0 a_0 t7 t8 recv) K =
  slices_IndexFunc_api_Value_api_Value_at_msg_With_1_s1 a_0 t7 t8 recv (fun a0 a1 => K .ret (slices_IndexFunc_api_Value_api_Value_at_msg_With_1_x0_0 a0 a1)) (fun a0 a1 a2 a3 => loopR (ev slices_IndexFunc_api_Value_api_Value_at_msg_With_1_E (Tb41 R) kk (sub [1, 0, 1, 0, 0] slices_IndexFunc_api_Value_api_Value_at_msg_With_1_c)) [0, 1, 7, 8] [4] k (slices_IndexFunc_api_Value_api_Value_at_msg_With_1_h0 a0 a1 a2 a3) K) (fun a0 => K (.exit 0) (slices_IndexFunc_api_Value_api_Value_at_msg_With_1_x0_1 a0)) := by kernel_rfl
theorem slices_IndexFunc_api_Value_api_Value_at_msg_With_1_y0_0 (R : Type) (kk : Nat) (x0 : Int) (t4 : Int) (recv : Int) (K : List SV → Option Box → Option R) : (kBlock 0 (kSeq slices_IndexFunc_api_Value_api_Value_at_msg_With_1_E (Tb41 R) kk (sub [1, 1] slices_IndexFunc_api_Value_api_Value_at_msg_With_1_c) (kFin slices_IndexFunc_api_Value_api_Value_at_msg_With_1_E Tryz.f63.results.toList (some ⟨(.int .i64), x0, []⟩) K))) .ret (slices_IndexFunc_api_Value_api_Value_at_msg_With_1_x0_0 t4 recv) =
  slices_IndexFunc_api_Value_api_Value_at_msg_With_1_s2 t4 recv (fun a0 a1 => K [.dat (.int .i64) a0 []] (some ⟨(.int .i64), a1, []⟩)) := by kernel_rfl
theorem slices_IndexFunc_api_Value_api_Value_at_msg_With_1_y0_1 (R : Type) (kk : Nat) (x0 : Int) (recv : Int) (K : List SV → Option Box → Option R) : (kBlock 0 (kSeq slices_IndexFunc_api_Value_api_Value_at_msg_With_1_E (Tb41 R) kk (sub [1, 1] slices_IndexFunc_api_Value_api_Value_at_msg_With_1_c) (kFin slices_IndexFunc_api_Value_api_Value_at_msg_With_1_E Tryz.f63.results.toList (some ⟨(.int .i64), x0, []⟩) K))) (.exit 0) (slices_IndexFunc_api_Value_api_Value_at_msg_With_1_x0_1 recv) =
  slices_IndexFunc_api_Value_api_Value_at_msg_With_1_s3 recv (fun a0 a1 => K [.dat (.int .i64) a0 []] (some ⟨(.int .i64), a1, []⟩)) := by kernel_rfl
theorem slices_IndexFunc_api_Value_api_Value_at_msg_With_1_lp0 (R : Type) (k : Nat) (a_0 : Zt10) (t7 : Int) (t8 : Int) (recv : Int) (K : Ex → State → Option R) : loopR (ev slices_IndexFunc_api_Value_api_Value_at_msg_With_1_E (Tb41 R) FUEL (sub [1, 0, 1, 0, 0] slices_IndexFunc_api_Value_api_Value_at_msg_With_1_c)) [0, 1, 7, 8] [4] k (slices_IndexFunc_api_Value_api_Value_at_msg_With_1_h0 a_0 t7 t8 recv) K = (slices_IndexFunc_api_Value_api_Value_at_msg_With_1_l0 k a_0 t7 t8 recv).bind fun e => (Sum.elim (fun (we : (Int × Int)) => K .ret (slices_IndexFunc_api_Value_api_Value_at_msg_With_1_x0_0 we.1 we.2)) (fun (we : Int) => K (.exit 0) (slices_IndexFunc_api_Value_api_Value_at_msg_With_1_x0_1 we)) e) := by
  induction k generalizing a_0 t7 t8 recv with
  | zero => rfl
  | succ k ih =>
    rw [slices_IndexFunc_api_Value_api_Value_at_msg_With_1_d0]
    simp only [slices_IndexFunc_api_Value_api_Value_at_msg_With_1_l0, slices_IndexFunc_api_Value_api_Value_at_msg_With_1_s0_bind, slices_IndexFunc_api_Value_api_Value_at_msg_With_1_s1_bind, slices_IndexFunc_api_Value_api_Value_at_msg_With_1_s2_bind, slices_IndexFunc_api_Value_api_Value_at_msg_With_1_s3_bind, ih, cond_bind, within_bind, none_bind, some_bind, sum_bind, bind_bind, Sum.elim_inl, Sum.elim_inr]
theorem slices_IndexFunc_api_Value_api_Value_at_msg_With_1_eq (R : Type) (a_0 : Zt10) (a_1 : Int) (K : List SV → Option Box → Option R) : evFn slices_IndexFunc_api_Value_api_Value_at_msg_With_1_E (Tb41 R) FUEL Tryz.f63 slices_IndexFunc_api_Value_api_Value_at_msg_With_1_c [.dat (.sl 53 (.pair (.int .i64) (.pair .str .unit))) a_0 [], .ptr 0 (.spc (.clo 64) (.int .i64) .unit) []] (some ⟨(.int .i64), a_1, []⟩) K = (slices_IndexFunc_api_Value_api_Value_at_msg_With_1 a_0 a_1).bind fun r => K [.dat (.int .i64) r.1 []] (some ⟨(.int .i64), r.2, []⟩) := by
  rw [slices_IndexFunc_api_Value_api_Value_at_msg_With_1_t]
  simp only [slices_IndexFunc_api_Value_api_Value_at_msg_With_1, slices_IndexFunc_api_Value_api_Value_at_msg_With_1_s0_bind, slices_IndexFunc_api_Value_api_Value_at_msg_With_1_s1_bind, slices_IndexFunc_api_Value_api_Value_at_msg_With_1_s2_bind, slices_IndexFunc_api_Value_api_Value_at_msg_With_1_s3_bind, slices_IndexFunc_api_Value_api_Value_at_msg_With_1_lp0, slices_IndexFunc_api_Value_api_Value_at_msg_With_1_y0_0, slices_IndexFunc_api_Value_api_Value_at_msg_With_1_y0_1, cond_bind, within_bind, none_bind, some_bind, sum_bind, bind_bind, Sum.elim_inl, Sum.elim_inr]
def slices_IndexFunc_api_Value_api_Value_at_msg_With_1_g : Pure := fun R l b K => argZ1 (.sl 53 (.pair (.int .i64) (.pair .str .unit))) (.spc (.clo 64) (.int .i64) .unit) (.int .i64) [] l b fun x0 x => (slices_IndexFunc_api_Value_api_Value_at_msg_With_1 x0 x).bind fun r => K [.dat (.int .i64) r.1 []] (some ⟨(.int .i64), r.2, []⟩)
theorem slices_IndexFunc_api_Value_api_Value_at_msg_With_1_n : slices_IndexFunc_api_Value_api_Value_at_msg_With_1_g.Nat := fun R S l b F G K h => argZ1_nat fun _ _ => bindr_nat fun _ => h _ _
def Tb42 : Funs := Tb41.add 63 [(.sl 53 (.pair (.int .i64) (.pair .str .unit))), .unit] slices_IndexFunc_api_Value_api_Value_at_msg_With_1_g
theorem Tb42_nat : Tb42.Nat := add_nat Tb41_nat slices_IndexFunc_api_Value_api_Value_at_msg_With_1_n
theorem Tb42_owes : ∀ f, Owes Tryz.prog Tb42 f := add_owes (E := slices_IndexFunc_api_Value_api_Value_at_msg_With_1_E) (Tab.env_ok tab_ok _ _ _ _) mixed Tb41_nat Tb41_owes (fn := Tryz.f63) (code := slices_IndexFunc_api_Value_api_Value_at_msg_With_1_c) Tryz.func63 (by kernel_rfl) (by kernel_rfl) fun l b r b' h => by
  obtain ⟨x0, x, rfl, h1, h2⟩ := ownZ1 (E := slices_IndexFunc_api_Value_api_Value_at_msg_With_1_E) rfl h
  exact ⟨FUEL, (h2 _ _ _ _ _ _).trans ((slices_IndexFunc_api_Value_api_Value_at_msg_With_1_eq _ x0 x _).trans h1)⟩
noncomputable abbrev msg_With_c : Code := Tryz.f37.body.getD .skip
def msg_With_E : Env := { tab.env (fun _ => []) (fun _ => []) [6] [y4, (.int .i64), .str] with fz := fun i => bif Nat.beq i 9 then some (9, 39) else none }
theorem msg_With_t (R : Type) (kk : Nat) (m_0 : Zt16) (no_1 : Int) (text_2 : ByteArray) (K : List SV → Option Box → Option R) : evFn msg_With_E (Tb42 R) kk Tryz.f37 msg_With_c [.dat y4 m_0 [], .dat (.int .i64) no_1 [], .dat .str text_2 []] none K =
  msg_With_s0 m_0 no_1 text_2 (fun a0 => K [.dat y4 a0 []] none) := by kernel_rfl
theorem msg_With_eq (R : Type) (m_0 : Zt16) (no_1 : Int) (text_2 : ByteArray) (K : List SV → Option Box → Option R) : evFn msg_With_E (Tb42 R) FUEL Tryz.f37 msg_With_c [.dat y4 m_0 [], .dat (.int .i64) no_1 [], .dat .str text_2 []] none K = (msg_With m_0 no_1 text_2).bind fun r => K [.dat y4 r []] none := by
  rw [msg_With_t]
  simp only [msg_With, msg_With_s0_bind, cond_bind, within_bind, none_bind, some_bind, sum_bind, bind_bind, Sum.elim_inl, Sum.elim_inr]
def msg_With_g : Pure := fun R l b K => noBox b (args3 y4 (.int .i64) .str l (fun x0 x1 x2 => (msg_With x0 x1 x2).bind fun r => K [.dat y4 r []] none))
theorem msg_With_n : msg_With_g.Nat := fun R S l b F G K h => noBox_nat (args3_nat fun _ _ _ => bindr_nat fun _ => h _ _)
def Tb43 : Funs := Tb42.add 37 [y4, (.int .i64), .str] msg_With_g
theorem Tb43_nat : Tb43.Nat := add_nat Tb42_nat msg_With_n
theorem Tb43_owes : ∀ f, Owes Tryz.prog Tb43 f := add_owes (E := msg_With_E) ((Tab.env_ok tab_ok _ _ _ _).fz _) mixed Tb42_nat Tb42_owes (fn := Tryz.f37) (code := msg_With_c) Tryz.func37 (by kernel_rfl) (by kernel_rfl) fun l b r b' h => by
  obtain ⟨rfl, h⟩ := noBox_some h
  obtain ⟨x0, x1, x2, h1, h2⟩ := own3 (E := msg_With_E) rfl h
  exact ⟨FUEL, (h2 _ _ _ _ _ _).trans ((msg_With_eq _ x0 x1 x2 _).trans h1)⟩
noncomputable abbrev xlate_find_c : Code := Tryz.f38.body.getD .skip
def xlate_find_E : Env := { tab.env (fun i => bif Nat.beq i 2 then [1, 4, 9, 10, 11] else []) (fun i => bif Nat.beq i 2 then [4, 5] else []) [4] [y14, (.int .i64)] with ro := true }
def xlate_find_h0 (no_1 : Int) (t9 : Zt21) (t10 : Int) (t11 : Int) (bt4 : Zt19) : State := ⟨uS 1 ([.dat (.int .i64) no_1 []]::(uS 2 ([.ptr 5 y9 []]::(uS 4 ([.dat (.sl 58 y9) t9 []]::[.dat (.int .i64) t10 []]::[.dat (.int .i64) t11 []]::(uS 10 ([]))))))), nS 5 ((some ⟨y9, bt4, [[4]]⟩)::(nS 17 ([])))⟩
def xlate_find_x0_0 (t5 : Bool) (bt4 : Zt19) : State := ⟨uS 4 ([.ptr 5 y9 []]::[.dat .bool t5 []]::(uS 16 ([]))), nS 5 ((some ⟨y9, bt4, []⟩)::(nS 17 ([])))⟩
def xlate_find_x0_1 (bt4 : Zt19) : State := ⟨uS 4 ([.ptr 5 y9 []]::(uS 17 ([]))), nS 5 ((some ⟨y9, bt4, [[4]]⟩)::(nS 17 ([])))⟩
theorem xlate_find_t (R : Type) (kk : Nat) (m_0 : Zt23) (no_1 : Int) (K : List SV → Option Box → Option R) : evFn xlate_find_E (Tb43 R) kk Tryz.f38 xlate_find_c [.dat y14 m_0 [], .dat (.int .i64) no_1 []] none K =
  xlate_find_s0 m_0 no_1 (fun a0 a1 a2 a3 a4 => loopR (ev xlate_find_E (Tb43 R) kk (sub [1, 0, 1, 0, 0] xlate_find_c)) [1, 4, 9, 10, 11] [4, 5] kk (xlate_find_h0 a0 a1 a2 a3 a4) (kBlock 0 (kSeq xlate_find_E (Tb43 R) kk (sub [1, 1] xlate_find_c) (kFin xlate_find_E Tryz.f38.results.toList none K)))) := by kernel_rfl
theorem xlate_find_d0 (R : Type) (kk k : Nat) (no_1 : Int) (t9 : Zt21) (t10 : Int) (t11 : Int) (bt4 : Zt19) (K : Ex → State → Option R) : loopR (ev xlate_find_E (Tb43 R) kk (sub [1, 0, 1, 0, 0] xlate_find_c)) [1, 4, 9, 10, 11] [4, 5] (k + 1) (xlate_find_h0 no_1 t9 t10 t11 bt4) K =
  xlate_find_s1 no_1 t9 t10 t11 bt4 (fun a0 a1 => K .ret (xlate_find_x0_0 a0 a1)) (fun a0 a1 a2 a3 a4 => loopR (ev xlate_find_E (Tb43 R) kk (sub [1, 0, 1, 0, 0] xlate_find_c)) [1, 4, 9, 10, 11] [4, 5] k (xlate_find_h0 a0 a1 a2 a3 a4) K) (fun a0 => K (.exit 0) (xlate_find_x0_1 a0)) := by kernel_rfl
theorem xlate_find_y0_0 (R : Type) (kk : Nat) (t5 : Bool) (bt4 : Zt19) (K : List SV → Option Box → Option R) : (kBlock 0 (kSeq xlate_find_E (Tb43 R) kk (sub [1, 1] xlate_find_c) (kFin xlate_find_E Tryz.f38.results.toList none K))) .ret (xlate_find_x0_0 t5 bt4) =
  xlate_find_s2 t5 bt4 (fun a0 a1 => K [.dat y9 a0 [], .dat .bool a1 []] none) := by kernel_rfl
theorem xlate_find_y0_1 (R : Type) (kk : Nat) (bt4 : Zt19) (K : List SV → Option Box → Option R) : (kBlock 0 (kSeq xlate_find_E (Tb43 R) kk (sub [1, 1] xlate_find_c) (kFin xlate_find_E Tryz.f38.results.toList none K))) (.exit 0) (xlate_find_x0_1 bt4) =
  xlate_find_s3 bt4 (fun a0 a1 => K [.dat y9 a0 [], .dat .bool a1 []] none) := by kernel_rfl
theorem xlate_find_lp0 (R : Type) (k : Nat) (no_1 : Int) (t9 : Zt21) (t10 : Int) (t11 : Int) (bt4 : Zt19) (K : Ex → State → Option R) : loopR (ev xlate_find_E (Tb43 R) FUEL (sub [1, 0, 1, 0, 0] xlate_find_c)) [1, 4, 9, 10, 11] [4, 5] k (xlate_find_h0 no_1 t9 t10 t11 bt4) K = (xlate_find_l0 k no_1 t9 t10 t11 bt4).bind fun e => (Sum.elim (fun (we : (Bool × Zt19)) => K .ret (xlate_find_x0_0 we.1 we.2)) (fun (we : Zt19) => K (.exit 0) (xlate_find_x0_1 we)) e) := by
  induction k generalizing no_1 t9 t10 t11 bt4 with
  | zero => rfl
  | succ k ih =>
    rw [xlate_find_d0]
    simp only [xlate_find_l0, xlate_find_s0_bind, xlate_find_s1_bind, xlate_find_s2_bind, xlate_find_s3_bind, ih, cond_bind, within_bind, none_bind, some_bind, sum_bind, bind_bind, Sum.elim_inl, Sum.elim_inr]
theorem xlate_find_eq (R : Type) (m_0 : Zt23) (no_1 : Int) (K : List SV → Option Box → Option R) : evFn xlate_find_E (Tb43 R) FUEL Tryz.f38 xlate_find_c [.dat y14 m_0 [], .dat (.int .i64) no_1 []] none K = (xlate_find m_0 no_1).bind fun r => K [.dat y9 r.1 [], .dat .bool r.2 []] none := by
  rw [xlate_find_t]
  simp only [xlate_find, xlate_find_s0_bind, xlate_find_s1_bind, xlate_find_s2_bind, xlate_find_s3_bind, xlate_find_lp0, xlate_find_y0_0, xlate_find_y0_1, cond_bind, within_bind, none_bind, some_bind, sum_bind, bind_bind, Sum.elim_inl, Sum.elim_inr]
def xlate_find_g : Pure := fun R l b K => noBox b (args2 y14 (.int .i64) l (fun x0 x1 => (xlate_find x0 x1).bind fun r => K [.dat y9 r.1 [], .dat .bool r.2 []] none))
theorem xlate_find_n : xlate_find_g.Nat := fun R S l b F G K h => noBox_nat (args2_nat fun _ _ => bindr_nat fun _ => h _ _)
def Tb44 : Funs := Tb43.add 38 [y14, (.int .i64)] xlate_find_g
theorem Tb44_nat : Tb44.Nat := add_nat Tb43_nat xlate_find_n
theorem Tb44_owes : ∀ f, Owes Tryz.prog Tb44 f := add_owes (E := xlate_find_E) ((Tab.env_ok tab_ok _ _ _ _).ro _) mixed Tb43_nat Tb43_owes (fn := Tryz.f38) (code := xlate_find_c) Tryz.func38 (by kernel_rfl) (by kernel_rfl) fun l b r b' h => by
  obtain ⟨rfl, h⟩ := noBox_some h
  obtain ⟨x0, x1, h1, h2⟩ := own2 (E := xlate_find_E) rfl h
  exact ⟨FUEL, (h2 _ _ _ _ _ _).trans ((xlate_find_eq _ x0 x1 _).trans h1)⟩
def Tryz.laysRepeat_ren : Go.Shelf.Ren := ⟨fun | 105 => 82 | 212 => 95 | 99 => 96 | 165 => 97 | 166 => 98 | 170 => 99 | 169 => 100 | 263 => 112 | 264 => 113 | 206 => 114 | 240 => 115 | 241 => 116 | 276 => 121 | 277 => 122 | n => n, fun | 9 => 9 | 3 => 3 | 4 => 4 | 20 => 20 | 0 => 0 | 46 => 140 | 109 => 141 | 5 => 5 | 72 => 147 | 76 => 151 | 51 => 162 | 146 => 163 | 53 => 65 | 148 => 165 | 70 => 144 | 37 => 145 | 75 => 150 | 127 => 167 | 164 => 171 | 80 => 154 | n => n, fun n => n⟩
theorem Tryz.laysRepeat : Go.Proofs.Lays.n105 Go.Proofs.Tryz.prog Tryz.laysRepeat_ren := {
  mixed := by kernel_rfl,
  f99 := Go.Proofs.Tryz.func96.trans (congrArg some (by kernel_rfl)),
  f105 := Go.Proofs.Tryz.func82.trans (congrArg some (by kernel_rfl)),
  f165 := Go.Proofs.Tryz.func97.trans (congrArg some (by kernel_rfl)),
  f166 := Go.Proofs.Tryz.func98.trans (congrArg some (by kernel_rfl)),
  f169 := Go.Proofs.Tryz.func100.trans (congrArg some (by kernel_rfl)),
  f170 := Go.Proofs.Tryz.func99.trans (congrArg some (by kernel_rfl)),
  f206 := Go.Proofs.Tryz.func114.trans (congrArg some (by kernel_rfl)),
  f212 := Go.Proofs.Tryz.func95.trans (congrArg some (by kernel_rfl)),
  f240 := Go.Proofs.Tryz.func115.trans (congrArg some (by kernel_rfl)),
  f241 := Go.Proofs.Tryz.func116.trans (congrArg some (by kernel_rfl)),
  f263 := Go.Proofs.Tryz.func112.trans (congrArg some (by kernel_rfl)),
  f264 := Go.Proofs.Tryz.func113.trans (congrArg some (by kernel_rfl)),
  f276 := Go.Proofs.Tryz.func121.trans (congrArg some (by kernel_rfl)),
  f277 := Go.Proofs.Tryz.func122.trans (congrArg some (by kernel_rfl)),
  t0 := Go.Proofs.Tryz.underlying0,
  a0 := Go.Proofs.Tryz.isAgg0,
  z0 := Go.Proofs.Tryz.sizeOf0,
  v0 := Go.Proofs.Tryz.zeroValue0,
  t3 := Go.Proofs.Tryz.underlying3,
  a3 := Go.Proofs.Tryz.isAgg3,
  z3 := Go.Proofs.Tryz.sizeOf3,
  v3 := Go.Proofs.Tryz.zeroValue3,
  t4 := Go.Proofs.Tryz.underlying4,
  a4 := Go.Proofs.Tryz.isAgg4,
  z4 := Go.Proofs.Tryz.sizeOf4,
  v4 := Go.Proofs.Tryz.zeroValue4,
  t5 := Go.Proofs.Tryz.underlying5,
  a5 := Go.Proofs.Tryz.isAgg5,
  z5 := Go.Proofs.Tryz.sizeOf5,
  v5 := Go.Proofs.Tryz.zeroValue5,
  t9 := Go.Proofs.Tryz.underlying9,
  a9 := Go.Proofs.Tryz.isAgg9,
  z9 := Go.Proofs.Tryz.sizeOf9,
  v9 := Go.Proofs.Tryz.zeroValue9,
  t20 := Go.Proofs.Tryz.underlying20,
  a20 := Go.Proofs.Tryz.isAgg20,
  z20 := Go.Proofs.Tryz.sizeOf20,
  v20 := Go.Proofs.Tryz.zeroValue20,
  t37 := Go.Proofs.Tryz.underlying145,
  a37 := Go.Proofs.Tryz.isAgg145,
  z37 := Go.Proofs.Tryz.sizeOf145,
  v37 := Go.Proofs.Tryz.zeroValue145,
  t46 := Go.Proofs.Tryz.underlying140,
  a46 := Go.Proofs.Tryz.isAgg140,
  z46 := Go.Proofs.Tryz.sizeOf140,
  v46 := Go.Proofs.Tryz.zeroValue140,
  t51 := Go.Proofs.Tryz.underlying162,
  a51 := Go.Proofs.Tryz.isAgg162,
  z51 := Go.Proofs.Tryz.sizeOf162,
  v51 := Go.Proofs.Tryz.zeroValue162,
  t53 := Go.Proofs.Tryz.underlying65,
  a53 := Go.Proofs.Tryz.isAgg65,
  z53 := Go.Proofs.Tryz.sizeOf65,
  v53 := Go.Proofs.Tryz.zeroValue65,
  t70 := Go.Proofs.Tryz.underlying144,
  a70 := Go.Proofs.Tryz.isAgg144,
  z70 := Go.Proofs.Tryz.sizeOf144,
  v70 := Go.Proofs.Tryz.zeroValue144,
  t72 := Go.Proofs.Tryz.underlying147,
  a72 := Go.Proofs.Tryz.isAgg147,
  z72 := Go.Proofs.Tryz.sizeOf147,
  v72 := Go.Proofs.Tryz.zeroValue147,
  t75 := Go.Proofs.Tryz.underlying150,
  a75 := Go.Proofs.Tryz.isAgg150,
  z75 := Go.Proofs.Tryz.sizeOf150,
  v75 := Go.Proofs.Tryz.zeroValue150,
  t76 := Go.Proofs.Tryz.underlying151,
  a76 := Go.Proofs.Tryz.isAgg151,
  z76 := Go.Proofs.Tryz.sizeOf151,
  v76 := Go.Proofs.Tryz.zeroValue151,
  t109 := Go.Proofs.Tryz.underlying141,
  a109 := Go.Proofs.Tryz.isAgg141,
  z109 := Go.Proofs.Tryz.sizeOf141,
  v109 := Go.Proofs.Tryz.zeroValue141,
  t127 := Go.Proofs.Tryz.underlying167,
  a127 := Go.Proofs.Tryz.isAgg167,
  z127 := Go.Proofs.Tryz.sizeOf167,
  v127 := Go.Proofs.Tryz.zeroValue167,
  t146 := Go.Proofs.Tryz.underlying163,
  a146 := Go.Proofs.Tryz.isAgg163,
  z146 := Go.Proofs.Tryz.sizeOf163,
  v146 := Go.Proofs.Tryz.zeroValue163,
  t148 := Go.Proofs.Tryz.underlying165,
  a148 := Go.Proofs.Tryz.isAgg165,
  z148 := Go.Proofs.Tryz.sizeOf165,
  v148 := Go.Proofs.Tryz.zeroValue165,
  t164 := Go.Proofs.Tryz.underlying171,
  a164 := Go.Proofs.Tryz.isAgg171,
  z164 := Go.Proofs.Tryz.sizeOf171,
  v164 := Go.Proofs.Tryz.zeroValue171 }
theorem Tryz.extraRepeat : Go.Proofs.Builder.Extra Go.Proofs.Tryz.prog Tryz.laysRepeat_ren := {
  sizeBuilder := by kernel_rfl,
  liesBuilder := by kernel_rfl,
  t5 := Tryz.laysRepeat.t5,
  a5 := Tryz.laysRepeat.a5,
  z5 := Tryz.laysRepeat.z5,
  v5 := Tryz.laysRepeat.v5,
  infoByte := by kernel_rfl,
  cellsByte := by kernel_rfl,
  sizeByte := by kernel_rfl,
  neB5 := by decide }
noncomputable abbrev strings_Repeat_c : Code := Tryz.f82.body.getD .skip
theorem strings_Repeat_ent : Ent Tryz.prog 82 := ⟨Tryz.f82, strings_Repeat_c, Tryz.func82, by kernel_rfl, by kernel_rfl⟩
def strings_Repeat_g : Pure := fun R l b K => noBox b (args2 .str (.int .i64) l fun x0 x1 => (strings_Repeat x0 x1).bind fun r => K [.dat .str r []] none)
theorem strings_Repeat_n : strings_Repeat_g.Nat := fun R S l b F G K h => noBox_nat (args2_nat fun _ _ => bindr_nat fun _ => h _ _)
def Tb45 : Funs := Tb44.add 82 [] strings_Repeat_g
theorem Tb45_nat : Tb45.Nat := add_nat Tb44_nat strings_Repeat_n
theorem Tb45_owes : ∀ f, Owes Tryz.prog Tb45 f := lib_si_s Tb44_owes strings_Repeat_ent strings_Repeat (strings_Repeat_calls Tryz.laysRepeat Tryz.extraRepeat (by kernel_rfl))
noncomputable abbrev strings_trimRightByte_c : Code := Tryz.f102.body.getD .skip
def strings_trimRightByte_E : Env := tab.env (fun i => bif Nat.beq i 1 then [0, 1] else []) (fun i => bif Nat.beq i 1 then [0] else []) [] [.str, (.int .u8)]
def strings_trimRightByte_h0 (s_0 : ByteArray) (c_1 : Int) : State := ⟨[.dat .str s_0 []]::[.dat (.int .u8) c_1 []]::(uS 21 ([])), nS 24 []⟩
def strings_trimRightByte_x0_0 (s_0 : ByteArray) : State := ⟨[.dat .str s_0 []]::(uS 22 ([])), nS 24 []⟩
theorem strings_trimRightByte_t (R : Type) (kk : Nat) (s_0 : ByteArray) (c_1 : Int) (K : List SV → Option Box → Option R) : evFn strings_trimRightByte_E (Tb45 R) kk Tryz.f102 strings_trimRightByte_c [.dat .str s_0 [], .dat (.int .u8) c_1 []] none K =
  strings_trimRightByte_s0 s_0 c_1 (fun a0 a1 => loopR (ev strings_trimRightByte_E (Tb45 R) kk (sub [1, 0, 0, 0] strings_trimRightByte_c)) [0, 1] [0] kk (strings_trimRightByte_h0 a0 a1) (kBlock 0 (kSeq strings_trimRightByte_E (Tb45 R) kk (sub [1, 1] strings_trimRightByte_c) (kFin strings_trimRightByte_E Tryz.f102.results.toList none K)))) := by kernel_rfl
theorem strings_trimRightByte_d0 (R : Type) (kk k : Nat) (s_0 : ByteArray) (c_1 : Int) (K : Ex → State → Option R) : loopR (ev strings_trimRightByte_E (Tb45 R) kk (sub [1, 0, 0, 0] strings_trimRightByte_c)) [0, 1] [0] (k + 1) (strings_trimRightByte_h0 s_0 c_1) K =
  strings_trimRightByte_s1 s_0 c_1 (fun a0 a1 => loopR (ev strings_trimRightByte_E (Tb45 R) kk (sub [1, 0, 0, 0] strings_trimRightByte_c)) [0, 1] [0] k (strings_trimRightByte_h0 a0 a1) K) (fun a0 => K (.exit 0) (strings_trimRightByte_x0_0 a0)) := by kernel_rfl
theorem strings_trimRightByte_y0_0 (R : Type) (kk : Nat) (s_0 : ByteArray) (K : List SV → Option Box → Option R) : (kBlock 0 (kSeq strings_trimRightByte_E (Tb45 R) kk (sub [1, 1] strings_trimRightByte_c) (kFin strings_trimRightByte_E Tryz.f102.results.toList none K))) (.exit 0) (strings_trimRightByte_x0_0 s_0) =
  strings_trimRightByte_s2 s_0 (fun a0 => K [.dat .str a0 []] none) := by kernel_rfl
theorem strings_trimRightByte_lp0 (R : Type) (k : Nat) (s_0 : ByteArray) (c_1 : Int) (K : Ex → State → Option R) : loopR (ev strings_trimRightByte_E (Tb45 R) FUEL (sub [1, 0, 0, 0] strings_trimRightByte_c)) [0, 1] [0] k (strings_trimRightByte_h0 s_0 c_1) K = (strings_trimRightByte_l0 k s_0 c_1).bind fun e => K (.exit 0) (strings_trimRightByte_x0_0 e) := by
  induction k generalizing s_0 c_1 with
  | zero => rfl
  | succ k ih =>
    rw [strings_trimRightByte_d0]
    simp only [strings_trimRightByte_l0, strings_trimRightByte_s0_bind, strings_trimRightByte_s1_bind, strings_trimRightByte_s2_bind, ih, cond_bind, within_bind, none_bind, some_bind, sum_bind, bind_bind, Sum.elim_inl, Sum.elim_inr]
theorem strings_trimRightByte_eq (R : Type) (s_0 : ByteArray) (c_1 : Int) (K : List SV → Option Box → Option R) : evFn strings_trimRightByte_E (Tb45 R) FUEL Tryz.f102 strings_trimRightByte_c [.dat .str s_0 [], .dat (.int .u8) c_1 []] none K = (strings_trimRightByte s_0 c_1).bind fun r => K [.dat .str r []] none := by
  rw [strings_trimRightByte_t]
  simp only [strings_trimRightByte, strings_trimRightByte_s0_bind, strings_trimRightByte_s1_bind, strings_trimRightByte_s2_bind, strings_trimRightByte_lp0, strings_trimRightByte_y0_0, cond_bind, within_bind, none_bind, some_bind, sum_bind, bind_bind, Sum.elim_inl, Sum.elim_inr]
def strings_trimRightByte_g : Pure := fun R l b K => noBox b (args2 .str (.int .u8) l (fun x0 x1 => (strings_trimRightByte x0 x1).bind fun r => K [.dat .str r []] none))
theorem strings_trimRightByte_n : strings_trimRightByte_g.Nat := fun R S l b F G K h => noBox_nat (args2_nat fun _ _ => bindr_nat fun _ => h _ _)
def Tb46 : Funs := Tb45.add 102 [.str, (.int .u8)] strings_trimRightByte_g
theorem Tb46_nat : Tb46.Nat := add_nat Tb45_nat strings_trimRightByte_n
theorem Tb46_owes : ∀ f, Owes Tryz.prog Tb46 f := add_owes (E := strings_trimRightByte_E) (Tab.env_ok tab_ok _ _ _ _) mixed Tb45_nat Tb45_owes (fn := Tryz.f102) (code := strings_trimRightByte_c) Tryz.func102 (by kernel_rfl) (by kernel_rfl) fun l b r b' h => by
  obtain ⟨rfl, h⟩ := noBox_some h
  obtain ⟨x0, x1, h1, h2⟩ := own2 (E := strings_trimRightByte_E) rfl h
  exact ⟨FUEL, (h2 _ _ _ _ _ _).trans ((strings_trimRightByte_eq _ x0 x1 _).trans h1)⟩
noncomputable abbrev strings_trimLeftByte_c : Code := Tryz.f101.body.getD .skip
def strings_trimLeftByte_E : Env := tab.env (fun i => bif Nat.beq i 1 then [0, 1] else []) (fun i => bif Nat.beq i 1 then [0] else []) [] [.str, (.int .u8)]
def strings_trimLeftByte_h0 (s_0 : ByteArray) (c_1 : Int) : State := ⟨[.dat .str s_0 []]::[.dat (.int .u8) c_1 []]::(uS 15 ([])), nS 18 []⟩
def strings_trimLeftByte_x0_0 (s_0 : ByteArray) : State := ⟨[.dat .str s_0 []]::(uS 16 ([])), nS 18 []⟩
theorem strings_trimLeftByte_t (R : Type) (kk : Nat) (s_0 : ByteArray) (c_1 : Int) (K : List SV → Option Box → Option R) : evFn strings_trimLeftByte_E (Tb46 R) kk Tryz.f101 strings_trimLeftByte_c [.dat .str s_0 [], .dat (.int .u8) c_1 []] none K =
  strings_trimLeftByte_s0 s_0 c_1 (fun a0 a1 => loopR (ev strings_trimLeftByte_E (Tb46 R) kk (sub [1, 0, 0, 0] strings_trimLeftByte_c)) [0, 1] [0] kk (strings_trimLeftByte_h0 a0 a1) (kBlock 0 (kSeq strings_trimLeftByte_E (Tb46 R) kk (sub [1, 1] strings_trimLeftByte_c) (kFin strings_trimLeftByte_E Tryz.f101.results.toList none K)))) := by kernel_rfl
theorem strings_trimLeftByte_d0 (R : Type) (kk k : Nat) (s_0 : ByteArray) (c_1 : Int) (K : Ex → State → Option R) : loopR (ev strings_trimLeftByte_E (Tb46 R) kk (sub [1, 0, 0, 0] strings_trimLeftByte_c)) [0, 1] [0] (k + 1) (strings_trimLeftByte_h0 s_0 c_1) K =
  strings_trimLeftByte_s1 s_0 c_1 (fun a0 a1 => loopR (ev strings_trimLeftByte_E (Tb46 R) kk (sub [1, 0, 0, 0] strings_trimLeftByte_c)) [0, 1] [0] k (strings_trimLeftByte_h0 a0 a1) K) (fun a0 => K (.exit 0) (strings_trimLeftByte_x0_0 a0)) := by kernel_rfl
theorem strings_trimLeftByte_y0_0 (R : Type) (kk : Nat) (s_0 : ByteArray) (K : List SV → Option Box → Option R) : (kBlock 0 (kSeq strings_trimLeftByte_E (Tb46 R) kk (sub [1, 1] strings_trimLeftByte_c) (kFin strings_trimLeftByte_E Tryz.f101.results.toList none K))) (.exit 0) (strings_trimLeftByte_x0_0 s_0) =
  strings_trimLeftByte_s2 s_0 (fun a0 => K [.dat .str a0 []] none) := by kernel_rfl
theorem strings_trimLeftByte_lp0 (R : Type) (k : Nat) (s_0 : ByteArray) (c_1 : Int) (K : Ex → State → Option R) : loopR (ev strings_trimLeftByte_E (Tb46 R) FUEL (sub [1, 0, 0, 0] strings_trimLeftByte_c)) [0, 1] [0] k (strings_trimLeftByte_h0 s_0 c_1) K = (strings_trimLeftByte_l0 k s_0 c_1).bind fun e => K (.exit 0) (strings_trimLeftByte_x0_0 e) := by
  induction k generalizing s_0 c_1 with
  | zero => rfl
  | succ k ih =>
    rw [strings_trimLeftByte_d0]
    simp only [strings_trimLeftByte_l0, strings_trimLeftByte_s0_bind, strings_trimLeftByte_s1_bind, strings_trimLeftByte_s2_bind, ih, cond_bind, within_bind, none_bind, some_bind, sum_bind, bind_bind, Sum.elim_inl, Sum.elim_inr]
theorem strings_trimLeftByte_eq (R : Type) (s_0 : ByteArray) (c_1 : Int) (K : List SV → Option Box → Option R) : evFn strings_trimLeftByte_E (Tb46 R) FUEL Tryz.f101 strings_trimLeftByte_c [.dat .str s_0 [], .dat (.int .u8) c_1 []] none K = (strings_trimLeftByte s_0 c_1).bind fun r => K [.dat .str r []] none := by
  rw [strings_trimLeftByte_t]
  simp only [strings_trimLeftByte, strings_trimLeftByte_s0_bind, strings_trimLeftByte_s1_bind, strings_trimLeftByte_s2_bind, strings_trimLeftByte_lp0, strings_trimLeftByte_y0_0, cond_bind, within_bind, none_bind, some_bind, sum_bind, bind_bind, Sum.elim_inl, Sum.elim_inr]
def strings_trimLeftByte_g : Pure := fun R l b K => noBox b (args2 .str (.int .u8) l (fun x0 x1 => (strings_trimLeftByte x0 x1).bind fun r => K [.dat .str r []] none))
theorem strings_trimLeftByte_n : strings_trimLeftByte_g.Nat := fun R S l b F G K h => noBox_nat (args2_nat fun _ _ => bindr_nat fun _ => h _ _)
def Tb47 : Funs := Tb46.add 101 [.str, (.int .u8)] strings_trimLeftByte_g
theorem Tb47_nat : Tb47.Nat := add_nat Tb46_nat strings_trimLeftByte_n
theorem Tb47_owes : ∀ f, Owes Tryz.prog Tb47 f := add_owes (E := strings_trimLeftByte_E) (Tab.env_ok tab_ok _ _ _ _) mixed Tb46_nat Tb46_owes (fn := Tryz.f101) (code := strings_trimLeftByte_c) Tryz.func101 (by kernel_rfl) (by kernel_rfl) fun l b r b' h => by
  obtain ⟨rfl, h⟩ := noBox_some h
  obtain ⟨x0, x1, h1, h2⟩ := own2 (E := strings_trimLeftByte_E) rfl h
  exact ⟨FUEL, (h2 _ _ _ _ _ _).trans ((strings_trimLeftByte_eq _ x0 x1 _).trans h1)⟩
noncomputable abbrev strings_Trim_c : Code := Tryz.f83.body.getD .skip
def strings_Trim_E : Env := tab.env (fun _ => []) (fun _ => []) [] [.str, .str]
theorem strings_Trim_t (R : Type) (kk : Nat) (s_0 : ByteArray) (cutset_1 : ByteArray) (K : List SV → Option Box → Option R) : evFn strings_Trim_E (Tb47 R) kk Tryz.f83 strings_Trim_c [.dat .str s_0 [], .dat .str cutset_1 []] none K =
  strings_Trim_s0 s_0 cutset_1 (fun a0 => K [.dat .str a0 []] none) := by kernel_rfl
theorem strings_Trim_eq (R : Type) (s_0 : ByteArray) (cutset_1 : ByteArray) (K : List SV → Option Box → Option R) : evFn strings_Trim_E (Tb47 R) FUEL Tryz.f83 strings_Trim_c [.dat .str s_0 [], .dat .str cutset_1 []] none K = (strings_Trim s_0 cutset_1).bind fun r => K [.dat .str r []] none := by
  rw [strings_Trim_t]
  simp only [strings_Trim, strings_Trim_s0_bind, cond_bind, within_bind, none_bind, some_bind, sum_bind, bind_bind, Sum.elim_inl, Sum.elim_inr]
def strings_Trim_g : Pure := fun R l b K => noBox b (args2 .str .str l (fun x0 x1 => (strings_Trim x0 x1).bind fun r => K [.dat .str r []] none))
theorem strings_Trim_n : strings_Trim_g.Nat := fun R S l b F G K h => noBox_nat (args2_nat fun _ _ => bindr_nat fun _ => h _ _)
def Tb48 : Funs := Tb47.add 83 [.str, .str] strings_Trim_g
theorem Tb48_nat : Tb48.Nat := add_nat Tb47_nat strings_Trim_n
theorem Tb48_owes : ∀ f, Owes Tryz.prog Tb48 f := add_owes (E := strings_Trim_E) (Tab.env_ok tab_ok _ _ _ _) mixed Tb47_nat Tb47_owes (fn := Tryz.f83) (code := strings_Trim_c) Tryz.func83 (by kernel_rfl) (by kernel_rfl) fun l b r b' h => by
  obtain ⟨rfl, h⟩ := noBox_some h
  obtain ⟨x0, x1, h1, h2⟩ := own2 (E := strings_Trim_E) rfl h
  exact ⟨FUEL, (h2 _ _ _ _ _ _).trans ((strings_Trim_eq _ x0 x1 _).trans h1)⟩
noncomputable abbrev digits_Pad_c : Code := Tryz.f65.body.getD .skip
def digits_Pad_E : Env := tab.env (fun _ => []) (fun _ => []) [] [.str, (.int .i64)]
theorem digits_Pad_t (R : Type) (kk : Nat) (s_0 : ByteArray) (width_1 : Int) (K : List SV → Option Box → Option R) : evFn digits_Pad_E (Tb48 R) kk Tryz.f65 digits_Pad_c [.dat .str s_0 [], .dat (.int .i64) width_1 []] none K =
  digits_Pad_s0 s_0 width_1 (fun a0 a1 => K [.dat .str a0 [], .dat .bool a1 []] none) := by kernel_rfl
theorem digits_Pad_eq (R : Type) (s_0 : ByteArray) (width_1 : Int) (K : List SV → Option Box → Option R) : evFn digits_Pad_E (Tb48 R) FUEL Tryz.f65 digits_Pad_c [.dat .str s_0 [], .dat (.int .i64) width_1 []] none K = (digits_Pad s_0 width_1).bind fun r => K [.dat .str r.1 [], .dat .bool r.2 []] none := by
  rw [digits_Pad_t]
  simp only [digits_Pad, digits_Pad_s0_bind, cond_bind, within_bind, none_bind, some_bind, sum_bind, bind_bind, Sum.elim_inl, Sum.elim_inr]
def digits_Pad_g : Pure := fun R l b K => noBox b (args2 .str (.int .i64) l (fun x0 x1 => (digits_Pad x0 x1).bind fun r => K [.dat .str r.1 [], .dat .bool r.2 []] none))
theorem digits_Pad_n : digits_Pad_g.Nat := fun R S l b F G K h => noBox_nat (args2_nat fun _ _ => bindr_nat fun _ => h _ _)
def Tb49 : Funs := Tb48.add 65 [.str, (.int .i64)] digits_Pad_g
theorem Tb49_nat : Tb49.Nat := add_nat Tb48_nat digits_Pad_n
theorem Tb49_owes : ∀ f, Owes Tryz.prog Tb49 f := add_owes (E := digits_Pad_E) (Tab.env_ok tab_ok _ _ _ _) mixed Tb48_nat Tb48_owes (fn := Tryz.f65) (code := digits_Pad_c) Tryz.func65 (by kernel_rfl) (by kernel_rfl) fun l b r b' h => by
  obtain ⟨rfl, h⟩ := noBox_some h
  obtain ⟨x0, x1, h1, h2⟩ := own2 (E := digits_Pad_E) rfl h
  exact ⟨FUEL, (h2 _ _ _ _ _ _).trans ((digits_Pad_eq _ x0 x1 _).trans h1)⟩
noncomputable abbrev codes_Apply_c : Code := Tryz.f66.body.getD .skip
def codes_Apply_E : Env := tab.env (fun i => bif Nat.beq i 2 then [1, 8, 9, 10] else []) (fun i => bif Nat.beq i 2 then [4, 5] else []) [] [(.sl 56 (.pair .str (.pair .str .unit))), .str]
def codes_Apply_h0 (text_1 : ByteArray) (t8 : Zt13) (t9 : Int) (t10 : Int) : State := ⟨uS 1 ([.dat .str text_1 []]::(uS 6 ([.dat (.sl 56 (.pair .str (.pair .str .unit))) t8 []]::[.dat (.int .i64) t9 []]::[.dat (.int .i64) t10 []]::(uS 10 ([]))))), nS 22 []⟩
def codes_Apply_x0_0 (t4 : ByteArray) (t5 : Bool) : State := ⟨uS 4 ([.dat .str t4 []]::[.dat .bool t5 []]::(uS 15 ([]))), nS 22 []⟩
def codes_Apply_x0_1  : State := ⟨uS 21 [], nS 22 []⟩
theorem codes_Apply_t (R : Type) (kk : Nat) (l_0 : Zt13) (text_1 : ByteArray) (K : List SV → Option Box → Option R) : evFn codes_Apply_E (Tb49 R) kk Tryz.f66 codes_Apply_c [.dat (.sl 56 (.pair .str (.pair .str .unit))) l_0 [], .dat .str text_1 []] none K =
  codes_Apply_s0 l_0 text_1 (fun a0 a1 a2 a3 => loopR (ev codes_Apply_E (Tb49 R) kk (sub [1, 0, 1, 0, 0] codes_Apply_c)) [1, 8, 9, 10] [4, 5] kk (codes_Apply_h0 a0 a1 a2 a3) (kBlock 0 (kSeq codes_Apply_E (Tb49 R) kk (sub [1, 1] codes_Apply_c) (kFin codes_Apply_E Tryz.f66.results.toList none K)))) := by kernel_rfl
theorem codes_Apply_d0 (R : Type) (kk k : Nat) (text_1 : ByteArray) (t8 : Zt13) (t9 : Int) (t10 : Int) (K : Ex → State → Option R) : loopR (ev codes_Apply_E (Tb49 R) kk (sub [1, 0, 1, 0, 0] codes_Apply_c)) [1, 8, 9, 10] [4, 5] (k + 1) (codes_Apply_h0 text_1 t8 t9 t10) K =
  codes_Apply_s1 text_1 t8 t9 t10 (fun a0 a1 => K .ret (codes_Apply_x0_0 a0 a1)) (fun a0 a1 a2 a3 => loopR (ev codes_Apply_E (Tb49 R) kk (sub [1, 0, 1, 0, 0] codes_Apply_c)) [1, 8, 9, 10] [4, 5] k (codes_Apply_h0 a0 a1 a2 a3) K) (K (.exit 0) (codes_Apply_x0_1)) := by kernel_rfl
theorem codes_Apply_y0_0 (R : Type) (kk : Nat) (t4 : ByteArray) (t5 : Bool) (K : List SV → Option Box → Option R) : (kBlock 0 (kSeq codes_Apply_E (Tb49 R) kk (sub [1, 1] codes_Apply_c) (kFin codes_Apply_E Tryz.f66.results.toList none K))) .ret (codes_Apply_x0_0 t4 t5) =
  codes_Apply_s2 t4 t5 (fun a0 a1 => K [.dat .str a0 [], .dat .bool a1 []] none) := by kernel_rfl
theorem codes_Apply_y0_1 (R : Type) (kk : Nat)  (K : List SV → Option Box → Option R) : (kBlock 0 (kSeq codes_Apply_E (Tb49 R) kk (sub [1, 1] codes_Apply_c) (kFin codes_Apply_E Tryz.f66.results.toList none K))) (.exit 0) (codes_Apply_x0_1) =
  codes_Apply_s3 (fun a0 a1 => K [.dat .str a0 [], .dat .bool a1 []] none) := by kernel_rfl
theorem codes_Apply_lp0 (R : Type) (k : Nat) (text_1 : ByteArray) (t8 : Zt13) (t9 : Int) (t10 : Int) (K : Ex → State → Option R) : loopR (ev codes_Apply_E (Tb49 R) FUEL (sub [1, 0, 1, 0, 0] codes_Apply_c)) [1, 8, 9, 10] [4, 5] k (codes_Apply_h0 text_1 t8 t9 t10) K = (codes_Apply_l0 k text_1 t8 t9 t10).bind fun e => (Sum.elim (fun (we : Zt3) => K .ret (codes_Apply_x0_0 we.1 we.2)) (fun (we : Unit) => K (.exit 0) (codes_Apply_x0_1)) e) := by
  induction k generalizing text_1 t8 t9 t10 with
  | zero => rfl
  | succ k ih =>
    rw [codes_Apply_d0]
    simp only [codes_Apply_l0, codes_Apply_s0_bind, codes_Apply_s1_bind, codes_Apply_s2_bind, codes_Apply_s3_bind, ih, cond_bind, within_bind, none_bind, some_bind, sum_bind, bind_bind, Sum.elim_inl, Sum.elim_inr]
theorem codes_Apply_eq (R : Type) (l_0 : Zt13) (text_1 : ByteArray) (K : List SV → Option Box → Option R) : evFn codes_Apply_E (Tb49 R) FUEL Tryz.f66 codes_Apply_c [.dat (.sl 56 (.pair .str (.pair .str .unit))) l_0 [], .dat .str text_1 []] none K = (codes_Apply l_0 text_1).bind fun r => K [.dat .str r.1 [], .dat .bool r.2 []] none := by
  rw [codes_Apply_t]
  simp only [codes_Apply, codes_Apply_s0_bind, codes_Apply_s1_bind, codes_Apply_s2_bind, codes_Apply_s3_bind, codes_Apply_lp0, codes_Apply_y0_0, codes_Apply_y0_1, cond_bind, within_bind, none_bind, some_bind, sum_bind, bind_bind, Sum.elim_inl, Sum.elim_inr]
def codes_Apply_g : Pure := fun R l b K => noBox b (args2 (.sl 56 (.pair .str (.pair .str .unit))) .str l (fun x0 x1 => (codes_Apply x0 x1).bind fun r => K [.dat .str r.1 [], .dat .bool r.2 []] none))
theorem codes_Apply_n : codes_Apply_g.Nat := fun R S l b F G K h => noBox_nat (args2_nat fun _ _ => bindr_nat fun _ => h _ _)
def Tb50 : Funs := Tb49.add 66 [(.sl 56 (.pair .str (.pair .str .unit))), .str] codes_Apply_g
theorem Tb50_nat : Tb50.Nat := add_nat Tb49_nat codes_Apply_n
theorem Tb50_owes : ∀ f, Owes Tryz.prog Tb50 f := add_owes (E := codes_Apply_E) (Tab.env_ok tab_ok _ _ _ _) mixed Tb49_nat Tb49_owes (fn := Tryz.f66) (code := codes_Apply_c) Tryz.func66 (by kernel_rfl) (by kernel_rfl) fun l b r b' h => by
  obtain ⟨rfl, h⟩ := noBox_some h
  obtain ⟨x0, x1, h1, h2⟩ := own2 (E := codes_Apply_E) rfl h
  exact ⟨FUEL, (h2 _ _ _ _ _ _).trans ((codes_Apply_eq _ x0 x1 _).trans h1)⟩
noncomputable abbrev rule_Apply_c : Code := Tryz.f39.body.getD .skip
def rule_Apply_E : Env := tab.env (fun _ => []) (fun _ => []) [6] [y9, y13, .str]
theorem rule_Apply_t (R : Type) (kk : Nat) (r_0 : Zt19) (b_1 : Zt17) (text_2 : ByteArray) (K : List SV → Option Box → Option R) : evFn rule_Apply_E (Tb50 R) kk Tryz.f39 rule_Apply_c [.dat y9 r_0 [], .dat y13 b_1 [], .dat .str text_2 []] none K =
  rule_Apply_s0 r_0 b_1 text_2 (fun a0 a1 => K [.dat (.pair (.int .i64) (.pair .str .unit)) a0 [], .dat (.int .i64) a1 []] none) := by kernel_rfl
theorem rule_Apply_eq (R : Type) (r_0 : Zt19) (b_1 : Zt17) (text_2 : ByteArray) (K : List SV → Option Box → Option R) : evFn rule_Apply_E (Tb50 R) FUEL Tryz.f39 rule_Apply_c [.dat y9 r_0 [], .dat y13 b_1 [], .dat .str text_2 []] none K = (rule_Apply r_0 b_1 text_2).bind fun r => K [.dat (.pair (.int .i64) (.pair .str .unit)) r.1 [], .dat (.int .i64) r.2 []] none := by
  rw [rule_Apply_t]
  simp only [rule_Apply, rule_Apply_s0_bind, cond_bind, within_bind, none_bind, some_bind, sum_bind, bind_bind, Sum.elim_inl, Sum.elim_inr]
def rule_Apply_g : Pure := fun R l b K => noBox b (args3 y9 y13 .str l (fun x0 x1 x2 => (rule_Apply x0 x1 x2).bind fun r => K [.dat (.pair (.int .i64) (.pair .str .unit)) r.1 [], .dat (.int .i64) r.2 []] none))
theorem rule_Apply_n : rule_Apply_g.Nat := fun R S l b F G K h => noBox_nat (args3_nat fun _ _ _ => bindr_nat fun _ => h _ _)
def Tb51 : Funs := Tb50.add 39 [y9, y13, .str] rule_Apply_g
theorem Tb51_nat : Tb51.Nat := add_nat Tb50_nat rule_Apply_n
theorem Tb51_owes : ∀ f, Owes Tryz.prog Tb51 f := add_owes (E := rule_Apply_E) (Tab.env_ok tab_ok _ _ _ _) mixed Tb50_nat Tb50_owes (fn := Tryz.f39) (code := rule_Apply_c) Tryz.func39 (by kernel_rfl) (by kernel_rfl) fun l b r b' h => by
  obtain ⟨rfl, h⟩ := noBox_some h
  obtain ⟨x0, x1, x2, h1, h2⟩ := own3 (E := rule_Apply_E) rfl h
  exact ⟨FUEL, (h2 _ _ _ _ _ _).trans ((rule_Apply_eq _ x0 x1 x2 _).trans h1)⟩
noncomputable abbrev xlate_Translate_c : Code := Tryz.f13.body.getD .skip
def xlate_Translate_E : Env := { { tab.env (fun i => bif Nat.beq i 12 then [4, 6, 7, 8, 9, 16, 59, 60, 61] else bif Nat.beq i 18 then [4, 6, 8, 9, 16, 76, 77, 78] else []) (fun i => bif Nat.beq i 12 then [4, 6, 7, 8, 9, 16] else bif Nat.beq i 18 then [8, 9, 16] else []) [8, 9] [y14, y13, y13, y4] with dr := fun i => bif Nat.beq i 12 then [17] else [] } with ro := true }
def xlate_Translate_h0 (t59 : Zt21) (t60 : Int) (t61 : Int) (bt4 : Zt23) (bt6 : Zt17) (bt7 : Zt16) (bt8 : Zt16) (bt9 : Zt4) (bt16 : Zt16) : State := ⟨uS 4 ([.ptr 5 y14 []]::(uS 1 ([.ptr 7 y13 []]::[.ptr 8 y4 []]::[.ptr 9 y4 []]::[.ptr 10 (.pair (.int .i64) (.pair (.int .i64) .unit)) []]::(uS 6 ([.ptr 17 y4 []]::(uS 42 ([.dat (.sl 58 y9) t59 []]::[.dat (.int .i64) t60 []]::[.dat (.int .i64) t61 []]::(uS 60 ([]))))))))), nS 5 ((some ⟨y14, bt4, []⟩)::(nS 1 ((some ⟨y13, bt6, []⟩)::(some ⟨y4, bt7, []⟩)::(some ⟨y4, bt8, [[1]]⟩)::(some ⟨(.pair (.int .i64) (.pair (.int .i64) .unit)), bt9, []⟩)::(nS 6 ((some ⟨y4, bt16, []⟩)::(nS 105 ([])))))))⟩
def xlate_Translate_x0_0 (bt4 : Zt23) (bt6 : Zt17) (bt7 : Zt16) (bt8 : Zt16) (bt9 : Zt4) (bt16 : Zt16) : State := ⟨uS 4 ([.ptr 5 y14 []]::(uS 1 ([.ptr 7 y13 []]::[.ptr 8 y4 []]::[.ptr 9 y4 []]::[.ptr 10 (.pair (.int .i64) (.pair (.int .i64) .unit)) []]::(uS 6 ([.ptr 17 y4 []]::(uS 105 ([]))))))), nS 5 ((some ⟨y14, bt4, []⟩)::(nS 1 ((some ⟨y13, bt6, []⟩)::(some ⟨y4, bt7, []⟩)::(some ⟨y4, bt8, [[1]]⟩)::(some ⟨(.pair (.int .i64) (.pair (.int .i64) .unit)), bt9, []⟩)::(nS 6 ((some ⟨y4, bt16, []⟩)::(nS 105 ([])))))))⟩
def xlate_Translate_h1 (t76 : Zt10) (t77 : Int) (t78 : Int) (bt4 : Zt23) (bt6 : Zt17) (bt8 : Zt16) (bt9 : Zt4) (bt16 : Zt16) : State := ⟨uS 4 ([.ptr 5 y14 []]::(uS 1 ([.ptr 7 y13 []]::(uS 1 ([.ptr 9 y4 []]::[.ptr 10 (.pair (.int .i64) (.pair (.int .i64) .unit)) []]::(uS 6 ([.ptr 17 y4 []]::(uS 59 ([.dat (.sl 53 (.pair (.int .i64) (.pair .str .unit))) t76 []]::[.dat (.int .i64) t77 []]::[.dat (.int .i64) t78 []]::(uS 43 ([]))))))))))), nS 5 ((some ⟨y14, bt4, []⟩)::(nS 1 ((some ⟨y13, bt6, []⟩)::(nS 1 ((some ⟨y4, bt8, [[1]]⟩)::(some ⟨(.pair (.int .i64) (.pair (.int .i64) .unit)), bt9, []⟩)::(nS 6 ((some ⟨y4, bt16, []⟩)::(nS 105 ([])))))))))⟩
def xlate_Translate_x1_0 (bt8 : Zt16) (bt9 : Zt4) (bt16 : Zt16) : State := ⟨uS 8 ([.ptr 9 y4 []]::[.ptr 10 (.pair (.int .i64) (.pair (.int .i64) .unit)) []]::(uS 6 ([.ptr 17 y4 []]::(uS 105 ([]))))), nS 9 ((some ⟨y4, bt8, [[1]]⟩)::(some ⟨(.pair (.int .i64) (.pair (.int .i64) .unit)), bt9, []⟩)::(nS 6 ((some ⟨y4, bt16, []⟩)::(nS 105 ([])))))⟩
end Go.Proofs.YtmbobepkfagkgaaGreatDoor
