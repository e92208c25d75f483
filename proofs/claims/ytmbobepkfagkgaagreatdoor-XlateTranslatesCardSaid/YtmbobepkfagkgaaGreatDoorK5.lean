/- No condition. -/
import Derived.Test.YtmbobepkfagkgaaGreatDoorK4
set_option linter.unusedVariables false
set_option linter.unusedSimpArgs false
set_option maxRecDepth 100000
namespace Go.Proofs.YtmbobepkfagkgaaGreatDoor
open Go Go.Ref Groat
def xlate_Translate_x1_1 (bt8 : Zt16) (bt9 : Zt4) (bt16 : Zt16) : State := ⟨uS 8 ([.ptr 9 y4 []]::[.ptr 10 (.pair (.int .i64) (.pair (.int .i64) .unit)) []]::(uS 6 ([.ptr 17 y4 []]::(uS 105 ([]))))), nS 9 ((some ⟨y4, bt8, [[1]]⟩)::(some ⟨(.pair (.int .i64) (.pair (.int .i64) .unit)), bt9, []⟩)::(nS 6 ((some ⟨y4, bt16, []⟩)::(nS 105 ([])))))⟩
theorem xlate_Translate_t (R : Type) (kk : Nat) (m_0 : Zt23) (a_1 : Zt17) (b_2 : Zt17) (x_3 : Zt16) (K : List SV → Option Box → Option R) : evFn xlate_Translate_E (Tb51 R) kk Tryz.f13 xlate_Translate_c [.dat y14 m_0 [], .dat y13 a_1 [], .dat y13 b_2 [], .dat y4 x_3 []] none K =
  xlate_Translate_s0 m_0 a_1 b_2 x_3 (fun a0 a1 => K [.dat y4 a0 [], .dat (.pair (.int .i64) (.pair (.int .i64) .unit)) a1 []] none) (fun a0 a1 a2 a3 a4 a5 a6 a7 a8 => loopR (ev xlate_Translate_E (Tb51 R) kk (sub [1, 1, 1, 1, 1, 1, 0, 1, 0, 0] xlate_Translate_c)) [4, 6, 7, 8, 9, 16, 59, 60, 61] [4, 6, 7, 8, 9, 16] kk (xlate_Translate_h0 a0 a1 a2 a3 a4 a5 a6 a7 a8) (kBlock 0 (kSeq xlate_Translate_E (Tb51 R) kk (sub [1, 1, 1, 1, 1, 1, 1] xlate_Translate_c) (kFin xlate_Translate_E Tryz.f13.results.toList none K)))) := by kernel_rfl
theorem xlate_Translate_d0 (R : Type) (kk k : Nat) (t59 : Zt21) (t60 : Int) (t61 : Int) (bt4 : Zt23) (bt6 : Zt17) (bt7 : Zt16) (bt8 : Zt16) (bt9 : Zt4) (bt16 : Zt16) (K : Ex → State → Option R) : loopR (ev xlate_Translate_E (Tb51 R) kk (sub [1, 1, 1, 1, 1, 1, 0, 1, 0, 0] xlate_Translate_c)) [4, 6, 7, 8, 9, 16, 59, 60, 61] [4, 6, 7, 8, 9, 16] (k + 1) (xlate_Translate_h0 t59 t60 t61 bt4 bt6 bt7 bt8 bt9 bt16) K =
  xlate_Translate_s1 t59 t60 t61 bt4 bt6 bt7 bt8 bt9 bt16 (fun a0 a1 a2 a3 a4 a5 a6 a7 a8 => loopR (ev xlate_Translate_E (Tb51 R) kk (sub [1, 1, 1, 1, 1, 1, 0, 1, 0, 0] xlate_Translate_c)) [4, 6, 7, 8, 9, 16, 59, 60, 61] [4, 6, 7, 8, 9, 16] k (xlate_Translate_h0 a0 a1 a2 a3 a4 a5 a6 a7 a8) K) (fun a0 a1 a2 a3 a4 a5 => K (.exit 0) (xlate_Translate_x0_0 a0 a1 a2 a3 a4 a5)) := by kernel_rfl
theorem xlate_Translate_y0_0 (R : Type) (kk : Nat) (bt4 : Zt23) (bt6 : Zt17) (bt7 : Zt16) (bt8 : Zt16) (bt9 : Zt4) (bt16 : Zt16) (K : List SV → Option Box → Option R) : (kBlock 0 (kSeq xlate_Translate_E (Tb51 R) kk (sub [1, 1, 1, 1, 1, 1, 1] xlate_Translate_c) (kFin xlate_Translate_E Tryz.f13.results.toList none K))) (.exit 0) (xlate_Translate_x0_0 bt4 bt6 bt7 bt8 bt9 bt16) =
  xlate_Translate_s2 bt4 bt6 bt7 bt8 bt9 bt16 (fun a0 a1 a2 a3 a4 a5 a6 a7 => loopR (ev xlate_Translate_E (Tb51 R) kk (sub [1, 1, 1, 1, 1, 1, 1, 0, 1, 0, 0] xlate_Translate_c)) [4, 6, 8, 9, 16, 76, 77, 78] [8, 9, 16] kk (xlate_Translate_h1 a0 a1 a2 a3 a4 a5 a6 a7) (kBlock 2 (kSeq xlate_Translate_E (Tb51 R) kk (sub [1, 1, 1, 1, 1, 1, 1, 1] xlate_Translate_c) (kFin xlate_Translate_E Tryz.f13.results.toList none K)))) := by kernel_rfl
theorem xlate_Translate_d1 (R : Type) (kk k : Nat) (t76 : Zt10) (t77 : Int) (t78 : Int) (bt4 : Zt23) (bt6 : Zt17) (bt8 : Zt16) (bt9 : Zt4) (bt16 : Zt16) (K : Ex → State → Option R) : loopR (ev xlate_Translate_E (Tb51 R) kk (sub [1, 1, 1, 1, 1, 1, 1, 0, 1, 0, 0] xlate_Translate_c)) [4, 6, 8, 9, 16, 76, 77, 78] [8, 9, 16] (k + 1) (xlate_Translate_h1 t76 t77 t78 bt4 bt6 bt8 bt9 bt16) K =
  xlate_Translate_s3 t76 t77 t78 bt4 bt6 bt8 bt9 bt16 (fun a0 a1 a2 => K .ret (xlate_Translate_x1_0 a0 a1 a2)) (fun a0 a1 a2 a3 a4 a5 a6 a7 => loopR (ev xlate_Translate_E (Tb51 R) kk (sub [1, 1, 1, 1, 1, 1, 1, 0, 1, 0, 0] xlate_Translate_c)) [4, 6, 8, 9, 16, 76, 77, 78] [8, 9, 16] k (xlate_Translate_h1 a0 a1 a2 a3 a4 a5 a6 a7) K) (fun a0 a1 a2 => K (.exit 2) (xlate_Translate_x1_1 a0 a1 a2)) := by kernel_rfl
theorem xlate_Translate_y1_0 (R : Type) (kk : Nat) (bt8 : Zt16) (bt9 : Zt4) (bt16 : Zt16) (K : List SV → Option Box → Option R) : (kBlock 2 (kSeq xlate_Translate_E (Tb51 R) kk (sub [1, 1, 1, 1, 1, 1, 1, 1] xlate_Translate_c) (kFin xlate_Translate_E Tryz.f13.results.toList none K))) .ret (xlate_Translate_x1_0 bt8 bt9 bt16) =
  xlate_Translate_s4 bt8 bt9 bt16 (fun a0 a1 => K [.dat y4 a0 [], .dat (.pair (.int .i64) (.pair (.int .i64) .unit)) a1 []] none) := by kernel_rfl
theorem xlate_Translate_y1_1 (R : Type) (kk : Nat) (bt8 : Zt16) (bt9 : Zt4) (bt16 : Zt16) (K : List SV → Option Box → Option R) : (kBlock 2 (kSeq xlate_Translate_E (Tb51 R) kk (sub [1, 1, 1, 1, 1, 1, 1, 1] xlate_Translate_c) (kFin xlate_Translate_E Tryz.f13.results.toList none K))) (.exit 2) (xlate_Translate_x1_1 bt8 bt9 bt16) =
  xlate_Translate_s5 bt8 bt9 bt16 (fun a0 a1 => K [.dat y4 a0 [], .dat (.pair (.int .i64) (.pair (.int .i64) .unit)) a1 []] none) := by kernel_rfl
theorem xlate_Translate_lp0 (R : Type) (k : Nat) (t59 : Zt21) (t60 : Int) (t61 : Int) (bt4 : Zt23) (bt6 : Zt17) (bt7 : Zt16) (bt8 : Zt16) (bt9 : Zt4) (bt16 : Zt16) (K : Ex → State → Option R) : loopR (ev xlate_Translate_E (Tb51 R) FUEL (sub [1, 1, 1, 1, 1, 1, 0, 1, 0, 0] xlate_Translate_c)) [4, 6, 7, 8, 9, 16, 59, 60, 61] [4, 6, 7, 8, 9, 16] k (xlate_Translate_h0 t59 t60 t61 bt4 bt6 bt7 bt8 bt9 bt16) K = (xlate_Translate_l0 k t59 t60 t61 bt4 bt6 bt7 bt8 bt9 bt16).bind fun e => K (.exit 0) (xlate_Translate_x0_0 e.1 e.2.1 e.2.2.1 e.2.2.2.1 e.2.2.2.2.1 e.2.2.2.2.2) := by
  induction k generalizing t59 t60 t61 bt4 bt6 bt7 bt8 bt9 bt16 with
  | zero => rfl
  | succ k ih =>
    rw [xlate_Translate_d0]
    simp only [xlate_Translate_l0, xlate_Translate_s0_bind, xlate_Translate_s1_bind, xlate_Translate_s2_bind, xlate_Translate_s3_bind, xlate_Translate_s4_bind, xlate_Translate_s5_bind, ih, cond_bind, within_bind, none_bind, some_bind, sum_bind, bind_bind, Sum.elim_inl, Sum.elim_inr]
theorem xlate_Translate_lp1 (R : Type) (k : Nat) (t76 : Zt10) (t77 : Int) (t78 : Int) (bt4 : Zt23) (bt6 : Zt17) (bt8 : Zt16) (bt9 : Zt4) (bt16 : Zt16) (K : Ex → State → Option R) : loopR (ev xlate_Translate_E (Tb51 R) FUEL (sub [1, 1, 1, 1, 1, 1, 1, 0, 1, 0, 0] xlate_Translate_c)) [4, 6, 8, 9, 16, 76, 77, 78] [8, 9, 16] k (xlate_Translate_h1 t76 t77 t78 bt4 bt6 bt8 bt9 bt16) K = (xlate_Translate_l1 k t76 t77 t78 bt4 bt6 bt8 bt9 bt16).bind fun e => (Sum.elim (fun (we : Zt22) => K .ret (xlate_Translate_x1_0 we.1 we.2.1 we.2.2)) (fun (we : Zt22) => K (.exit 2) (xlate_Translate_x1_1 we.1 we.2.1 we.2.2)) e) := by
  induction k generalizing t76 t77 t78 bt4 bt6 bt8 bt9 bt16 with
  | zero => rfl
  | succ k ih =>
    rw [xlate_Translate_d1]
    simp only [xlate_Translate_l1, xlate_Translate_s0_bind, xlate_Translate_s1_bind, xlate_Translate_s2_bind, xlate_Translate_s3_bind, xlate_Translate_s4_bind, xlate_Translate_s5_bind, ih, cond_bind, within_bind, none_bind, some_bind, sum_bind, bind_bind, Sum.elim_inl, Sum.elim_inr]
theorem xlate_Translate_eq (R : Type) (m_0 : Zt23) (a_1 : Zt17) (b_2 : Zt17) (x_3 : Zt16) (K : List SV → Option Box → Option R) : evFn xlate_Translate_E (Tb51 R) FUEL Tryz.f13 xlate_Translate_c [.dat y14 m_0 [], .dat y13 a_1 [], .dat y13 b_2 [], .dat y4 x_3 []] none K = (xlate_Translate m_0 a_1 b_2 x_3).bind fun r => K [.dat y4 r.1 [], .dat (.pair (.int .i64) (.pair (.int .i64) .unit)) r.2 []] none := by
  rw [xlate_Translate_t]
  simp only [xlate_Translate, xlate_Translate_s0_bind, xlate_Translate_s1_bind, xlate_Translate_s2_bind, xlate_Translate_s3_bind, xlate_Translate_s4_bind, xlate_Translate_s5_bind, xlate_Translate_lp0, xlate_Translate_lp1, xlate_Translate_y0_0, xlate_Translate_y1_0, xlate_Translate_y1_1, cond_bind, within_bind, none_bind, some_bind, sum_bind, bind_bind, Sum.elim_inl, Sum.elim_inr]
def xlate_Translate_g : Pure := fun R l b K => noBox b (args4 y14 y13 y13 y4 l (fun x0 x1 x2 x3 => (xlate_Translate x0 x1 x2 x3).bind fun r => K [.dat y4 r.1 [], .dat (.pair (.int .i64) (.pair (.int .i64) .unit)) r.2 []] none))
theorem xlate_Translate_n : xlate_Translate_g.Nat := fun R S l b F G K h => noBox_nat (args4_nat fun _ _ _ _ => bindr_nat fun _ => h _ _)
def Tb52 : Funs := Tb51.add 13 [y14, y13, y13, y4] xlate_Translate_g
theorem Tb52_nat : Tb52.Nat := add_nat Tb51_nat xlate_Translate_n
theorem Tb52_owes : ∀ f, Owes Tryz.prog Tb52 f := add_owes (E := xlate_Translate_E) (((Tab.env_ok tab_ok _ _ _ _).dr _).ro _) mixed Tb51_nat Tb51_owes (fn := Tryz.f13) (code := xlate_Translate_c) Tryz.func13 (by kernel_rfl) (by kernel_rfl) fun l b r b' h => by
  obtain ⟨rfl, h⟩ := noBox_some h
  obtain ⟨x0, x1, x2, x3, h1, h2⟩ := own4 (E := xlate_Translate_E) rfl h
  exact ⟨FUEL, (h2 _ _ _ _ _ _).trans ((xlate_Translate_eq _ x0 x1 x2 x3 _).trans h1)⟩
noncomputable abbrev r16_Same_c : Code := Tryz.f16.body.getD .skip
def r16_Same_E : Env := tab.env (fun i => bif Nat.beq i 4 then [2, 3, 5] else []) (fun i => bif Nat.beq i 4 then [4] else []) [] [y4, y4]
def r16_Same_h0 (t5 : Int) (bt2 : Zt16) (bt3 : Zt16) : State := ⟨uS 2 ([.ptr 3 y4 []]::[.ptr 4 y4 []]::(uS 1 ([.dat (.int .i64) t5 []]::(uS 32 ([]))))), nS 3 ((some ⟨y4, bt2, []⟩)::(some ⟨y4, bt3, []⟩)::(nS 34 ([])))⟩
def r16_Same_x0_0 (t4 : Bool) : State := ⟨uS 4 ([.dat .bool t4 []]::(uS 33 ([]))), nS 39 []⟩
def r16_Same_x0_1  : State := ⟨uS 38 [], nS 39 []⟩
theorem r16_Same_t (R : Type) (kk : Nat) (a_0 : Zt16) (b_1 : Zt16) (K : List SV → Option Box → Option R) : evFn r16_Same_E (Tb52 R) kk Tryz.f16 r16_Same_c [.dat y4 a_0 [], .dat y4 b_1 []] none K =
  r16_Same_s0 a_0 b_1 (fun a0 => K [.dat .bool a0 []] none) (fun a0 a1 a2 => loopR (ev r16_Same_E (Tb52 R) kk (sub [1, 1, 0, 1, 0, 0] r16_Same_c)) [2, 3, 5] [4] kk (r16_Same_h0 a0 a1 a2) (kBlock 0 (kSeq r16_Same_E (Tb52 R) kk (sub [1, 1, 1] r16_Same_c) (kFin r16_Same_E Tryz.f16.results.toList none K)))) := by kernel_rfl
theorem r16_Same_d0 (R : Type) (kk k : Nat) (t5 : Int) (bt2 : Zt16) (bt3 : Zt16) (K : Ex → State → Option R) : loopR (ev r16_Same_E (Tb52 R) kk (sub [1, 1, 0, 1, 0, 0] r16_Same_c)) [2, 3, 5] [4] (k + 1) (r16_Same_h0 t5 bt2 bt3) K =
  r16_Same_s1 t5 bt2 bt3 (fun a0 => K .ret (r16_Same_x0_0 a0)) (fun a0 a1 a2 => loopR (ev r16_Same_E (Tb52 R) kk (sub [1, 1, 0, 1, 0, 0] r16_Same_c)) [2, 3, 5] [4] k (r16_Same_h0 a0 a1 a2) K) (K (.exit 0) (r16_Same_x0_1)) := by kernel_rfl
theorem r16_Same_y0_0 (R : Type) (kk : Nat) (t4 : Bool) (K : List SV → Option Box → Option R) : (kBlock 0 (kSeq r16_Same_E (Tb52 R) kk (sub [1, 1, 1] r16_Same_c) (kFin r16_Same_E Tryz.f16.results.toList none K))) .ret (r16_Same_x0_0 t4) =
  r16_Same_s2 t4 (fun a0 => K [.dat .bool a0 []] none) := by kernel_rfl
theorem r16_Same_y0_1 (R : Type) (kk : Nat)  (K : List SV → Option Box → Option R) : (kBlock 0 (kSeq r16_Same_E (Tb52 R) kk (sub [1, 1, 1] r16_Same_c) (kFin r16_Same_E Tryz.f16.results.toList none K))) (.exit 0) (r16_Same_x0_1) =
  r16_Same_s3 (fun a0 => K [.dat .bool a0 []] none) := by kernel_rfl
theorem r16_Same_lp0 (R : Type) (k : Nat) (t5 : Int) (bt2 : Zt16) (bt3 : Zt16) (K : Ex → State → Option R) : loopR (ev r16_Same_E (Tb52 R) FUEL (sub [1, 1, 0, 1, 0, 0] r16_Same_c)) [2, 3, 5] [4] k (r16_Same_h0 t5 bt2 bt3) K = (r16_Same_l0 k t5 bt2 bt3).bind fun e => (Sum.elim (fun (we : Bool) => K .ret (r16_Same_x0_0 we)) (fun (we : Unit) => K (.exit 0) (r16_Same_x0_1)) e) := by
  induction k generalizing t5 bt2 bt3 with
  | zero => rfl
  | succ k ih =>
    rw [r16_Same_d0]
    simp only [r16_Same_l0, r16_Same_s0_bind, r16_Same_s1_bind, r16_Same_s2_bind, r16_Same_s3_bind, ih, cond_bind, within_bind, none_bind, some_bind, sum_bind, bind_bind, Sum.elim_inl, Sum.elim_inr]
theorem r16_Same_eq (R : Type) (a_0 : Zt16) (b_1 : Zt16) (K : List SV → Option Box → Option R) : evFn r16_Same_E (Tb52 R) FUEL Tryz.f16 r16_Same_c [.dat y4 a_0 [], .dat y4 b_1 []] none K = (r16_Same a_0 b_1).bind fun r => K [.dat .bool r []] none := by
  rw [r16_Same_t]
  simp only [r16_Same, r16_Same_s0_bind, r16_Same_s1_bind, r16_Same_s2_bind, r16_Same_s3_bind, r16_Same_lp0, r16_Same_y0_0, r16_Same_y0_1, cond_bind, within_bind, none_bind, some_bind, sum_bind, bind_bind, Sum.elim_inl, Sum.elim_inr]
def r16_Same_g : Pure := fun R l b K => noBox b (args2 y4 y4 l (fun x0 x1 => (r16_Same x0 x1).bind fun r => K [.dat .bool r []] none))
theorem r16_Same_n : r16_Same_g.Nat := fun R S l b F G K h => noBox_nat (args2_nat fun _ _ => bindr_nat fun _ => h _ _)
def Tb53 : Funs := Tb52.add 16 [y4, y4] r16_Same_g
theorem Tb53_nat : Tb53.Nat := add_nat Tb52_nat r16_Same_n
theorem Tb53_owes : ∀ f, Owes Tryz.prog Tb53 f := add_owes (E := r16_Same_E) (Tab.env_ok tab_ok _ _ _ _) mixed Tb52_nat Tb52_owes (fn := Tryz.f16) (code := r16_Same_c) Tryz.func16 (by kernel_rfl) (by kernel_rfl) fun l b r b' h => by
  obtain ⟨rfl, h⟩ := noBox_some h
  obtain ⟨x0, x1, h1, h2⟩ := own2 (E := r16_Same_E) rfl h
  exact ⟨FUEL, (h2 _ _ _ _ _ _).trans ((r16_Same_eq _ x0 x1 _).trans h1)⟩
noncomputable abbrev w21_awake_c : Code := Tryz.f6.body.getD .skip
def w21_awake_E : Env := tab.env (fun _ => []) (fun _ => []) [] []
theorem w21_awake_t (R : Type) (kk : Nat)  (K : List SV → Option Box → Option R) : evFn w21_awake_E (Tb53 R) kk Tryz.f6 w21_awake_c [] none K =
  w21_awake_s0 (fun a0 => K [.dat .bool a0 []] none) := by kernel_rfl
theorem w21_awake_eq (R : Type)  (K : List SV → Option Box → Option R) : evFn w21_awake_E (Tb53 R) FUEL Tryz.f6 w21_awake_c [] none K = (w21_awake).bind fun r => K [.dat .bool r []] none := by
  rw [w21_awake_t]
  simp only [w21_awake, w21_awake_s0_bind, cond_bind, within_bind, none_bind, some_bind, sum_bind, bind_bind, Sum.elim_inl, Sum.elim_inr]
def w21_awake_g : Pure := fun R l b K => noBox b (args0 l ((w21_awake).bind fun r => K [.dat .bool r []] none))
theorem w21_awake_n : w21_awake_g.Nat := fun R S l b F G K h => noBox_nat (args0_nat (bindr_nat fun _ => h _ _))
def Tb54 : Funs := Tb53.add 6 [] w21_awake_g
theorem Tb54_nat : Tb54.Nat := add_nat Tb53_nat w21_awake_n
theorem Tb54_owes : ∀ f, Owes Tryz.prog Tb54 f := add_owes (E := w21_awake_E) (Tab.env_ok tab_ok _ _ _ _) mixed Tb53_nat Tb53_owes (fn := Tryz.f6) (code := w21_awake_c) Tryz.func6 (by kernel_rfl) (by kernel_rfl) fun l b r b' h => by
  obtain ⟨rfl, h⟩ := noBox_some h
  obtain ⟨h1, h2⟩ := own0 (E := w21_awake_E) rfl h
  exact ⟨FUEL, (h2 _ _ _ _ _ _).trans ((w21_awake_eq _  _).trans h1)⟩
noncomputable abbrev r20_Great_c : Code := Tryz.f46.body.getD .skip
def r20_Great_E : Env := tab.env (fun i => bif Nat.beq i 4 then [1, 3] else []) (fun i => bif Nat.beq i 4 then [2] else []) [] [y9]
def r20_Great_h0 (t3 : Int) (bt1 : Zt19) : State := ⟨uS 1 ([.ptr 2 y9 []]::(uS 1 ([.dat (.int .i64) t3 []]::(uS 35 ([]))))), nS 2 ((some ⟨y9, bt1, []⟩)::(nS 37 ([])))⟩
def r20_Great_x0_0 (t2 : Bool) : State := ⟨uS 2 ([.dat .bool t2 []]::(uS 36 ([]))), nS 40 []⟩
def r20_Great_x0_1  : State := ⟨uS 39 [], nS 40 []⟩
theorem r20_Great_t (R : Type) (kk : Nat) (r_0 : Zt19) (K : List SV → Option Box → Option R) : evFn r20_Great_E (Tb54 R) kk Tryz.f46 r20_Great_c [.dat y9 r_0 []] none K =
  r20_Great_s0 r_0 (fun a0 => K [.dat .bool a0 []] none) (fun a0 a1 => loopR (ev r20_Great_E (Tb54 R) kk (sub [1, 1, 0, 1, 0, 0] r20_Great_c)) [1, 3] [2] kk (r20_Great_h0 a0 a1) (kBlock 0 (kSeq r20_Great_E (Tb54 R) kk (sub [1, 1, 1] r20_Great_c) (kFin r20_Great_E Tryz.f46.results.toList none K)))) := by kernel_rfl
theorem r20_Great_d0 (R : Type) (kk k : Nat) (t3 : Int) (bt1 : Zt19) (K : Ex → State → Option R) : loopR (ev r20_Great_E (Tb54 R) kk (sub [1, 1, 0, 1, 0, 0] r20_Great_c)) [1, 3] [2] (k + 1) (r20_Great_h0 t3 bt1) K =
  r20_Great_s1 t3 bt1 (fun a0 => K .ret (r20_Great_x0_0 a0)) (fun a0 a1 => loopR (ev r20_Great_E (Tb54 R) kk (sub [1, 1, 0, 1, 0, 0] r20_Great_c)) [1, 3] [2] k (r20_Great_h0 a0 a1) K) (K (.exit 0) (r20_Great_x0_1)) := by kernel_rfl
theorem r20_Great_y0_0 (R : Type) (kk : Nat) (t2 : Bool) (K : List SV → Option Box → Option R) : (kBlock 0 (kSeq r20_Great_E (Tb54 R) kk (sub [1, 1, 1] r20_Great_c) (kFin r20_Great_E Tryz.f46.results.toList none K))) .ret (r20_Great_x0_0 t2) =
  r20_Great_s2 t2 (fun a0 => K [.dat .bool a0 []] none) := by kernel_rfl
theorem r20_Great_y0_1 (R : Type) (kk : Nat)  (K : List SV → Option Box → Option R) : (kBlock 0 (kSeq r20_Great_E (Tb54 R) kk (sub [1, 1, 1] r20_Great_c) (kFin r20_Great_E Tryz.f46.results.toList none K))) (.exit 0) (r20_Great_x0_1) =
  r20_Great_s3 (fun a0 => K [.dat .bool a0 []] none) := by kernel_rfl
theorem r20_Great_lp0 (R : Type) (k : Nat) (t3 : Int) (bt1 : Zt19) (K : Ex → State → Option R) : loopR (ev r20_Great_E (Tb54 R) FUEL (sub [1, 1, 0, 1, 0, 0] r20_Great_c)) [1, 3] [2] k (r20_Great_h0 t3 bt1) K = (r20_Great_l0 k t3 bt1).bind fun e => (Sum.elim (fun (we : Bool) => K .ret (r20_Great_x0_0 we)) (fun (we : Unit) => K (.exit 0) (r20_Great_x0_1)) e) := by
  induction k generalizing t3 bt1 with
  | zero => rfl
  | succ k ih =>
    rw [r20_Great_d0]
    simp only [r20_Great_l0, r20_Great_s0_bind, r20_Great_s1_bind, r20_Great_s2_bind, r20_Great_s3_bind, ih, cond_bind, within_bind, none_bind, some_bind, sum_bind, bind_bind, Sum.elim_inl, Sum.elim_inr]
theorem r20_Great_eq (R : Type) (r_0 : Zt19) (K : List SV → Option Box → Option R) : evFn r20_Great_E (Tb54 R) FUEL Tryz.f46 r20_Great_c [.dat y9 r_0 []] none K = (r20_Great r_0).bind fun r => K [.dat .bool r []] none := by
  rw [r20_Great_t]
  simp only [r20_Great, r20_Great_s0_bind, r20_Great_s1_bind, r20_Great_s2_bind, r20_Great_s3_bind, r20_Great_lp0, r20_Great_y0_0, r20_Great_y0_1, cond_bind, within_bind, none_bind, some_bind, sum_bind, bind_bind, Sum.elim_inl, Sum.elim_inr]
def r20_Great_g : Pure := fun R l b K => noBox b (args1 y9 l (fun x0 => (r20_Great x0).bind fun r => K [.dat .bool r []] none))
theorem r20_Great_n : r20_Great_g.Nat := fun R S l b F G K h => noBox_nat (args1_nat fun _ => bindr_nat fun _ => h _ _)
def Tb55 : Funs := Tb54.add 46 [y9] r20_Great_g
theorem Tb55_nat : Tb55.Nat := add_nat Tb54_nat r20_Great_n
theorem Tb55_owes : ∀ f, Owes Tryz.prog Tb55 f := add_owes (E := r20_Great_E) (Tab.env_ok tab_ok _ _ _ _) mixed Tb54_nat Tb54_owes (fn := Tryz.f46) (code := r20_Great_c) Tryz.func46 (by kernel_rfl) (by kernel_rfl) fun l b r b' h => by
  obtain ⟨rfl, h⟩ := noBox_some h
  obtain ⟨x0, h1, h2⟩ := own1 (E := r20_Great_E) rfl h
  exact ⟨FUEL, (h2 _ _ _ _ _ _).trans ((r20_Great_eq _ x0 _).trans h1)⟩
noncomputable abbrev r21_Great_c : Code := Tryz.f20.body.getD .skip
def r21_Great_E : Env := tab.env (fun i => bif Nat.beq i 4 then [1, 3] else bif Nat.beq i 9 then [1, 4] else []) (fun i => bif Nat.beq i 4 then [1, 2] else bif Nat.beq i 9 then [2] else []) [] [y14]
def r21_Great_h0 (t3 : Int) (bt1 : Zt23) : State := ⟨uS 1 ([.ptr 2 y14 []]::(uS 1 ([.dat (.int .i64) t3 []]::(uS 49 ([]))))), nS 2 ((some ⟨y14, bt1, []⟩)::(nS 51 ([])))⟩
def r21_Great_x0_0 (t2 : Bool) (bt1 : Zt23) : State := ⟨uS 1 ([.ptr 2 y14 []]::[.dat .bool t2 []]::(uS 50 ([]))), nS 2 ((some ⟨y14, bt1, []⟩)::(nS 51 ([])))⟩
def r21_Great_x0_1 (bt1 : Zt23) : State := ⟨uS 1 ([.ptr 2 y14 []]::(uS 51 ([]))), nS 2 ((some ⟨y14, bt1, []⟩)::(nS 51 ([])))⟩
def r21_Great_h1 (t4 : Int) (bt1 : Zt23) : State := ⟨uS 1 ([.ptr 2 y14 []]::(uS 2 ([.dat (.int .i64) t4 []]::(uS 48 ([]))))), nS 2 ((some ⟨y14, bt1, []⟩)::(nS 51 ([])))⟩
def r21_Great_x1_0 (t2 : Bool) : State := ⟨uS 2 ([.dat .bool t2 []]::(uS 50 ([]))), nS 54 []⟩
def r21_Great_x1_1  : State := ⟨uS 53 [], nS 54 []⟩
theorem r21_Great_t (R : Type) (kk : Nat) (m_0 : Zt23) (K : List SV → Option Box → Option R) : evFn r21_Great_E (Tb55 R) kk Tryz.f20 r21_Great_c [.dat y14 m_0 []] none K =
  r21_Great_s0 m_0 (fun a0 => K [.dat .bool a0 []] none) (fun a0 a1 => loopR (ev r21_Great_E (Tb55 R) kk (sub [1, 1, 0, 1, 0, 0] r21_Great_c)) [1, 3] [1, 2] kk (r21_Great_h0 a0 a1) (kBlock 0 (kSeq r21_Great_E (Tb55 R) kk (sub [1, 1, 1] r21_Great_c) (kFin r21_Great_E Tryz.f20.results.toList none K)))) := by kernel_rfl
theorem r21_Great_d0 (R : Type) (kk k : Nat) (t3 : Int) (bt1 : Zt23) (K : Ex → State → Option R) : loopR (ev r21_Great_E (Tb55 R) kk (sub [1, 1, 0, 1, 0, 0] r21_Great_c)) [1, 3] [1, 2] (k + 1) (r21_Great_h0 t3 bt1) K =
  r21_Great_s1 t3 bt1 (fun a0 a1 => K .ret (r21_Great_x0_0 a0 a1)) (fun a0 a1 => loopR (ev r21_Great_E (Tb55 R) kk (sub [1, 1, 0, 1, 0, 0] r21_Great_c)) [1, 3] [1, 2] k (r21_Great_h0 a0 a1) K) (fun a0 => K (.exit 0) (r21_Great_x0_1 a0)) := by kernel_rfl
theorem r21_Great_y0_0 (R : Type) (kk : Nat) (t2 : Bool) (bt1 : Zt23) (K : List SV → Option Box → Option R) : (kBlock 0 (kSeq r21_Great_E (Tb55 R) kk (sub [1, 1, 1] r21_Great_c) (kFin r21_Great_E Tryz.f20.results.toList none K))) .ret (r21_Great_x0_0 t2 bt1) =
  r21_Great_s2 t2 bt1 (fun a0 => K [.dat .bool a0 []] none) := by kernel_rfl
theorem r21_Great_y0_1 (R : Type) (kk : Nat) (bt1 : Zt23) (K : List SV → Option Box → Option R) : (kBlock 0 (kSeq r21_Great_E (Tb55 R) kk (sub [1, 1, 1] r21_Great_c) (kFin r21_Great_E Tryz.f20.results.toList none K))) (.exit 0) (r21_Great_x0_1 bt1) =
  r21_Great_s3 bt1 (fun a0 a1 => loopR (ev r21_Great_E (Tb55 R) kk (sub [1, 1, 1, 0, 1, 0, 0] r21_Great_c)) [1, 4] [2] kk (r21_Great_h1 a0 a1) (kBlock 2 (kSeq r21_Great_E (Tb55 R) kk (sub [1, 1, 1, 1] r21_Great_c) (kFin r21_Great_E Tryz.f20.results.toList none K)))) := by kernel_rfl
theorem r21_Great_d1 (R : Type) (kk k : Nat) (t4 : Int) (bt1 : Zt23) (K : Ex → State → Option R) : loopR (ev r21_Great_E (Tb55 R) kk (sub [1, 1, 1, 0, 1, 0, 0] r21_Great_c)) [1, 4] [2] (k + 1) (r21_Great_h1 t4 bt1) K =
  r21_Great_s4 t4 bt1 (fun a0 => K .ret (r21_Great_x1_0 a0)) (fun a0 a1 => loopR (ev r21_Great_E (Tb55 R) kk (sub [1, 1, 1, 0, 1, 0, 0] r21_Great_c)) [1, 4] [2] k (r21_Great_h1 a0 a1) K) (K (.exit 2) (r21_Great_x1_1)) := by kernel_rfl
theorem r21_Great_y1_0 (R : Type) (kk : Nat) (t2 : Bool) (K : List SV → Option Box → Option R) : (kBlock 2 (kSeq r21_Great_E (Tb55 R) kk (sub [1, 1, 1, 1] r21_Great_c) (kFin r21_Great_E Tryz.f20.results.toList none K))) .ret (r21_Great_x1_0 t2) =
  r21_Great_s5 t2 (fun a0 => K [.dat .bool a0 []] none) := by kernel_rfl
theorem r21_Great_y1_1 (R : Type) (kk : Nat)  (K : List SV → Option Box → Option R) : (kBlock 2 (kSeq r21_Great_E (Tb55 R) kk (sub [1, 1, 1, 1] r21_Great_c) (kFin r21_Great_E Tryz.f20.results.toList none K))) (.exit 2) (r21_Great_x1_1) =
  r21_Great_s6 (fun a0 => K [.dat .bool a0 []] none) := by kernel_rfl
theorem r21_Great_lp0 (R : Type) (k : Nat) (t3 : Int) (bt1 : Zt23) (K : Ex → State → Option R) : loopR (ev r21_Great_E (Tb55 R) FUEL (sub [1, 1, 0, 1, 0, 0] r21_Great_c)) [1, 3] [1, 2] k (r21_Great_h0 t3 bt1) K = (r21_Great_l0 k t3 bt1).bind fun e => (Sum.elim (fun (we : (Bool × Zt23)) => K .ret (r21_Great_x0_0 we.1 we.2)) (fun (we : Zt23) => K (.exit 0) (r21_Great_x0_1 we)) e) := by
  induction k generalizing t3 bt1 with
  | zero => rfl
  | succ k ih =>
    rw [r21_Great_d0]
    simp only [r21_Great_l0, r21_Great_s0_bind, r21_Great_s1_bind, r21_Great_s2_bind, r21_Great_s3_bind, r21_Great_s4_bind, r21_Great_s5_bind, r21_Great_s6_bind, ih, cond_bind, within_bind, none_bind, some_bind, sum_bind, bind_bind, Sum.elim_inl, Sum.elim_inr]
theorem r21_Great_lp1 (R : Type) (k : Nat) (t4 : Int) (bt1 : Zt23) (K : Ex → State → Option R) : loopR (ev r21_Great_E (Tb55 R) FUEL (sub [1, 1, 1, 0, 1, 0, 0] r21_Great_c)) [1, 4] [2] k (r21_Great_h1 t4 bt1) K = (r21_Great_l1 k t4 bt1).bind fun e => (Sum.elim (fun (we : Bool) => K .ret (r21_Great_x1_0 we)) (fun (we : Unit) => K (.exit 2) (r21_Great_x1_1)) e) := by
  induction k generalizing t4 bt1 with
  | zero => rfl
  | succ k ih =>
    rw [r21_Great_d1]
    simp only [r21_Great_l1, r21_Great_s0_bind, r21_Great_s1_bind, r21_Great_s2_bind, r21_Great_s3_bind, r21_Great_s4_bind, r21_Great_s5_bind, r21_Great_s6_bind, ih, cond_bind, within_bind, none_bind, some_bind, sum_bind, bind_bind, Sum.elim_inl, Sum.elim_inr]
theorem r21_Great_eq (R : Type) (m_0 : Zt23) (K : List SV → Option Box → Option R) : evFn r21_Great_E (Tb55 R) FUEL Tryz.f20 r21_Great_c [.dat y14 m_0 []] none K = (r21_Great m_0).bind fun r => K [.dat .bool r []] none := by
  rw [r21_Great_t]
  simp only [r21_Great, r21_Great_s0_bind, r21_Great_s1_bind, r21_Great_s2_bind, r21_Great_s3_bind, r21_Great_s4_bind, r21_Great_s5_bind, r21_Great_s6_bind, r21_Great_lp0, r21_Great_lp1, r21_Great_y0_0, r21_Great_y0_1, r21_Great_y1_0, r21_Great_y1_1, cond_bind, within_bind, none_bind, some_bind, sum_bind, bind_bind, Sum.elim_inl, Sum.elim_inr]
def r21_Great_g : Pure := fun R l b K => noBox b (args1 y14 l (fun x0 => (r21_Great x0).bind fun r => K [.dat .bool r []] none))
theorem r21_Great_n : r21_Great_g.Nat := fun R S l b F G K h => noBox_nat (args1_nat fun _ => bindr_nat fun _ => h _ _)
def Tb56 : Funs := Tb55.add 20 [y14] r21_Great_g
theorem Tb56_nat : Tb56.Nat := add_nat Tb55_nat r21_Great_n
theorem Tb56_owes : ∀ f, Owes Tryz.prog Tb56 f := add_owes (E := r21_Great_E) (Tab.env_ok tab_ok _ _ _ _) mixed Tb55_nat Tb55_owes (fn := Tryz.f20) (code := r21_Great_c) Tryz.func20 (by kernel_rfl) (by kernel_rfl) fun l b r b' h => by
  obtain ⟨rfl, h⟩ := noBox_some h
  obtain ⟨x0, h1, h2⟩ := own1 (E := r21_Great_E) rfl h
  exact ⟨FUEL, (h2 _ _ _ _ _ _).trans ((r21_Great_eq _ x0 _).trans h1)⟩
noncomputable abbrev w21_great_c : Code := Tryz.f7.body.getD .skip
def w21_great_E : Env := tab.env (fun _ => []) (fun _ => []) [] [y14, (.arr 2 y13)]
theorem w21_great_t (R : Type) (kk : Nat) (m_0 : Zt23) (s_1 : Zt18) (K : List SV → Option Box → Option R) : evFn w21_great_E (Tb56 R) kk Tryz.f7 w21_great_c [.dat y14 m_0 [], .dat (.arr 2 y13) s_1 []] none K =
  w21_great_s0 m_0 s_1 (fun a0 => K [.dat .bool a0 []] none) := by kernel_rfl
theorem w21_great_eq (R : Type) (m_0 : Zt23) (s_1 : Zt18) (K : List SV → Option Box → Option R) : evFn w21_great_E (Tb56 R) FUEL Tryz.f7 w21_great_c [.dat y14 m_0 [], .dat (.arr 2 y13) s_1 []] none K = (w21_great m_0 s_1).bind fun r => K [.dat .bool r []] none := by
  rw [w21_great_t]
  simp only [w21_great, w21_great_s0_bind, cond_bind, within_bind, none_bind, some_bind, sum_bind, bind_bind, Sum.elim_inl, Sum.elim_inr]
def w21_great_g : Pure := fun R l b K => noBox b (args2 y14 (.arr 2 y13) l (fun x0 x1 => (w21_great x0 x1).bind fun r => K [.dat .bool r []] none))
theorem w21_great_n : w21_great_g.Nat := fun R S l b F G K h => noBox_nat (args2_nat fun _ _ => bindr_nat fun _ => h _ _)
def Tb57 : Funs := Tb56.add 7 [y14, (.arr 2 y13)] w21_great_g
theorem Tb57_nat : Tb57.Nat := add_nat Tb56_nat w21_great_n
theorem Tb57_owes : ∀ f, Owes Tryz.prog Tb57 f := add_owes (E := w21_great_E) (Tab.env_ok tab_ok _ _ _ _) mixed Tb56_nat Tb56_owes (fn := Tryz.f7) (code := w21_great_c) Tryz.func7 (by kernel_rfl) (by kernel_rfl) fun l b r b' h => by
  obtain ⟨rfl, h⟩ := noBox_some h
  obtain ⟨x0, x1, h1, h2⟩ := own2 (E := w21_great_E) rfl h
  exact ⟨FUEL, (h2 _ _ _ _ _ _).trans ((w21_great_eq _ x0 x1 _).trans h1)⟩
noncomputable abbrev r16_Great_c : Code := Tryz.f12.body.getD .skip
def r16_Great_E : Env := tab.env (fun i => bif Nat.beq i 4 then [1, 3] else []) (fun i => bif Nat.beq i 4 then [2] else []) [] [y4]
def r16_Great_h0 (t3 : Int) (bt1 : Zt16) : State := ⟨uS 1 ([.ptr 2 y4 []]::(uS 1 ([.dat (.int .i64) t3 []]::(uS 25 ([]))))), nS 2 ((some ⟨y4, bt1, []⟩)::(nS 27 ([])))⟩
def r16_Great_x0_0 (t2 : Bool) : State := ⟨uS 2 ([.dat .bool t2 []]::(uS 26 ([]))), nS 30 []⟩
def r16_Great_x0_1  : State := ⟨uS 29 [], nS 30 []⟩
theorem r16_Great_t (R : Type) (kk : Nat) (m_0 : Zt16) (K : List SV → Option Box → Option R) : evFn r16_Great_E (Tb57 R) kk Tryz.f12 r16_Great_c [.dat y4 m_0 []] none K =
  r16_Great_s0 m_0 (fun a0 => K [.dat .bool a0 []] none) (fun a0 a1 => loopR (ev r16_Great_E (Tb57 R) kk (sub [1, 1, 0, 1, 0, 0] r16_Great_c)) [1, 3] [2] kk (r16_Great_h0 a0 a1) (kBlock 0 (kSeq r16_Great_E (Tb57 R) kk (sub [1, 1, 1] r16_Great_c) (kFin r16_Great_E Tryz.f12.results.toList none K)))) := by kernel_rfl
theorem r16_Great_d0 (R : Type) (kk k : Nat) (t3 : Int) (bt1 : Zt16) (K : Ex → State → Option R) : loopR (ev r16_Great_E (Tb57 R) kk (sub [1, 1, 0, 1, 0, 0] r16_Great_c)) [1, 3] [2] (k + 1) (r16_Great_h0 t3 bt1) K =
  r16_Great_s1 t3 bt1 (fun a0 => K .ret (r16_Great_x0_0 a0)) (fun a0 a1 => loopR (ev r16_Great_E (Tb57 R) kk (sub [1, 1, 0, 1, 0, 0] r16_Great_c)) [1, 3] [2] k (r16_Great_h0 a0 a1) K) (K (.exit 0) (r16_Great_x0_1)) := by kernel_rfl
theorem r16_Great_y0_0 (R : Type) (kk : Nat) (t2 : Bool) (K : List SV → Option Box → Option R) : (kBlock 0 (kSeq r16_Great_E (Tb57 R) kk (sub [1, 1, 1] r16_Great_c) (kFin r16_Great_E Tryz.f12.results.toList none K))) .ret (r16_Great_x0_0 t2) =
  r16_Great_s2 t2 (fun a0 => K [.dat .bool a0 []] none) := by kernel_rfl
theorem r16_Great_y0_1 (R : Type) (kk : Nat)  (K : List SV → Option Box → Option R) : (kBlock 0 (kSeq r16_Great_E (Tb57 R) kk (sub [1, 1, 1] r16_Great_c) (kFin r16_Great_E Tryz.f12.results.toList none K))) (.exit 0) (r16_Great_x0_1) =
  r16_Great_s3 (fun a0 => K [.dat .bool a0 []] none) := by kernel_rfl
theorem r16_Great_lp0 (R : Type) (k : Nat) (t3 : Int) (bt1 : Zt16) (K : Ex → State → Option R) : loopR (ev r16_Great_E (Tb57 R) FUEL (sub [1, 1, 0, 1, 0, 0] r16_Great_c)) [1, 3] [2] k (r16_Great_h0 t3 bt1) K = (r16_Great_l0 k t3 bt1).bind fun e => (Sum.elim (fun (we : Bool) => K .ret (r16_Great_x0_0 we)) (fun (we : Unit) => K (.exit 0) (r16_Great_x0_1)) e) := by
  induction k generalizing t3 bt1 with
  | zero => rfl
  | succ k ih =>
    rw [r16_Great_d0]
    simp only [r16_Great_l0, r16_Great_s0_bind, r16_Great_s1_bind, r16_Great_s2_bind, r16_Great_s3_bind, ih, cond_bind, within_bind, none_bind, some_bind, sum_bind, bind_bind, Sum.elim_inl, Sum.elim_inr]
theorem r16_Great_eq (R : Type) (m_0 : Zt16) (K : List SV → Option Box → Option R) : evFn r16_Great_E (Tb57 R) FUEL Tryz.f12 r16_Great_c [.dat y4 m_0 []] none K = (r16_Great m_0).bind fun r => K [.dat .bool r []] none := by
  rw [r16_Great_t]
  simp only [r16_Great, r16_Great_s0_bind, r16_Great_s1_bind, r16_Great_s2_bind, r16_Great_s3_bind, r16_Great_lp0, r16_Great_y0_0, r16_Great_y0_1, cond_bind, within_bind, none_bind, some_bind, sum_bind, bind_bind, Sum.elim_inl, Sum.elim_inr]
def r16_Great_g : Pure := fun R l b K => noBox b (args1 y4 l (fun x0 => (r16_Great x0).bind fun r => K [.dat .bool r []] none))
theorem r16_Great_n : r16_Great_g.Nat := fun R S l b F G K h => noBox_nat (args1_nat fun _ => bindr_nat fun _ => h _ _)
def Tb58 : Funs := Tb57.add 12 [y4] r16_Great_g
theorem Tb58_nat : Tb58.Nat := add_nat Tb57_nat r16_Great_n
theorem Tb58_owes : ∀ f, Owes Tryz.prog Tb58 f := add_owes (E := r16_Great_E) (Tab.env_ok tab_ok _ _ _ _) mixed Tb57_nat Tb57_owes (fn := Tryz.f12) (code := r16_Great_c) Tryz.func12 (by kernel_rfl) (by kernel_rfl) fun l b r b' h => by
  obtain ⟨rfl, h⟩ := noBox_some h
  obtain ⟨x0, h1, h2⟩ := own1 (E := r16_Great_E) rfl h
  exact ⟨FUEL, (h2 _ _ _ _ _ _).trans ((r16_Great_eq _ x0 _).trans h1)⟩
noncomputable abbrev r19_Copy_c : Code := Tryz.f27.body.getD .skip
def r19_Copy_E : Env := tab.env (fun _ => []) (fun _ => []) [] [(.sl 56 (.pair .str (.pair .str .unit)))]
theorem r19_Copy_t (R : Type) (kk : Nat) (l_0 : Zt13) (K : List SV → Option Box → Option R) : evFn r19_Copy_E (Tb58 R) kk Tryz.f27 r19_Copy_c [.dat (.sl 56 (.pair .str (.pair .str .unit))) l_0 []] none K =
  r19_Copy_s0 l_0 (fun a0 => K [.dat (.sl 56 (.pair .str (.pair .str .unit))) a0 [[]]] none) := by kernel_rfl
theorem r19_Copy_eq (R : Type) (l_0 : Zt13) (K : List SV → Option Box → Option R) : evFn r19_Copy_E (Tb58 R) FUEL Tryz.f27 r19_Copy_c [.dat (.sl 56 (.pair .str (.pair .str .unit))) l_0 []] none K = (r19_Copy l_0).bind fun r => K [.dat (.sl 56 (.pair .str (.pair .str .unit))) r [[]]] none := by
  rw [r19_Copy_t]
  simp only [r19_Copy, r19_Copy_s0_bind, cond_bind, within_bind, none_bind, some_bind, sum_bind, bind_bind, Sum.elim_inl, Sum.elim_inr]
def r19_Copy_g : Pure := fun R l b K => noBox b (args1 (.sl 56 (.pair .str (.pair .str .unit))) l (fun x0 => (r19_Copy x0).bind fun r => K [.dat (.sl 56 (.pair .str (.pair .str .unit))) r [[]]] none))
theorem r19_Copy_n : r19_Copy_g.Nat := fun R S l b F G K h => noBox_nat (args1_nat fun _ => bindr_nat fun _ => h _ _)
def Tb59 : Funs := Tb58.add 27 [(.sl 56 (.pair .str (.pair .str .unit)))] r19_Copy_g
theorem Tb59_nat : Tb59.Nat := add_nat Tb58_nat r19_Copy_n
theorem Tb59_owes : ∀ f, Owes Tryz.prog Tb59 f := add_owes (E := r19_Copy_E) (Tab.env_ok tab_ok _ _ _ _) mixed Tb58_nat Tb58_owes (fn := Tryz.f27) (code := r19_Copy_c) Tryz.func27 (by kernel_rfl) (by kernel_rfl) fun l b r b' h => by
  obtain ⟨rfl, h⟩ := noBox_some h
  obtain ⟨x0, h1, h2⟩ := own1 (E := r19_Copy_E) rfl h
  exact ⟨FUEL, (h2 _ _ _ _ _ _).trans ((r19_Copy_eq _ x0 _).trans h1)⟩
noncomputable abbrev r20_Copy_c : Code := Tryz.f28.body.getD .skip
def r20_Copy_E : Env := tab.env (fun _ => []) (fun _ => []) [2] [y9]
theorem r20_Copy_t (R : Type) (kk : Nat) (r_0 : Zt19) (K : List SV → Option Box → Option R) : evFn r20_Copy_E (Tb59 R) kk Tryz.f28 r20_Copy_c [.dat y9 r_0 []] none K =
  r20_Copy_s0 r_0 (fun a0 => K [.dat y9 a0 [[4]]] none) := by kernel_rfl
theorem r20_Copy_eq (R : Type) (r_0 : Zt19) (K : List SV → Option Box → Option R) : evFn r20_Copy_E (Tb59 R) FUEL Tryz.f28 r20_Copy_c [.dat y9 r_0 []] none K = (r20_Copy r_0).bind fun r => K [.dat y9 r [[4]]] none := by
  rw [r20_Copy_t]
  simp only [r20_Copy, r20_Copy_s0_bind, cond_bind, within_bind, none_bind, some_bind, sum_bind, bind_bind, Sum.elim_inl, Sum.elim_inr]
def r20_Copy_g : Pure := fun R l b K => noBox b (args1 y9 l (fun x0 => (r20_Copy x0).bind fun r => K [.dat y9 r [[4]]] none))
theorem r20_Copy_n : r20_Copy_g.Nat := fun R S l b F G K h => noBox_nat (args1_nat fun _ => bindr_nat fun _ => h _ _)
def Tb60 : Funs := Tb59.add 28 [y9] r20_Copy_g
theorem Tb60_nat : Tb60.Nat := add_nat Tb59_nat r20_Copy_n
theorem Tb60_owes : ∀ f, Owes Tryz.prog Tb60 f := add_owes (E := r20_Copy_E) (Tab.env_ok tab_ok _ _ _ _) mixed Tb59_nat Tb59_owes (fn := Tryz.f28) (code := r20_Copy_c) Tryz.func28 (by kernel_rfl) (by kernel_rfl) fun l b r b' h => by
  obtain ⟨rfl, h⟩ := noBox_some h
  obtain ⟨x0, h1, h2⟩ := own1 (E := r20_Copy_E) rfl h
  exact ⟨FUEL, (h2 _ _ _ _ _ _).trans ((r20_Copy_eq _ x0 _).trans h1)⟩
noncomputable abbrev r21_Copy_c : Code := Tryz.f9.body.getD .skip
def r21_Copy_E : Env := tab.env (fun i => bif Nat.beq i 3 then [1, 2, 3, 4] else []) (fun i => bif Nat.beq i 3 then [2, 3] else []) [2] [y14]
def r21_Copy_h0 (t4 : Int) (bt1 : Zt23) (bt2 : Zt23) (bt3 : Zt23) : State := ⟨uS 1 ([.ptr 2 y14 []]::[.ptr 3 y14 []]::[.ptr 4 y14 []]::[.dat (.int .i64) t4 []]::(uS 23 ([]))), nS 2 ((some ⟨y14, bt1, []⟩)::(some ⟨y14, bt2, [[0], [1]]⟩)::(some ⟨y14, bt3, [[0], [1]]⟩)::(nS 24 ([])))⟩
def r21_Copy_x0_0 (bt2 : Zt23) (bt3 : Zt23) : State := ⟨uS 2 ([.ptr 3 y14 []]::[.ptr 4 y14 []]::(uS 24 ([]))), nS 3 ((some ⟨y14, bt2, [[0], [1]]⟩)::(some ⟨y14, bt3, [[0], [1]]⟩)::(nS 24 ([])))⟩
theorem r21_Copy_t (R : Type) (kk : Nat) (m_0 : Zt23) (K : List SV → Option Box → Option R) : evFn r21_Copy_E (Tb60 R) kk Tryz.f9 r21_Copy_c [.dat y14 m_0 []] none K =
  r21_Copy_s0 m_0 (fun a0 a1 a2 a3 => loopR (ev r21_Copy_E (Tb60 R) kk (sub [1, 1, 0, 1, 0, 0] r21_Copy_c)) [1, 2, 3, 4] [2, 3] kk (r21_Copy_h0 a0 a1 a2 a3) (kBlock 0 (kSeq r21_Copy_E (Tb60 R) kk (sub [1, 1, 1] r21_Copy_c) (kFin r21_Copy_E Tryz.f9.results.toList none K)))) := by kernel_rfl
theorem r21_Copy_d0 (R : Type) (kk k : Nat) (t4 : Int) (bt1 : Zt23) (bt2 : Zt23) (bt3 : Zt23) (K : Ex → State → Option R) : loopR (ev r21_Copy_E (Tb60 R) kk (sub [1, 1, 0, 1, 0, 0] r21_Copy_c)) [1, 2, 3, 4] [2, 3] (k + 1) (r21_Copy_h0 t4 bt1 bt2 bt3) K =
  r21_Copy_s1 t4 bt1 bt2 bt3 (fun a0 a1 a2 a3 => loopR (ev r21_Copy_E (Tb60 R) kk (sub [1, 1, 0, 1, 0, 0] r21_Copy_c)) [1, 2, 3, 4] [2, 3] k (r21_Copy_h0 a0 a1 a2 a3) K) (fun a0 a1 => K (.exit 0) (r21_Copy_x0_0 a0 a1)) := by kernel_rfl
theorem r21_Copy_y0_0 (R : Type) (kk : Nat) (bt2 : Zt23) (bt3 : Zt23) (K : List SV → Option Box → Option R) : (kBlock 0 (kSeq r21_Copy_E (Tb60 R) kk (sub [1, 1, 1] r21_Copy_c) (kFin r21_Copy_E Tryz.f9.results.toList none K))) (.exit 0) (r21_Copy_x0_0 bt2 bt3) =
  r21_Copy_s2 bt2 bt3 (fun a0 => K [.dat y14 a0 [[0], [1]]] none) := by kernel_rfl
theorem r21_Copy_lp0 (R : Type) (k : Nat) (t4 : Int) (bt1 : Zt23) (bt2 : Zt23) (bt3 : Zt23) (K : Ex → State → Option R) : loopR (ev r21_Copy_E (Tb60 R) FUEL (sub [1, 1, 0, 1, 0, 0] r21_Copy_c)) [1, 2, 3, 4] [2, 3] k (r21_Copy_h0 t4 bt1 bt2 bt3) K = (r21_Copy_l0 k t4 bt1 bt2 bt3).bind fun e => K (.exit 0) (r21_Copy_x0_0 e.1 e.2) := by
  induction k generalizing t4 bt1 bt2 bt3 with
  | zero => rfl
  | succ k ih =>
    rw [r21_Copy_d0]
    simp only [r21_Copy_l0, r21_Copy_s0_bind, r21_Copy_s1_bind, r21_Copy_s2_bind, ih, cond_bind, within_bind, none_bind, some_bind, sum_bind, bind_bind, Sum.elim_inl, Sum.elim_inr]
theorem r21_Copy_eq (R : Type) (m_0 : Zt23) (K : List SV → Option Box → Option R) : evFn r21_Copy_E (Tb60 R) FUEL Tryz.f9 r21_Copy_c [.dat y14 m_0 []] none K = (r21_Copy m_0).bind fun r => K [.dat y14 r [[0], [1]]] none := by
  rw [r21_Copy_t]
  simp only [r21_Copy, r21_Copy_s0_bind, r21_Copy_s1_bind, r21_Copy_s2_bind, r21_Copy_lp0, r21_Copy_y0_0, cond_bind, within_bind, none_bind, some_bind, sum_bind, bind_bind, Sum.elim_inl, Sum.elim_inr]
def r21_Copy_g : Pure := fun R l b K => noBox b (args1 y14 l (fun x0 => (r21_Copy x0).bind fun r => K [.dat y14 r [[0], [1]]] none))
theorem r21_Copy_n : r21_Copy_g.Nat := fun R S l b F G K h => noBox_nat (args1_nat fun _ => bindr_nat fun _ => h _ _)
def Tb61 : Funs := Tb60.add 9 [y14] r21_Copy_g
theorem Tb61_nat : Tb61.Nat := add_nat Tb60_nat r21_Copy_n
theorem Tb61_owes : ∀ f, Owes Tryz.prog Tb61 f := add_owes (E := r21_Copy_E) (Tab.env_ok tab_ok _ _ _ _) mixed Tb60_nat Tb60_owes (fn := Tryz.f9) (code := r21_Copy_c) Tryz.func9 (by kernel_rfl) (by kernel_rfl) fun l b r b' h => by
  obtain ⟨rfl, h⟩ := noBox_some h
  obtain ⟨x0, h1, h2⟩ := own1 (E := r21_Copy_E) rfl h
  exact ⟨FUEL, (h2 _ _ _ _ _ _).trans ((r21_Copy_eq _ x0 _).trans h1)⟩
noncomputable abbrev r16_Copy_c : Code := Tryz.f14.body.getD .skip
def r16_Copy_E : Env := tab.env (fun _ => []) (fun _ => []) [2] [y4]
theorem r16_Copy_t (R : Type) (kk : Nat) (m_0 : Zt16) (K : List SV → Option Box → Option R) : evFn r16_Copy_E (Tb61 R) kk Tryz.f14 r16_Copy_c [.dat y4 m_0 []] none K =
  r16_Copy_s0 m_0 (fun a0 => K [.dat y4 a0 [[1]]] none) := by kernel_rfl
theorem r16_Copy_eq (R : Type) (m_0 : Zt16) (K : List SV → Option Box → Option R) : evFn r16_Copy_E (Tb61 R) FUEL Tryz.f14 r16_Copy_c [.dat y4 m_0 []] none K = (r16_Copy m_0).bind fun r => K [.dat y4 r [[1]]] none := by
  rw [r16_Copy_t]
  simp only [r16_Copy, r16_Copy_s0_bind, cond_bind, within_bind, none_bind, some_bind, sum_bind, bind_bind, Sum.elim_inl, Sum.elim_inr]
def r16_Copy_g : Pure := fun R l b K => noBox b (args1 y4 l (fun x0 => (r16_Copy x0).bind fun r => K [.dat y4 r [[1]]] none))
theorem r16_Copy_n : r16_Copy_g.Nat := fun R S l b F G K h => noBox_nat (args1_nat fun _ => bindr_nat fun _ => h _ _)
def Tb62 : Funs := Tb61.add 14 [y4] r16_Copy_g
theorem Tb62_nat : Tb62.Nat := add_nat Tb61_nat r16_Copy_n
theorem Tb62_owes : ∀ f, Owes Tryz.prog Tb62 f := add_owes (E := r16_Copy_E) (Tab.env_ok tab_ok _ _ _ _) mixed Tb61_nat Tb61_owes (fn := Tryz.f14) (code := r16_Copy_c) Tryz.func14 (by kernel_rfl) (by kernel_rfl) fun l b r b' h => by
  obtain ⟨rfl, h⟩ := noBox_some h
  obtain ⟨x0, h1, h2⟩ := own1 (E := r16_Copy_E) rfl h
  exact ⟨FUEL, (h2 _ _ _ _ _ _).trans ((r16_Copy_eq _ x0 _).trans h1)⟩
noncomputable abbrev r11_Check_c : Code := Tryz.f69.body.getD .skip
def r11_Check_E : Env := tab.env (fun _ => []) (fun _ => []) [] [y7]
theorem r11_Check_t (R : Type) (kk : Nat) (s_0 : Zt12) (K : List SV → Option Box → Option R) : evFn r11_Check_E (Tb62 R) kk Tryz.f69 r11_Check_c [.dat y7 s_0 []] none K =
  r11_Check_s0 s_0 (fun a0 => K [.dat (.int .i64) a0 []] none) := by kernel_rfl
theorem r11_Check_eq (R : Type) (s_0 : Zt12) (K : List SV → Option Box → Option R) : evFn r11_Check_E (Tb62 R) FUEL Tryz.f69 r11_Check_c [.dat y7 s_0 []] none K = (r11_Check s_0).bind fun r => K [.dat (.int .i64) r []] none := by
  rw [r11_Check_t]
  simp only [r11_Check, r11_Check_s0_bind, cond_bind, within_bind, none_bind, some_bind, sum_bind, bind_bind, Sum.elim_inl, Sum.elim_inr]
def r11_Check_g : Pure := fun R l b K => noBox b (args1 y7 l (fun x0 => (r11_Check x0).bind fun r => K [.dat (.int .i64) r []] none))
theorem r11_Check_n : r11_Check_g.Nat := fun R S l b F G K h => noBox_nat (args1_nat fun _ => bindr_nat fun _ => h _ _)
def Tb63 : Funs := Tb62.add 69 [y7] r11_Check_g
theorem Tb63_nat : Tb63.Nat := add_nat Tb62_nat r11_Check_n
theorem Tb63_owes : ∀ f, Owes Tryz.prog Tb63 f := add_owes (E := r11_Check_E) (Tab.env_ok tab_ok _ _ _ _) mixed Tb62_nat Tb62_owes (fn := Tryz.f69) (code := r11_Check_c) Tryz.func69 (by kernel_rfl) (by kernel_rfl) fun l b r b' h => by
  obtain ⟨rfl, h⟩ := noBox_some h
  obtain ⟨x0, h1, h2⟩ := own1 (E := r11_Check_E) rfl h
  exact ⟨FUEL, (h2 _ _ _ _ _ _).trans ((r11_Check_eq _ x0 _).trans h1)⟩
noncomputable abbrev r13_Check_c : Code := Tryz.f56.body.getD .skip
def r13_Check_E : Env := tab.env (fun i => bif Nat.beq i 7 then [1, 4, 5] else []) (fun i => bif Nat.beq i 7 then [2, 3] else []) [] [y13]
def r13_Check_h0 (t4 : Int) (t5 : Int) (bt1 : Zt17) : State := ⟨uS 1 ([.ptr 2 y13 []]::(uS 2 ([.dat (.int .i64) t4 []]::[.dat (.int .i64) t5 []]::(uS 49 ([]))))), nS 2 ((some ⟨y13, bt1, []⟩)::(nS 53 ([])))⟩
def r13_Check_x0_0 (t2 : Int) (t3 : Int) : State := ⟨uS 2 ([.dat (.int .i64) t2 []]::[.dat (.int .i64) t3 []]::(uS 51 ([]))), nS 56 []⟩
def r13_Check_x0_1  : State := ⟨uS 55 [], nS 56 []⟩
theorem r13_Check_t (R : Type) (kk : Nat) (s_0 : Zt17) (K : List SV → Option Box → Option R) : evFn r13_Check_E (Tb63 R) kk Tryz.f56 r13_Check_c [.dat y13 s_0 []] none K =
  r13_Check_s0 s_0 (fun a0 a1 => K [.dat (.int .i64) a0 [], .dat (.int .i64) a1 []] none) (fun a0 a1 a2 => loopR (ev r13_Check_E (Tb63 R) kk (sub [1, 1, 1, 1, 0, 1, 0, 0] r13_Check_c)) [1, 4, 5] [2, 3] kk (r13_Check_h0 a0 a1 a2) (kBlock 0 (kSeq r13_Check_E (Tb63 R) kk (sub [1, 1, 1, 1, 1] r13_Check_c) (kFin r13_Check_E Tryz.f56.results.toList none K)))) := by kernel_rfl
theorem r13_Check_d0 (R : Type) (kk k : Nat) (t4 : Int) (t5 : Int) (bt1 : Zt17) (K : Ex → State → Option R) : loopR (ev r13_Check_E (Tb63 R) kk (sub [1, 1, 1, 1, 0, 1, 0, 0] r13_Check_c)) [1, 4, 5] [2, 3] (k + 1) (r13_Check_h0 t4 t5 bt1) K =
  r13_Check_s1 t4 t5 bt1 (fun a0 a1 => K .ret (r13_Check_x0_0 a0 a1)) (fun a0 a1 a2 => loopR (ev r13_Check_E (Tb63 R) kk (sub [1, 1, 1, 1, 0, 1, 0, 0] r13_Check_c)) [1, 4, 5] [2, 3] k (r13_Check_h0 a0 a1 a2) K) (K (.exit 0) (r13_Check_x0_1)) := by kernel_rfl
theorem r13_Check_y0_0 (R : Type) (kk : Nat) (t2 : Int) (t3 : Int) (K : List SV → Option Box → Option R) : (kBlock 0 (kSeq r13_Check_E (Tb63 R) kk (sub [1, 1, 1, 1, 1] r13_Check_c) (kFin r13_Check_E Tryz.f56.results.toList none K))) .ret (r13_Check_x0_0 t2 t3) =
  r13_Check_s2 t2 t3 (fun a0 a1 => K [.dat (.int .i64) a0 [], .dat (.int .i64) a1 []] none) := by kernel_rfl
theorem r13_Check_y0_1 (R : Type) (kk : Nat)  (K : List SV → Option Box → Option R) : (kBlock 0 (kSeq r13_Check_E (Tb63 R) kk (sub [1, 1, 1, 1, 1] r13_Check_c) (kFin r13_Check_E Tryz.f56.results.toList none K))) (.exit 0) (r13_Check_x0_1) =
  r13_Check_s3 (fun a0 a1 => K [.dat (.int .i64) a0 [], .dat (.int .i64) a1 []] none) := by kernel_rfl
theorem r13_Check_lp0 (R : Type) (k : Nat) (t4 : Int) (t5 : Int) (bt1 : Zt17) (K : Ex → State → Option R) : loopR (ev r13_Check_E (Tb63 R) FUEL (sub [1, 1, 1, 1, 0, 1, 0, 0] r13_Check_c)) [1, 4, 5] [2, 3] k (r13_Check_h0 t4 t5 bt1) K = (r13_Check_l0 k t4 t5 bt1).bind fun e => (Sum.elim (fun (we : (Int × Int)) => K .ret (r13_Check_x0_0 we.1 we.2)) (fun (we : Unit) => K (.exit 0) (r13_Check_x0_1)) e) := by
  induction k generalizing t4 t5 bt1 with
  | zero => rfl
  | succ k ih =>
    rw [r13_Check_d0]
    simp only [r13_Check_l0, r13_Check_s0_bind, r13_Check_s1_bind, r13_Check_s2_bind, r13_Check_s3_bind, ih, cond_bind, within_bind, none_bind, some_bind, sum_bind, bind_bind, Sum.elim_inl, Sum.elim_inr]
theorem r13_Check_eq (R : Type) (s_0 : Zt17) (K : List SV → Option Box → Option R) : evFn r13_Check_E (Tb63 R) FUEL Tryz.f56 r13_Check_c [.dat y13 s_0 []] none K = (r13_Check s_0).bind fun r => K [.dat (.int .i64) r.1 [], .dat (.int .i64) r.2 []] none := by
  rw [r13_Check_t]
  simp only [r13_Check, r13_Check_s0_bind, r13_Check_s1_bind, r13_Check_s2_bind, r13_Check_s3_bind, r13_Check_lp0, r13_Check_y0_0, r13_Check_y0_1, cond_bind, within_bind, none_bind, some_bind, sum_bind, bind_bind, Sum.elim_inl, Sum.elim_inr]
def r13_Check_g : Pure := fun R l b K => noBox b (args1 y13 l (fun x0 => (r13_Check x0).bind fun r => K [.dat (.int .i64) r.1 [], .dat (.int .i64) r.2 []] none))
theorem r13_Check_n : r13_Check_g.Nat := fun R S l b F G K h => noBox_nat (args1_nat fun _ => bindr_nat fun _ => h _ _)
def Tb64 : Funs := Tb63.add 56 [y13] r13_Check_g
theorem Tb64_nat : Tb64.Nat := add_nat Tb63_nat r13_Check_n
theorem Tb64_owes : ∀ f, Owes Tryz.prog Tb64 f := add_owes (E := r13_Check_E) (Tab.env_ok tab_ok _ _ _ _) mixed Tb63_nat Tb63_owes (fn := Tryz.f56) (code := r13_Check_c) Tryz.func56 (by kernel_rfl) (by kernel_rfl) fun l b r b' h => by
  obtain ⟨rfl, h⟩ := noBox_some h
  obtain ⟨x0, h1, h2⟩ := own1 (E := r13_Check_E) rfl h
  exact ⟨FUEL, (h2 _ _ _ _ _ _).trans ((r13_Check_eq _ x0 _).trans h1)⟩
noncomputable abbrev r13_Right_c : Code := Tryz.f29.body.getD .skip
def r13_Right_E : Env := tab.env (fun _ => []) (fun _ => []) [] [y13]
theorem r13_Right_t (R : Type) (kk : Nat) (s_0 : Zt17) (K : List SV → Option Box → Option R) : evFn r13_Right_E (Tb64 R) kk Tryz.f29 r13_Right_c [.dat y13 s_0 []] none K =
  r13_Right_s0 s_0 (fun a0 => K [.dat .bool a0 []] none) := by kernel_rfl
theorem r13_Right_eq (R : Type) (s_0 : Zt17) (K : List SV → Option Box → Option R) : evFn r13_Right_E (Tb64 R) FUEL Tryz.f29 r13_Right_c [.dat y13 s_0 []] none K = (r13_Right s_0).bind fun r => K [.dat .bool r []] none := by
  rw [r13_Right_t]
  simp only [r13_Right, r13_Right_s0_bind, cond_bind, within_bind, none_bind, some_bind, sum_bind, bind_bind, Sum.elim_inl, Sum.elim_inr]
def r13_Right_g : Pure := fun R l b K => noBox b (args1 y13 l (fun x0 => (r13_Right x0).bind fun r => K [.dat .bool r []] none))
theorem r13_Right_n : r13_Right_g.Nat := fun R S l b F G K h => noBox_nat (args1_nat fun _ => bindr_nat fun _ => h _ _)
def Tb65 : Funs := Tb64.add 29 [y13] r13_Right_g
theorem Tb65_nat : Tb65.Nat := add_nat Tb64_nat r13_Right_n
theorem Tb65_owes : ∀ f, Owes Tryz.prog Tb65 f := add_owes (E := r13_Right_E) (Tab.env_ok tab_ok _ _ _ _) mixed Tb64_nat Tb64_owes (fn := Tryz.f29) (code := r13_Right_c) Tryz.func29 (by kernel_rfl) (by kernel_rfl) fun l b r b' h => by
  obtain ⟨rfl, h⟩ := noBox_some h
  obtain ⟨x0, h1, h2⟩ := own1 (E := r13_Right_E) rfl h
  exact ⟨FUEL, (h2 _ _ _ _ _ _).trans ((r13_Right_eq _ x0 _).trans h1)⟩
noncomputable abbrev r01_Digit_c : Code := Tryz.f84.body.getD .skip
def r01_Digit_E : Env := tab.env (fun _ => []) (fun _ => []) [] [(.int .u8)]
theorem r01_Digit_t (R : Type) (kk : Nat) (b_0 : Int) (K : List SV → Option Box → Option R) : evFn r01_Digit_E (Tb65 R) kk Tryz.f84 r01_Digit_c [.dat (.int .u8) b_0 []] none K =
  r01_Digit_s0 b_0 (fun a0 => K [.dat .bool a0 []] none) := by kernel_rfl
theorem r01_Digit_eq (R : Type) (b_0 : Int) (K : List SV → Option Box → Option R) : evFn r01_Digit_E (Tb65 R) FUEL Tryz.f84 r01_Digit_c [.dat (.int .u8) b_0 []] none K = (r01_Digit b_0).bind fun r => K [.dat .bool r []] none := by
  rw [r01_Digit_t]
  simp only [r01_Digit, r01_Digit_s0_bind, cond_bind, within_bind, none_bind, some_bind, sum_bind, bind_bind, Sum.elim_inl, Sum.elim_inr]
def r01_Digit_g : Pure := fun R l b K => noBox b (args1 (.int .u8) l (fun x0 => (r01_Digit x0).bind fun r => K [.dat .bool r []] none))
theorem r01_Digit_n : r01_Digit_g.Nat := fun R S l b F G K h => noBox_nat (args1_nat fun _ => bindr_nat fun _ => h _ _)
def Tb66 : Funs := Tb65.add 84 [(.int .u8)] r01_Digit_g
theorem Tb66_nat : Tb66.Nat := add_nat Tb65_nat r01_Digit_n
theorem Tb66_owes : ∀ f, Owes Tryz.prog Tb66 f := add_owes (E := r01_Digit_E) (Tab.env_ok tab_ok _ _ _ _) mixed Tb65_nat Tb65_owes (fn := Tryz.f84) (code := r01_Digit_c) Tryz.func84 (by kernel_rfl) (by kernel_rfl) fun l b r b' h => by
  obtain ⟨rfl, h⟩ := noBox_some h
  obtain ⟨x0, h1, h2⟩ := own1 (E := r01_Digit_E) rfl h
  exact ⟨FUEL, (h2 _ _ _ _ _ _).trans ((r01_Digit_eq _ x0 _).trans h1)⟩
noncomputable abbrev r01_All_c : Code := Tryz.f68.body.getD .skip
def r01_All_E : Env := tab.env (fun i => bif Nat.beq i 2 then [0, 3] else []) (fun i => bif Nat.beq i 2 then [2] else []) [] [.str]
def r01_All_h0 (s_0 : ByteArray) (t3 : Int) : State := ⟨[.dat .str s_0 []]::(uS 2 ([.dat (.int .i64) t3 []]::(uS 11 ([])))), nS 16 []⟩
def r01_All_x0_0 (t2 : Bool) : State := ⟨uS 2 ([.dat .bool t2 []]::(uS 12 ([]))), nS 16 []⟩
def r01_All_x0_1  : State := ⟨uS 15 [], nS 16 []⟩
theorem r01_All_t (R : Type) (kk : Nat) (s_0 : ByteArray) (K : List SV → Option Box → Option R) : evFn r01_All_E (Tb66 R) kk Tryz.f68 r01_All_c [.dat .str s_0 []] none K =
  r01_All_s0 s_0 (fun a0 a1 => loopR (ev r01_All_E (Tb66 R) kk (sub [1, 0, 1, 0, 0] r01_All_c)) [0, 3] [2] kk (r01_All_h0 a0 a1) (kBlock 0 (kSeq r01_All_E (Tb66 R) kk (sub [1, 1] r01_All_c) (kFin r01_All_E Tryz.f68.results.toList none K)))) := by kernel_rfl
theorem r01_All_d0 (R : Type) (kk k : Nat) (s_0 : ByteArray) (t3 : Int) (K : Ex → State → Option R) : loopR (ev r01_All_E (Tb66 R) kk (sub [1, 0, 1, 0, 0] r01_All_c)) [0, 3] [2] (k + 1) (r01_All_h0 s_0 t3) K =
  r01_All_s1 s_0 t3 (fun a0 => K .ret (r01_All_x0_0 a0)) (fun a0 a1 => loopR (ev r01_All_E (Tb66 R) kk (sub [1, 0, 1, 0, 0] r01_All_c)) [0, 3] [2] k (r01_All_h0 a0 a1) K) (K (.exit 0) (r01_All_x0_1)) := by kernel_rfl
theorem r01_All_y0_0 (R : Type) (kk : Nat) (t2 : Bool) (K : List SV → Option Box → Option R) : (kBlock 0 (kSeq r01_All_E (Tb66 R) kk (sub [1, 1] r01_All_c) (kFin r01_All_E Tryz.f68.results.toList none K))) .ret (r01_All_x0_0 t2) =
  r01_All_s2 t2 (fun a0 => K [.dat .bool a0 []] none) := by kernel_rfl
theorem r01_All_y0_1 (R : Type) (kk : Nat)  (K : List SV → Option Box → Option R) : (kBlock 0 (kSeq r01_All_E (Tb66 R) kk (sub [1, 1] r01_All_c) (kFin r01_All_E Tryz.f68.results.toList none K))) (.exit 0) (r01_All_x0_1) =
  r01_All_s3 (fun a0 => K [.dat .bool a0 []] none) := by kernel_rfl
theorem r01_All_lp0 (R : Type) (k : Nat) (s_0 : ByteArray) (t3 : Int) (K : Ex → State → Option R) : loopR (ev r01_All_E (Tb66 R) FUEL (sub [1, 0, 1, 0, 0] r01_All_c)) [0, 3] [2] k (r01_All_h0 s_0 t3) K = (r01_All_l0 k s_0 t3).bind fun e => (Sum.elim (fun (we : Bool) => K .ret (r01_All_x0_0 we)) (fun (we : Unit) => K (.exit 0) (r01_All_x0_1)) e) := by
  induction k generalizing s_0 t3 with
  | zero => rfl
  | succ k ih =>
    rw [r01_All_d0]
    simp only [r01_All_l0, r01_All_s0_bind, r01_All_s1_bind, r01_All_s2_bind, r01_All_s3_bind, ih, cond_bind, within_bind, none_bind, some_bind, sum_bind, bind_bind, Sum.elim_inl, Sum.elim_inr]
theorem r01_All_eq (R : Type) (s_0 : ByteArray) (K : List SV → Option Box → Option R) : evFn r01_All_E (Tb66 R) FUEL Tryz.f68 r01_All_c [.dat .str s_0 []] none K = (r01_All s_0).bind fun r => K [.dat .bool r []] none := by
  rw [r01_All_t]
  simp only [r01_All, r01_All_s0_bind, r01_All_s1_bind, r01_All_s2_bind, r01_All_s3_bind, r01_All_lp0, r01_All_y0_0, r01_All_y0_1, cond_bind, within_bind, none_bind, some_bind, sum_bind, bind_bind, Sum.elim_inl, Sum.elim_inr]
def r01_All_g : Pure := fun R l b K => noBox b (args1 .str l (fun x0 => (r01_All x0).bind fun r => K [.dat .bool r []] none))
theorem r01_All_n : r01_All_g.Nat := fun R S l b F G K h => noBox_nat (args1_nat fun _ => bindr_nat fun _ => h _ _)
def Tb67 : Funs := Tb66.add 68 [.str] r01_All_g
theorem Tb67_nat : Tb67.Nat := add_nat Tb66_nat r01_All_n
theorem Tb67_owes : ∀ f, Owes Tryz.prog Tb67 f := add_owes (E := r01_All_E) (Tab.env_ok tab_ok _ _ _ _) mixed Tb66_nat Tb66_owes (fn := Tryz.f68) (code := r01_All_c) Tryz.func68 (by kernel_rfl) (by kernel_rfl) fun l b r b' h => by
  obtain ⟨rfl, h⟩ := noBox_some h
  obtain ⟨x0, h1, h2⟩ := own1 (E := r01_All_E) rfl h
  exact ⟨FUEL, (h2 _ _ _ _ _ _).trans ((r01_All_eq _ x0 _).trans h1)⟩
noncomputable abbrev r15_Right_c : Code := Tryz.f42.body.getD .skip
def r15_Right_E : Env := tab.env (fun _ => []) (fun _ => []) [] [.str]
theorem r15_Right_t (R : Type) (kk : Nat) (m_0 : ByteArray) (K : List SV → Option Box → Option R) : evFn r15_Right_E (Tb67 R) kk Tryz.f42 r15_Right_c [.dat .str m_0 []] none K =
  r15_Right_s0 m_0 (fun a0 => K [.dat .bool a0 []] none) := by kernel_rfl
theorem r15_Right_eq (R : Type) (m_0 : ByteArray) (K : List SV → Option Box → Option R) : evFn r15_Right_E (Tb67 R) FUEL Tryz.f42 r15_Right_c [.dat .str m_0 []] none K = (r15_Right m_0).bind fun r => K [.dat .bool r []] none := by
  rw [r15_Right_t]
  simp only [r15_Right, r15_Right_s0_bind, cond_bind, within_bind, none_bind, some_bind, sum_bind, bind_bind, Sum.elim_inl, Sum.elim_inr]
def r15_Right_g : Pure := fun R l b K => noBox b (args1 .str l (fun x0 => (r15_Right x0).bind fun r => K [.dat .bool r []] none))
theorem r15_Right_n : r15_Right_g.Nat := fun R S l b F G K h => noBox_nat (args1_nat fun _ => bindr_nat fun _ => h _ _)
def Tb68 : Funs := Tb67.add 42 [.str] r15_Right_g
theorem Tb68_nat : Tb68.Nat := add_nat Tb67_nat r15_Right_n
theorem Tb68_owes : ∀ f, Owes Tryz.prog Tb68 f := add_owes (E := r15_Right_E) (Tab.env_ok tab_ok _ _ _ _) mixed Tb67_nat Tb67_owes (fn := Tryz.f42) (code := r15_Right_c) Tryz.func42 (by kernel_rfl) (by kernel_rfl) fun l b r b' h => by
  obtain ⟨rfl, h⟩ := noBox_some h
  obtain ⟨x0, h1, h2⟩ := own1 (E := r15_Right_E) rfl h
  exact ⟨FUEL, (h2 _ _ _ _ _ _).trans ((r15_Right_eq _ x0 _).trans h1)⟩
noncomputable abbrev r21_version_c : Code := Tryz.f30.body.getD .skip
def r21_version_E : Env := tab.env (fun _ => []) (fun _ => []) [] [.str, (.int .i64)]
theorem r21_version_t (R : Type) (kk : Nat) (m_0 : ByteArray) (v_1 : Int) (K : List SV → Option Box → Option R) : evFn r21_version_E (Tb68 R) kk Tryz.f30 r21_version_c [.dat .str m_0 [], .dat (.int .i64) v_1 []] none K =
  r21_version_s0 m_0 v_1 (fun a0 => K [.dat .bool a0 []] none) := by kernel_rfl
theorem r21_version_eq (R : Type) (m_0 : ByteArray) (v_1 : Int) (K : List SV → Option Box → Option R) : evFn r21_version_E (Tb68 R) FUEL Tryz.f30 r21_version_c [.dat .str m_0 [], .dat (.int .i64) v_1 []] none K = (r21_version m_0 v_1).bind fun r => K [.dat .bool r []] none := by
  rw [r21_version_t]
  simp only [r21_version, r21_version_s0_bind, cond_bind, within_bind, none_bind, some_bind, sum_bind, bind_bind, Sum.elim_inl, Sum.elim_inr]
def r21_version_g : Pure := fun R l b K => noBox b (args2 .str (.int .i64) l (fun x0 x1 => (r21_version x0 x1).bind fun r => K [.dat .bool r []] none))
theorem r21_version_n : r21_version_g.Nat := fun R S l b F G K h => noBox_nat (args2_nat fun _ _ => bindr_nat fun _ => h _ _)
def Tb69 : Funs := Tb68.add 30 [.str, (.int .i64)] r21_version_g
theorem Tb69_nat : Tb69.Nat := add_nat Tb68_nat r21_version_n
theorem Tb69_owes : ∀ f, Owes Tryz.prog Tb69 f := add_owes (E := r21_version_E) (Tab.env_ok tab_ok _ _ _ _) mixed Tb68_nat Tb68_owes (fn := Tryz.f30) (code := r21_version_c) Tryz.func30 (by kernel_rfl) (by kernel_rfl) fun l b r b' h => by
  obtain ⟨rfl, h⟩ := noBox_some h
  obtain ⟨x0, x1, h1, h2⟩ := own2 (E := r21_version_E) rfl h
  exact ⟨FUEL, (h2 _ _ _ _ _ _).trans ((r21_version_eq _ x0 x1 _).trans h1)⟩
noncomputable abbrev r01_Get_c : Code := Tryz.f57.body.getD .skip
def r01_Get_E : Env := tab.env (fun i => bif Nat.beq i 5 then [0, 4, 5] else []) (fun i => bif Nat.beq i 5 then [4] else []) [] [.str]
def r01_Get_h0 (s_0 : ByteArray) (t4 : Int) (t5 : Int) : State := ⟨[.dat .str s_0 []]::(uS 3 ([.dat (.int .i64) t4 []]::[.dat (.int .i64) t5 []]::(uS 28 ([])))), nS 35 []⟩
def r01_Get_x0_0 (t4 : Int) : State := ⟨uS 4 ([.dat (.int .i64) t4 []]::(uS 29 ([]))), nS 35 []⟩
theorem r01_Get_t (R : Type) (kk : Nat) (s_0 : ByteArray) (K : List SV → Option Box → Option R) : evFn r01_Get_E (Tb69 R) kk Tryz.f57 r01_Get_c [.dat .str s_0 []] none K =
  r01_Get_s0 s_0 (fun a0 a1 => K [.dat (.int .i64) a0 [], .dat .bool a1 []] none) (fun a0 a1 a2 => loopR (ev r01_Get_E (Tb69 R) kk (sub [1, 1, 1, 0, 1, 0, 0] r01_Get_c)) [0, 4, 5] [4] kk (r01_Get_h0 a0 a1 a2) (kBlock 0 (kSeq r01_Get_E (Tb69 R) kk (sub [1, 1, 1, 1] r01_Get_c) (kFin r01_Get_E Tryz.f57.results.toList none K)))) := by kernel_rfl
theorem r01_Get_d0 (R : Type) (kk k : Nat) (s_0 : ByteArray) (t4 : Int) (t5 : Int) (K : Ex → State → Option R) : loopR (ev r01_Get_E (Tb69 R) kk (sub [1, 1, 1, 0, 1, 0, 0] r01_Get_c)) [0, 4, 5] [4] (k + 1) (r01_Get_h0 s_0 t4 t5) K =
  r01_Get_s1 s_0 t4 t5 (fun a0 a1 a2 => loopR (ev r01_Get_E (Tb69 R) kk (sub [1, 1, 1, 0, 1, 0, 0] r01_Get_c)) [0, 4, 5] [4] k (r01_Get_h0 a0 a1 a2) K) (fun a0 => K (.exit 0) (r01_Get_x0_0 a0)) := by kernel_rfl
theorem r01_Get_y0_0 (R : Type) (kk : Nat) (t4 : Int) (K : List SV → Option Box → Option R) : (kBlock 0 (kSeq r01_Get_E (Tb69 R) kk (sub [1, 1, 1, 1] r01_Get_c) (kFin r01_Get_E Tryz.f57.results.toList none K))) (.exit 0) (r01_Get_x0_0 t4) =
  r01_Get_s2 t4 (fun a0 a1 => K [.dat (.int .i64) a0 [], .dat .bool a1 []] none) := by kernel_rfl
theorem r01_Get_lp0 (R : Type) (k : Nat) (s_0 : ByteArray) (t4 : Int) (t5 : Int) (K : Ex → State → Option R) : loopR (ev r01_Get_E (Tb69 R) FUEL (sub [1, 1, 1, 0, 1, 0, 0] r01_Get_c)) [0, 4, 5] [4] k (r01_Get_h0 s_0 t4 t5) K = (r01_Get_l0 k s_0 t4 t5).bind fun e => K (.exit 0) (r01_Get_x0_0 e) := by
  induction k generalizing s_0 t4 t5 with
  | zero => rfl
  | succ k ih =>
    rw [r01_Get_d0]
    simp only [r01_Get_l0, r01_Get_s0_bind, r01_Get_s1_bind, r01_Get_s2_bind, ih, cond_bind, within_bind, none_bind, some_bind, sum_bind, bind_bind, Sum.elim_inl, Sum.elim_inr]
theorem r01_Get_eq (R : Type) (s_0 : ByteArray) (K : List SV → Option Box → Option R) : evFn r01_Get_E (Tb69 R) FUEL Tryz.f57 r01_Get_c [.dat .str s_0 []] none K = (r01_Get s_0).bind fun r => K [.dat (.int .i64) r.1 [], .dat .bool r.2 []] none := by
  rw [r01_Get_t]
  simp only [r01_Get, r01_Get_s0_bind, r01_Get_s1_bind, r01_Get_s2_bind, r01_Get_lp0, r01_Get_y0_0, cond_bind, within_bind, none_bind, some_bind, sum_bind, bind_bind, Sum.elim_inl, Sum.elim_inr]
def r01_Get_g : Pure := fun R l b K => noBox b (args1 .str l (fun x0 => (r01_Get x0).bind fun r => K [.dat (.int .i64) r.1 [], .dat .bool r.2 []] none))
theorem r01_Get_n : r01_Get_g.Nat := fun R S l b F G K h => noBox_nat (args1_nat fun _ => bindr_nat fun _ => h _ _)
def Tb70 : Funs := Tb69.add 57 [.str] r01_Get_g
theorem Tb70_nat : Tb70.Nat := add_nat Tb69_nat r01_Get_n
theorem Tb70_owes : ∀ f, Owes Tryz.prog Tb70 f := add_owes (E := r01_Get_E) (Tab.env_ok tab_ok _ _ _ _) mixed Tb69_nat Tb69_owes (fn := Tryz.f57) (code := r01_Get_c) Tryz.func57 (by kernel_rfl) (by kernel_rfl) fun l b r b' h => by
  obtain ⟨rfl, h⟩ := noBox_some h
  obtain ⟨x0, h1, h2⟩ := own1 (E := r01_Get_E) rfl h
  exact ⟨FUEL, (h2 _ _ _ _ _ _).trans ((r01_Get_eq _ x0 _).trans h1)⟩
noncomputable abbrev r15_Request_c : Code := Tryz.f31.body.getD .skip
def r15_Request_E : Env := tab.env (fun _ => []) (fun _ => []) [] [.str]
theorem r15_Request_t (R : Type) (kk : Nat) (m_0 : ByteArray) (K : List SV → Option Box → Option R) : evFn r15_Request_E (Tb70 R) kk Tryz.f31 r15_Request_c [.dat .str m_0 []] none K =
  r15_Request_s0 m_0 (fun a0 => K [.dat .bool a0 []] none) := by kernel_rfl
theorem r15_Request_eq (R : Type) (m_0 : ByteArray) (K : List SV → Option Box → Option R) : evFn r15_Request_E (Tb70 R) FUEL Tryz.f31 r15_Request_c [.dat .str m_0 []] none K = (r15_Request m_0).bind fun r => K [.dat .bool r []] none := by
  rw [r15_Request_t]
  simp only [r15_Request, r15_Request_s0_bind, cond_bind, within_bind, none_bind, some_bind, sum_bind, bind_bind, Sum.elim_inl, Sum.elim_inr]
def r15_Request_g : Pure := fun R l b K => noBox b (args1 .str l (fun x0 => (r15_Request x0).bind fun r => K [.dat .bool r []] none))
theorem r15_Request_n : r15_Request_g.Nat := fun R S l b F G K h => noBox_nat (args1_nat fun _ => bindr_nat fun _ => h _ _)
def Tb71 : Funs := Tb70.add 31 [.str] r15_Request_g
theorem Tb71_nat : Tb71.Nat := add_nat Tb70_nat r15_Request_n
theorem Tb71_owes : ∀ f, Owes Tryz.prog Tb71 f := add_owes (E := r15_Request_E) (Tab.env_ok tab_ok _ _ _ _) mixed Tb70_nat Tb70_owes (fn := Tryz.f31) (code := r15_Request_c) Tryz.func31 (by kernel_rfl) (by kernel_rfl) fun l b r b' h => by
  obtain ⟨rfl, h⟩ := noBox_some h
  obtain ⟨x0, h1, h2⟩ := own1 (E := r15_Request_E) rfl h
  exact ⟨FUEL, (h2 _ _ _ _ _ _).trans ((r15_Request_eq _ x0 _).trans h1)⟩
noncomputable abbrev r19_find_c : Code := Tryz.f58.body.getD .skip
def r19_find_E : Env := tab.env (fun i => bif Nat.beq i 2 then [0, 1, 2, 7] else []) (fun i => bif Nat.beq i 2 then [6] else []) [] [(.sl 56 (.pair .str (.pair .str .unit))), (.int .i64), .str]
def r19_find_h0 (l_0 : Zt13) (n_1 : Int) (from_2 : ByteArray) (t7 : Int) : State := ⟨[.dat (.sl 56 (.pair .str (.pair .str .unit))) l_0 []]::[.dat (.int .i64) n_1 []]::[.dat .str from_2 []]::(uS 4 ([.dat (.int .i64) t7 []]::(uS 13 ([])))), nS 22 []⟩
def r19_find_x0_0 (t6 : Int) : State := ⟨uS 6 ([.dat (.int .i64) t6 []]::(uS 14 ([]))), nS 22 []⟩
def r19_find_x0_1  : State := ⟨uS 21 [], nS 22 []⟩
theorem r19_find_t (R : Type) (kk : Nat) (l_0 : Zt13) (n_1 : Int) (from_2 : ByteArray) (K : List SV → Option Box → Option R) : evFn r19_find_E (Tb71 R) kk Tryz.f58 r19_find_c [.dat (.sl 56 (.pair .str (.pair .str .unit))) l_0 [], .dat (.int .i64) n_1 [], .dat .str from_2 []] none K =
  r19_find_s0 l_0 n_1 from_2 (fun a0 a1 a2 a3 => loopR (ev r19_find_E (Tb71 R) kk (sub [1, 0, 1, 0, 0] r19_find_c)) [0, 1, 2, 7] [6] kk (r19_find_h0 a0 a1 a2 a3) (kBlock 0 (kSeq r19_find_E (Tb71 R) kk (sub [1, 1] r19_find_c) (kFin r19_find_E Tryz.f58.results.toList none K)))) := by kernel_rfl
theorem r19_find_d0 (R : Type) (kk k : Nat) (l_0 : Zt13) (n_1 : Int) (from_2 : ByteArray) (t7 : Int) (K : Ex → State → Option R) : loopR (ev r19_find_E (Tb71 R) kk (sub [1, 0, 1, 0, 0] r19_find_c)) [0, 1, 2, 7] [6] (k + 1) (r19_find_h0 l_0 n_1 from_2 t7) K =
  r19_find_s1 l_0 n_1 from_2 t7 (fun a0 => K .ret (r19_find_x0_0 a0)) (fun a0 a1 a2 a3 => loopR (ev r19_find_E (Tb71 R) kk (sub [1, 0, 1, 0, 0] r19_find_c)) [0, 1, 2, 7] [6] k (r19_find_h0 a0 a1 a2 a3) K) (K (.exit 0) (r19_find_x0_1)) := by kernel_rfl
theorem r19_find_y0_0 (R : Type) (kk : Nat) (t6 : Int) (K : List SV → Option Box → Option R) : (kBlock 0 (kSeq r19_find_E (Tb71 R) kk (sub [1, 1] r19_find_c) (kFin r19_find_E Tryz.f58.results.toList none K))) .ret (r19_find_x0_0 t6) =
  r19_find_s2 t6 (fun a0 => K [.dat (.int .i64) a0 []] none) := by kernel_rfl
theorem r19_find_y0_1 (R : Type) (kk : Nat)  (K : List SV → Option Box → Option R) : (kBlock 0 (kSeq r19_find_E (Tb71 R) kk (sub [1, 1] r19_find_c) (kFin r19_find_E Tryz.f58.results.toList none K))) (.exit 0) (r19_find_x0_1) =
  r19_find_s3 (fun a0 => K [.dat (.int .i64) a0 []] none) := by kernel_rfl
theorem r19_find_lp0 (R : Type) (k : Nat) (l_0 : Zt13) (n_1 : Int) (from_2 : ByteArray) (t7 : Int) (K : Ex → State → Option R) : loopR (ev r19_find_E (Tb71 R) FUEL (sub [1, 0, 1, 0, 0] r19_find_c)) [0, 1, 2, 7] [6] k (r19_find_h0 l_0 n_1 from_2 t7) K = (r19_find_l0 k l_0 n_1 from_2 t7).bind fun e => (Sum.elim (fun (we : Int) => K .ret (r19_find_x0_0 we)) (fun (we : Unit) => K (.exit 0) (r19_find_x0_1)) e) := by
  induction k generalizing l_0 n_1 from_2 t7 with
  | zero => rfl
  | succ k ih =>
    rw [r19_find_d0]
    simp only [r19_find_l0, r19_find_s0_bind, r19_find_s1_bind, r19_find_s2_bind, r19_find_s3_bind, ih, cond_bind, within_bind, none_bind, some_bind, sum_bind, bind_bind, Sum.elim_inl, Sum.elim_inr]
theorem r19_find_eq (R : Type) (l_0 : Zt13) (n_1 : Int) (from_2 : ByteArray) (K : List SV → Option Box → Option R) : evFn r19_find_E (Tb71 R) FUEL Tryz.f58 r19_find_c [.dat (.sl 56 (.pair .str (.pair .str .unit))) l_0 [], .dat (.int .i64) n_1 [], .dat .str from_2 []] none K = (r19_find l_0 n_1 from_2).bind fun r => K [.dat (.int .i64) r []] none := by
  rw [r19_find_t]
  simp only [r19_find, r19_find_s0_bind, r19_find_s1_bind, r19_find_s2_bind, r19_find_s3_bind, r19_find_lp0, r19_find_y0_0, r19_find_y0_1, cond_bind, within_bind, none_bind, some_bind, sum_bind, bind_bind, Sum.elim_inl, Sum.elim_inr]
def r19_find_g : Pure := fun R l b K => noBox b (args3 (.sl 56 (.pair .str (.pair .str .unit))) (.int .i64) .str l (fun x0 x1 x2 => (r19_find x0 x1 x2).bind fun r => K [.dat (.int .i64) r []] none))
theorem r19_find_n : r19_find_g.Nat := fun R S l b F G K h => noBox_nat (args3_nat fun _ _ _ => bindr_nat fun _ => h _ _)
def Tb72 : Funs := Tb71.add 58 [(.sl 56 (.pair .str (.pair .str .unit))), (.int .i64), .str] r19_find_g
theorem Tb72_nat : Tb72.Nat := add_nat Tb71_nat r19_find_n
theorem Tb72_owes : ∀ f, Owes Tryz.prog Tb72 f := add_owes (E := r19_find_E) (Tab.env_ok tab_ok _ _ _ _) mixed Tb71_nat Tb71_owes (fn := Tryz.f58) (code := r19_find_c) Tryz.func58 (by kernel_rfl) (by kernel_rfl) fun l b r b' h => by
  obtain ⟨rfl, h⟩ := noBox_some h
  obtain ⟨x0, x1, x2, h1, h2⟩ := own3 (E := r19_find_E) rfl h
  exact ⟨FUEL, (h2 _ _ _ _ _ _).trans ((r19_find_eq _ x0 x1 x2 _).trans h1)⟩
noncomputable abbrev r19_Apply_c : Code := Tryz.f32.body.getD .skip
def r19_Apply_E : Env := tab.env (fun _ => []) (fun _ => []) [] [(.sl 56 (.pair .str (.pair .str .unit))), .str]
theorem r19_Apply_t (R : Type) (kk : Nat) (l_0 : Zt13) (text_1 : ByteArray) (K : List SV → Option Box → Option R) : evFn r19_Apply_E (Tb72 R) kk Tryz.f32 r19_Apply_c [.dat (.sl 56 (.pair .str (.pair .str .unit))) l_0 [], .dat .str text_1 []] none K =
  r19_Apply_s0 l_0 text_1 (fun a0 a1 => K [.dat .str a0 [], .dat .bool a1 []] none) := by kernel_rfl
theorem r19_Apply_eq (R : Type) (l_0 : Zt13) (text_1 : ByteArray) (K : List SV → Option Box → Option R) : evFn r19_Apply_E (Tb72 R) FUEL Tryz.f32 r19_Apply_c [.dat (.sl 56 (.pair .str (.pair .str .unit))) l_0 [], .dat .str text_1 []] none K = (r19_Apply l_0 text_1).bind fun r => K [.dat .str r.1 [], .dat .bool r.2 []] none := by
  rw [r19_Apply_t]
  simp only [r19_Apply, r19_Apply_s0_bind, cond_bind, within_bind, none_bind, some_bind, sum_bind, bind_bind, Sum.elim_inl, Sum.elim_inr]
def r19_Apply_g : Pure := fun R l b K => noBox b (args2 (.sl 56 (.pair .str (.pair .str .unit))) .str l (fun x0 x1 => (r19_Apply x0 x1).bind fun r => K [.dat .str r.1 [], .dat .bool r.2 []] none))
theorem r19_Apply_n : r19_Apply_g.Nat := fun R S l b F G K h => noBox_nat (args2_nat fun _ _ => bindr_nat fun _ => h _ _)
def Tb73 : Funs := Tb72.add 32 [(.sl 56 (.pair .str (.pair .str .unit))), .str] r19_Apply_g
theorem Tb73_nat : Tb73.Nat := add_nat Tb72_nat r19_Apply_n
theorem Tb73_owes : ∀ f, Owes Tryz.prog Tb73 f := add_owes (E := r19_Apply_E) (Tab.env_ok tab_ok _ _ _ _) mixed Tb72_nat Tb72_owes (fn := Tryz.f32) (code := r19_Apply_c) Tryz.func32 (by kernel_rfl) (by kernel_rfl) fun l b r b' h => by
  obtain ⟨rfl, h⟩ := noBox_some h
  obtain ⟨x0, x1, h1, h2⟩ := own2 (E := r19_Apply_E) rfl h
  exact ⟨FUEL, (h2 _ _ _ _ _ _).trans ((r19_Apply_eq _ x0 x1 _).trans h1)⟩
noncomputable abbrev r13_Find_c : Code := Tryz.f43.body.getD .skip
def r13_Find_E : Env := tab.env (fun i => bif Nat.beq i 2 then [1, 2, 5] else []) (fun i => bif Nat.beq i 2 then [4] else []) [] [y13, (.int .i64)]
def r13_Find_h0 (no_1 : Int) (t5 : Int) (bt2 : Zt17) : State := ⟨uS 1 ([.dat (.int .i64) no_1 []]::[.ptr 3 y13 []]::(uS 2 ([.dat (.int .i64) t5 []]::(uS 16 ([]))))), nS 3 ((some ⟨y13, bt2, []⟩)::(nS 19 ([])))⟩
def r13_Find_x0_0 (t4 : Int) : State := ⟨uS 4 ([.dat (.int .i64) t4 []]::(uS 17 ([]))), nS 23 []⟩
def r13_Find_x0_1  : State := ⟨uS 22 [], nS 23 []⟩
theorem r13_Find_t (R : Type) (kk : Nat) (s_0 : Zt17) (no_1 : Int) (K : List SV → Option Box → Option R) : evFn r13_Find_E (Tb73 R) kk Tryz.f43 r13_Find_c [.dat y13 s_0 [], .dat (.int .i64) no_1 []] none K =
  r13_Find_s0 s_0 no_1 (fun a0 a1 a2 => loopR (ev r13_Find_E (Tb73 R) kk (sub [1, 0, 1, 0, 0] r13_Find_c)) [1, 2, 5] [4] kk (r13_Find_h0 a0 a1 a2) (kBlock 0 (kSeq r13_Find_E (Tb73 R) kk (sub [1, 1] r13_Find_c) (kFin r13_Find_E Tryz.f43.results.toList none K)))) := by kernel_rfl
theorem r13_Find_d0 (R : Type) (kk k : Nat) (no_1 : Int) (t5 : Int) (bt2 : Zt17) (K : Ex → State → Option R) : loopR (ev r13_Find_E (Tb73 R) kk (sub [1, 0, 1, 0, 0] r13_Find_c)) [1, 2, 5] [4] (k + 1) (r13_Find_h0 no_1 t5 bt2) K =
  r13_Find_s1 no_1 t5 bt2 (fun a0 => K .ret (r13_Find_x0_0 a0)) (fun a0 a1 a2 => loopR (ev r13_Find_E (Tb73 R) kk (sub [1, 0, 1, 0, 0] r13_Find_c)) [1, 2, 5] [4] k (r13_Find_h0 a0 a1 a2) K) (K (.exit 0) (r13_Find_x0_1)) := by kernel_rfl
theorem r13_Find_y0_0 (R : Type) (kk : Nat) (t4 : Int) (K : List SV → Option Box → Option R) : (kBlock 0 (kSeq r13_Find_E (Tb73 R) kk (sub [1, 1] r13_Find_c) (kFin r13_Find_E Tryz.f43.results.toList none K))) .ret (r13_Find_x0_0 t4) =
  r13_Find_s2 t4 (fun a0 => K [.dat (.int .i64) a0 []] none) := by kernel_rfl
theorem r13_Find_y0_1 (R : Type) (kk : Nat)  (K : List SV → Option Box → Option R) : (kBlock 0 (kSeq r13_Find_E (Tb73 R) kk (sub [1, 1] r13_Find_c) (kFin r13_Find_E Tryz.f43.results.toList none K))) (.exit 0) (r13_Find_x0_1) =
  r13_Find_s3 (fun a0 => K [.dat (.int .i64) a0 []] none) := by kernel_rfl
theorem r13_Find_lp0 (R : Type) (k : Nat) (no_1 : Int) (t5 : Int) (bt2 : Zt17) (K : Ex → State → Option R) : loopR (ev r13_Find_E (Tb73 R) FUEL (sub [1, 0, 1, 0, 0] r13_Find_c)) [1, 2, 5] [4] k (r13_Find_h0 no_1 t5 bt2) K = (r13_Find_l0 k no_1 t5 bt2).bind fun e => (Sum.elim (fun (we : Int) => K .ret (r13_Find_x0_0 we)) (fun (we : Unit) => K (.exit 0) (r13_Find_x0_1)) e) := by
  induction k generalizing no_1 t5 bt2 with
  | zero => rfl
  | succ k ih =>
    rw [r13_Find_d0]
    simp only [r13_Find_l0, r13_Find_s0_bind, r13_Find_s1_bind, r13_Find_s2_bind, r13_Find_s3_bind, ih, cond_bind, within_bind, none_bind, some_bind, sum_bind, bind_bind, Sum.elim_inl, Sum.elim_inr]
theorem r13_Find_eq (R : Type) (s_0 : Zt17) (no_1 : Int) (K : List SV → Option Box → Option R) : evFn r13_Find_E (Tb73 R) FUEL Tryz.f43 r13_Find_c [.dat y13 s_0 [], .dat (.int .i64) no_1 []] none K = (r13_Find s_0 no_1).bind fun r => K [.dat (.int .i64) r []] none := by
  rw [r13_Find_t]
  simp only [r13_Find, r13_Find_s0_bind, r13_Find_s1_bind, r13_Find_s2_bind, r13_Find_s3_bind, r13_Find_lp0, r13_Find_y0_0, r13_Find_y0_1, cond_bind, within_bind, none_bind, some_bind, sum_bind, bind_bind, Sum.elim_inl, Sum.elim_inr]
def r13_Find_g : Pure := fun R l b K => noBox b (args2 y13 (.int .i64) l (fun x0 x1 => (r13_Find x0 x1).bind fun r => K [.dat (.int .i64) r []] none))
theorem r13_Find_n : r13_Find_g.Nat := fun R S l b F G K h => noBox_nat (args2_nat fun _ _ => bindr_nat fun _ => h _ _)
def Tb74 : Funs := Tb73.add 43 [y13, (.int .i64)] r13_Find_g
theorem Tb74_nat : Tb74.Nat := add_nat Tb73_nat r13_Find_n
theorem Tb74_owes : ∀ f, Owes Tryz.prog Tb74 f := add_owes (E := r13_Find_E) (Tab.env_ok tab_ok _ _ _ _) mixed Tb73_nat Tb73_owes (fn := Tryz.f43) (code := r13_Find_c) Tryz.func43 (by kernel_rfl) (by kernel_rfl) fun l b r b' h => by
  obtain ⟨rfl, h⟩ := noBox_some h
  obtain ⟨x0, x1, h1, h2⟩ := own2 (E := r13_Find_E) rfl h
  exact ⟨FUEL, (h2 _ _ _ _ _ _).trans ((r13_Find_eq _ x0 x1 _).trans h1)⟩
noncomputable abbrev r04_Is_c : Code := Tryz.f85.body.getD .skip
def r04_Is_E : Env := tab.env (fun _ => []) (fun _ => []) [] [(.int .i64), (.int .u8)]
theorem r04_Is_t (R : Type) (kk : Nat) (class_0 : Int) (b_1 : Int) (K : List SV → Option Box → Option R) : evFn r04_Is_E (Tb74 R) kk Tryz.f85 r04_Is_c [.dat (.int .i64) class_0 [], .dat (.int .u8) b_1 []] none K =
  r04_Is_s0 class_0 b_1 (fun a0 => K [.dat .bool a0 []] none) := by kernel_rfl
theorem r04_Is_eq (R : Type) (class_0 : Int) (b_1 : Int) (K : List SV → Option Box → Option R) : evFn r04_Is_E (Tb74 R) FUEL Tryz.f85 r04_Is_c [.dat (.int .i64) class_0 [], .dat (.int .u8) b_1 []] none K = (r04_Is class_0 b_1).bind fun r => K [.dat .bool r []] none := by
  rw [r04_Is_t]
  simp only [r04_Is, r04_Is_s0_bind, cond_bind, within_bind, none_bind, some_bind, sum_bind, bind_bind, Sum.elim_inl, Sum.elim_inr]
def r04_Is_g : Pure := fun R l b K => noBox b (args2 (.int .i64) (.int .u8) l (fun x0 x1 => (r04_Is x0 x1).bind fun r => K [.dat .bool r []] none))
theorem r04_Is_n : r04_Is_g.Nat := fun R S l b F G K h => noBox_nat (args2_nat fun _ _ => bindr_nat fun _ => h _ _)
def Tb75 : Funs := Tb74.add 85 [(.int .i64), (.int .u8)] r04_Is_g
theorem Tb75_nat : Tb75.Nat := add_nat Tb74_nat r04_Is_n
theorem Tb75_owes : ∀ f, Owes Tryz.prog Tb75 f := add_owes (E := r04_Is_E) (Tab.env_ok tab_ok _ _ _ _) mixed Tb74_nat Tb74_owes (fn := Tryz.f85) (code := r04_Is_c) Tryz.func85 (by kernel_rfl) (by kernel_rfl) fun l b r b' h => by
  obtain ⟨rfl, h⟩ := noBox_some h
  obtain ⟨x0, x1, h1, h2⟩ := own2 (E := r04_Is_E) rfl h
  exact ⟨FUEL, (h2 _ _ _ _ _ _).trans ((r04_Is_eq _ x0 x1 _).trans h1)⟩
noncomputable abbrev r04_Wider_c : Code := Tryz.f80.body.getD .skip
def r04_Wider_E : Env := tab.env (fun i => bif Nat.beq i 4 then [0, 1, 5] else []) (fun i => bif Nat.beq i 4 then [4] else []) [] [(.int .i64), (.int .i64)]
def r04_Wider_h0 (a_0 : Int) (b_1 : Int) (t5 : Int) : State := ⟨[.dat (.int .i64) a_0 []]::[.dat (.int .i64) b_1 []]::(uS 3 ([.dat (.int .i64) t5 []]::(uS 29 ([])))), nS 36 []⟩
def r04_Wider_x0_0 (t4 : Bool) : State := ⟨uS 4 ([.dat .bool t4 []]::(uS 30 ([]))), nS 36 []⟩
def r04_Wider_x0_1  : State := ⟨uS 35 [], nS 36 []⟩
theorem r04_Wider_t (R : Type) (kk : Nat) (a_0 : Int) (b_1 : Int) (K : List SV → Option Box → Option R) : evFn r04_Wider_E (Tb75 R) kk Tryz.f80 r04_Wider_c [.dat (.int .i64) a_0 [], .dat (.int .i64) b_1 []] none K =
  r04_Wider_s0 a_0 b_1 (fun a0 => K [.dat .bool a0 []] none) (fun a0 a1 a2 => loopR (ev r04_Wider_E (Tb75 R) kk (sub [1, 1, 0, 1, 0, 0] r04_Wider_c)) [0, 1, 5] [4] kk (r04_Wider_h0 a0 a1 a2) (kBlock 0 (kSeq r04_Wider_E (Tb75 R) kk (sub [1, 1, 1] r04_Wider_c) (kFin r04_Wider_E Tryz.f80.results.toList none K)))) := by kernel_rfl
theorem r04_Wider_d0 (R : Type) (kk k : Nat) (a_0 : Int) (b_1 : Int) (t5 : Int) (K : Ex → State → Option R) : loopR (ev r04_Wider_E (Tb75 R) kk (sub [1, 1, 0, 1, 0, 0] r04_Wider_c)) [0, 1, 5] [4] (k + 1) (r04_Wider_h0 a_0 b_1 t5) K =
  r04_Wider_s1 a_0 b_1 t5 (fun a0 => K .ret (r04_Wider_x0_0 a0)) (fun a0 a1 a2 => loopR (ev r04_Wider_E (Tb75 R) kk (sub [1, 1, 0, 1, 0, 0] r04_Wider_c)) [0, 1, 5] [4] k (r04_Wider_h0 a0 a1 a2) K) (K (.exit 0) (r04_Wider_x0_1)) := by kernel_rfl
theorem r04_Wider_y0_0 (R : Type) (kk : Nat) (t4 : Bool) (K : List SV → Option Box → Option R) : (kBlock 0 (kSeq r04_Wider_E (Tb75 R) kk (sub [1, 1, 1] r04_Wider_c) (kFin r04_Wider_E Tryz.f80.results.toList none K))) .ret (r04_Wider_x0_0 t4) =
  r04_Wider_s2 t4 (fun a0 => K [.dat .bool a0 []] none) := by kernel_rfl
theorem r04_Wider_y0_1 (R : Type) (kk : Nat)  (K : List SV → Option Box → Option R) : (kBlock 0 (kSeq r04_Wider_E (Tb75 R) kk (sub [1, 1, 1] r04_Wider_c) (kFin r04_Wider_E Tryz.f80.results.toList none K))) (.exit 0) (r04_Wider_x0_1) =
  r04_Wider_s3 (fun a0 => K [.dat .bool a0 []] none) := by kernel_rfl
theorem r04_Wider_lp0 (R : Type) (k : Nat) (a_0 : Int) (b_1 : Int) (t5 : Int) (K : Ex → State → Option R) : loopR (ev r04_Wider_E (Tb75 R) FUEL (sub [1, 1, 0, 1, 0, 0] r04_Wider_c)) [0, 1, 5] [4] k (r04_Wider_h0 a_0 b_1 t5) K = (r04_Wider_l0 k a_0 b_1 t5).bind fun e => (Sum.elim (fun (we : Bool) => K .ret (r04_Wider_x0_0 we)) (fun (we : Unit) => K (.exit 0) (r04_Wider_x0_1)) e) := by
  induction k generalizing a_0 b_1 t5 with
  | zero => rfl
  | succ k ih =>
    rw [r04_Wider_d0]
    simp only [r04_Wider_l0, r04_Wider_s0_bind, r04_Wider_s1_bind, r04_Wider_s2_bind, r04_Wider_s3_bind, ih, cond_bind, within_bind, none_bind, some_bind, sum_bind, bind_bind, Sum.elim_inl, Sum.elim_inr]
theorem r04_Wider_eq (R : Type) (a_0 : Int) (b_1 : Int) (K : List SV → Option Box → Option R) : evFn r04_Wider_E (Tb75 R) FUEL Tryz.f80 r04_Wider_c [.dat (.int .i64) a_0 [], .dat (.int .i64) b_1 []] none K = (r04_Wider a_0 b_1).bind fun r => K [.dat .bool r []] none := by
  rw [r04_Wider_t]
  simp only [r04_Wider, r04_Wider_s0_bind, r04_Wider_s1_bind, r04_Wider_s2_bind, r04_Wider_s3_bind, r04_Wider_lp0, r04_Wider_y0_0, r04_Wider_y0_1, cond_bind, within_bind, none_bind, some_bind, sum_bind, bind_bind, Sum.elim_inl, Sum.elim_inr]
def r04_Wider_g : Pure := fun R l b K => noBox b (args2 (.int .i64) (.int .i64) l (fun x0 x1 => (r04_Wider x0 x1).bind fun r => K [.dat .bool r []] none))
theorem r04_Wider_n : r04_Wider_g.Nat := fun R S l b F G K h => noBox_nat (args2_nat fun _ _ => bindr_nat fun _ => h _ _)
def Tb76 : Funs := Tb75.add 80 [(.int .i64), (.int .i64)] r04_Wider_g
theorem Tb76_nat : Tb76.Nat := add_nat Tb75_nat r04_Wider_n
theorem Tb76_owes : ∀ f, Owes Tryz.prog Tb76 f := add_owes (E := r04_Wider_E) (Tab.env_ok tab_ok _ _ _ _) mixed Tb75_nat Tb75_owes (fn := Tryz.f80) (code := r04_Wider_c) Tryz.func80 (by kernel_rfl) (by kernel_rfl) fun l b r b' h => by
  obtain ⟨rfl, h⟩ := noBox_some h
  obtain ⟨x0, x1, h1, h2⟩ := own2 (E := r04_Wider_E) rfl h
  exact ⟨FUEL, (h2 _ _ _ _ _ _).trans ((r04_Wider_eq _ x0 x1 _).trans h1)⟩
noncomputable abbrev r11_Wider_c : Code := Tryz.f59.body.getD .skip
def r11_Wider_E : Env := tab.env (fun _ => []) (fun _ => []) [] [y7, y7]
theorem r11_Wider_t (R : Type) (kk : Nat) (a_0 : Zt12) (b_1 : Zt12) (K : List SV → Option Box → Option R) : evFn r11_Wider_E (Tb76 R) kk Tryz.f59 r11_Wider_c [.dat y7 a_0 [], .dat y7 b_1 []] none K =
  r11_Wider_s0 a_0 b_1 (fun a0 => K [.dat .bool a0 []] none) := by kernel_rfl
theorem r11_Wider_eq (R : Type) (a_0 : Zt12) (b_1 : Zt12) (K : List SV → Option Box → Option R) : evFn r11_Wider_E (Tb76 R) FUEL Tryz.f59 r11_Wider_c [.dat y7 a_0 [], .dat y7 b_1 []] none K = (r11_Wider a_0 b_1).bind fun r => K [.dat .bool r []] none := by
  rw [r11_Wider_t]
  simp only [r11_Wider, r11_Wider_s0_bind, cond_bind, within_bind, none_bind, some_bind, sum_bind, bind_bind, Sum.elim_inl, Sum.elim_inr]
def r11_Wider_g : Pure := fun R l b K => noBox b (args2 y7 y7 l (fun x0 x1 => (r11_Wider x0 x1).bind fun r => K [.dat .bool r []] none))
theorem r11_Wider_n : r11_Wider_g.Nat := fun R S l b F G K h => noBox_nat (args2_nat fun _ _ => bindr_nat fun _ => h _ _)
def Tb77 : Funs := Tb76.add 59 [y7, y7] r11_Wider_g
theorem Tb77_nat : Tb77.Nat := add_nat Tb76_nat r11_Wider_n
theorem Tb77_owes : ∀ f, Owes Tryz.prog Tb77 f := add_owes (E := r11_Wider_E) (Tab.env_ok tab_ok _ _ _ _) mixed Tb76_nat Tb76_owes (fn := Tryz.f59) (code := r11_Wider_c) Tryz.func59 (by kernel_rfl) (by kernel_rfl) fun l b r b' h => by
  obtain ⟨rfl, h⟩ := noBox_some h
  obtain ⟨x0, x1, h1, h2⟩ := own2 (E := r11_Wider_E) rfl h
  exact ⟨FUEL, (h2 _ _ _ _ _ _).trans ((r11_Wider_eq _ x0 x1 _).trans h1)⟩
noncomputable abbrev r04_First_c : Code := Tryz.f70.body.getD .skip
def r04_First_E : Env := tab.env (fun i => bif Nat.beq i 2 then [0, 1, 5] else []) (fun i => bif Nat.beq i 2 then [4] else []) [] [(.int .i64), .str]
def r04_First_h0 (class_0 : Int) (s_1 : ByteArray) (t5 : Int) : State := ⟨[.dat (.int .i64) class_0 []]::[.dat .str s_1 []]::(uS 3 ([.dat (.int .i64) t5 []]::(uS 13 ([])))), nS 20 []⟩
def r04_First_x0_0 (t4 : Int) : State := ⟨uS 4 ([.dat (.int .i64) t4 []]::(uS 14 ([]))), nS 20 []⟩
def r04_First_x0_1  : State := ⟨uS 19 [], nS 20 []⟩
theorem r04_First_t (R : Type) (kk : Nat) (class_0 : Int) (s_1 : ByteArray) (K : List SV → Option Box → Option R) : evFn r04_First_E (Tb77 R) kk Tryz.f70 r04_First_c [.dat (.int .i64) class_0 [], .dat .str s_1 []] none K =
  r04_First_s0 class_0 s_1 (fun a0 a1 a2 => loopR (ev r04_First_E (Tb77 R) kk (sub [1, 0, 1, 0, 0] r04_First_c)) [0, 1, 5] [4] kk (r04_First_h0 a0 a1 a2) (kBlock 0 (kSeq r04_First_E (Tb77 R) kk (sub [1, 1] r04_First_c) (kFin r04_First_E Tryz.f70.results.toList none K)))) := by kernel_rfl
theorem r04_First_d0 (R : Type) (kk k : Nat) (class_0 : Int) (s_1 : ByteArray) (t5 : Int) (K : Ex → State → Option R) : loopR (ev r04_First_E (Tb77 R) kk (sub [1, 0, 1, 0, 0] r04_First_c)) [0, 1, 5] [4] (k + 1) (r04_First_h0 class_0 s_1 t5) K =
  r04_First_s1 class_0 s_1 t5 (fun a0 => K .ret (r04_First_x0_0 a0)) (fun a0 a1 a2 => loopR (ev r04_First_E (Tb77 R) kk (sub [1, 0, 1, 0, 0] r04_First_c)) [0, 1, 5] [4] k (r04_First_h0 a0 a1 a2) K) (K (.exit 0) (r04_First_x0_1)) := by kernel_rfl
theorem r04_First_y0_0 (R : Type) (kk : Nat) (t4 : Int) (K : List SV → Option Box → Option R) : (kBlock 0 (kSeq r04_First_E (Tb77 R) kk (sub [1, 1] r04_First_c) (kFin r04_First_E Tryz.f70.results.toList none K))) .ret (r04_First_x0_0 t4) =
  r04_First_s2 t4 (fun a0 => K [.dat (.int .i64) a0 []] none) := by kernel_rfl
theorem r04_First_y0_1 (R : Type) (kk : Nat)  (K : List SV → Option Box → Option R) : (kBlock 0 (kSeq r04_First_E (Tb77 R) kk (sub [1, 1] r04_First_c) (kFin r04_First_E Tryz.f70.results.toList none K))) (.exit 0) (r04_First_x0_1) =
  r04_First_s3 (fun a0 => K [.dat (.int .i64) a0 []] none) := by kernel_rfl
theorem r04_First_lp0 (R : Type) (k : Nat) (class_0 : Int) (s_1 : ByteArray) (t5 : Int) (K : Ex → State → Option R) : loopR (ev r04_First_E (Tb77 R) FUEL (sub [1, 0, 1, 0, 0] r04_First_c)) [0, 1, 5] [4] k (r04_First_h0 class_0 s_1 t5) K = (r04_First_l0 k class_0 s_1 t5).bind fun e => (Sum.elim (fun (we : Int) => K .ret (r04_First_x0_0 we)) (fun (we : Unit) => K (.exit 0) (r04_First_x0_1)) e) := by
  induction k generalizing class_0 s_1 t5 with
  | zero => rfl
  | succ k ih =>
    rw [r04_First_d0]
    simp only [r04_First_l0, r04_First_s0_bind, r04_First_s1_bind, r04_First_s2_bind, r04_First_s3_bind, ih, cond_bind, within_bind, none_bind, some_bind, sum_bind, bind_bind, Sum.elim_inl, Sum.elim_inr]
theorem r04_First_eq (R : Type) (class_0 : Int) (s_1 : ByteArray) (K : List SV → Option Box → Option R) : evFn r04_First_E (Tb77 R) FUEL Tryz.f70 r04_First_c [.dat (.int .i64) class_0 [], .dat .str s_1 []] none K = (r04_First class_0 s_1).bind fun r => K [.dat (.int .i64) r []] none := by
  rw [r04_First_t]
  simp only [r04_First, r04_First_s0_bind, r04_First_s1_bind, r04_First_s2_bind, r04_First_s3_bind, r04_First_lp0, r04_First_y0_0, r04_First_y0_1, cond_bind, within_bind, none_bind, some_bind, sum_bind, bind_bind, Sum.elim_inl, Sum.elim_inr]
def r04_First_g : Pure := fun R l b K => noBox b (args2 (.int .i64) .str l (fun x0 x1 => (r04_First x0 x1).bind fun r => K [.dat (.int .i64) r []] none))
theorem r04_First_n : r04_First_g.Nat := fun R S l b F G K h => noBox_nat (args2_nat fun _ _ => bindr_nat fun _ => h _ _)
def Tb78 : Funs := Tb77.add 70 [(.int .i64), .str] r04_First_g
theorem Tb78_nat : Tb78.Nat := add_nat Tb77_nat r04_First_n
theorem Tb78_owes : ∀ f, Owes Tryz.prog Tb78 f := add_owes (E := r04_First_E) (Tab.env_ok tab_ok _ _ _ _) mixed Tb77_nat Tb77_owes (fn := Tryz.f70) (code := r04_First_c) Tryz.func70 (by kernel_rfl) (by kernel_rfl) fun l b r b' h => by
  obtain ⟨rfl, h⟩ := noBox_some h
  obtain ⟨x0, x1, h1, h2⟩ := own2 (E := r04_First_E) rfl h
  exact ⟨FUEL, (h2 _ _ _ _ _ _).trans ((r04_First_eq _ x0 x1 _).trans h1)⟩
noncomputable abbrev r08_First_c : Code := Tryz.f108.body.getD .skip
def r08_First_E : Env := tab.env (fun _ => []) (fun _ => []) [] [(.int .u8)]
theorem r08_First_t (R : Type) (kk : Nat) (b_0 : Int) (K : List SV → Option Box → Option R) : evFn r08_First_E (Tb78 R) kk Tryz.f108 r08_First_c [.dat (.int .u8) b_0 []] none K =
  r08_First_s0 b_0 (fun a0 => K [.dat (.int .i64) a0 []] none) := by kernel_rfl
theorem r08_First_eq (R : Type) (b_0 : Int) (K : List SV → Option Box → Option R) : evFn r08_First_E (Tb78 R) FUEL Tryz.f108 r08_First_c [.dat (.int .u8) b_0 []] none K = (r08_First b_0).bind fun r => K [.dat (.int .i64) r []] none := by
  rw [r08_First_t]
  simp only [r08_First, r08_First_s0_bind, cond_bind, within_bind, none_bind, some_bind, sum_bind, bind_bind, Sum.elim_inl, Sum.elim_inr]
def r08_First_g : Pure := fun R l b K => noBox b (args1 (.int .u8) l (fun x0 => (r08_First x0).bind fun r => K [.dat (.int .i64) r []] none))
theorem r08_First_n : r08_First_g.Nat := fun R S l b F G K h => noBox_nat (args1_nat fun _ => bindr_nat fun _ => h _ _)
def Tb79 : Funs := Tb78.add 108 [(.int .u8)] r08_First_g
theorem Tb79_nat : Tb79.Nat := add_nat Tb78_nat r08_First_n
theorem Tb79_owes : ∀ f, Owes Tryz.prog Tb79 f := add_owes (E := r08_First_E) (Tab.env_ok tab_ok _ _ _ _) mixed Tb78_nat Tb78_owes (fn := Tryz.f108) (code := r08_First_c) Tryz.func108 (by kernel_rfl) (by kernel_rfl) fun l b r b' h => by
  obtain ⟨rfl, h⟩ := noBox_some h
  obtain ⟨x0, h1, h2⟩ := own1 (E := r08_First_E) rfl h
  exact ⟨FUEL, (h2 _ _ _ _ _ _).trans ((r08_First_eq _ x0 _).trans h1)⟩
noncomputable abbrev r08_Get_c : Code := Tryz.f86.body.getD .skip
def r08_Get_E : Env := tab.env (fun _ => []) (fun _ => []) [] [.str, (.int .i64)]
theorem r08_Get_t (R : Type) (kk : Nat) (b_0 : ByteArray) (at_1 : Int) (K : List SV → Option Box → Option R) : evFn r08_Get_E (Tb79 R) kk Tryz.f86 r08_Get_c [.dat .str b_0 [], .dat (.int .i64) at_1 []] none K =
  r08_Get_s0 b_0 at_1 (fun a0 a1 a2 => K [.dat (.int .i64) a0 [], .dat (.int .i64) a1 [], .dat (.int .i64) a2 []] none) := by kernel_rfl
theorem r08_Get_eq (R : Type) (b_0 : ByteArray) (at_1 : Int) (K : List SV → Option Box → Option R) : evFn r08_Get_E (Tb79 R) FUEL Tryz.f86 r08_Get_c [.dat .str b_0 [], .dat (.int .i64) at_1 []] none K = (r08_Get b_0 at_1).bind fun r => K [.dat (.int .i64) r.1 [], .dat (.int .i64) r.2.1 [], .dat (.int .i64) r.2.2 []] none := by
  rw [r08_Get_t]
  simp only [r08_Get, r08_Get_s0_bind, cond_bind, within_bind, none_bind, some_bind, sum_bind, bind_bind, Sum.elim_inl, Sum.elim_inr]
def r08_Get_g : Pure := fun R l b K => noBox b (args2 .str (.int .i64) l (fun x0 x1 => (r08_Get x0 x1).bind fun r => K [.dat (.int .i64) r.1 [], .dat (.int .i64) r.2.1 [], .dat (.int .i64) r.2.2 []] none))
theorem r08_Get_n : r08_Get_g.Nat := fun R S l b F G K h => noBox_nat (args2_nat fun _ _ => bindr_nat fun _ => h _ _)
def Tb80 : Funs := Tb79.add 86 [.str, (.int .i64)] r08_Get_g
theorem Tb80_nat : Tb80.Nat := add_nat Tb79_nat r08_Get_n
theorem Tb80_owes : ∀ f, Owes Tryz.prog Tb80 f := add_owes (E := r08_Get_E) (Tab.env_ok tab_ok _ _ _ _) mixed Tb79_nat Tb79_owes (fn := Tryz.f86) (code := r08_Get_c) Tryz.func86 (by kernel_rfl) (by kernel_rfl) fun l b r b' h => by
  obtain ⟨rfl, h⟩ := noBox_some h
  obtain ⟨x0, x1, h1, h2⟩ := own2 (E := r08_Get_E) rfl h
  exact ⟨FUEL, (h2 _ _ _ _ _ _).trans ((r08_Get_eq _ x0 x1 _).trans h1)⟩
noncomputable abbrev r09_Get_c : Code := Tryz.f87.body.getD .skip
def r09_Get_E : Env := tab.env (fun _ => []) (fun _ => []) [] [.str, (.int .i64)]
theorem r09_Get_t (R : Type) (kk : Nat) (b_0 : ByteArray) (at_1 : Int) (K : List SV → Option Box → Option R) : evFn r09_Get_E (Tb80 R) kk Tryz.f87 r09_Get_c [.dat .str b_0 [], .dat (.int .i64) at_1 []] none K =
  r09_Get_s0 b_0 at_1 (fun a0 a1 a2 => K [.dat (.int .i64) a0 [], .dat (.int .i64) a1 [], .dat (.int .i64) a2 []] none) := by kernel_rfl
theorem r09_Get_eq (R : Type) (b_0 : ByteArray) (at_1 : Int) (K : List SV → Option Box → Option R) : evFn r09_Get_E (Tb80 R) FUEL Tryz.f87 r09_Get_c [.dat .str b_0 [], .dat (.int .i64) at_1 []] none K = (r09_Get b_0 at_1).bind fun r => K [.dat (.int .i64) r.1 [], .dat (.int .i64) r.2.1 [], .dat (.int .i64) r.2.2 []] none := by
  rw [r09_Get_t]
  simp only [r09_Get, r09_Get_s0_bind, cond_bind, within_bind, none_bind, some_bind, sum_bind, bind_bind, Sum.elim_inl, Sum.elim_inr]
def r09_Get_g : Pure := fun R l b K => noBox b (args2 .str (.int .i64) l (fun x0 x1 => (r09_Get x0 x1).bind fun r => K [.dat (.int .i64) r.1 [], .dat (.int .i64) r.2.1 [], .dat (.int .i64) r.2.2 []] none))
theorem r09_Get_n : r09_Get_g.Nat := fun R S l b F G K h => noBox_nat (args2_nat fun _ _ => bindr_nat fun _ => h _ _)
def Tb81 : Funs := Tb80.add 87 [.str, (.int .i64)] r09_Get_g
theorem Tb81_nat : Tb81.Nat := add_nat Tb80_nat r09_Get_n
theorem Tb81_owes : ∀ f, Owes Tryz.prog Tb81 f := add_owes (E := r09_Get_E) (Tab.env_ok tab_ok _ _ _ _) mixed Tb80_nat Tb80_owes (fn := Tryz.f87) (code := r09_Get_c) Tryz.func87 (by kernel_rfl) (by kernel_rfl) fun l b r b' h => by
  obtain ⟨rfl, h⟩ := noBox_some h
  obtain ⟨x0, x1, h1, h2⟩ := own2 (E := r09_Get_E) rfl h
  exact ⟨FUEL, (h2 _ _ _ _ _ _).trans ((r09_Get_eq _ x0 x1 _).trans h1)⟩
noncomputable abbrev r10_has_c : Code := Tryz.f88.body.getD .skip
def r10_has_E : Env := tab.env (fun i => bif Nat.beq i 2 then [0, 1, 2, 7] else []) (fun i => bif Nat.beq i 2 then [6] else []) [] [(.sl 135 (.pair (.int .i64) (.pair .str .unit))), (.int .i64), (.int .i64)]
def r10_has_h0 (l_0 : Zt10) (n_1 : Int) (tag_2 : Int) (t7 : Int) : State := ⟨[.dat (.sl 135 (.pair (.int .i64) (.pair .str .unit))) l_0 []]::[.dat (.int .i64) n_1 []]::[.dat (.int .i64) tag_2 []]::(uS 4 ([.dat (.int .i64) t7 []]::(uS 12 ([])))), nS 21 []⟩
def r10_has_x0_0 (t6 : Bool) : State := ⟨uS 6 ([.dat .bool t6 []]::(uS 13 ([]))), nS 21 []⟩
def r10_has_x0_1  : State := ⟨uS 20 [], nS 21 []⟩
theorem r10_has_t (R : Type) (kk : Nat) (l_0 : Zt10) (n_1 : Int) (tag_2 : Int) (K : List SV → Option Box → Option R) : evFn r10_has_E (Tb81 R) kk Tryz.f88 r10_has_c [.dat (.sl 135 (.pair (.int .i64) (.pair .str .unit))) l_0 [], .dat (.int .i64) n_1 [], .dat (.int .i64) tag_2 []] none K =
  r10_has_s0 l_0 n_1 tag_2 (fun a0 a1 a2 a3 => loopR (ev r10_has_E (Tb81 R) kk (sub [1, 0, 1, 0, 0] r10_has_c)) [0, 1, 2, 7] [6] kk (r10_has_h0 a0 a1 a2 a3) (kBlock 0 (kSeq r10_has_E (Tb81 R) kk (sub [1, 1] r10_has_c) (kFin r10_has_E Tryz.f88.results.toList none K)))) := by kernel_rfl
theorem r10_has_d0 (R : Type) (kk k : Nat) (l_0 : Zt10) (n_1 : Int) (tag_2 : Int) (t7 : Int) (K : Ex → State → Option R) : loopR (ev r10_has_E (Tb81 R) kk (sub [1, 0, 1, 0, 0] r10_has_c)) [0, 1, 2, 7] [6] (k + 1) (r10_has_h0 l_0 n_1 tag_2 t7) K =
  r10_has_s1 l_0 n_1 tag_2 t7 (fun a0 => K .ret (r10_has_x0_0 a0)) (fun a0 a1 a2 a3 => loopR (ev r10_has_E (Tb81 R) kk (sub [1, 0, 1, 0, 0] r10_has_c)) [0, 1, 2, 7] [6] k (r10_has_h0 a0 a1 a2 a3) K) (K (.exit 0) (r10_has_x0_1)) := by kernel_rfl
theorem r10_has_y0_0 (R : Type) (kk : Nat) (t6 : Bool) (K : List SV → Option Box → Option R) : (kBlock 0 (kSeq r10_has_E (Tb81 R) kk (sub [1, 1] r10_has_c) (kFin r10_has_E Tryz.f88.results.toList none K))) .ret (r10_has_x0_0 t6) =
  r10_has_s2 t6 (fun a0 => K [.dat .bool a0 []] none) := by kernel_rfl
theorem r10_has_y0_1 (R : Type) (kk : Nat)  (K : List SV → Option Box → Option R) : (kBlock 0 (kSeq r10_has_E (Tb81 R) kk (sub [1, 1] r10_has_c) (kFin r10_has_E Tryz.f88.results.toList none K))) (.exit 0) (r10_has_x0_1) =
  r10_has_s3 (fun a0 => K [.dat .bool a0 []] none) := by kernel_rfl
theorem r10_has_lp0 (R : Type) (k : Nat) (l_0 : Zt10) (n_1 : Int) (tag_2 : Int) (t7 : Int) (K : Ex → State → Option R) : loopR (ev r10_has_E (Tb81 R) FUEL (sub [1, 0, 1, 0, 0] r10_has_c)) [0, 1, 2, 7] [6] k (r10_has_h0 l_0 n_1 tag_2 t7) K = (r10_has_l0 k l_0 n_1 tag_2 t7).bind fun e => (Sum.elim (fun (we : Bool) => K .ret (r10_has_x0_0 we)) (fun (we : Unit) => K (.exit 0) (r10_has_x0_1)) e) := by
  induction k generalizing l_0 n_1 tag_2 t7 with
  | zero => rfl
  | succ k ih =>
    rw [r10_has_d0]
    simp only [r10_has_l0, r10_has_s0_bind, r10_has_s1_bind, r10_has_s2_bind, r10_has_s3_bind, ih, cond_bind, within_bind, none_bind, some_bind, sum_bind, bind_bind, Sum.elim_inl, Sum.elim_inr]
theorem r10_has_eq (R : Type) (l_0 : Zt10) (n_1 : Int) (tag_2 : Int) (K : List SV → Option Box → Option R) : evFn r10_has_E (Tb81 R) FUEL Tryz.f88 r10_has_c [.dat (.sl 135 (.pair (.int .i64) (.pair .str .unit))) l_0 [], .dat (.int .i64) n_1 [], .dat (.int .i64) tag_2 []] none K = (r10_has l_0 n_1 tag_2).bind fun r => K [.dat .bool r []] none := by
  rw [r10_has_t]
  simp only [r10_has, r10_has_s0_bind, r10_has_s1_bind, r10_has_s2_bind, r10_has_s3_bind, r10_has_lp0, r10_has_y0_0, r10_has_y0_1, cond_bind, within_bind, none_bind, some_bind, sum_bind, bind_bind, Sum.elim_inl, Sum.elim_inr]
def r10_has_g : Pure := fun R l b K => noBox b (args3 (.sl 135 (.pair (.int .i64) (.pair .str .unit))) (.int .i64) (.int .i64) l (fun x0 x1 x2 => (r10_has x0 x1 x2).bind fun r => K [.dat .bool r []] none))
theorem r10_has_n : r10_has_g.Nat := fun R S l b F G K h => noBox_nat (args3_nat fun _ _ _ => bindr_nat fun _ => h _ _)
def Tb82 : Funs := Tb81.add 88 [(.sl 135 (.pair (.int .i64) (.pair .str .unit))), (.int .i64), (.int .i64)] r10_has_g
theorem Tb82_nat : Tb82.Nat := add_nat Tb81_nat r10_has_n
theorem Tb82_owes : ∀ f, Owes Tryz.prog Tb82 f := add_owes (E := r10_has_E) (Tab.env_ok tab_ok _ _ _ _) mixed Tb81_nat Tb81_owes (fn := Tryz.f88) (code := r10_has_c) Tryz.func88 (by kernel_rfl) (by kernel_rfl) fun l b r b' h => by
  obtain ⟨rfl, h⟩ := noBox_some h
  obtain ⟨x0, x1, x2, h1, h2⟩ := own3 (E := r10_has_E) rfl h
  exact ⟨FUEL, (h2 _ _ _ _ _ _).trans ((r10_has_eq _ x0 x1 x2 _).trans h1)⟩
noncomputable abbrev r10_Get_c : Code := Tryz.f71.body.getD .skip
def r10_Get_E : Env := tab.env (fun i => bif Nat.beq i 3 then [0, 5, 6] else []) (fun i => bif Nat.beq i 3 then [2, 3, 4, 5] else []) [] [.str]
def r10_Get_h0 (b_0 : ByteArray) (t5 : Zt10) (t6 : Int) : State := ⟨[.dat .str b_0 []]::(uS 4 ([.dat (.sl 135 (.pair (.int .i64) (.pair .str .unit))) t5 [[]]]::[.dat (.int .i64) t6 []]::(uS 61 ([])))), nS 69 []⟩
def r10_Get_x0_0 (t2 : Zt10) (t3 : Int) (t4 : Int) (t5 : Zt10) : State := ⟨uS 2 ([.dat (.sl 135 (.pair (.int .i64) (.pair .str .unit))) t2 [[]]]::[.dat (.int .i64) t3 []]::[.dat (.int .i64) t4 []]::[.dat (.sl 135 (.pair (.int .i64) (.pair .str .unit))) t5 [[]]]::(uS 62 ([]))), nS 69 []⟩
def r10_Get_x0_1 (t5 : Zt10) : State := ⟨uS 5 ([.dat (.sl 135 (.pair (.int .i64) (.pair .str .unit))) t5 [[]]]::(uS 62 ([]))), nS 69 []⟩
theorem r10_Get_t (R : Type) (kk : Nat) (b_0 : ByteArray) (K : List SV → Option Box → Option R) : evFn r10_Get_E (Tb82 R) kk Tryz.f71 r10_Get_c [.dat .str b_0 []] none K =
  r10_Get_s0 b_0 (fun a0 a1 a2 => loopR (ev r10_Get_E (Tb82 R) kk (sub [1, 1, 1, 0, 0, 0] r10_Get_c)) [0, 5, 6] [2, 3, 4, 5] kk (r10_Get_h0 a0 a1 a2) (kBlock 0 (kSeq r10_Get_E (Tb82 R) kk (sub [1, 1, 1, 1] r10_Get_c) (kFin r10_Get_E Tryz.f71.results.toList none K)))) := by kernel_rfl
theorem r10_Get_d0 (R : Type) (kk k : Nat) (b_0 : ByteArray) (t5 : Zt10) (t6 : Int) (K : Ex → State → Option R) : loopR (ev r10_Get_E (Tb82 R) kk (sub [1, 1, 1, 0, 0, 0] r10_Get_c)) [0, 5, 6] [2, 3, 4, 5] (k + 1) (r10_Get_h0 b_0 t5 t6) K =
  r10_Get_s1 b_0 t5 t6 (fun a0 a1 a2 a3 => K .ret (r10_Get_x0_0 a0 a1 a2 a3)) (fun a0 a1 a2 => loopR (ev r10_Get_E (Tb82 R) kk (sub [1, 1, 1, 0, 0, 0] r10_Get_c)) [0, 5, 6] [2, 3, 4, 5] k (r10_Get_h0 a0 a1 a2) K) (fun a0 => K (.exit 0) (r10_Get_x0_1 a0)) := by kernel_rfl
theorem r10_Get_y0_0 (R : Type) (kk : Nat) (t2 : Zt10) (t3 : Int) (t4 : Int) (t5 : Zt10) (K : List SV → Option Box → Option R) : (kBlock 0 (kSeq r10_Get_E (Tb82 R) kk (sub [1, 1, 1, 1] r10_Get_c) (kFin r10_Get_E Tryz.f71.results.toList none K))) .ret (r10_Get_x0_0 t2 t3 t4 t5) =
  r10_Get_s2 t2 t3 t4 t5 (fun a0 a1 a2 => K [.dat (.sl 135 (.pair (.int .i64) (.pair .str .unit))) a0 [[]], .dat (.int .i64) a1 [], .dat (.int .i64) a2 []] none) := by kernel_rfl
theorem r10_Get_y0_1 (R : Type) (kk : Nat) (t5 : Zt10) (K : List SV → Option Box → Option R) : (kBlock 0 (kSeq r10_Get_E (Tb82 R) kk (sub [1, 1, 1, 1] r10_Get_c) (kFin r10_Get_E Tryz.f71.results.toList none K))) (.exit 0) (r10_Get_x0_1 t5) =
  r10_Get_s3 t5 (fun a0 a1 a2 => K [.dat (.sl 135 (.pair (.int .i64) (.pair .str .unit))) a0 [], .dat (.int .i64) a1 [], .dat (.int .i64) a2 []] none) := by kernel_rfl
theorem r10_Get_lp0 (R : Type) (k : Nat) (b_0 : ByteArray) (t5 : Zt10) (t6 : Int) (K : Ex → State → Option R) : loopR (ev r10_Get_E (Tb82 R) FUEL (sub [1, 1, 1, 0, 0, 0] r10_Get_c)) [0, 5, 6] [2, 3, 4, 5] k (r10_Get_h0 b_0 t5 t6) K = (r10_Get_l0 k b_0 t5 t6).bind fun e => (Sum.elim (fun (we : Zt20) => K .ret (r10_Get_x0_0 we.1 we.2.1 we.2.2.1 we.2.2.2)) (fun (we : Zt10) => K (.exit 0) (r10_Get_x0_1 we)) e) := by
  induction k generalizing b_0 t5 t6 with
  | zero => rfl
  | succ k ih =>
    rw [r10_Get_d0]
    simp only [r10_Get_l0, r10_Get_s0_bind, r10_Get_s1_bind, r10_Get_s2_bind, r10_Get_s3_bind, ih, cond_bind, within_bind, none_bind, some_bind, sum_bind, bind_bind, Sum.elim_inl, Sum.elim_inr]
theorem r10_Get_eq (R : Type) (b_0 : ByteArray) (K : List SV → Option Box → Option R) : evFn r10_Get_E (Tb82 R) FUEL Tryz.f71 r10_Get_c [.dat .str b_0 []] none K = (r10_Get b_0).bind fun r => (Sum.elim (fun (wr : Zt15) => K [.dat (.sl 135 (.pair (.int .i64) (.pair .str .unit))) wr.1 [[]], .dat (.int .i64) wr.2.1 [], .dat (.int .i64) wr.2.2 []] none) (fun (wr : Zt15) => K [.dat (.sl 135 (.pair (.int .i64) (.pair .str .unit))) wr.1 [], .dat (.int .i64) wr.2.1 [], .dat (.int .i64) wr.2.2 []] none) r) := by
  rw [r10_Get_t]
  simp only [r10_Get, r10_Get_s0_bind, r10_Get_s1_bind, r10_Get_s2_bind, r10_Get_s3_bind, r10_Get_lp0, r10_Get_y0_0, r10_Get_y0_1, cond_bind, within_bind, none_bind, some_bind, sum_bind, bind_bind, Sum.elim_inl, Sum.elim_inr]
def r10_Get_g : Pure := fun R l b K => noBox b (args1 .str l (fun x0 => (r10_Get x0).bind fun r => (Sum.elim (fun (wr : Zt15) => K [.dat (.sl 135 (.pair (.int .i64) (.pair .str .unit))) wr.1 [[]], .dat (.int .i64) wr.2.1 [], .dat (.int .i64) wr.2.2 []] none) (fun (wr : Zt15) => K [.dat (.sl 135 (.pair (.int .i64) (.pair .str .unit))) wr.1 [], .dat (.int .i64) wr.2.1 [], .dat (.int .i64) wr.2.2 []] none) r)))
theorem r10_Get_n : r10_Get_g.Nat := fun R S l b F G K h => noBox_nat (args1_nat fun _ => bindr_nat fun _ => sum_nat (fun _ => h _ _) (fun _ => h _ _))
def Tb83 : Funs := Tb82.add 71 [.str] r10_Get_g
theorem Tb83_nat : Tb83.Nat := add_nat Tb82_nat r10_Get_n
theorem Tb83_owes : ∀ f, Owes Tryz.prog Tb83 f := add_owes (E := r10_Get_E) (Tab.env_ok tab_ok _ _ _ _) mixed Tb82_nat Tb82_owes (fn := Tryz.f71) (code := r10_Get_c) Tryz.func71 (by kernel_rfl) (by kernel_rfl) fun l b r b' h => by
  obtain ⟨rfl, h⟩ := noBox_some h
  obtain ⟨x0, h1, h2⟩ := own1 (E := r10_Get_E) rfl h
  exact ⟨FUEL, (h2 _ _ _ _ _ _).trans ((r10_Get_eq _ x0 _).trans h1)⟩
noncomputable abbrev r11_Value_c : Code := Tryz.f44.body.getD .skip
def r11_Value_E : Env := tab.env (fun _ => []) (fun _ => []) [] [y7, .str]
theorem r11_Value_t (R : Type) (kk : Nat) (s_0 : Zt12) (text_1 : ByteArray) (K : List SV → Option Box → Option R) : evFn r11_Value_E (Tb83 R) kk Tryz.f44 r11_Value_c [.dat y7 s_0 [], .dat .str text_1 []] none K =
  r11_Value_s0 s_0 text_1 (fun a0 => K [.dat (.int .i64) a0 []] none) := by kernel_rfl
theorem r11_Value_eq (R : Type) (s_0 : Zt12) (text_1 : ByteArray) (K : List SV → Option Box → Option R) : evFn r11_Value_E (Tb83 R) FUEL Tryz.f44 r11_Value_c [.dat y7 s_0 [], .dat .str text_1 []] none K = (r11_Value s_0 text_1).bind fun r => K [.dat (.int .i64) r []] none := by
  rw [r11_Value_t]
  simp only [r11_Value, r11_Value_s0_bind, cond_bind, within_bind, none_bind, some_bind, sum_bind, bind_bind, Sum.elim_inl, Sum.elim_inr]
def r11_Value_g : Pure := fun R l b K => noBox b (args2 y7 .str l (fun x0 x1 => (r11_Value x0 x1).bind fun r => K [.dat (.int .i64) r []] none))
theorem r11_Value_n : r11_Value_g.Nat := fun R S l b F G K h => noBox_nat (args2_nat fun _ _ => bindr_nat fun _ => h _ _)
def Tb84 : Funs := Tb83.add 44 [y7, .str] r11_Value_g
theorem Tb84_nat : Tb84.Nat := add_nat Tb83_nat r11_Value_n
theorem Tb84_owes : ∀ f, Owes Tryz.prog Tb84 f := add_owes (E := r11_Value_E) (Tab.env_ok tab_ok _ _ _ _) mixed Tb83_nat Tb83_owes (fn := Tryz.f44) (code := r11_Value_c) Tryz.func44 (by kernel_rfl) (by kernel_rfl) fun l b r b' h => by
  obtain ⟨rfl, h⟩ := noBox_some h
  obtain ⟨x0, x1, h1, h2⟩ := own2 (E := r11_Value_E) rfl h
  exact ⟨FUEL, (h2 _ _ _ _ _ _).trans ((r11_Value_eq _ x0 x1 _).trans h1)⟩
noncomputable abbrev r19_Check_c : Code := Tryz.f60.body.getD .skip
def r19_Check_E : Env := tab.env (fun i => bif Nat.beq i 4 then [0, 4] else []) (fun i => bif Nat.beq i 4 then [2, 3] else []) [] [(.sl 56 (.pair .str (.pair .str .unit)))]
def r19_Check_h0 (l_0 : Zt13) (t4 : Int) : State := ⟨[.dat (.sl 56 (.pair .str (.pair .str .unit))) l_0 []]::(uS 3 ([.dat (.int .i64) t4 []]::(uS 19 ([])))), nS 25 []⟩
def r19_Check_x0_0 (t2 : Int) (t3 : Int) : State := ⟨uS 2 ([.dat (.int .i64) t2 []]::[.dat (.int .i64) t3 []]::(uS 20 ([]))), nS 25 []⟩
def r19_Check_x0_1  : State := ⟨uS 24 [], nS 25 []⟩
theorem r19_Check_t (R : Type) (kk : Nat) (l_0 : Zt13) (K : List SV → Option Box → Option R) : evFn r19_Check_E (Tb84 R) kk Tryz.f60 r19_Check_c [.dat (.sl 56 (.pair .str (.pair .str .unit))) l_0 []] none K =
  r19_Check_s0 l_0 (fun a0 a1 => K [.dat (.int .i64) a0 [], .dat (.int .i64) a1 []] none) (fun a0 a1 => loopR (ev r19_Check_E (Tb84 R) kk (sub [1, 1, 0, 1, 0, 0] r19_Check_c)) [0, 4] [2, 3] kk (r19_Check_h0 a0 a1) (kBlock 0 (kSeq r19_Check_E (Tb84 R) kk (sub [1, 1, 1] r19_Check_c) (kFin r19_Check_E Tryz.f60.results.toList none K)))) := by kernel_rfl
theorem r19_Check_d0 (R : Type) (kk k : Nat) (l_0 : Zt13) (t4 : Int) (K : Ex → State → Option R) : loopR (ev r19_Check_E (Tb84 R) kk (sub [1, 1, 0, 1, 0, 0] r19_Check_c)) [0, 4] [2, 3] (k + 1) (r19_Check_h0 l_0 t4) K =
  r19_Check_s1 l_0 t4 (fun a0 a1 => K .ret (r19_Check_x0_0 a0 a1)) (fun a0 a1 => loopR (ev r19_Check_E (Tb84 R) kk (sub [1, 1, 0, 1, 0, 0] r19_Check_c)) [0, 4] [2, 3] k (r19_Check_h0 a0 a1) K) (K (.exit 0) (r19_Check_x0_1)) := by kernel_rfl
theorem r19_Check_y0_0 (R : Type) (kk : Nat) (t2 : Int) (t3 : Int) (K : List SV → Option Box → Option R) : (kBlock 0 (kSeq r19_Check_E (Tb84 R) kk (sub [1, 1, 1] r19_Check_c) (kFin r19_Check_E Tryz.f60.results.toList none K))) .ret (r19_Check_x0_0 t2 t3) =
  r19_Check_s2 t2 t3 (fun a0 a1 => K [.dat (.int .i64) a0 [], .dat (.int .i64) a1 []] none) := by kernel_rfl
theorem r19_Check_y0_1 (R : Type) (kk : Nat)  (K : List SV → Option Box → Option R) : (kBlock 0 (kSeq r19_Check_E (Tb84 R) kk (sub [1, 1, 1] r19_Check_c) (kFin r19_Check_E Tryz.f60.results.toList none K))) (.exit 0) (r19_Check_x0_1) =
  r19_Check_s3 (fun a0 a1 => K [.dat (.int .i64) a0 [], .dat (.int .i64) a1 []] none) := by kernel_rfl
theorem r19_Check_lp0 (R : Type) (k : Nat) (l_0 : Zt13) (t4 : Int) (K : Ex → State → Option R) : loopR (ev r19_Check_E (Tb84 R) FUEL (sub [1, 1, 0, 1, 0, 0] r19_Check_c)) [0, 4] [2, 3] k (r19_Check_h0 l_0 t4) K = (r19_Check_l0 k l_0 t4).bind fun e => (Sum.elim (fun (we : (Int × Int)) => K .ret (r19_Check_x0_0 we.1 we.2)) (fun (we : Unit) => K (.exit 0) (r19_Check_x0_1)) e) := by
  induction k generalizing l_0 t4 with
  | zero => rfl
  | succ k ih =>
    rw [r19_Check_d0]
    simp only [r19_Check_l0, r19_Check_s0_bind, r19_Check_s1_bind, r19_Check_s2_bind, r19_Check_s3_bind, ih, cond_bind, within_bind, none_bind, some_bind, sum_bind, bind_bind, Sum.elim_inl, Sum.elim_inr]
theorem r19_Check_eq (R : Type) (l_0 : Zt13) (K : List SV → Option Box → Option R) : evFn r19_Check_E (Tb84 R) FUEL Tryz.f60 r19_Check_c [.dat (.sl 56 (.pair .str (.pair .str .unit))) l_0 []] none K = (r19_Check l_0).bind fun r => K [.dat (.int .i64) r.1 [], .dat (.int .i64) r.2 []] none := by
  rw [r19_Check_t]
  simp only [r19_Check, r19_Check_s0_bind, r19_Check_s1_bind, r19_Check_s2_bind, r19_Check_s3_bind, r19_Check_lp0, r19_Check_y0_0, r19_Check_y0_1, cond_bind, within_bind, none_bind, some_bind, sum_bind, bind_bind, Sum.elim_inl, Sum.elim_inr]
def r19_Check_g : Pure := fun R l b K => noBox b (args1 (.sl 56 (.pair .str (.pair .str .unit))) l (fun x0 => (r19_Check x0).bind fun r => K [.dat (.int .i64) r.1 [], .dat (.int .i64) r.2 []] none))
theorem r19_Check_n : r19_Check_g.Nat := fun R S l b F G K h => noBox_nat (args1_nat fun _ => bindr_nat fun _ => h _ _)
def Tb85 : Funs := Tb84.add 60 [(.sl 56 (.pair .str (.pair .str .unit)))] r19_Check_g
theorem Tb85_nat : Tb85.Nat := add_nat Tb84_nat r19_Check_n
theorem Tb85_owes : ∀ f, Owes Tryz.prog Tb85 f := add_owes (E := r19_Check_E) (Tab.env_ok tab_ok _ _ _ _) mixed Tb84_nat Tb84_owes (fn := Tryz.f60) (code := r19_Check_c) Tryz.func60 (by kernel_rfl) (by kernel_rfl) fun l b r b' h => by
  obtain ⟨rfl, h⟩ := noBox_some h
  obtain ⟨x0, h1, h2⟩ := own1 (E := r19_Check_E) rfl h
  exact ⟨FUEL, (h2 _ _ _ _ _ _).trans ((r19_Check_eq _ x0 _).trans h1)⟩
noncomputable abbrev r20_Check_c : Code := Tryz.f33.body.getD .skip
def r20_Check_E : Env := { tab.env (fun i => bif Nat.beq i 27 then [3, 4, 5, 7, 8, 13] else []) (fun i => bif Nat.beq i 27 then [6] else []) [] [y9, y13, y13] with join := fun i => bif Nat.beq i 2 then some [3, 4, 5, 23] else bif Nat.beq i 3 then some [3, 4, 5] else bif Nat.beq i 6 then some [3, 4, 5, 7, 8, 48] else bif Nat.beq i 7 then some [3, 4, 5, 7, 8] else bif Nat.beq i 8 then some [3, 4, 5, 7, 8, 65] else bif Nat.beq i 9 then some [3, 4, 5, 7, 8] else bif Nat.beq i 10 then some [3, 4, 5, 7, 8, 84] else bif Nat.beq i 11 then some [3, 4, 5, 7, 8] else bif Nat.beq i 35 then some [] else bif Nat.beq i 21 then some [140] else bif Nat.beq i 25 then some [3, 4, 5, 7, 8, 156] else bif Nat.beq i 26 then some [3, 4, 5, 7, 8] else bif Nat.beq i 29 then some [3, 4, 5, 7, 8, 13] else bif Nat.beq i 32 then some [3, 4, 5, 7, 8, 13] else bif Nat.beq i 28 then some [3, 4, 5, 7, 8, 13] else none }
def r20_Check_js0 (t23 : Bool) (bt3 : Zt19) (bt4 : Zt17) (bt5 : Zt17) : State := ⟨uS 3 ([.ptr 4 y9 []]::[.ptr 5 y13 []]::[.ptr 6 y13 []]::(uS 17 ([.dat .bool t23 []]::(uS 170 ([]))))), nS 4 ((some ⟨y9, bt3, []⟩)::(some ⟨y13, bt4, []⟩)::(some ⟨y13, bt5, []⟩)::(nS 188 ([])))⟩
def r20_Check_js1 (bt3 : Zt19) (bt4 : Zt17) (bt5 : Zt17) : State := ⟨uS 3 ([.ptr 4 y9 []]::[.ptr 5 y13 []]::[.ptr 6 y13 []]::(uS 188 ([]))), nS 4 ((some ⟨y9, bt3, []⟩)::(some ⟨y13, bt4, []⟩)::(some ⟨y13, bt5, []⟩)::(nS 188 ([])))⟩
def r20_Check_js2 (t7 : Int) (t8 : Int) (t48 : Bool) (bt3 : Zt19) (bt4 : Zt17) (bt5 : Zt17) : State := ⟨uS 3 ([.ptr 4 y9 []]::[.ptr 5 y13 []]::[.ptr 6 y13 []]::(uS 1 ([.dat (.int .i64) t7 []]::[.dat (.int .i64) t8 []]::(uS 39 ([.dat .bool t48 []]::(uS 145 ([]))))))), nS 4 ((some ⟨y9, bt3, []⟩)::(some ⟨y13, bt4, []⟩)::(some ⟨y13, bt5, []⟩)::(nS 188 ([])))⟩
def r20_Check_js3 (t7 : Int) (t8 : Int) (bt3 : Zt19) (bt4 : Zt17) (bt5 : Zt17) : State := ⟨uS 3 ([.ptr 4 y9 []]::[.ptr 5 y13 []]::[.ptr 6 y13 []]::(uS 1 ([.dat (.int .i64) t7 []]::[.dat (.int .i64) t8 []]::(uS 185 ([]))))), nS 4 ((some ⟨y9, bt3, []⟩)::(some ⟨y13, bt4, []⟩)::(some ⟨y13, bt5, []⟩)::(nS 188 ([])))⟩
def r20_Check_js4 (t7 : Int) (t8 : Int) (t65 : Bool) (bt3 : Zt19) (bt4 : Zt17) (bt5 : Zt17) : State := ⟨uS 3 ([.ptr 4 y9 []]::[.ptr 5 y13 []]::[.ptr 6 y13 []]::(uS 1 ([.dat (.int .i64) t7 []]::[.dat (.int .i64) t8 []]::(uS 56 ([.dat .bool t65 []]::(uS 128 ([]))))))), nS 4 ((some ⟨y9, bt3, []⟩)::(some ⟨y13, bt4, []⟩)::(some ⟨y13, bt5, []⟩)::(nS 188 ([])))⟩
def r20_Check_js5 (t7 : Int) (t8 : Int) (bt3 : Zt19) (bt4 : Zt17) (bt5 : Zt17) : State := ⟨uS 3 ([.ptr 4 y9 []]::[.ptr 5 y13 []]::[.ptr 6 y13 []]::(uS 1 ([.dat (.int .i64) t7 []]::[.dat (.int .i64) t8 []]::(uS 185 ([]))))), nS 4 ((some ⟨y9, bt3, []⟩)::(some ⟨y13, bt4, []⟩)::(some ⟨y13, bt5, []⟩)::(nS 188 ([])))⟩
def r20_Check_js6 (t7 : Int) (t8 : Int) (t84 : Bool) (bt3 : Zt19) (bt4 : Zt17) (bt5 : Zt17) : State := ⟨uS 3 ([.ptr 4 y9 []]::[.ptr 5 y13 []]::[.ptr 6 y13 []]::(uS 1 ([.dat (.int .i64) t7 []]::[.dat (.int .i64) t8 []]::(uS 75 ([.dat .bool t84 []]::(uS 109 ([]))))))), nS 4 ((some ⟨y9, bt3, []⟩)::(some ⟨y13, bt4, []⟩)::(some ⟨y13, bt5, []⟩)::(nS 188 ([])))⟩
def r20_Check_js7 (t7 : Int) (t8 : Int) (bt3 : Zt19) (bt4 : Zt17) (bt5 : Zt17) : State := ⟨uS 3 ([.ptr 4 y9 []]::[.ptr 5 y13 []]::[.ptr 6 y13 []]::(uS 1 ([.dat (.int .i64) t7 []]::[.dat (.int .i64) t8 []]::(uS 185 ([]))))), nS 4 ((some ⟨y9, bt3, []⟩)::(some ⟨y13, bt4, []⟩)::(some ⟨y13, bt5, []⟩)::(nS 188 ([])))⟩
def r20_Check_js8  : State := ⟨uS 194 [], nS 195 []⟩
def r20_Check_js9 (t140 : Bool) : State := ⟨uS 140 ([.dat .bool t140 []]::(uS 53 ([]))), nS 195 []⟩
def r20_Check_js10 (t7 : Int) (t8 : Int) (t156 : Bool) (bt3 : Zt19) (bt4 : Zt17) (bt5 : Zt17) : State := ⟨uS 3 ([.ptr 4 y9 []]::[.ptr 5 y13 []]::[.ptr 6 y13 []]::(uS 1 ([.dat (.int .i64) t7 []]::[.dat (.int .i64) t8 []]::(uS 147 ([.dat .bool t156 []]::(uS 37 ([]))))))), nS 4 ((some ⟨y9, bt3, []⟩)::(some ⟨y13, bt4, []⟩)::(some ⟨y13, bt5, []⟩)::(nS 188 ([])))⟩
def r20_Check_js11 (t7 : Int) (t8 : Int) (bt3 : Zt19) (bt4 : Zt17) (bt5 : Zt17) : State := ⟨uS 3 ([.ptr 4 y9 []]::[.ptr 5 y13 []]::[.ptr 6 y13 []]::(uS 1 ([.dat (.int .i64) t7 []]::[.dat (.int .i64) t8 []]::(uS 185 ([]))))), nS 4 ((some ⟨y9, bt3, []⟩)::(some ⟨y13, bt4, []⟩)::(some ⟨y13, bt5, []⟩)::(nS 188 ([])))⟩
def r20_Check_js12 (t7 : Int) (t8 : Int) (t13 : Int) (bt3 : Zt19) (bt4 : Zt17) (bt5 : Zt17) : State := ⟨uS 3 ([.ptr 4 y9 []]::[.ptr 5 y13 []]::[.ptr 6 y13 []]::(uS 1 ([.dat (.int .i64) t7 []]::[.dat (.int .i64) t8 []]::(uS 4 ([.dat (.int .i64) t13 []]::(uS 180 ([]))))))), nS 4 ((some ⟨y9, bt3, []⟩)::(some ⟨y13, bt4, []⟩)::(some ⟨y13, bt5, []⟩)::(nS 188 ([])))⟩
def r20_Check_js13 (t7 : Int) (t8 : Int) (t13 : Int) (bt3 : Zt19) (bt4 : Zt17) (bt5 : Zt17) : State := ⟨uS 3 ([.ptr 4 y9 []]::[.ptr 5 y13 []]::[.ptr 6 y13 []]::(uS 1 ([.dat (.int .i64) t7 []]::[.dat (.int .i64) t8 []]::(uS 4 ([.dat (.int .i64) t13 []]::(uS 180 ([]))))))), nS 4 ((some ⟨y9, bt3, []⟩)::(some ⟨y13, bt4, []⟩)::(some ⟨y13, bt5, []⟩)::(nS 188 ([])))⟩
def r20_Check_js14 (t7 : Int) (t8 : Int) (t13 : Int) (bt3 : Zt19) (bt4 : Zt17) (bt5 : Zt17) : State := ⟨uS 3 ([.ptr 4 y9 []]::[.ptr 5 y13 []]::[.ptr 6 y13 []]::(uS 1 ([.dat (.int .i64) t7 []]::[.dat (.int .i64) t8 []]::(uS 4 ([.dat (.int .i64) t13 []]::(uS 180 ([]))))))), nS 4 ((some ⟨y9, bt3, []⟩)::(some ⟨y13, bt4, []⟩)::(some ⟨y13, bt5, []⟩)::(nS 188 ([])))⟩
def r20_Check_h0 (t7 : Int) (t8 : Int) (t13 : Int) (bt3 : Zt19) (bt4 : Zt17) (bt5 : Zt17) : State := ⟨uS 3 ([.ptr 4 y9 []]::[.ptr 5 y13 []]::[.ptr 6 y13 []]::(uS 1 ([.dat (.int .i64) t7 []]::[.dat (.int .i64) t8 []]::(uS 4 ([.dat (.int .i64) t13 []]::(uS 180 ([]))))))), nS 4 ((some ⟨y9, bt3, []⟩)::(some ⟨y13, bt4, []⟩)::(some ⟨y13, bt5, []⟩)::(nS 188 ([])))⟩
def r20_Check_x0_0  : State := ⟨uS 194 [], nS 195 []⟩
def r20_Check_x0_1 (t6 : Int) : State := ⟨uS 6 ([.dat (.int .i64) t6 []]::(uS 187 ([]))), nS 195 []⟩
theorem r20_Check_t (R : Type) (kk : Nat) (r_0 : Zt19) (a_1 : Zt17) (b_2 : Zt17) (K : List SV → Option Box → Option R) : evFn r20_Check_E (Tb85 R) kk Tryz.f33 r20_Check_c [.dat y9 r_0 [], .dat y13 a_1 [], .dat y13 b_2 []] none K =
  r20_Check_s0 r_0 a_1 b_2 (fun a0 a1 a2 a3 => joinK kk fun _ => ev r20_Check_E (Tb85 R) kk (sub [1, 0, 1] r20_Check_c) (r20_Check_js0 a0 a1 a2 a3) (kSeq r20_Check_E (Tb85 R) kk (sub [1, 1] r20_Check_c) (kFin r20_Check_E Tryz.f33.results.toList none K))) := by kernel_rfl
theorem r20_Check_jt0 (R : Type) (kk : Nat) (t23 : Bool) (bt3 : Zt19) (bt4 : Zt17) (bt5 : Zt17) (K : List SV → Option Box → Option R) : ev r20_Check_E (Tb85 R) kk (sub [1, 0, 1] r20_Check_c) (r20_Check_js0 t23 bt3 bt4 bt5) (kSeq r20_Check_E (Tb85 R) kk (sub [1, 1] r20_Check_c) (kFin r20_Check_E Tryz.f33.results.toList none K)) =
  r20_Check_s1 t23 bt3 bt4 bt5 (fun a0 => K [.dat (.int .i64) a0 []] none) (fun a0 a1 a2 => joinK kk fun _ => ev r20_Check_E (Tb85 R) kk (sub [1, 1] r20_Check_c) (r20_Check_js1 a0 a1 a2) (kFin r20_Check_E Tryz.f33.results.toList none K)) := by kernel_rfl
theorem r20_Check_jt1 (R : Type) (kk : Nat) (bt3 : Zt19) (bt4 : Zt17) (bt5 : Zt17) (K : List SV → Option Box → Option R) : ev r20_Check_E (Tb85 R) kk (sub [1, 1] r20_Check_c) (r20_Check_js1 bt3 bt4 bt5) (kFin r20_Check_E Tryz.f33.results.toList none K) =
  r20_Check_s2 bt3 bt4 bt5 (fun a0 a1 a2 a3 a4 a5 => joinK kk fun _ => ev r20_Check_E (Tb85 R) kk (sub [1, 1, 1, 1, 0, 1] r20_Check_c) (r20_Check_js2 a0 a1 a2 a3 a4 a5) (kSeq r20_Check_E (Tb85 R) kk (sub [1, 1, 1, 1, 1] r20_Check_c) (kFin r20_Check_E Tryz.f33.results.toList none K))) := by kernel_rfl
theorem r20_Check_jt2 (R : Type) (kk : Nat) (t7 : Int) (t8 : Int) (t48 : Bool) (bt3 : Zt19) (bt4 : Zt17) (bt5 : Zt17) (K : List SV → Option Box → Option R) : ev r20_Check_E (Tb85 R) kk (sub [1, 1, 1, 1, 0, 1] r20_Check_c) (r20_Check_js2 t7 t8 t48 bt3 bt4 bt5) (kSeq r20_Check_E (Tb85 R) kk (sub [1, 1, 1, 1, 1] r20_Check_c) (kFin r20_Check_E Tryz.f33.results.toList none K)) =
  r20_Check_s3 t7 t8 t48 bt3 bt4 bt5 (fun a0 => K [.dat (.int .i64) a0 []] none) (fun a0 a1 a2 a3 a4 => joinK kk fun _ => ev r20_Check_E (Tb85 R) kk (sub [1, 1, 1, 1, 1] r20_Check_c) (r20_Check_js3 a0 a1 a2 a3 a4) (kFin r20_Check_E Tryz.f33.results.toList none K)) := by kernel_rfl
theorem r20_Check_jt3 (R : Type) (kk : Nat) (t7 : Int) (t8 : Int) (bt3 : Zt19) (bt4 : Zt17) (bt5 : Zt17) (K : List SV → Option Box → Option R) : ev r20_Check_E (Tb85 R) kk (sub [1, 1, 1, 1, 1] r20_Check_c) (r20_Check_js3 t7 t8 bt3 bt4 bt5) (kFin r20_Check_E Tryz.f33.results.toList none K) =
  r20_Check_s4 t7 t8 bt3 bt4 bt5 (fun a0 a1 a2 a3 a4 a5 => joinK kk fun _ => ev r20_Check_E (Tb85 R) kk (sub [1, 1, 1, 1, 1, 0, 1] r20_Check_c) (r20_Check_js4 a0 a1 a2 a3 a4 a5) (kSeq r20_Check_E (Tb85 R) kk (sub [1, 1, 1, 1, 1, 1] r20_Check_c) (kFin r20_Check_E Tryz.f33.results.toList none K))) := by kernel_rfl
theorem r20_Check_jt4 (R : Type) (kk : Nat) (t7 : Int) (t8 : Int) (t65 : Bool) (bt3 : Zt19) (bt4 : Zt17) (bt5 : Zt17) (K : List SV → Option Box → Option R) : ev r20_Check_E (Tb85 R) kk (sub [1, 1, 1, 1, 1, 0, 1] r20_Check_c) (r20_Check_js4 t7 t8 t65 bt3 bt4 bt5) (kSeq r20_Check_E (Tb85 R) kk (sub [1, 1, 1, 1, 1, 1] r20_Check_c) (kFin r20_Check_E Tryz.f33.results.toList none K)) =
  r20_Check_s5 t7 t8 t65 bt3 bt4 bt5 (fun a0 => K [.dat (.int .i64) a0 []] none) (fun a0 a1 a2 a3 a4 => joinK kk fun _ => ev r20_Check_E (Tb85 R) kk (sub [1, 1, 1, 1, 1, 1] r20_Check_c) (r20_Check_js5 a0 a1 a2 a3 a4) (kFin r20_Check_E Tryz.f33.results.toList none K)) := by kernel_rfl
theorem r20_Check_jt5 (R : Type) (kk : Nat) (t7 : Int) (t8 : Int) (bt3 : Zt19) (bt4 : Zt17) (bt5 : Zt17) (K : List SV → Option Box → Option R) : ev r20_Check_E (Tb85 R) kk (sub [1, 1, 1, 1, 1, 1] r20_Check_c) (r20_Check_js5 t7 t8 bt3 bt4 bt5) (kFin r20_Check_E Tryz.f33.results.toList none K) =
  r20_Check_s6 t7 t8 bt3 bt4 bt5 (fun a0 a1 a2 a3 a4 a5 => joinK kk fun _ => ev r20_Check_E (Tb85 R) kk (sub [1, 1, 1, 1, 1, 1, 0, 1] r20_Check_c) (r20_Check_js6 a0 a1 a2 a3 a4 a5) (kSeq r20_Check_E (Tb85 R) kk (sub [1, 1, 1, 1, 1, 1, 1] r20_Check_c) (kFin r20_Check_E Tryz.f33.results.toList none K))) := by kernel_rfl
theorem r20_Check_jt6 (R : Type) (kk : Nat) (t7 : Int) (t8 : Int) (t84 : Bool) (bt3 : Zt19) (bt4 : Zt17) (bt5 : Zt17) (K : List SV → Option Box → Option R) : ev r20_Check_E (Tb85 R) kk (sub [1, 1, 1, 1, 1, 1, 0, 1] r20_Check_c) (r20_Check_js6 t7 t8 t84 bt3 bt4 bt5) (kSeq r20_Check_E (Tb85 R) kk (sub [1, 1, 1, 1, 1, 1, 1] r20_Check_c) (kFin r20_Check_E Tryz.f33.results.toList none K)) =
  r20_Check_s7 t7 t8 t84 bt3 bt4 bt5 (fun a0 => K [.dat (.int .i64) a0 []] none) (fun a0 a1 a2 a3 a4 => joinK kk fun _ => ev r20_Check_E (Tb85 R) kk (sub [1, 1, 1, 1, 1, 1, 1] r20_Check_c) (r20_Check_js7 a0 a1 a2 a3 a4) (kFin r20_Check_E Tryz.f33.results.toList none K)) := by kernel_rfl
theorem r20_Check_jt7 (R : Type) (kk : Nat) (t7 : Int) (t8 : Int) (bt3 : Zt19) (bt4 : Zt17) (bt5 : Zt17) (K : List SV → Option Box → Option R) : ev r20_Check_E (Tb85 R) kk (sub [1, 1, 1, 1, 1, 1, 1] r20_Check_c) (r20_Check_js7 t7 t8 bt3 bt4 bt5) (kFin r20_Check_E Tryz.f33.results.toList none K) =
  r20_Check_s8 t7 t8 bt3 bt4 bt5 (fun a0 => K [.dat (.int .i64) a0 []] none) (joinK kk fun _ => ev r20_Check_E (Tb85 R) kk (sub [1, 1, 1, 1, 1, 1, 1, 1] r20_Check_c) (r20_Check_js8) (kFin r20_Check_E Tryz.f33.results.toList none K)) (fun a0 => joinK kk fun _ => ev r20_Check_E (Tb85 R) kk (sub [1, 1, 1, 1, 1, 1, 1, 0, 1, 0, 1, 1, 1, 1, 1, 0, 1, 1, 1] r20_Check_c) (r20_Check_js9 a0) (kBlock 0 (kSeq r20_Check_E (Tb85 R) kk (sub [1, 1, 1, 1, 1, 1, 1, 1] r20_Check_c) (kFin r20_Check_E Tryz.f33.results.toList none K)))) (fun a0 a1 a2 a3 a4 a5 => joinK kk fun _ => ev r20_Check_E (Tb85 R) kk (sub [1, 1, 1, 1, 1, 1, 1, 0, 1, 0, 1, 1, 1, 1, 1, 1, 1, 0, 0, 1, 1] r20_Check_c) (r20_Check_js10 a0 a1 a2 a3 a4 a5) (kSeq r20_Check_E (Tb85 R) kk (sub [1, 1, 1, 1, 1, 1, 1, 0, 1, 0, 1, 1, 1, 1, 1, 1, 1, 0, 1] r20_Check_c) (kBlock 0 (kSeq r20_Check_E (Tb85 R) kk (sub [1, 1, 1, 1, 1, 1, 1, 1] r20_Check_c) (kFin r20_Check_E Tryz.f33.results.toList none K))))) := by kernel_rfl
theorem r20_Check_jt8 (R : Type) (kk : Nat)  (K : List SV → Option Box → Option R) : ev r20_Check_E (Tb85 R) kk (sub [1, 1, 1, 1, 1, 1, 1, 1] r20_Check_c) (r20_Check_js8) (kFin r20_Check_E Tryz.f33.results.toList none K) =
  r20_Check_s9 (fun a0 => K [.dat (.int .i64) a0 []] none) := by kernel_rfl
theorem r20_Check_jt9 (R : Type) (kk : Nat) (t140 : Bool) (K : List SV → Option Box → Option R) : ev r20_Check_E (Tb85 R) kk (sub [1, 1, 1, 1, 1, 1, 1, 0, 1, 0, 1, 1, 1, 1, 1, 0, 1, 1, 1] r20_Check_c) (r20_Check_js9 t140) (kBlock 0 (kSeq r20_Check_E (Tb85 R) kk (sub [1, 1, 1, 1, 1, 1, 1, 1] r20_Check_c) (kFin r20_Check_E Tryz.f33.results.toList none K))) =
  r20_Check_s10 t140 (fun a0 => K [.dat (.int .i64) a0 []] none) (joinK kk fun _ => ev r20_Check_E (Tb85 R) kk (sub [1, 1, 1, 1, 1, 1, 1, 1] r20_Check_c) (r20_Check_js8) (kFin r20_Check_E Tryz.f33.results.toList none K)) := by kernel_rfl
theorem r20_Check_jt10 (R : Type) (kk : Nat) (t7 : Int) (t8 : Int) (t156 : Bool) (bt3 : Zt19) (bt4 : Zt17) (bt5 : Zt17) (K : List SV → Option Box → Option R) : ev r20_Check_E (Tb85 R) kk (sub [1, 1, 1, 1, 1, 1, 1, 0, 1, 0, 1, 1, 1, 1, 1, 1, 1, 0, 0, 1, 1] r20_Check_c) (r20_Check_js10 t7 t8 t156 bt3 bt4 bt5) (kSeq r20_Check_E (Tb85 R) kk (sub [1, 1, 1, 1, 1, 1, 1, 0, 1, 0, 1, 1, 1, 1, 1, 1, 1, 0, 1] r20_Check_c) (kBlock 0 (kSeq r20_Check_E (Tb85 R) kk (sub [1, 1, 1, 1, 1, 1, 1, 1] r20_Check_c) (kFin r20_Check_E Tryz.f33.results.toList none K)))) =
  r20_Check_s11 t7 t8 t156 bt3 bt4 bt5 (fun a0 => K [.dat (.int .i64) a0 []] none) (fun a0 a1 a2 a3 a4 => joinK kk fun _ => ev r20_Check_E (Tb85 R) kk (sub [1, 1, 1, 1, 1, 1, 1, 0, 1, 0, 1, 1, 1, 1, 1, 1, 1, 0, 1] r20_Check_c) (r20_Check_js11 a0 a1 a2 a3 a4) (kBlock 0 (kSeq r20_Check_E (Tb85 R) kk (sub [1, 1, 1, 1, 1, 1, 1, 1] r20_Check_c) (kFin r20_Check_E Tryz.f33.results.toList none K)))) := by kernel_rfl
theorem r20_Check_jt11 (R : Type) (kk : Nat) (t7 : Int) (t8 : Int) (bt3 : Zt19) (bt4 : Zt17) (bt5 : Zt17) (K : List SV → Option Box → Option R) : ev r20_Check_E (Tb85 R) kk (sub [1, 1, 1, 1, 1, 1, 1, 0, 1, 0, 1, 1, 1, 1, 1, 1, 1, 0, 1] r20_Check_c) (r20_Check_js11 t7 t8 bt3 bt4 bt5) (kBlock 0 (kSeq r20_Check_E (Tb85 R) kk (sub [1, 1, 1, 1, 1, 1, 1, 1] r20_Check_c) (kFin r20_Check_E Tryz.f33.results.toList none K))) =
  r20_Check_s12 t7 t8 bt3 bt4 bt5 (fun a0 a1 a2 a3 a4 a5 => loopR (ev r20_Check_E (Tb85 R) kk (sub [1, 1, 1, 1, 1, 1, 1, 0, 1, 0, 1, 1, 1, 1, 1, 1, 1, 0, 1, 1, 0, 0] r20_Check_c)) [3, 4, 5, 7, 8, 13] [6] kk (r20_Check_h0 a0 a1 a2 a3 a4 a5) (kBlock 1 (kBlock 0 (kSeq r20_Check_E (Tb85 R) kk (sub [1, 1, 1, 1, 1, 1, 1, 1] r20_Check_c) (kFin r20_Check_E Tryz.f33.results.toList none K))))) := by kernel_rfl
theorem r20_Check_d0 (R : Type) (kk k : Nat) (t7 : Int) (t8 : Int) (t13 : Int) (bt3 : Zt19) (bt4 : Zt17) (bt5 : Zt17) (K : Ex → State → Option R) : loopR (ev r20_Check_E (Tb85 R) kk (sub [1, 1, 1, 1, 1, 1, 1, 0, 1, 0, 1, 1, 1, 1, 1, 1, 1, 0, 1, 1, 0, 0] r20_Check_c)) [3, 4, 5, 7, 8, 13] [6] (k + 1) (r20_Check_h0 t7 t8 t13 bt3 bt4 bt5) K =
  r20_Check_s13 t7 t8 t13 bt3 bt4 bt5 (fun a0 a1 a2 a3 a4 a5 => joinK kk fun _ => ev r20_Check_E (Tb85 R) kk (sub [1, 1, 1, 1, 1, 1, 1, 0, 1, 0, 1, 1, 1, 1, 1, 1, 1, 0, 1, 1, 0, 0, 1] r20_Check_c) (r20_Check_js12 a0 a1 a2 a3 a4 a5) (kLoop (ev r20_Check_E (Tb85 R) kk (sub [1, 1, 1, 1, 1, 1, 1, 0, 1, 0, 1, 1, 1, 1, 1, 1, 1, 0, 1, 1, 0, 0] r20_Check_c)) [3, 4, 5, 7, 8, 13] [6] k K)) (K (.exit 1) (r20_Check_x0_0)) := by kernel_rfl
theorem r20_Check_jt12 (R : Type) (kk k : Nat) (t7 : Int) (t8 : Int) (t13 : Int) (bt3 : Zt19) (bt4 : Zt17) (bt5 : Zt17) (K : Ex → State → Option R) : ev r20_Check_E (Tb85 R) kk (sub [1, 1, 1, 1, 1, 1, 1, 0, 1, 0, 1, 1, 1, 1, 1, 1, 1, 0, 1, 1, 0, 0, 1] r20_Check_c) (r20_Check_js12 t7 t8 t13 bt3 bt4 bt5) (kLoop (ev r20_Check_E (Tb85 R) kk (sub [1, 1, 1, 1, 1, 1, 1, 0, 1, 0, 1, 1, 1, 1, 1, 1, 1, 0, 1, 1, 0, 0] r20_Check_c)) [3, 4, 5, 7, 8, 13] [6] k K) =
  r20_Check_s14 t7 t8 t13 bt3 bt4 bt5 (fun a0 => K .ret (r20_Check_x0_1 a0)) (fun a0 a1 a2 a3 a4 a5 => joinK kk fun _ => ev r20_Check_E (Tb85 R) kk (sub [1, 1, 1, 1, 1, 1, 1, 0, 1, 0, 1, 1, 1, 1, 1, 1, 1, 0, 1, 1, 0, 0, 1, 0, 0, 1] r20_Check_c) (r20_Check_js13 a0 a1 a2 a3 a4 a5) (kBlock 2 (kSeq r20_Check_E (Tb85 R) kk (sub [1, 1, 1, 1, 1, 1, 1, 0, 1, 0, 1, 1, 1, 1, 1, 1, 1, 0, 1, 1, 0, 0, 1, 1] r20_Check_c) (kLoop (ev r20_Check_E (Tb85 R) kk (sub [1, 1, 1, 1, 1, 1, 1, 0, 1, 0, 1, 1, 1, 1, 1, 1, 1, 0, 1, 1, 0, 0] r20_Check_c)) [3, 4, 5, 7, 8, 13] [6] k K)))) := by kernel_rfl
theorem r20_Check_y0_0 (R : Type) (kk : Nat)  (K : List SV → Option Box → Option R) : (kBlock 1 (kBlock 0 (kSeq r20_Check_E (Tb85 R) kk (sub [1, 1, 1, 1, 1, 1, 1, 1] r20_Check_c) (kFin r20_Check_E Tryz.f33.results.toList none K)))) (.exit 1) (r20_Check_x0_0) =
  r20_Check_s15 (joinK kk fun _ => ev r20_Check_E (Tb85 R) kk (sub [1, 1, 1, 1, 1, 1, 1, 1] r20_Check_c) (r20_Check_js8) (kFin r20_Check_E Tryz.f33.results.toList none K)) := by kernel_rfl
theorem r20_Check_y0_1 (R : Type) (kk : Nat) (t6 : Int) (K : List SV → Option Box → Option R) : (kBlock 1 (kBlock 0 (kSeq r20_Check_E (Tb85 R) kk (sub [1, 1, 1, 1, 1, 1, 1, 1] r20_Check_c) (kFin r20_Check_E Tryz.f33.results.toList none K)))) .ret (r20_Check_x0_1 t6) =
  r20_Check_s16 t6 (fun a0 => K [.dat (.int .i64) a0 []] none) := by kernel_rfl
theorem r20_Check_jt13 (R : Type) (kk k : Nat) (t7 : Int) (t8 : Int) (t13 : Int) (bt3 : Zt19) (bt4 : Zt17) (bt5 : Zt17) (K : Ex → State → Option R) : ev r20_Check_E (Tb85 R) kk (sub [1, 1, 1, 1, 1, 1, 1, 0, 1, 0, 1, 1, 1, 1, 1, 1, 1, 0, 1, 1, 0, 0, 1, 0, 0, 1] r20_Check_c) (r20_Check_js13 t7 t8 t13 bt3 bt4 bt5) (kBlock 2 (kSeq r20_Check_E (Tb85 R) kk (sub [1, 1, 1, 1, 1, 1, 1, 0, 1, 0, 1, 1, 1, 1, 1, 1, 1, 0, 1, 1, 0, 0, 1, 1] r20_Check_c) (kLoop (ev r20_Check_E (Tb85 R) kk (sub [1, 1, 1, 1, 1, 1, 1, 0, 1, 0, 1, 1, 1, 1, 1, 1, 1, 0, 1, 1, 0, 0] r20_Check_c)) [3, 4, 5, 7, 8, 13] [6] k K))) =
  r20_Check_s17 t7 t8 t13 bt3 bt4 bt5 (fun a0 => K .ret (r20_Check_x0_1 a0)) (fun a0 a1 a2 a3 a4 a5 => joinK kk fun _ => ev r20_Check_E (Tb85 R) kk (sub [1, 1, 1, 1, 1, 1, 1, 0, 1, 0, 1, 1, 1, 1, 1, 1, 1, 0, 1, 1, 0, 0, 1, 1] r20_Check_c) (r20_Check_js14 a0 a1 a2 a3 a4 a5) (kLoop (ev r20_Check_E (Tb85 R) kk (sub [1, 1, 1, 1, 1, 1, 1, 0, 1, 0, 1, 1, 1, 1, 1, 1, 1, 0, 1, 1, 0, 0] r20_Check_c)) [3, 4, 5, 7, 8, 13] [6] k K)) := by kernel_rfl
theorem r20_Check_jt14 (R : Type) (kk k : Nat) (t7 : Int) (t8 : Int) (t13 : Int) (bt3 : Zt19) (bt4 : Zt17) (bt5 : Zt17) (K : Ex → State → Option R) : ev r20_Check_E (Tb85 R) kk (sub [1, 1, 1, 1, 1, 1, 1, 0, 1, 0, 1, 1, 1, 1, 1, 1, 1, 0, 1, 1, 0, 0, 1, 1] r20_Check_c) (r20_Check_js14 t7 t8 t13 bt3 bt4 bt5) (kLoop (ev r20_Check_E (Tb85 R) kk (sub [1, 1, 1, 1, 1, 1, 1, 0, 1, 0, 1, 1, 1, 1, 1, 1, 1, 0, 1, 1, 0, 0] r20_Check_c)) [3, 4, 5, 7, 8, 13] [6] k K) =
  r20_Check_s18 t7 t8 t13 bt3 bt4 bt5 (fun a0 a1 a2 a3 a4 a5 => loopR (ev r20_Check_E (Tb85 R) kk (sub [1, 1, 1, 1, 1, 1, 1, 0, 1, 0, 1, 1, 1, 1, 1, 1, 1, 0, 1, 1, 0, 0] r20_Check_c)) [3, 4, 5, 7, 8, 13] [6] k (r20_Check_h0 a0 a1 a2 a3 a4 a5) K) := by kernel_rfl
theorem r20_Check_lp0 (R : Type) (k : Nat) (t7 : Int) (t8 : Int) (t13 : Int) (bt3 : Zt19) (bt4 : Zt17) (bt5 : Zt17) (K : Ex → State → Option R) : loopR (ev r20_Check_E (Tb85 R) FUEL (sub [1, 1, 1, 1, 1, 1, 1, 0, 1, 0, 1, 1, 1, 1, 1, 1, 1, 0, 1, 1, 0, 0] r20_Check_c)) [3, 4, 5, 7, 8, 13] [6] k (r20_Check_h0 t7 t8 t13 bt3 bt4 bt5) K = (r20_Check_l0 k t7 t8 t13 bt3 bt4 bt5).bind fun e => (Sum.elim (fun (we : Unit) => K (.exit 1) (r20_Check_x0_0)) (fun (we : Int) => K .ret (r20_Check_x0_1 we)) e) := by
  induction k generalizing t7 t8 t13 bt3 bt4 bt5 with
  | zero => rfl
  | succ k ih =>
    rw [r20_Check_d0]
    simp only [r20_Check_l0, r20_Check_s0_bind, r20_Check_s1_bind, r20_Check_s2_bind, r20_Check_s3_bind, r20_Check_s4_bind, r20_Check_s5_bind, r20_Check_s6_bind, r20_Check_s7_bind, r20_Check_s8_bind, r20_Check_s9_bind, r20_Check_s10_bind, r20_Check_s11_bind, r20_Check_s12_bind, r20_Check_s13_bind, r20_Check_s14_bind, r20_Check_s15_bind, r20_Check_s16_bind, r20_Check_s17_bind, r20_Check_s18_bind, ih, r20_Check_jt12, r20_Check_jt13, r20_Check_jt14, joinK_fuel, cond_bind, within_bind, none_bind, some_bind, sum_bind, bind_bind, Sum.elim_inl, Sum.elim_inr]
theorem r20_Check_eq (R : Type) (r_0 : Zt19) (a_1 : Zt17) (b_2 : Zt17) (K : List SV → Option Box → Option R) : evFn r20_Check_E (Tb85 R) FUEL Tryz.f33 r20_Check_c [.dat y9 r_0 [], .dat y13 a_1 [], .dat y13 b_2 []] none K = (r20_Check r_0 a_1 b_2).bind fun r => K [.dat (.int .i64) r []] none := by
  rw [r20_Check_t]
  simp only [r20_Check, r20_Check_s0_bind, r20_Check_s1_bind, r20_Check_s2_bind, r20_Check_s3_bind, r20_Check_s4_bind, r20_Check_s5_bind, r20_Check_s6_bind, r20_Check_s7_bind, r20_Check_s8_bind, r20_Check_s9_bind, r20_Check_s10_bind, r20_Check_s11_bind, r20_Check_s12_bind, r20_Check_s13_bind, r20_Check_s14_bind, r20_Check_s15_bind, r20_Check_s16_bind, r20_Check_s17_bind, r20_Check_s18_bind, r20_Check_lp0, r20_Check_j0, r20_Check_j1, r20_Check_j2, r20_Check_j3, r20_Check_j4, r20_Check_j5, r20_Check_j6, r20_Check_j7, r20_Check_j8, r20_Check_j9, r20_Check_j10, r20_Check_j11, r20_Check_jt0, r20_Check_jt1, r20_Check_jt2, r20_Check_jt3, r20_Check_jt4, r20_Check_jt5, r20_Check_jt6, r20_Check_jt7, r20_Check_jt8, r20_Check_jt9, r20_Check_jt10, r20_Check_jt11, r20_Check_jt12, r20_Check_y0_0, r20_Check_y0_1, r20_Check_jt13, r20_Check_jt14, joinK_fuel, cond_bind, within_bind, none_bind, some_bind, sum_bind, bind_bind, Sum.elim_inl, Sum.elim_inr]
def r20_Check_g : Pure := fun R l b K => noBox b (args3 y9 y13 y13 l (fun x0 x1 x2 => (r20_Check x0 x1 x2).bind fun r => K [.dat (.int .i64) r []] none))
theorem r20_Check_n : r20_Check_g.Nat := fun R S l b F G K h => noBox_nat (args3_nat fun _ _ _ => bindr_nat fun _ => h _ _)
def Tb86 : Funs := Tb85.add 33 [y9, y13, y13] r20_Check_g
theorem Tb86_nat : Tb86.Nat := add_nat Tb85_nat r20_Check_n
theorem Tb86_owes : ∀ f, Owes Tryz.prog Tb86 f := add_owes (E := r20_Check_E) ((Tab.env_ok tab_ok _ _ _ _).join _) mixed Tb85_nat Tb85_owes (fn := Tryz.f33) (code := r20_Check_c) Tryz.func33 (by kernel_rfl) (by kernel_rfl) fun l b r b' h => by
  obtain ⟨rfl, h⟩ := noBox_some h
  obtain ⟨x0, x1, x2, h1, h2⟩ := own3 (E := r20_Check_E) rfl h
  exact ⟨FUEL, (h2 _ _ _ _ _ _).trans ((r20_Check_eq _ x0 x1 x2 _).trans h1)⟩
noncomputable abbrev r21_twice_c : Code := Tryz.f34.body.getD .skip
def r21_twice_E : Env := tab.env (fun _ => []) (fun _ => []) [] [y9, y9]
theorem r21_twice_t (R : Type) (kk : Nat) (a_0 : Zt19) (b_1 : Zt19) (K : List SV → Option Box → Option R) : evFn r21_twice_E (Tb86 R) kk Tryz.f34 r21_twice_c [.dat y9 a_0 [], .dat y9 b_1 []] none K =
  r21_twice_s0 a_0 b_1 (fun a0 => K [.dat .bool a0 []] none) := by kernel_rfl
theorem r21_twice_eq (R : Type) (a_0 : Zt19) (b_1 : Zt19) (K : List SV → Option Box → Option R) : evFn r21_twice_E (Tb86 R) FUEL Tryz.f34 r21_twice_c [.dat y9 a_0 [], .dat y9 b_1 []] none K = (r21_twice a_0 b_1).bind fun r => K [.dat .bool r []] none := by
  rw [r21_twice_t]
  simp only [r21_twice, r21_twice_s0_bind, cond_bind, within_bind, none_bind, some_bind, sum_bind, bind_bind, Sum.elim_inl, Sum.elim_inr]
def r21_twice_g : Pure := fun R l b K => noBox b (args2 y9 y9 l (fun x0 x1 => (r21_twice x0 x1).bind fun r => K [.dat .bool r []] none))
theorem r21_twice_n : r21_twice_g.Nat := fun R S l b F G K h => noBox_nat (args2_nat fun _ _ => bindr_nat fun _ => h _ _)
def Tb87 : Funs := Tb86.add 34 [y9, y9] r21_twice_g
theorem Tb87_nat : Tb87.Nat := add_nat Tb86_nat r21_twice_n
theorem Tb87_owes : ∀ f, Owes Tryz.prog Tb87 f := add_owes (E := r21_twice_E) (Tab.env_ok tab_ok _ _ _ _) mixed Tb86_nat Tb86_owes (fn := Tryz.f34) (code := r21_twice_c) Tryz.func34 (by kernel_rfl) (by kernel_rfl) fun l b r b' h => by
  obtain ⟨rfl, h⟩ := noBox_some h
  obtain ⟨x0, x1, h1, h2⟩ := own2 (E := r21_twice_E) rfl h
  exact ⟨FUEL, (h2 _ _ _ _ _ _).trans ((r21_twice_eq _ x0 x1 _).trans h1)⟩
noncomputable abbrev r21_Check_c : Code := Tryz.f11.body.getD .skip
def r21_Check_E : Env := tab.env (fun i => bif Nat.beq i 8 then [3, 4, 5, 9] else bif Nat.beq i 19 then [3, 4, 5, 13] else bif Nat.beq i 25 then [3, 4, 5, 13, 15] else []) (fun i => bif Nat.beq i 8 then [3, 4, 5, 6, 7, 8] else bif Nat.beq i 19 then [6, 7, 8] else bif Nat.beq i 25 then [3, 4, 5, 6, 7, 8, 13] else []) [] [y14, y13, y13]
end Go.Proofs.YtmbobepkfagkgaaGreatDoor
set_option linter.unusedVariables false
set_option linter.unusedSimpArgs false
set_option maxRecDepth 100000
namespace Go.Proofs.YtmbobepkfagkgaaGreatDoor
open Go Go.Ref Groat
def r21_Check_h0 (t9 : Int) (bt3 : Zt23) (bt4 : Zt17) (bt5 : Zt17) : State := ⟨uS 3 ([.ptr 4 y14 []]::[.ptr 5 y13 []]::[.ptr 6 y13 []]::(uS 3 ([.dat (.int .i64) t9 []]::(uS 104 ([]))))), nS 4 ((some ⟨y14, bt3, []⟩)::(some ⟨y13, bt4, []⟩)::(some ⟨y13, bt5, []⟩)::(nS 108 ([])))⟩
def r21_Check_x0_0 (t6 : Int) (t7 : Int) (t8 : Int) (bt3 : Zt23) (bt4 : Zt17) (bt5 : Zt17) : State := ⟨uS 3 ([.ptr 4 y14 []]::[.ptr 5 y13 []]::[.ptr 6 y13 []]::[.dat (.int .i64) t6 []]::[.dat (.int .i64) t7 []]::[.dat (.int .i64) t8 []]::(uS 105 ([]))), nS 4 ((some ⟨y14, bt3, []⟩)::(some ⟨y13, bt4, []⟩)::(some ⟨y13, bt5, []⟩)::(nS 108 ([])))⟩
def r21_Check_x0_1 (bt3 : Zt23) (bt4 : Zt17) (bt5 : Zt17) : State := ⟨uS 3 ([.ptr 4 y14 []]::[.ptr 5 y13 []]::[.ptr 6 y13 []]::(uS 108 ([]))), nS 4 ((some ⟨y14, bt3, []⟩)::(some ⟨y13, bt4, []⟩)::(some ⟨y13, bt5, []⟩)::(nS 108 ([])))⟩
def r21_Check_h1 (t13 : Int) (bt3 : Zt23) (bt4 : Zt17) (bt5 : Zt17) : State := ⟨uS 3 ([.ptr 4 y14 []]::[.ptr 5 y13 []]::[.ptr 6 y13 []]::(uS 7 ([.dat (.int .i64) t13 []]::(uS 100 ([]))))), nS 4 ((some ⟨y14, bt3, []⟩)::(some ⟨y13, bt4, []⟩)::(some ⟨y13, bt5, []⟩)::(nS 108 ([])))⟩
def r21_Check_x1_0 (t6 : Int) (t7 : Int) (t8 : Int) : State := ⟨uS 6 ([.dat (.int .i64) t6 []]::[.dat (.int .i64) t7 []]::[.dat (.int .i64) t8 []]::(uS 105 ([]))), nS 115 []⟩
def r21_Check_x1_1  : State := ⟨uS 114 [], nS 115 []⟩
def r21_Check_h2 (t13 : Int) (t15 : Int) (bt3 : Zt23) (bt4 : Zt17) (bt5 : Zt17) : State := ⟨uS 3 ([.ptr 4 y14 []]::[.ptr 5 y13 []]::[.ptr 6 y13 []]::(uS 7 ([.dat (.int .i64) t13 []]::(uS 1 ([.dat (.int .i64) t15 []]::(uS 98 ([]))))))), nS 4 ((some ⟨y14, bt3, []⟩)::(some ⟨y13, bt4, []⟩)::(some ⟨y13, bt5, []⟩)::(nS 108 ([])))⟩
def r21_Check_x2_0 (t6 : Int) (t7 : Int) (t8 : Int) (t13 : Int) (bt3 : Zt23) (bt4 : Zt17) (bt5 : Zt17) : State := ⟨uS 3 ([.ptr 4 y14 []]::[.ptr 5 y13 []]::[.ptr 6 y13 []]::[.dat (.int .i64) t6 []]::[.dat (.int .i64) t7 []]::[.dat (.int .i64) t8 []]::(uS 4 ([.dat (.int .i64) t13 []]::(uS 100 ([]))))), nS 4 ((some ⟨y14, bt3, []⟩)::(some ⟨y13, bt4, []⟩)::(some ⟨y13, bt5, []⟩)::(nS 108 ([])))⟩
def r21_Check_x2_1 (t13 : Int) (bt3 : Zt23) (bt4 : Zt17) (bt5 : Zt17) : State := ⟨uS 3 ([.ptr 4 y14 []]::[.ptr 5 y13 []]::[.ptr 6 y13 []]::(uS 7 ([.dat (.int .i64) t13 []]::(uS 100 ([]))))), nS 4 ((some ⟨y14, bt3, []⟩)::(some ⟨y13, bt4, []⟩)::(some ⟨y13, bt5, []⟩)::(nS 108 ([])))⟩
theorem r21_Check_t (R : Type) (kk : Nat) (m_0 : Zt23) (a_1 : Zt17) (b_2 : Zt17) (K : List SV → Option Box → Option R) : evFn r21_Check_E (Tb87 R) kk Tryz.f11 r21_Check_c [.dat y14 m_0 [], .dat y13 a_1 [], .dat y13 b_2 []] none K =
  r21_Check_s0 m_0 a_1 b_2 (fun a0 a1 a2 => K [.dat (.int .i64) a0 [], .dat (.int .i64) a1 [], .dat (.int .i64) a2 []] none) (fun a0 a1 a2 a3 => loopR (ev r21_Check_E (Tb87 R) kk (sub [1, 1, 1, 1, 0, 1, 0, 0] r21_Check_c)) [3, 4, 5, 9] [3, 4, 5, 6, 7, 8] kk (r21_Check_h0 a0 a1 a2 a3) (kBlock 0 (kSeq r21_Check_E (Tb87 R) kk (sub [1, 1, 1, 1, 1] r21_Check_c) (kFin r21_Check_E Tryz.f11.results.toList none K)))) := by kernel_rfl
theorem r21_Check_d0 (R : Type) (kk k : Nat) (t9 : Int) (bt3 : Zt23) (bt4 : Zt17) (bt5 : Zt17) (K : Ex → State → Option R) : loopR (ev r21_Check_E (Tb87 R) kk (sub [1, 1, 1, 1, 0, 1, 0, 0] r21_Check_c)) [3, 4, 5, 9] [3, 4, 5, 6, 7, 8] (k + 1) (r21_Check_h0 t9 bt3 bt4 bt5) K =
  r21_Check_s1 t9 bt3 bt4 bt5 (fun a0 a1 a2 a3 a4 a5 => K .ret (r21_Check_x0_0 a0 a1 a2 a3 a4 a5)) (fun a0 a1 a2 a3 => loopR (ev r21_Check_E (Tb87 R) kk (sub [1, 1, 1, 1, 0, 1, 0, 0] r21_Check_c)) [3, 4, 5, 9] [3, 4, 5, 6, 7, 8] k (r21_Check_h0 a0 a1 a2 a3) K) (fun a0 a1 a2 => K (.exit 0) (r21_Check_x0_1 a0 a1 a2)) := by kernel_rfl
theorem r21_Check_y0_0 (R : Type) (kk : Nat) (t6 : Int) (t7 : Int) (t8 : Int) (bt3 : Zt23) (bt4 : Zt17) (bt5 : Zt17) (K : List SV → Option Box → Option R) : (kBlock 0 (kSeq r21_Check_E (Tb87 R) kk (sub [1, 1, 1, 1, 1] r21_Check_c) (kFin r21_Check_E Tryz.f11.results.toList none K))) .ret (r21_Check_x0_0 t6 t7 t8 bt3 bt4 bt5) =
  r21_Check_s2 t6 t7 t8 bt3 bt4 bt5 (fun a0 a1 a2 => K [.dat (.int .i64) a0 [], .dat (.int .i64) a1 [], .dat (.int .i64) a2 []] none) := by kernel_rfl
theorem r21_Check_y0_1 (R : Type) (kk : Nat) (bt3 : Zt23) (bt4 : Zt17) (bt5 : Zt17) (K : List SV → Option Box → Option R) : (kBlock 0 (kSeq r21_Check_E (Tb87 R) kk (sub [1, 1, 1, 1, 1] r21_Check_c) (kFin r21_Check_E Tryz.f11.results.toList none K))) (.exit 0) (r21_Check_x0_1 bt3 bt4 bt5) =
  r21_Check_s3 bt3 bt4 bt5 (fun a0 a1 a2 => K [.dat (.int .i64) a0 [], .dat (.int .i64) a1 [], .dat (.int .i64) a2 []] none) (fun a0 a1 a2 a3 => loopR (ev r21_Check_E (Tb87 R) kk (sub [1, 1, 1, 1, 1, 1, 0, 1, 0, 0] r21_Check_c)) [3, 4, 5, 13] [6, 7, 8] kk (r21_Check_h1 a0 a1 a2 a3) (kBlock 2 (kSeq r21_Check_E (Tb87 R) kk (sub [1, 1, 1, 1, 1, 1, 1] r21_Check_c) (kFin r21_Check_E Tryz.f11.results.toList none K)))) := by kernel_rfl
theorem r21_Check_d1 (R : Type) (kk k : Nat) (t13 : Int) (bt3 : Zt23) (bt4 : Zt17) (bt5 : Zt17) (K : Ex → State → Option R) : loopR (ev r21_Check_E (Tb87 R) kk (sub [1, 1, 1, 1, 1, 1, 0, 1, 0, 0] r21_Check_c)) [3, 4, 5, 13] [6, 7, 8] (k + 1) (r21_Check_h1 t13 bt3 bt4 bt5) K =
  r21_Check_s4 t13 bt3 bt4 bt5 (fun a0 a1 a2 => K .ret (r21_Check_x1_0 a0 a1 a2)) (fun a0 a1 a2 a3 a4 => loopR (ev r21_Check_E (Tb87 R) kk (sub [1, 1, 1, 1, 1, 1, 0, 1, 0, 0, 1, 0, 0, 1, 1, 0, 0] r21_Check_c)) [3, 4, 5, 13, 15] [3, 4, 5, 6, 7, 8, 13] kk (r21_Check_h2 a0 a1 a2 a3 a4) (kBlock 4 (kBlock 3 (kSeq r21_Check_E (Tb87 R) kk (sub [1, 1, 1, 1, 1, 1, 0, 1, 0, 0, 1, 1] r21_Check_c) (kLoop (ev r21_Check_E (Tb87 R) kk (sub [1, 1, 1, 1, 1, 1, 0, 1, 0, 0] r21_Check_c)) [3, 4, 5, 13] [6, 7, 8] k K))))) (K (.exit 2) (r21_Check_x1_1)) := by kernel_rfl
theorem r21_Check_y1_0 (R : Type) (kk : Nat) (t6 : Int) (t7 : Int) (t8 : Int) (K : List SV → Option Box → Option R) : (kBlock 2 (kSeq r21_Check_E (Tb87 R) kk (sub [1, 1, 1, 1, 1, 1, 1] r21_Check_c) (kFin r21_Check_E Tryz.f11.results.toList none K))) .ret (r21_Check_x1_0 t6 t7 t8) =
  r21_Check_s5 t6 t7 t8 (fun a0 a1 a2 => K [.dat (.int .i64) a0 [], .dat (.int .i64) a1 [], .dat (.int .i64) a2 []] none) := by kernel_rfl
theorem r21_Check_y1_1 (R : Type) (kk : Nat)  (K : List SV → Option Box → Option R) : (kBlock 2 (kSeq r21_Check_E (Tb87 R) kk (sub [1, 1, 1, 1, 1, 1, 1] r21_Check_c) (kFin r21_Check_E Tryz.f11.results.toList none K))) (.exit 2) (r21_Check_x1_1) =
  r21_Check_s6 (fun a0 a1 a2 => K [.dat (.int .i64) a0 [], .dat (.int .i64) a1 [], .dat (.int .i64) a2 []] none) := by kernel_rfl
theorem r21_Check_d2 (R : Type) (kk k : Nat) (t13 : Int) (t15 : Int) (bt3 : Zt23) (bt4 : Zt17) (bt5 : Zt17) (K : Ex → State → Option R) : loopR (ev r21_Check_E (Tb87 R) kk (sub [1, 1, 1, 1, 1, 1, 0, 1, 0, 0, 1, 0, 0, 1, 1, 0, 0] r21_Check_c)) [3, 4, 5, 13, 15] [3, 4, 5, 6, 7, 8, 13] (k + 1) (r21_Check_h2 t13 t15 bt3 bt4 bt5) K =
  r21_Check_s7 t13 t15 bt3 bt4 bt5 (fun a0 a1 a2 a3 a4 a5 a6 => K .ret (r21_Check_x2_0 a0 a1 a2 a3 a4 a5 a6)) (fun a0 a1 a2 a3 a4 => loopR (ev r21_Check_E (Tb87 R) kk (sub [1, 1, 1, 1, 1, 1, 0, 1, 0, 0, 1, 0, 0, 1, 1, 0, 0] r21_Check_c)) [3, 4, 5, 13, 15] [3, 4, 5, 6, 7, 8, 13] k (r21_Check_h2 a0 a1 a2 a3 a4) K) (fun a0 a1 a2 a3 => K (.exit 4) (r21_Check_x2_1 a0 a1 a2 a3)) := by kernel_rfl
theorem r21_Check_y2_0 (R : Type) (kk k : Nat) (t6 : Int) (t7 : Int) (t8 : Int) (t13 : Int) (bt3 : Zt23) (bt4 : Zt17) (bt5 : Zt17) (K : Ex → State → Option R) : (kBlock 4 (kBlock 3 (kSeq r21_Check_E (Tb87 R) kk (sub [1, 1, 1, 1, 1, 1, 0, 1, 0, 0, 1, 1] r21_Check_c) (kLoop (ev r21_Check_E (Tb87 R) kk (sub [1, 1, 1, 1, 1, 1, 0, 1, 0, 0] r21_Check_c)) [3, 4, 5, 13] [6, 7, 8] k K)))) .ret (r21_Check_x2_0 t6 t7 t8 t13 bt3 bt4 bt5) =
  r21_Check_s8 t6 t7 t8 t13 bt3 bt4 bt5 (fun a0 a1 a2 => K .ret (r21_Check_x1_0 a0 a1 a2)) := by kernel_rfl
theorem r21_Check_y2_1 (R : Type) (kk k : Nat) (t13 : Int) (bt3 : Zt23) (bt4 : Zt17) (bt5 : Zt17) (K : Ex → State → Option R) : (kBlock 4 (kBlock 3 (kSeq r21_Check_E (Tb87 R) kk (sub [1, 1, 1, 1, 1, 1, 0, 1, 0, 0, 1, 1] r21_Check_c) (kLoop (ev r21_Check_E (Tb87 R) kk (sub [1, 1, 1, 1, 1, 1, 0, 1, 0, 0] r21_Check_c)) [3, 4, 5, 13] [6, 7, 8] k K)))) (.exit 4) (r21_Check_x2_1 t13 bt3 bt4 bt5) =
  r21_Check_s9 t13 bt3 bt4 bt5 (fun a0 a1 a2 a3 => loopR (ev r21_Check_E (Tb87 R) kk (sub [1, 1, 1, 1, 1, 1, 0, 1, 0, 0] r21_Check_c)) [3, 4, 5, 13] [6, 7, 8] k (r21_Check_h1 a0 a1 a2 a3) K) := by kernel_rfl
theorem r21_Check_lp0 (R : Type) (k : Nat) (t9 : Int) (bt3 : Zt23) (bt4 : Zt17) (bt5 : Zt17) (K : Ex → State → Option R) : loopR (ev r21_Check_E (Tb87 R) FUEL (sub [1, 1, 1, 1, 0, 1, 0, 0] r21_Check_c)) [3, 4, 5, 9] [3, 4, 5, 6, 7, 8] k (r21_Check_h0 t9 bt3 bt4 bt5) K = (r21_Check_l0 k t9 bt3 bt4 bt5).bind fun e => (Sum.elim (fun (we : Zt26) => K .ret (r21_Check_x0_0 we.1 we.2.1 we.2.2.1 we.2.2.2.1 we.2.2.2.2.1 we.2.2.2.2.2)) (fun (we : Zt25) => K (.exit 0) (r21_Check_x0_1 we.1 we.2.1 we.2.2)) e) := by
  induction k generalizing t9 bt3 bt4 bt5 with
  | zero => rfl
  | succ k ih =>
    rw [r21_Check_d0]
    simp only [r21_Check_l0, r21_Check_s0_bind, r21_Check_s1_bind, r21_Check_s2_bind, r21_Check_s3_bind, r21_Check_s4_bind, r21_Check_s5_bind, r21_Check_s6_bind, r21_Check_s7_bind, r21_Check_s8_bind, r21_Check_s9_bind, ih, cond_bind, within_bind, none_bind, some_bind, sum_bind, bind_bind, Sum.elim_inl, Sum.elim_inr]
theorem r21_Check_lp2 (R : Type) (k : Nat) (t13 : Int) (t15 : Int) (bt3 : Zt23) (bt4 : Zt17) (bt5 : Zt17) (K : Ex → State → Option R) : loopR (ev r21_Check_E (Tb87 R) FUEL (sub [1, 1, 1, 1, 1, 1, 0, 1, 0, 0, 1, 0, 0, 1, 1, 0, 0] r21_Check_c)) [3, 4, 5, 13, 15] [3, 4, 5, 6, 7, 8, 13] k (r21_Check_h2 t13 t15 bt3 bt4 bt5) K = (r21_Check_l2 k t13 t15 bt3 bt4 bt5).bind fun e => (Sum.elim (fun (we : (Int × Int × Int × Int × Zt23 × Zt17 × Zt17)) => K .ret (r21_Check_x2_0 we.1 we.2.1 we.2.2.1 we.2.2.2.1 we.2.2.2.2.1 we.2.2.2.2.2.1 we.2.2.2.2.2.2)) (fun (we : (Int × Zt23 × Zt17 × Zt17)) => K (.exit 4) (r21_Check_x2_1 we.1 we.2.1 we.2.2.1 we.2.2.2)) e) := by
  induction k generalizing t13 t15 bt3 bt4 bt5 with
  | zero => rfl
  | succ k ih =>
    rw [r21_Check_d2]
    simp only [r21_Check_l2, r21_Check_s0_bind, r21_Check_s1_bind, r21_Check_s2_bind, r21_Check_s3_bind, r21_Check_s4_bind, r21_Check_s5_bind, r21_Check_s6_bind, r21_Check_s7_bind, r21_Check_s8_bind, r21_Check_s9_bind, ih, cond_bind, within_bind, none_bind, some_bind, sum_bind, bind_bind, Sum.elim_inl, Sum.elim_inr]
theorem r21_Check_lp1 (R : Type) (k : Nat) (t13 : Int) (bt3 : Zt23) (bt4 : Zt17) (bt5 : Zt17) (K : Ex → State → Option R) : loopR (ev r21_Check_E (Tb87 R) FUEL (sub [1, 1, 1, 1, 1, 1, 0, 1, 0, 0] r21_Check_c)) [3, 4, 5, 13] [6, 7, 8] k (r21_Check_h1 t13 bt3 bt4 bt5) K = (r21_Check_l1 k t13 bt3 bt4 bt5).bind fun e => (Sum.elim (fun (we : Zt0) => K .ret (r21_Check_x1_0 we.1 we.2.1 we.2.2)) (fun (we : Unit) => K (.exit 2) (r21_Check_x1_1)) e) := by
  induction k generalizing t13 bt3 bt4 bt5 with
  | zero => rfl
  | succ k ih =>
    rw [r21_Check_d1]
    simp only [r21_Check_l1, r21_Check_s0_bind, r21_Check_s1_bind, r21_Check_s2_bind, r21_Check_s3_bind, r21_Check_s4_bind, r21_Check_s5_bind, r21_Check_s6_bind, r21_Check_s7_bind, r21_Check_s8_bind, r21_Check_s9_bind, ih, r21_Check_lp2, r21_Check_y2_0, r21_Check_y2_1, cond_bind, within_bind, none_bind, some_bind, sum_bind, bind_bind, Sum.elim_inl, Sum.elim_inr]
theorem r21_Check_eq (R : Type) (m_0 : Zt23) (a_1 : Zt17) (b_2 : Zt17) (K : List SV → Option Box → Option R) : evFn r21_Check_E (Tb87 R) FUEL Tryz.f11 r21_Check_c [.dat y14 m_0 [], .dat y13 a_1 [], .dat y13 b_2 []] none K = (r21_Check m_0 a_1 b_2).bind fun r => K [.dat (.int .i64) r.1 [], .dat (.int .i64) r.2.1 [], .dat (.int .i64) r.2.2 []] none := by
  rw [r21_Check_t]
  simp only [r21_Check, r21_Check_s0_bind, r21_Check_s1_bind, r21_Check_s2_bind, r21_Check_s3_bind, r21_Check_s4_bind, r21_Check_s5_bind, r21_Check_s6_bind, r21_Check_s7_bind, r21_Check_s8_bind, r21_Check_s9_bind, r21_Check_lp0, r21_Check_lp1, r21_Check_lp2, r21_Check_y0_0, r21_Check_y0_1, r21_Check_y1_0, r21_Check_y1_1, r21_Check_y2_0, r21_Check_y2_1, cond_bind, within_bind, none_bind, some_bind, sum_bind, bind_bind, Sum.elim_inl, Sum.elim_inr]
def r21_Check_g : Pure := fun R l b K => noBox b (args3 y14 y13 y13 l (fun x0 x1 x2 => (r21_Check x0 x1 x2).bind fun r => K [.dat (.int .i64) r.1 [], .dat (.int .i64) r.2.1 [], .dat (.int .i64) r.2.2 []] none))
theorem r21_Check_n : r21_Check_g.Nat := fun R S l b F G K h => noBox_nat (args3_nat fun _ _ _ => bindr_nat fun _ => h _ _)
def Tb88 : Funs := Tb87.add 11 [y14, y13, y13] r21_Check_g
theorem Tb88_nat : Tb88.Nat := add_nat Tb87_nat r21_Check_n
theorem Tb88_owes : ∀ f, Owes Tryz.prog Tb88 f := add_owes (E := r21_Check_E) (Tab.env_ok tab_ok _ _ _ _) mixed Tb87_nat Tb87_owes (fn := Tryz.f11) (code := r21_Check_c) Tryz.func11 (by kernel_rfl) (by kernel_rfl) fun l b r b' h => by
  obtain ⟨rfl, h⟩ := noBox_some h
  obtain ⟨x0, x1, x2, h1, h2⟩ := own3 (E := r21_Check_E) rfl h
  exact ⟨FUEL, (h2 _ _ _ _ _ _).trans ((r21_Check_eq _ x0 x1 x2 _).trans h1)⟩
noncomputable abbrev r21_Right_c : Code := Tryz.f17.body.getD .skip
def r21_Right_E : Env := tab.env (fun _ => []) (fun _ => []) [] [y14, y13, y13]
theorem r21_Right_t (R : Type) (kk : Nat) (m_0 : Zt23) (a_1 : Zt17) (b_2 : Zt17) (K : List SV → Option Box → Option R) : evFn r21_Right_E (Tb88 R) kk Tryz.f17 r21_Right_c [.dat y14 m_0 [], .dat y13 a_1 [], .dat y13 b_2 []] none K =
  r21_Right_s0 m_0 a_1 b_2 (fun a0 => K [.dat .bool a0 []] none) := by kernel_rfl
theorem r21_Right_eq (R : Type) (m_0 : Zt23) (a_1 : Zt17) (b_2 : Zt17) (K : List SV → Option Box → Option R) : evFn r21_Right_E (Tb88 R) FUEL Tryz.f17 r21_Right_c [.dat y14 m_0 [], .dat y13 a_1 [], .dat y13 b_2 []] none K = (r21_Right m_0 a_1 b_2).bind fun r => K [.dat .bool r []] none := by
  rw [r21_Right_t]
  simp only [r21_Right, r21_Right_s0_bind, cond_bind, within_bind, none_bind, some_bind, sum_bind, bind_bind, Sum.elim_inl, Sum.elim_inr]
def r21_Right_g : Pure := fun R l b K => noBox b (args3 y14 y13 y13 l (fun x0 x1 x2 => (r21_Right x0 x1 x2).bind fun r => K [.dat .bool r []] none))
theorem r21_Right_n : r21_Right_g.Nat := fun R S l b F G K h => noBox_nat (args3_nat fun _ _ _ => bindr_nat fun _ => h _ _)
def Tb89 : Funs := Tb88.add 17 [y14, y13, y13] r21_Right_g
theorem Tb89_nat : Tb89.Nat := add_nat Tb88_nat r21_Right_n
theorem Tb89_owes : ∀ f, Owes Tryz.prog Tb89 f := add_owes (E := r21_Right_E) (Tab.env_ok tab_ok _ _ _ _) mixed Tb88_nat Tb88_owes (fn := Tryz.f17) (code := r21_Right_c) Tryz.func17 (by kernel_rfl) (by kernel_rfl) fun l b r b' h => by
  obtain ⟨rfl, h⟩ := noBox_some h
  obtain ⟨x0, x1, x2, h1, h2⟩ := own3 (E := r21_Right_E) rfl h
  exact ⟨FUEL, (h2 _ _ _ _ _ _).trans ((r21_Right_eq _ x0 x1 x2 _).trans h1)⟩
noncomputable abbrev r16_Check_c : Code := Tryz.f18.body.getD .skip
def r16_Check_E : Env := tab.env (fun i => bif Nat.beq i 7 then [2, 3, 4, 5, 6] else []) (fun i => bif Nat.beq i 7 then [4] else []) [4] [y13, y4]
def r16_Check_h0 (t5 : Int) (t6 : Int) (bt2 : Zt17) (bt3 : Zt16) (bt4 : Zt4) : State := ⟨uS 2 ([.ptr 3 y13 []]::[.ptr 4 y4 []]::[.ptr 5 (.pair (.int .i64) (.pair (.int .i64) .unit)) []]::[.dat (.int .i64) t5 []]::[.dat (.int .i64) t6 []]::(uS 66 ([]))), nS 3 ((some ⟨y13, bt2, []⟩)::(some ⟨y4, bt3, []⟩)::(some ⟨(.pair (.int .i64) (.pair (.int .i64) .unit)), bt4, []⟩)::(nS 68 ([])))⟩
def r16_Check_x0_0 (bt4 : Zt4) : State := ⟨uS 4 ([.ptr 5 (.pair (.int .i64) (.pair (.int .i64) .unit)) []]::(uS 68 ([]))), nS 5 ((some ⟨(.pair (.int .i64) (.pair (.int .i64) .unit)), bt4, []⟩)::(nS 68 ([])))⟩
def r16_Check_x0_1 (bt4 : Zt4) : State := ⟨uS 4 ([.ptr 5 (.pair (.int .i64) (.pair (.int .i64) .unit)) []]::(uS 68 ([]))), nS 5 ((some ⟨(.pair (.int .i64) (.pair (.int .i64) .unit)), bt4, []⟩)::(nS 68 ([])))⟩
theorem r16_Check_t (R : Type) (kk : Nat) (s_0 : Zt17) (m_1 : Zt16) (K : List SV → Option Box → Option R) : evFn r16_Check_E (Tb89 R) kk Tryz.f18 r16_Check_c [.dat y13 s_0 [], .dat y4 m_1 []] none K =
  r16_Check_s0 s_0 m_1 (fun a0 => K [.dat (.pair (.int .i64) (.pair (.int .i64) .unit)) a0 []] none) (fun a0 a1 a2 a3 a4 => loopR (ev r16_Check_E (Tb89 R) kk (sub [1, 1, 1, 1, 0, 1, 0, 0] r16_Check_c)) [2, 3, 4, 5, 6] [4] kk (r16_Check_h0 a0 a1 a2 a3 a4) (kBlock 0 (kSeq r16_Check_E (Tb89 R) kk (sub [1, 1, 1, 1, 1] r16_Check_c) (kFin r16_Check_E Tryz.f18.results.toList none K)))) := by kernel_rfl
theorem r16_Check_d0 (R : Type) (kk k : Nat) (t5 : Int) (t6 : Int) (bt2 : Zt17) (bt3 : Zt16) (bt4 : Zt4) (K : Ex → State → Option R) : loopR (ev r16_Check_E (Tb89 R) kk (sub [1, 1, 1, 1, 0, 1, 0, 0] r16_Check_c)) [2, 3, 4, 5, 6] [4] (k + 1) (r16_Check_h0 t5 t6 bt2 bt3 bt4) K =
  r16_Check_s1 t5 t6 bt2 bt3 bt4 (fun a0 => K .ret (r16_Check_x0_0 a0)) (fun a0 a1 a2 a3 a4 => loopR (ev r16_Check_E (Tb89 R) kk (sub [1, 1, 1, 1, 0, 1, 0, 0] r16_Check_c)) [2, 3, 4, 5, 6] [4] k (r16_Check_h0 a0 a1 a2 a3 a4) K) (fun a0 => K (.exit 0) (r16_Check_x0_1 a0)) := by kernel_rfl
theorem r16_Check_y0_0 (R : Type) (kk : Nat) (bt4 : Zt4) (K : List SV → Option Box → Option R) : (kBlock 0 (kSeq r16_Check_E (Tb89 R) kk (sub [1, 1, 1, 1, 1] r16_Check_c) (kFin r16_Check_E Tryz.f18.results.toList none K))) .ret (r16_Check_x0_0 bt4) =
  r16_Check_s2 bt4 (fun a0 => K [.dat (.pair (.int .i64) (.pair (.int .i64) .unit)) a0 []] none) := by kernel_rfl
theorem r16_Check_y0_1 (R : Type) (kk : Nat) (bt4 : Zt4) (K : List SV → Option Box → Option R) : (kBlock 0 (kSeq r16_Check_E (Tb89 R) kk (sub [1, 1, 1, 1, 1] r16_Check_c) (kFin r16_Check_E Tryz.f18.results.toList none K))) (.exit 0) (r16_Check_x0_1 bt4) =
  r16_Check_s3 bt4 (fun a0 => K [.dat (.pair (.int .i64) (.pair (.int .i64) .unit)) a0 []] none) := by kernel_rfl
theorem r16_Check_lp0 (R : Type) (k : Nat) (t5 : Int) (t6 : Int) (bt2 : Zt17) (bt3 : Zt16) (bt4 : Zt4) (K : Ex → State → Option R) : loopR (ev r16_Check_E (Tb89 R) FUEL (sub [1, 1, 1, 1, 0, 1, 0, 0] r16_Check_c)) [2, 3, 4, 5, 6] [4] k (r16_Check_h0 t5 t6 bt2 bt3 bt4) K = (r16_Check_l0 k t5 t6 bt2 bt3 bt4).bind fun e => (Sum.elim (fun (we : Zt4) => K .ret (r16_Check_x0_0 we)) (fun (we : Zt4) => K (.exit 0) (r16_Check_x0_1 we)) e) := by
  induction k generalizing t5 t6 bt2 bt3 bt4 with
  | zero => rfl
  | succ k ih =>
    rw [r16_Check_d0]
    simp only [r16_Check_l0, r16_Check_s0_bind, r16_Check_s1_bind, r16_Check_s2_bind, r16_Check_s3_bind, ih, cond_bind, within_bind, none_bind, some_bind, sum_bind, bind_bind, Sum.elim_inl, Sum.elim_inr]
theorem r16_Check_eq (R : Type) (s_0 : Zt17) (m_1 : Zt16) (K : List SV → Option Box → Option R) : evFn r16_Check_E (Tb89 R) FUEL Tryz.f18 r16_Check_c [.dat y13 s_0 [], .dat y4 m_1 []] none K = (r16_Check s_0 m_1).bind fun r => K [.dat (.pair (.int .i64) (.pair (.int .i64) .unit)) r []] none := by
  rw [r16_Check_t]
  simp only [r16_Check, r16_Check_s0_bind, r16_Check_s1_bind, r16_Check_s2_bind, r16_Check_s3_bind, r16_Check_lp0, r16_Check_y0_0, r16_Check_y0_1, cond_bind, within_bind, none_bind, some_bind, sum_bind, bind_bind, Sum.elim_inl, Sum.elim_inr]
def r16_Check_g : Pure := fun R l b K => noBox b (args2 y13 y4 l (fun x0 x1 => (r16_Check x0 x1).bind fun r => K [.dat (.pair (.int .i64) (.pair (.int .i64) .unit)) r []] none))
theorem r16_Check_n : r16_Check_g.Nat := fun R S l b F G K h => noBox_nat (args2_nat fun _ _ => bindr_nat fun _ => h _ _)
def Tb90 : Funs := Tb89.add 18 [y13, y4] r16_Check_g
theorem Tb90_nat : Tb90.Nat := add_nat Tb89_nat r16_Check_n
theorem Tb90_owes : ∀ f, Owes Tryz.prog Tb90 f := add_owes (E := r16_Check_E) (Tab.env_ok tab_ok _ _ _ _) mixed Tb89_nat Tb89_owes (fn := Tryz.f18) (code := r16_Check_c) Tryz.func18 (by kernel_rfl) (by kernel_rfl) fun l b r b' h => by
  obtain ⟨rfl, h⟩ := noBox_some h
  obtain ⟨x0, x1, h1, h2⟩ := own2 (E := r16_Check_E) rfl h
  exact ⟨FUEL, (h2 _ _ _ _ _ _).trans ((r16_Check_eq _ x0 x1 _).trans h1)⟩
noncomputable abbrev r21_rule_c : Code := Tryz.f40.body.getD .skip
def r21_rule_E : Env := tab.env (fun i => bif Nat.beq i 2 then [1, 2, 5] else []) (fun i => bif Nat.beq i 2 then [4] else []) [] [y14, (.int .i64)]
def r21_rule_h0 (no_1 : Int) (t5 : Int) (bt2 : Zt23) : State := ⟨uS 1 ([.dat (.int .i64) no_1 []]::[.ptr 3 y14 []]::(uS 2 ([.dat (.int .i64) t5 []]::(uS 16 ([]))))), nS 3 ((some ⟨y14, bt2, []⟩)::(nS 19 ([])))⟩
def r21_rule_x0_0 (t4 : Int) : State := ⟨uS 4 ([.dat (.int .i64) t4 []]::(uS 17 ([]))), nS 23 []⟩
def r21_rule_x0_1  : State := ⟨uS 22 [], nS 23 []⟩
theorem r21_rule_t (R : Type) (kk : Nat) (m_0 : Zt23) (no_1 : Int) (K : List SV → Option Box → Option R) : evFn r21_rule_E (Tb90 R) kk Tryz.f40 r21_rule_c [.dat y14 m_0 [], .dat (.int .i64) no_1 []] none K =
  r21_rule_s0 m_0 no_1 (fun a0 a1 a2 => loopR (ev r21_rule_E (Tb90 R) kk (sub [1, 0, 1, 0, 0] r21_rule_c)) [1, 2, 5] [4] kk (r21_rule_h0 a0 a1 a2) (kBlock 0 (kSeq r21_rule_E (Tb90 R) kk (sub [1, 1] r21_rule_c) (kFin r21_rule_E Tryz.f40.results.toList none K)))) := by kernel_rfl
theorem r21_rule_d0 (R : Type) (kk k : Nat) (no_1 : Int) (t5 : Int) (bt2 : Zt23) (K : Ex → State → Option R) : loopR (ev r21_rule_E (Tb90 R) kk (sub [1, 0, 1, 0, 0] r21_rule_c)) [1, 2, 5] [4] (k + 1) (r21_rule_h0 no_1 t5 bt2) K =
  r21_rule_s1 no_1 t5 bt2 (fun a0 => K .ret (r21_rule_x0_0 a0)) (fun a0 a1 a2 => loopR (ev r21_rule_E (Tb90 R) kk (sub [1, 0, 1, 0, 0] r21_rule_c)) [1, 2, 5] [4] k (r21_rule_h0 a0 a1 a2) K) (K (.exit 0) (r21_rule_x0_1)) := by kernel_rfl
theorem r21_rule_y0_0 (R : Type) (kk : Nat) (t4 : Int) (K : List SV → Option Box → Option R) : (kBlock 0 (kSeq r21_rule_E (Tb90 R) kk (sub [1, 1] r21_rule_c) (kFin r21_rule_E Tryz.f40.results.toList none K))) .ret (r21_rule_x0_0 t4) =
  r21_rule_s2 t4 (fun a0 => K [.dat (.int .i64) a0 []] none) := by kernel_rfl
theorem r21_rule_y0_1 (R : Type) (kk : Nat)  (K : List SV → Option Box → Option R) : (kBlock 0 (kSeq r21_rule_E (Tb90 R) kk (sub [1, 1] r21_rule_c) (kFin r21_rule_E Tryz.f40.results.toList none K))) (.exit 0) (r21_rule_x0_1) =
  r21_rule_s3 (fun a0 => K [.dat (.int .i64) a0 []] none) := by kernel_rfl
theorem r21_rule_lp0 (R : Type) (k : Nat) (no_1 : Int) (t5 : Int) (bt2 : Zt23) (K : Ex → State → Option R) : loopR (ev r21_rule_E (Tb90 R) FUEL (sub [1, 0, 1, 0, 0] r21_rule_c)) [1, 2, 5] [4] k (r21_rule_h0 no_1 t5 bt2) K = (r21_rule_l0 k no_1 t5 bt2).bind fun e => (Sum.elim (fun (we : Int) => K .ret (r21_rule_x0_0 we)) (fun (we : Unit) => K (.exit 0) (r21_rule_x0_1)) e) := by
  induction k generalizing no_1 t5 bt2 with
  | zero => rfl
  | succ k ih =>
    rw [r21_rule_d0]
    simp only [r21_rule_l0, r21_rule_s0_bind, r21_rule_s1_bind, r21_rule_s2_bind, r21_rule_s3_bind, ih, cond_bind, within_bind, none_bind, some_bind, sum_bind, bind_bind, Sum.elim_inl, Sum.elim_inr]
theorem r21_rule_eq (R : Type) (m_0 : Zt23) (no_1 : Int) (K : List SV → Option Box → Option R) : evFn r21_rule_E (Tb90 R) FUEL Tryz.f40 r21_rule_c [.dat y14 m_0 [], .dat (.int .i64) no_1 []] none K = (r21_rule m_0 no_1).bind fun r => K [.dat (.int .i64) r []] none := by
  rw [r21_rule_t]
  simp only [r21_rule, r21_rule_s0_bind, r21_rule_s1_bind, r21_rule_s2_bind, r21_rule_s3_bind, r21_rule_lp0, r21_rule_y0_0, r21_rule_y0_1, cond_bind, within_bind, none_bind, some_bind, sum_bind, bind_bind, Sum.elim_inl, Sum.elim_inr]
def r21_rule_g : Pure := fun R l b K => noBox b (args2 y14 (.int .i64) l (fun x0 x1 => (r21_rule x0 x1).bind fun r => K [.dat (.int .i64) r []] none))
theorem r21_rule_n : r21_rule_g.Nat := fun R S l b F G K h => noBox_nat (args2_nat fun _ _ => bindr_nat fun _ => h _ _)
def Tb91 : Funs := Tb90.add 40 [y14, (.int .i64)] r21_rule_g
theorem Tb91_nat : Tb91.Nat := add_nat Tb90_nat r21_rule_n
theorem Tb91_owes : ∀ f, Owes Tryz.prog Tb91 f := add_owes (E := r21_rule_E) (Tab.env_ok tab_ok _ _ _ _) mixed Tb90_nat Tb90_owes (fn := Tryz.f40) (code := r21_rule_c) Tryz.func40 (by kernel_rfl) (by kernel_rfl) fun l b r b' h => by
  obtain ⟨rfl, h⟩ := noBox_some h
  obtain ⟨x0, x1, h1, h2⟩ := own2 (E := r21_rule_E) rfl h
  exact ⟨FUEL, (h2 _ _ _ _ _ _).trans ((r21_rule_eq _ x0 x1 _).trans h1)⟩
noncomputable abbrev r01_Pad_c : Code := Tryz.f67.body.getD .skip
def r01_Pad_E : Env := tab.env (fun i => bif Nat.beq i 3 then [0, 1] else bif Nat.beq i 5 then [0, 1] else []) (fun i => bif Nat.beq i 3 then [0, 1] else bif Nat.beq i 5 then [0, 4, 5] else []) [] [.str, (.int .i64)]
def r01_Pad_h0 (s_0 : ByteArray) (width_1 : Int) : State := ⟨[.dat .str s_0 []]::[.dat (.int .i64) width_1 []]::(uS 41 ([])), nS 44 []⟩
def r01_Pad_x0_0 (s_0 : ByteArray) (width_1 : Int) : State := ⟨[.dat .str s_0 []]::[.dat (.int .i64) width_1 []]::(uS 41 ([])), nS 44 []⟩
def r01_Pad_h1 (s_0 : ByteArray) (width_1 : Int) : State := ⟨[.dat .str s_0 []]::[.dat (.int .i64) width_1 []]::(uS 41 ([])), nS 44 []⟩
def r01_Pad_x1_0 (s_0 : ByteArray) (t4 : ByteArray) (t5 : Bool) : State := ⟨[.dat .str s_0 []]::(uS 3 ([.dat .str t4 []]::[.dat .bool t5 []]::(uS 37 ([])))), nS 44 []⟩
def r01_Pad_x1_1 (s_0 : ByteArray) : State := ⟨[.dat .str s_0 []]::(uS 42 ([])), nS 44 []⟩
theorem r01_Pad_t (R : Type) (kk : Nat) (s_0 : ByteArray) (width_1 : Int) (K : List SV → Option Box → Option R) : evFn r01_Pad_E (Tb91 R) kk Tryz.f67 r01_Pad_c [.dat .str s_0 [], .dat (.int .i64) width_1 []] none K =
  r01_Pad_s0 s_0 width_1 (fun a0 a1 => K [.dat .str a0 [], .dat .bool a1 []] none) (fun a0 a1 => loopR (ev r01_Pad_E (Tb91 R) kk (sub [1, 1, 0, 0, 0] r01_Pad_c)) [0, 1] [0, 1] kk (r01_Pad_h0 a0 a1) (kBlock 0 (kSeq r01_Pad_E (Tb91 R) kk (sub [1, 1, 1] r01_Pad_c) (kFin r01_Pad_E Tryz.f67.results.toList none K)))) := by kernel_rfl
theorem r01_Pad_d0 (R : Type) (kk k : Nat) (s_0 : ByteArray) (width_1 : Int) (K : Ex → State → Option R) : loopR (ev r01_Pad_E (Tb91 R) kk (sub [1, 1, 0, 0, 0] r01_Pad_c)) [0, 1] [0, 1] (k + 1) (r01_Pad_h0 s_0 width_1) K =
  r01_Pad_s1 s_0 width_1 (fun a0 a1 => loopR (ev r01_Pad_E (Tb91 R) kk (sub [1, 1, 0, 0, 0] r01_Pad_c)) [0, 1] [0, 1] k (r01_Pad_h0 a0 a1) K) (fun a0 a1 => K (.exit 0) (r01_Pad_x0_0 a0 a1)) := by kernel_rfl
theorem r01_Pad_y0_0 (R : Type) (kk : Nat) (s_0 : ByteArray) (width_1 : Int) (K : List SV → Option Box → Option R) : (kBlock 0 (kSeq r01_Pad_E (Tb91 R) kk (sub [1, 1, 1] r01_Pad_c) (kFin r01_Pad_E Tryz.f67.results.toList none K))) (.exit 0) (r01_Pad_x0_0 s_0 width_1) =
  r01_Pad_s2 s_0 width_1 (fun a0 a1 => loopR (ev r01_Pad_E (Tb91 R) kk (sub [1, 1, 1, 0, 0, 0] r01_Pad_c)) [0, 1] [0, 4, 5] kk (r01_Pad_h1 a0 a1) (kBlock 2 (kSeq r01_Pad_E (Tb91 R) kk (sub [1, 1, 1, 1] r01_Pad_c) (kFin r01_Pad_E Tryz.f67.results.toList none K)))) := by kernel_rfl
theorem r01_Pad_d1 (R : Type) (kk k : Nat) (s_0 : ByteArray) (width_1 : Int) (K : Ex → State → Option R) : loopR (ev r01_Pad_E (Tb91 R) kk (sub [1, 1, 1, 0, 0, 0] r01_Pad_c)) [0, 1] [0, 4, 5] (k + 1) (r01_Pad_h1 s_0 width_1) K =
  r01_Pad_s3 s_0 width_1 (fun a0 a1 a2 => K .ret (r01_Pad_x1_0 a0 a1 a2)) (fun a0 a1 => loopR (ev r01_Pad_E (Tb91 R) kk (sub [1, 1, 1, 0, 0, 0] r01_Pad_c)) [0, 1] [0, 4, 5] k (r01_Pad_h1 a0 a1) K) (fun a0 => K (.exit 2) (r01_Pad_x1_1 a0)) := by kernel_rfl
theorem r01_Pad_y1_0 (R : Type) (kk : Nat) (s_0 : ByteArray) (t4 : ByteArray) (t5 : Bool) (K : List SV → Option Box → Option R) : (kBlock 2 (kSeq r01_Pad_E (Tb91 R) kk (sub [1, 1, 1, 1] r01_Pad_c) (kFin r01_Pad_E Tryz.f67.results.toList none K))) .ret (r01_Pad_x1_0 s_0 t4 t5) =
  r01_Pad_s4 s_0 t4 t5 (fun a0 a1 => K [.dat .str a0 [], .dat .bool a1 []] none) := by kernel_rfl
theorem r01_Pad_y1_1 (R : Type) (kk : Nat) (s_0 : ByteArray) (K : List SV → Option Box → Option R) : (kBlock 2 (kSeq r01_Pad_E (Tb91 R) kk (sub [1, 1, 1, 1] r01_Pad_c) (kFin r01_Pad_E Tryz.f67.results.toList none K))) (.exit 2) (r01_Pad_x1_1 s_0) =
  r01_Pad_s5 s_0 (fun a0 a1 => K [.dat .str a0 [], .dat .bool a1 []] none) := by kernel_rfl
theorem r01_Pad_lp0 (R : Type) (k : Nat) (s_0 : ByteArray) (width_1 : Int) (K : Ex → State → Option R) : loopR (ev r01_Pad_E (Tb91 R) FUEL (sub [1, 1, 0, 0, 0] r01_Pad_c)) [0, 1] [0, 1] k (r01_Pad_h0 s_0 width_1) K = (r01_Pad_l0 k s_0 width_1).bind fun e => K (.exit 0) (r01_Pad_x0_0 e.1 e.2) := by
  induction k generalizing s_0 width_1 with
  | zero => rfl
  | succ k ih =>
    rw [r01_Pad_d0]
    simp only [r01_Pad_l0, r01_Pad_s0_bind, r01_Pad_s1_bind, r01_Pad_s2_bind, r01_Pad_s3_bind, r01_Pad_s4_bind, r01_Pad_s5_bind, ih, cond_bind, within_bind, none_bind, some_bind, sum_bind, bind_bind, Sum.elim_inl, Sum.elim_inr]
theorem r01_Pad_lp1 (R : Type) (k : Nat) (s_0 : ByteArray) (width_1 : Int) (K : Ex → State → Option R) : loopR (ev r01_Pad_E (Tb91 R) FUEL (sub [1, 1, 1, 0, 0, 0] r01_Pad_c)) [0, 1] [0, 4, 5] k (r01_Pad_h1 s_0 width_1) K = (r01_Pad_l1 k s_0 width_1).bind fun e => (Sum.elim (fun (we : Zt9) => K .ret (r01_Pad_x1_0 we.1 we.2.1 we.2.2)) (fun (we : ByteArray) => K (.exit 2) (r01_Pad_x1_1 we)) e) := by
  induction k generalizing s_0 width_1 with
  | zero => rfl
  | succ k ih =>
    rw [r01_Pad_d1]
    simp only [r01_Pad_l1, r01_Pad_s0_bind, r01_Pad_s1_bind, r01_Pad_s2_bind, r01_Pad_s3_bind, r01_Pad_s4_bind, r01_Pad_s5_bind, ih, cond_bind, within_bind, none_bind, some_bind, sum_bind, bind_bind, Sum.elim_inl, Sum.elim_inr]
theorem r01_Pad_eq (R : Type) (s_0 : ByteArray) (width_1 : Int) (K : List SV → Option Box → Option R) : evFn r01_Pad_E (Tb91 R) FUEL Tryz.f67 r01_Pad_c [.dat .str s_0 [], .dat (.int .i64) width_1 []] none K = (r01_Pad s_0 width_1).bind fun r => K [.dat .str r.1 [], .dat .bool r.2 []] none := by
  rw [r01_Pad_t]
  simp only [r01_Pad, r01_Pad_s0_bind, r01_Pad_s1_bind, r01_Pad_s2_bind, r01_Pad_s3_bind, r01_Pad_s4_bind, r01_Pad_s5_bind, r01_Pad_lp0, r01_Pad_lp1, r01_Pad_y0_0, r01_Pad_y1_0, r01_Pad_y1_1, cond_bind, within_bind, none_bind, some_bind, sum_bind, bind_bind, Sum.elim_inl, Sum.elim_inr]
def r01_Pad_g : Pure := fun R l b K => noBox b (args2 .str (.int .i64) l (fun x0 x1 => (r01_Pad x0 x1).bind fun r => K [.dat .str r.1 [], .dat .bool r.2 []] none))
theorem r01_Pad_n : r01_Pad_g.Nat := fun R S l b F G K h => noBox_nat (args2_nat fun _ _ => bindr_nat fun _ => h _ _)
def Tb92 : Funs := Tb91.add 67 [.str, (.int .i64)] r01_Pad_g
theorem Tb92_nat : Tb92.Nat := add_nat Tb91_nat r01_Pad_n
theorem Tb92_owes : ∀ f, Owes Tryz.prog Tb92 f := add_owes (E := r01_Pad_E) (Tab.env_ok tab_ok _ _ _ _) mixed Tb91_nat Tb91_owes (fn := Tryz.f67) (code := r01_Pad_c) Tryz.func67 (by kernel_rfl) (by kernel_rfl) fun l b r b' h => by
  obtain ⟨rfl, h⟩ := noBox_some h
  obtain ⟨x0, x1, h1, h2⟩ := own2 (E := r01_Pad_E) rfl h
  exact ⟨FUEL, (h2 _ _ _ _ _ _).trans ((r01_Pad_eq _ x0 x1 _).trans h1)⟩
noncomputable abbrev r20_Apply_c : Code := Tryz.f41.body.getD .skip
def r20_Apply_E : Env := tab.env (fun _ => []) (fun _ => []) [6] [y9, y13, .str]
theorem r20_Apply_t (R : Type) (kk : Nat) (r_0 : Zt19) (b_1 : Zt17) (text_2 : ByteArray) (K : List SV → Option Box → Option R) : evFn r20_Apply_E (Tb92 R) kk Tryz.f41 r20_Apply_c [.dat y9 r_0 [], .dat y13 b_1 [], .dat .str text_2 []] none K =
  r20_Apply_s0 r_0 b_1 text_2 (fun a0 a1 => K [.dat (.pair (.int .i64) (.pair .str .unit)) a0 [], .dat (.int .i64) a1 []] none) := by kernel_rfl
theorem r20_Apply_eq (R : Type) (r_0 : Zt19) (b_1 : Zt17) (text_2 : ByteArray) (K : List SV → Option Box → Option R) : evFn r20_Apply_E (Tb92 R) FUEL Tryz.f41 r20_Apply_c [.dat y9 r_0 [], .dat y13 b_1 [], .dat .str text_2 []] none K = (r20_Apply r_0 b_1 text_2).bind fun r => K [.dat (.pair (.int .i64) (.pair .str .unit)) r.1 [], .dat (.int .i64) r.2 []] none := by
  rw [r20_Apply_t]
  simp only [r20_Apply, r20_Apply_s0_bind, cond_bind, within_bind, none_bind, some_bind, sum_bind, bind_bind, Sum.elim_inl, Sum.elim_inr]
def r20_Apply_g : Pure := fun R l b K => noBox b (args3 y9 y13 .str l (fun x0 x1 x2 => (r20_Apply x0 x1 x2).bind fun r => K [.dat (.pair (.int .i64) (.pair .str .unit)) r.1 [], .dat (.int .i64) r.2 []] none))
theorem r20_Apply_n : r20_Apply_g.Nat := fun R S l b F G K h => noBox_nat (args3_nat fun _ _ _ => bindr_nat fun _ => h _ _)
def Tb93 : Funs := Tb92.add 41 [y9, y13, .str] r20_Apply_g
theorem Tb93_nat : Tb93.Nat := add_nat Tb92_nat r20_Apply_n
theorem Tb93_owes : ∀ f, Owes Tryz.prog Tb93 f := add_owes (E := r20_Apply_E) (Tab.env_ok tab_ok _ _ _ _) mixed Tb92_nat Tb92_owes (fn := Tryz.f41) (code := r20_Apply_c) Tryz.func41 (by kernel_rfl) (by kernel_rfl) fun l b r b' h => by
  obtain ⟨rfl, h⟩ := noBox_some h
  obtain ⟨x0, x1, x2, h1, h2⟩ := own3 (E := r20_Apply_E) rfl h
  exact ⟨FUEL, (h2 _ _ _ _ _ _).trans ((r20_Apply_eq _ x0 x1 x2 _).trans h1)⟩
noncomputable abbrev r21_Translate_c : Code := Tryz.f15.body.getD .skip
def r21_Translate_E : Env := tab.env (fun i => bif Nat.beq i 12 then [4, 6, 7, 8, 9, 10, 12, 14, 15] else bif Nat.beq i 22 then [4, 8, 9, 12, 14, 19] else bif Nat.beq i 28 then [8, 9, 14, 20, 21] else bif Nat.beq i 31 then [8, 9, 14, 20, 21, 22] else []) (fun i => bif Nat.beq i 12 then [4, 8, 9, 12, 14] else bif Nat.beq i 22 then [8, 9, 12, 14] else bif Nat.beq i 28 then [8, 9, 20] else bif Nat.beq i 31 then [8, 9, 14, 20, 21] else []) [8, 9] [y14, y13, y13, y4]
def r21_Translate_h0 (t12 : ByteArray) (t14 : Zt10) (t15 : Int) (bt4 : Zt23) (bt6 : Zt17) (bt7 : Zt16) (bt8 : Zt16) (bt9 : Zt4) (bt10 : Zt16) : State := ⟨uS 4 ([.ptr 5 y14 []]::(uS 1 ([.ptr 7 y13 []]::[.ptr 8 y4 []]::[.ptr 9 y4 []]::[.ptr 10 (.pair (.int .i64) (.pair (.int .i64) .unit)) []]::[.ptr 11 y4 []]::(uS 1 ([.dat .str t12 []]::(uS 1 ([.dat (.sl 53 (.pair (.int .i64) (.pair .str .unit))) t14 [[]]]::[.dat (.int .i64) t15 []]::(uS 152 ([]))))))))), nS 5 ((some ⟨y14, bt4, []⟩)::(nS 1 ((some ⟨y13, bt6, []⟩)::(some ⟨y4, bt7, []⟩)::(some ⟨y4, bt8, [[1]]⟩)::(some ⟨(.pair (.int .i64) (.pair (.int .i64) .unit)), bt9, []⟩)::(some ⟨y4, bt10, [[1]]⟩)::(nS 157 ([])))))⟩
def r21_Translate_x0_0 (t12 : ByteArray) (t14 : Zt10) (bt4 : Zt23) (bt8 : Zt16) (bt9 : Zt4) : State := ⟨uS 4 ([.ptr 5 y14 []]::(uS 3 ([.ptr 9 y4 []]::[.ptr 10 (.pair (.int .i64) (.pair (.int .i64) .unit)) []]::(uS 2 ([.dat .str t12 []]::(uS 1 ([.dat (.sl 53 (.pair (.int .i64) (.pair .str .unit))) t14 [[]]]::(uS 153 ([]))))))))), nS 5 ((some ⟨y14, bt4, []⟩)::(nS 3 ((some ⟨y4, bt8, [[1]]⟩)::(some ⟨(.pair (.int .i64) (.pair (.int .i64) .unit)), bt9, []⟩)::(nS 158 ([])))))⟩
def r21_Translate_x0_1 (t12 : ByteArray) (t14 : Zt10) (bt4 : Zt23) (bt8 : Zt16) (bt9 : Zt4) : State := ⟨uS 4 ([.ptr 5 y14 []]::(uS 3 ([.ptr 9 y4 []]::[.ptr 10 (.pair (.int .i64) (.pair (.int .i64) .unit)) []]::(uS 2 ([.dat .str t12 []]::(uS 1 ([.dat (.sl 53 (.pair (.int .i64) (.pair .str .unit))) t14 [[]]]::(uS 153 ([]))))))))), nS 5 ((some ⟨y14, bt4, []⟩)::(nS 3 ((some ⟨y4, bt8, [[1]]⟩)::(some ⟨(.pair (.int .i64) (.pair (.int .i64) .unit)), bt9, []⟩)::(nS 158 ([])))))⟩
def r21_Translate_h1 (t12 : ByteArray) (t14 : Zt10) (t19 : Int) (bt4 : Zt23) (bt8 : Zt16) (bt9 : Zt4) : State := ⟨uS 4 ([.ptr 5 y14 []]::(uS 3 ([.ptr 9 y4 []]::[.ptr 10 (.pair (.int .i64) (.pair (.int .i64) .unit)) []]::(uS 2 ([.dat .str t12 []]::(uS 1 ([.dat (.sl 53 (.pair (.int .i64) (.pair .str .unit))) t14 [[]]]::(uS 4 ([.dat (.int .i64) t19 []]::(uS 148 ([]))))))))))), nS 5 ((some ⟨y14, bt4, []⟩)::(nS 3 ((some ⟨y4, bt8, [[1]]⟩)::(some ⟨(.pair (.int .i64) (.pair (.int .i64) .unit)), bt9, []⟩)::(nS 158 ([])))))⟩
def r21_Translate_x1_0 (t12 : ByteArray) (t14 : Zt10) (bt8 : Zt16) (bt9 : Zt4) : State := ⟨uS 8 ([.ptr 9 y4 []]::[.ptr 10 (.pair (.int .i64) (.pair (.int .i64) .unit)) []]::(uS 2 ([.dat .str t12 []]::(uS 1 ([.dat (.sl 53 (.pair (.int .i64) (.pair .str .unit))) t14 [[]]]::(uS 153 ([]))))))), nS 9 ((some ⟨y4, bt8, [[1]]⟩)::(some ⟨(.pair (.int .i64) (.pair (.int .i64) .unit)), bt9, []⟩)::(nS 158 ([])))⟩
def r21_Translate_h2 (t14 : Zt10) (t21 : Int) (bt8 : Zt16) (bt9 : Zt4) (bt20 : Zt16) : State := ⟨uS 8 ([.ptr 9 y4 []]::[.ptr 10 (.pair (.int .i64) (.pair (.int .i64) .unit)) []]::(uS 4 ([.dat (.sl 53 (.pair (.int .i64) (.pair .str .unit))) t14 [[]]]::(uS 5 ([.ptr 21 y4 []]::[.dat (.int .i64) t21 []]::(uS 146 ([]))))))), nS 9 ((some ⟨y4, bt8, [[1]]⟩)::(some ⟨(.pair (.int .i64) (.pair (.int .i64) .unit)), bt9, []⟩)::(nS 10 ((some ⟨y4, bt20, [[1]]⟩)::(nS 147 ([])))))⟩
def r21_Translate_x2_0 (bt8 : Zt16) (bt9 : Zt4) (bt20 : Zt16) : State := ⟨uS 8 ([.ptr 9 y4 []]::[.ptr 10 (.pair (.int .i64) (.pair (.int .i64) .unit)) []]::(uS 10 ([.ptr 21 y4 []]::(uS 147 ([]))))), nS 9 ((some ⟨y4, bt8, [[1]]⟩)::(some ⟨(.pair (.int .i64) (.pair (.int .i64) .unit)), bt9, []⟩)::(nS 10 ((some ⟨y4, bt20, [[1]]⟩)::(nS 147 ([])))))⟩
def r21_Translate_h3 (t14 : Zt10) (t21 : Int) (t22 : Int) (bt8 : Zt16) (bt9 : Zt4) (bt20 : Zt16) : State := ⟨uS 8 ([.ptr 9 y4 []]::[.ptr 10 (.pair (.int .i64) (.pair (.int .i64) .unit)) []]::(uS 4 ([.dat (.sl 53 (.pair (.int .i64) (.pair .str .unit))) t14 [[]]]::(uS 5 ([.ptr 21 y4 []]::[.dat (.int .i64) t21 []]::[.dat (.int .i64) t22 []]::(uS 145 ([]))))))), nS 9 ((some ⟨y4, bt8, [[1]]⟩)::(some ⟨(.pair (.int .i64) (.pair (.int .i64) .unit)), bt9, []⟩)::(nS 10 ((some ⟨y4, bt20, [[1]]⟩)::(nS 147 ([])))))⟩
def r21_Translate_x3_0 (t14 : Zt10) (t21 : Int) (bt8 : Zt16) (bt9 : Zt4) (bt20 : Zt16) : State := ⟨uS 8 ([.ptr 9 y4 []]::[.ptr 10 (.pair (.int .i64) (.pair (.int .i64) .unit)) []]::(uS 4 ([.dat (.sl 53 (.pair (.int .i64) (.pair .str .unit))) t14 [[]]]::(uS 5 ([.ptr 21 y4 []]::[.dat (.int .i64) t21 []]::(uS 146 ([]))))))), nS 9 ((some ⟨y4, bt8, [[1]]⟩)::(some ⟨(.pair (.int .i64) (.pair (.int .i64) .unit)), bt9, []⟩)::(nS 10 ((some ⟨y4, bt20, [[1]]⟩)::(nS 147 ([])))))⟩
theorem r21_Translate_t (R : Type) (kk : Nat) (m_0 : Zt23) (a_1 : Zt17) (b_2 : Zt17) (x_3 : Zt16) (K : List SV → Option Box → Option R) : evFn r21_Translate_E (Tb93 R) kk Tryz.f15 r21_Translate_c [.dat y14 m_0 [], .dat y13 a_1 [], .dat y13 b_2 [], .dat y4 x_3 []] none K =
  r21_Translate_s0 m_0 a_1 b_2 x_3 (fun a0 a1 => K [.dat y4 a0 [[1]], .dat (.pair (.int .i64) (.pair (.int .i64) .unit)) a1 []] none) (fun a0 a1 a2 a3 a4 a5 a6 a7 a8 => loopR (ev r21_Translate_E (Tb93 R) kk (sub [1, 1, 1, 1, 1, 1, 1, 0, 1, 0, 0] r21_Translate_c)) [4, 6, 7, 8, 9, 10, 12, 14, 15] [4, 8, 9, 12, 14] kk (r21_Translate_h0 a0 a1 a2 a3 a4 a5 a6 a7 a8) (kBlock 0 (kSeq r21_Translate_E (Tb93 R) kk (sub [1, 1, 1, 1, 1, 1, 1, 1] r21_Translate_c) (kFin r21_Translate_E Tryz.f15.results.toList none K)))) := by kernel_rfl
theorem r21_Translate_d0 (R : Type) (kk k : Nat) (t12 : ByteArray) (t14 : Zt10) (t15 : Int) (bt4 : Zt23) (bt6 : Zt17) (bt7 : Zt16) (bt8 : Zt16) (bt9 : Zt4) (bt10 : Zt16) (K : Ex → State → Option R) : loopR (ev r21_Translate_E (Tb93 R) kk (sub [1, 1, 1, 1, 1, 1, 1, 0, 1, 0, 0] r21_Translate_c)) [4, 6, 7, 8, 9, 10, 12, 14, 15] [4, 8, 9, 12, 14] (k + 1) (r21_Translate_h0 t12 t14 t15 bt4 bt6 bt7 bt8 bt9 bt10) K =
  r21_Translate_s1 t12 t14 t15 bt4 bt6 bt7 bt8 bt9 bt10 (fun a0 a1 a2 a3 a4 => K .ret (r21_Translate_x0_0 a0 a1 a2 a3 a4)) (fun a0 a1 a2 a3 a4 a5 a6 a7 a8 => loopR (ev r21_Translate_E (Tb93 R) kk (sub [1, 1, 1, 1, 1, 1, 1, 0, 1, 0, 0] r21_Translate_c)) [4, 6, 7, 8, 9, 10, 12, 14, 15] [4, 8, 9, 12, 14] k (r21_Translate_h0 a0 a1 a2 a3 a4 a5 a6 a7 a8) K) (fun a0 a1 a2 a3 a4 => K (.exit 0) (r21_Translate_x0_1 a0 a1 a2 a3 a4)) := by kernel_rfl
theorem r21_Translate_y0_0 (R : Type) (kk : Nat) (t12 : ByteArray) (t14 : Zt10) (bt4 : Zt23) (bt8 : Zt16) (bt9 : Zt4) (K : List SV → Option Box → Option R) : (kBlock 0 (kSeq r21_Translate_E (Tb93 R) kk (sub [1, 1, 1, 1, 1, 1, 1, 1] r21_Translate_c) (kFin r21_Translate_E Tryz.f15.results.toList none K))) .ret (r21_Translate_x0_0 t12 t14 bt4 bt8 bt9) =
  r21_Translate_s2 t12 t14 bt4 bt8 bt9 (fun a0 a1 => K [.dat y4 a0 [[1]], .dat (.pair (.int .i64) (.pair (.int .i64) .unit)) a1 []] none) := by kernel_rfl
theorem r21_Translate_y0_1 (R : Type) (kk : Nat) (t12 : ByteArray) (t14 : Zt10) (bt4 : Zt23) (bt8 : Zt16) (bt9 : Zt4) (K : List SV → Option Box → Option R) : (kBlock 0 (kSeq r21_Translate_E (Tb93 R) kk (sub [1, 1, 1, 1, 1, 1, 1, 1] r21_Translate_c) (kFin r21_Translate_E Tryz.f15.results.toList none K))) (.exit 0) (r21_Translate_x0_1 t12 t14 bt4 bt8 bt9) =
  r21_Translate_s3 t12 t14 bt4 bt8 bt9 (fun a0 a1 a2 a3 a4 a5 => loopR (ev r21_Translate_E (Tb93 R) kk (sub [1, 1, 1, 1, 1, 1, 1, 1, 0, 1, 0, 0] r21_Translate_c)) [4, 8, 9, 12, 14, 19] [8, 9, 12, 14] kk (r21_Translate_h1 a0 a1 a2 a3 a4 a5) (kBlock 2 (kSeq r21_Translate_E (Tb93 R) kk (sub [1, 1, 1, 1, 1, 1, 1, 1, 1] r21_Translate_c) (kFin r21_Translate_E Tryz.f15.results.toList none K)))) := by kernel_rfl
theorem r21_Translate_d1 (R : Type) (kk k : Nat) (t12 : ByteArray) (t14 : Zt10) (t19 : Int) (bt4 : Zt23) (bt8 : Zt16) (bt9 : Zt4) (K : Ex → State → Option R) : loopR (ev r21_Translate_E (Tb93 R) kk (sub [1, 1, 1, 1, 1, 1, 1, 1, 0, 1, 0, 0] r21_Translate_c)) [4, 8, 9, 12, 14, 19] [8, 9, 12, 14] (k + 1) (r21_Translate_h1 t12 t14 t19 bt4 bt8 bt9) K =
  r21_Translate_s4 t12 t14 t19 bt4 bt8 bt9 (fun a0 a1 a2 a3 a4 a5 => loopR (ev r21_Translate_E (Tb93 R) kk (sub [1, 1, 1, 1, 1, 1, 1, 1, 0, 1, 0, 0] r21_Translate_c)) [4, 8, 9, 12, 14, 19] [8, 9, 12, 14] k (r21_Translate_h1 a0 a1 a2 a3 a4 a5) K) (fun a0 a1 a2 a3 => K (.exit 2) (r21_Translate_x1_0 a0 a1 a2 a3)) := by kernel_rfl
theorem r21_Translate_y1_0 (R : Type) (kk : Nat) (t12 : ByteArray) (t14 : Zt10) (bt8 : Zt16) (bt9 : Zt4) (K : List SV → Option Box → Option R) : (kBlock 2 (kSeq r21_Translate_E (Tb93 R) kk (sub [1, 1, 1, 1, 1, 1, 1, 1, 1] r21_Translate_c) (kFin r21_Translate_E Tryz.f15.results.toList none K))) (.exit 2) (r21_Translate_x1_0 t12 t14 bt8 bt9) =
  r21_Translate_s5 t12 t14 bt8 bt9 (fun a0 a1 a2 a3 a4 => loopR (ev r21_Translate_E (Tb93 R) kk (sub [1, 1, 1, 1, 1, 1, 1, 1, 1, 1, 0, 1, 0, 0] r21_Translate_c)) [8, 9, 14, 20, 21] [8, 9, 20] kk (r21_Translate_h2 a0 a1 a2 a3 a4) (kBlock 4 (kSeq r21_Translate_E (Tb93 R) kk (sub [1, 1, 1, 1, 1, 1, 1, 1, 1, 1, 1] r21_Translate_c) (kFin r21_Translate_E Tryz.f15.results.toList none K)))) := by kernel_rfl
theorem r21_Translate_d2 (R : Type) (kk k : Nat) (t14 : Zt10) (t21 : Int) (bt8 : Zt16) (bt9 : Zt4) (bt20 : Zt16) (K : Ex → State → Option R) : loopR (ev r21_Translate_E (Tb93 R) kk (sub [1, 1, 1, 1, 1, 1, 1, 1, 1, 1, 0, 1, 0, 0] r21_Translate_c)) [8, 9, 14, 20, 21] [8, 9, 20] (k + 1) (r21_Translate_h2 t14 t21 bt8 bt9 bt20) K =
  r21_Translate_s6 t14 t21 bt8 bt9 bt20 (fun a0 a1 a2 a3 a4 a5 => loopR (ev r21_Translate_E (Tb93 R) kk (sub [1, 1, 1, 1, 1, 1, 1, 1, 1, 1, 0, 1, 0, 0, 1, 0, 0, 1, 0, 0] r21_Translate_c)) [8, 9, 14, 20, 21, 22] [8, 9, 14, 20, 21] kk (r21_Translate_h3 a0 a1 a2 a3 a4 a5) (kBlock 6 (kBlock 5 (kSeq r21_Translate_E (Tb93 R) kk (sub [1, 1, 1, 1, 1, 1, 1, 1, 1, 1, 0, 1, 0, 0, 1, 1] r21_Translate_c) (kLoop (ev r21_Translate_E (Tb93 R) kk (sub [1, 1, 1, 1, 1, 1, 1, 1, 1, 1, 0, 1, 0, 0] r21_Translate_c)) [8, 9, 14, 20, 21] [8, 9, 20] k K))))) (fun a0 a1 a2 => K (.exit 4) (r21_Translate_x2_0 a0 a1 a2)) := by kernel_rfl
theorem r21_Translate_y2_0 (R : Type) (kk : Nat) (bt8 : Zt16) (bt9 : Zt4) (bt20 : Zt16) (K : List SV → Option Box → Option R) : (kBlock 4 (kSeq r21_Translate_E (Tb93 R) kk (sub [1, 1, 1, 1, 1, 1, 1, 1, 1, 1, 1] r21_Translate_c) (kFin r21_Translate_E Tryz.f15.results.toList none K))) (.exit 4) (r21_Translate_x2_0 bt8 bt9 bt20) =
  r21_Translate_s7 bt8 bt9 bt20 (fun a0 a1 => K [.dat y4 a0 [[1]], .dat (.pair (.int .i64) (.pair (.int .i64) .unit)) a1 []] none) := by kernel_rfl
theorem r21_Translate_d3 (R : Type) (kk k : Nat) (t14 : Zt10) (t21 : Int) (t22 : Int) (bt8 : Zt16) (bt9 : Zt4) (bt20 : Zt16) (K : Ex → State → Option R) : loopR (ev r21_Translate_E (Tb93 R) kk (sub [1, 1, 1, 1, 1, 1, 1, 1, 1, 1, 0, 1, 0, 0, 1, 0, 0, 1, 0, 0] r21_Translate_c)) [8, 9, 14, 20, 21, 22] [8, 9, 14, 20, 21] (k + 1) (r21_Translate_h3 t14 t21 t22 bt8 bt9 bt20) K =
  r21_Translate_s8 t14 t21 t22 bt8 bt9 bt20 (fun a0 a1 a2 a3 a4 a5 => loopR (ev r21_Translate_E (Tb93 R) kk (sub [1, 1, 1, 1, 1, 1, 1, 1, 1, 1, 0, 1, 0, 0, 1, 0, 0, 1, 0, 0] r21_Translate_c)) [8, 9, 14, 20, 21, 22] [8, 9, 14, 20, 21] k (r21_Translate_h3 a0 a1 a2 a3 a4 a5) K) (fun a0 a1 a2 a3 a4 => K (.exit 6) (r21_Translate_x3_0 a0 a1 a2 a3 a4)) := by kernel_rfl
theorem r21_Translate_y3_0 (R : Type) (kk k : Nat) (t14 : Zt10) (t21 : Int) (bt8 : Zt16) (bt9 : Zt4) (bt20 : Zt16) (K : Ex → State → Option R) : (kBlock 6 (kBlock 5 (kSeq r21_Translate_E (Tb93 R) kk (sub [1, 1, 1, 1, 1, 1, 1, 1, 1, 1, 0, 1, 0, 0, 1, 1] r21_Translate_c) (kLoop (ev r21_Translate_E (Tb93 R) kk (sub [1, 1, 1, 1, 1, 1, 1, 1, 1, 1, 0, 1, 0, 0] r21_Translate_c)) [8, 9, 14, 20, 21] [8, 9, 20] k K)))) (.exit 6) (r21_Translate_x3_0 t14 t21 bt8 bt9 bt20) =
  r21_Translate_s9 t14 t21 bt8 bt9 bt20 (fun a0 a1 a2 a3 a4 => loopR (ev r21_Translate_E (Tb93 R) kk (sub [1, 1, 1, 1, 1, 1, 1, 1, 1, 1, 0, 1, 0, 0] r21_Translate_c)) [8, 9, 14, 20, 21] [8, 9, 20] k (r21_Translate_h2 a0 a1 a2 a3 a4) K) := by kernel_rfl
theorem r21_Translate_lp0 (R : Type) (k : Nat) (t12 : ByteArray) (t14 : Zt10) (t15 : Int) (bt4 : Zt23) (bt6 : Zt17) (bt7 : Zt16) (bt8 : Zt16) (bt9 : Zt4) (bt10 : Zt16) (K : Ex → State → Option R) : loopR (ev r21_Translate_E (Tb93 R) FUEL (sub [1, 1, 1, 1, 1, 1, 1, 0, 1, 0, 0] r21_Translate_c)) [4, 6, 7, 8, 9, 10, 12, 14, 15] [4, 8, 9, 12, 14] k (r21_Translate_h0 t12 t14 t15 bt4 bt6 bt7 bt8 bt9 bt10) K = (r21_Translate_l0 k t12 t14 t15 bt4 bt6 bt7 bt8 bt9 bt10).bind fun e => (Sum.elim (fun (we : Zt24) => K .ret (r21_Translate_x0_0 we.1 we.2.1 we.2.2.1 we.2.2.2.1 we.2.2.2.2)) (fun (we : Zt24) => K (.exit 0) (r21_Translate_x0_1 we.1 we.2.1 we.2.2.1 we.2.2.2.1 we.2.2.2.2)) e) := by
  induction k generalizing t12 t14 t15 bt4 bt6 bt7 bt8 bt9 bt10 with
  | zero => rfl
  | succ k ih =>
    rw [r21_Translate_d0]
    simp only [r21_Translate_l0, r21_Translate_s0_bind, r21_Translate_s1_bind, r21_Translate_s2_bind, r21_Translate_s3_bind, r21_Translate_s4_bind, r21_Translate_s5_bind, r21_Translate_s6_bind, r21_Translate_s7_bind, r21_Translate_s8_bind, r21_Translate_s9_bind, ih, cond_bind, within_bind, none_bind, some_bind, sum_bind, bind_bind, Sum.elim_inl, Sum.elim_inr]
theorem r21_Translate_lp1 (R : Type) (k : Nat) (t12 : ByteArray) (t14 : Zt10) (t19 : Int) (bt4 : Zt23) (bt8 : Zt16) (bt9 : Zt4) (K : Ex → State → Option R) : loopR (ev r21_Translate_E (Tb93 R) FUEL (sub [1, 1, 1, 1, 1, 1, 1, 1, 0, 1, 0, 0] r21_Translate_c)) [4, 8, 9, 12, 14, 19] [8, 9, 12, 14] k (r21_Translate_h1 t12 t14 t19 bt4 bt8 bt9) K = (r21_Translate_l1 k t12 t14 t19 bt4 bt8 bt9).bind fun e => K (.exit 2) (r21_Translate_x1_0 e.1 e.2.1 e.2.2.1 e.2.2.2) := by
  induction k generalizing t12 t14 t19 bt4 bt8 bt9 with
  | zero => rfl
  | succ k ih =>
    rw [r21_Translate_d1]
    simp only [r21_Translate_l1, r21_Translate_s0_bind, r21_Translate_s1_bind, r21_Translate_s2_bind, r21_Translate_s3_bind, r21_Translate_s4_bind, r21_Translate_s5_bind, r21_Translate_s6_bind, r21_Translate_s7_bind, r21_Translate_s8_bind, r21_Translate_s9_bind, ih, cond_bind, within_bind, none_bind, some_bind, sum_bind, bind_bind, Sum.elim_inl, Sum.elim_inr]
theorem r21_Translate_lp3 (R : Type) (k : Nat) (t14 : Zt10) (t21 : Int) (t22 : Int) (bt8 : Zt16) (bt9 : Zt4) (bt20 : Zt16) (K : Ex → State → Option R) : loopR (ev r21_Translate_E (Tb93 R) FUEL (sub [1, 1, 1, 1, 1, 1, 1, 1, 1, 1, 0, 1, 0, 0, 1, 0, 0, 1, 0, 0] r21_Translate_c)) [8, 9, 14, 20, 21, 22] [8, 9, 14, 20, 21] k (r21_Translate_h3 t14 t21 t22 bt8 bt9 bt20) K = (r21_Translate_l3 k t14 t21 t22 bt8 bt9 bt20).bind fun e => K (.exit 6) (r21_Translate_x3_0 e.1 e.2.1 e.2.2.1 e.2.2.2.1 e.2.2.2.2) := by
  induction k generalizing t14 t21 t22 bt8 bt9 bt20 with
  | zero => rfl
  | succ k ih =>
    rw [r21_Translate_d3]
    simp only [r21_Translate_l3, r21_Translate_s0_bind, r21_Translate_s1_bind, r21_Translate_s2_bind, r21_Translate_s3_bind, r21_Translate_s4_bind, r21_Translate_s5_bind, r21_Translate_s6_bind, r21_Translate_s7_bind, r21_Translate_s8_bind, r21_Translate_s9_bind, ih, cond_bind, within_bind, none_bind, some_bind, sum_bind, bind_bind, Sum.elim_inl, Sum.elim_inr]
theorem r21_Translate_lp2 (R : Type) (k : Nat) (t14 : Zt10) (t21 : Int) (bt8 : Zt16) (bt9 : Zt4) (bt20 : Zt16) (K : Ex → State → Option R) : loopR (ev r21_Translate_E (Tb93 R) FUEL (sub [1, 1, 1, 1, 1, 1, 1, 1, 1, 1, 0, 1, 0, 0] r21_Translate_c)) [8, 9, 14, 20, 21] [8, 9, 20] k (r21_Translate_h2 t14 t21 bt8 bt9 bt20) K = (r21_Translate_l2 k t14 t21 bt8 bt9 bt20).bind fun e => K (.exit 4) (r21_Translate_x2_0 e.1 e.2.1 e.2.2) := by
  induction k generalizing t14 t21 bt8 bt9 bt20 with
  | zero => rfl
  | succ k ih =>
    rw [r21_Translate_d2]
    simp only [r21_Translate_l2, r21_Translate_s0_bind, r21_Translate_s1_bind, r21_Translate_s2_bind, r21_Translate_s3_bind, r21_Translate_s4_bind, r21_Translate_s5_bind, r21_Translate_s6_bind, r21_Translate_s7_bind, r21_Translate_s8_bind, r21_Translate_s9_bind, ih, r21_Translate_lp3, r21_Translate_y3_0, cond_bind, within_bind, none_bind, some_bind, sum_bind, bind_bind, Sum.elim_inl, Sum.elim_inr]
theorem r21_Translate_eq (R : Type) (m_0 : Zt23) (a_1 : Zt17) (b_2 : Zt17) (x_3 : Zt16) (K : List SV → Option Box → Option R) : evFn r21_Translate_E (Tb93 R) FUEL Tryz.f15 r21_Translate_c [.dat y14 m_0 [], .dat y13 a_1 [], .dat y13 b_2 [], .dat y4 x_3 []] none K = (r21_Translate m_0 a_1 b_2 x_3).bind fun r => K [.dat y4 r.1 [[1]], .dat (.pair (.int .i64) (.pair (.int .i64) .unit)) r.2 []] none := by
  rw [r21_Translate_t]
  simp only [r21_Translate, r21_Translate_s0_bind, r21_Translate_s1_bind, r21_Translate_s2_bind, r21_Translate_s3_bind, r21_Translate_s4_bind, r21_Translate_s5_bind, r21_Translate_s6_bind, r21_Translate_s7_bind, r21_Translate_s8_bind, r21_Translate_s9_bind, r21_Translate_lp0, r21_Translate_lp1, r21_Translate_lp2, r21_Translate_lp3, r21_Translate_y0_0, r21_Translate_y0_1, r21_Translate_y1_0, r21_Translate_y2_0, r21_Translate_y3_0, cond_bind, within_bind, none_bind, some_bind, sum_bind, bind_bind, Sum.elim_inl, Sum.elim_inr]
def r21_Translate_g : Pure := fun R l b K => noBox b (args4 y14 y13 y13 y4 l (fun x0 x1 x2 x3 => (r21_Translate x0 x1 x2 x3).bind fun r => K [.dat y4 r.1 [[1]], .dat (.pair (.int .i64) (.pair (.int .i64) .unit)) r.2 []] none))
theorem r21_Translate_n : r21_Translate_g.Nat := fun R S l b F G K h => noBox_nat (args4_nat fun _ _ _ _ => bindr_nat fun _ => h _ _)
def Tb94 : Funs := Tb93.add 15 [y14, y13, y13, y4] r21_Translate_g
theorem Tb94_nat : Tb94.Nat := add_nat Tb93_nat r21_Translate_n
theorem Tb94_owes : ∀ f, Owes Tryz.prog Tb94 f := add_owes (E := r21_Translate_E) (Tab.env_ok tab_ok _ _ _ _) mixed Tb93_nat Tb93_owes (fn := Tryz.f15) (code := r21_Translate_c) Tryz.func15 (by kernel_rfl) (by kernel_rfl) fun l b r b' h => by
  obtain ⟨rfl, h⟩ := noBox_some h
  obtain ⟨x0, x1, x2, x3, h1, h2⟩ := own4 (E := r21_Translate_E) rfl h
  exact ⟨FUEL, (h2 _ _ _ _ _ _).trans ((r21_Translate_eq _ x0 x1 x2 x3 _).trans h1)⟩
noncomputable abbrev w21_XlateTranslates_c : Code := Tryz.f4.body.getD .skip
def w21_XlateTranslates_E : Env := tab.env (fun _ => []) (fun _ => []) [] [y14, (.arr 2 y13), y4]
theorem w21_XlateTranslates_t (R : Type) (kk : Nat) (m_0 : Zt23) (s_1 : Zt18) (x_2 : Zt16) (K : List SV → Option Box → Option R) : evFn w21_XlateTranslates_E (Tb94 R) kk Tryz.f4 w21_XlateTranslates_c [.dat y14 m_0 [], .dat (.arr 2 y13) s_1 [], .dat y4 x_2 []] none K =
  w21_XlateTranslates_s0 m_0 s_1 x_2 (fun a0 => K [.dat .bool a0 []] none) := by kernel_rfl
theorem w21_XlateTranslates_eq (R : Type) (m_0 : Zt23) (s_1 : Zt18) (x_2 : Zt16) (K : List SV → Option Box → Option R) : evFn w21_XlateTranslates_E (Tb94 R) FUEL Tryz.f4 w21_XlateTranslates_c [.dat y14 m_0 [], .dat (.arr 2 y13) s_1 [], .dat y4 x_2 []] none K = (w21_XlateTranslates m_0 s_1 x_2).bind fun r => K [.dat .bool r []] none := by
  rw [w21_XlateTranslates_t]
  simp only [w21_XlateTranslates, w21_XlateTranslates_s0_bind, cond_bind, within_bind, none_bind, some_bind, sum_bind, bind_bind, Sum.elim_inl, Sum.elim_inr]
def w21_XlateTranslates_g : Pure := fun R l b K => noBox b (args3 y14 (.arr 2 y13) y4 l (fun x0 x1 x2 => (w21_XlateTranslates x0 x1 x2).bind fun r => K [.dat .bool r []] none))
def Tb95 : Funs := Tb94.add 4 [y14, (.arr 2 y13), y4] w21_XlateTranslates_g
theorem Tb95_owes : ∀ f, Owes Tryz.prog Tb95 f := add_owes (E := w21_XlateTranslates_E) (Tab.env_ok tab_ok _ _ _ _) mixed Tb94_nat Tb94_owes (fn := Tryz.f4) (code := w21_XlateTranslates_c) Tryz.func4 (by kernel_rfl) (by kernel_rfl) fun l b r b' h => by
  obtain ⟨rfl, h⟩ := noBox_some h
  obtain ⟨x0, x1, x2, h1, h2⟩ := own3 (E := w21_XlateTranslates_E) rfl h
  exact ⟨FUEL, (h2 _ _ _ _ _ _).trans ((w21_XlateTranslates_eq _ x0 x1 x2 _).trans h1)⟩
end Go.Proofs.YtmbobepkfagkgaaGreatDoor
