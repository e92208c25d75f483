/- No condition. -/
import Derived.Test.YthdphoohfdiodaaGreatDoorK3
set_option linter.unusedVariables false
set_option linter.unusedSimpArgs false
set_option maxRecDepth 100000
namespace Go.Proofs.YthdphoohfdiodaaGreatDoor
open Go Go.Ref Groat
theorem Tb52_owes : ∀ f, Owes Tryz.prog Tb52 f := add_owes (E := r13_Right_E) (Tab.env_ok tab_ok _ _ _ _) mixed Tb51_nat Tb51_owes (fn := Tryz.f24) (code := r13_Right_c) Tryz.func24 (by kernel_rfl) (by kernel_rfl) fun l b r b' h => by
  obtain ⟨rfl, h⟩ := noBox_some h
  obtain ⟨x0, h1, h2⟩ := own1 (E := r13_Right_E) rfl h
  exact ⟨FUEL, (h2 _ _ _ _ _ _).trans ((r13_Right_eq _ x0 _).trans h1)⟩
noncomputable abbrev r01_Digit_c : Code := Tryz.f68.body.getD .skip
def r01_Digit_E : Env := tab.env (fun _ => []) (fun _ => []) [] [(.int .u8)]
theorem r01_Digit_t (R : Type) (kk : Nat) (b_0 : Int) (K : List SV → Option Box → Option R) : evFn r01_Digit_E (Tb52 R) kk Tryz.f68 r01_Digit_c [.dat (.int .u8) b_0 []] none K =
  r01_Digit_s0 b_0 (fun a0 => K [.dat .bool a0 []] none) := by kernel_rfl
theorem r01_Digit_eq (R : Type) (b_0 : Int) (K : List SV → Option Box → Option R) : evFn r01_Digit_E (Tb52 R) FUEL Tryz.f68 r01_Digit_c [.dat (.int .u8) b_0 []] none K = (r01_Digit b_0).bind fun r => K [.dat .bool r []] none := by
  rw [r01_Digit_t]
  simp only [r01_Digit, r01_Digit_s0_bind, cond_bind, within_bind, none_bind, some_bind, sum_bind, bind_bind, Sum.elim_inl, Sum.elim_inr]
def r01_Digit_g : Pure := fun R l b K => noBox b (args1 (.int .u8) l (fun x0 => (r01_Digit x0).bind fun r => K [.dat .bool r []] none))
theorem r01_Digit_n : r01_Digit_g.Nat := fun R S l b F G K h => noBox_nat (args1_nat fun _ => bindr_nat fun _ => h _ _)
def Tb53 : Funs := Tb52.add 68 [(.int .u8)] r01_Digit_g
theorem Tb53_nat : Tb53.Nat := add_nat Tb52_nat r01_Digit_n
theorem Tb53_owes : ∀ f, Owes Tryz.prog Tb53 f := add_owes (E := r01_Digit_E) (Tab.env_ok tab_ok _ _ _ _) mixed Tb52_nat Tb52_owes (fn := Tryz.f68) (code := r01_Digit_c) Tryz.func68 (by kernel_rfl) (by kernel_rfl) fun l b r b' h => by
  obtain ⟨rfl, h⟩ := noBox_some h
  obtain ⟨x0, h1, h2⟩ := own1 (E := r01_Digit_E) rfl h
  exact ⟨FUEL, (h2 _ _ _ _ _ _).trans ((r01_Digit_eq _ x0 _).trans h1)⟩
noncomputable abbrev r01_All_c : Code := Tryz.f50.body.getD .skip
def r01_All_E : Env := tab.env (fun i => bif Nat.beq i 2 then [0, 3] else []) (fun i => bif Nat.beq i 2 then [2] else []) [] [.str]
def r01_All_h0 (s_0 : ByteArray) (t3 : Int) : State := ⟨[.dat .str s_0 []]::(uS 2 ([.dat (.int .i64) t3 []]::(uS 11 ([])))), nS 16 []⟩
def r01_All_x0_0 (t2 : Bool) : State := ⟨uS 2 ([.dat .bool t2 []]::(uS 12 ([]))), nS 16 []⟩
def r01_All_x0_1  : State := ⟨uS 15 [], nS 16 []⟩
theorem r01_All_t (R : Type) (kk : Nat) (s_0 : ByteArray) (K : List SV → Option Box → Option R) : evFn r01_All_E (Tb53 R) kk Tryz.f50 r01_All_c [.dat .str s_0 []] none K =
  r01_All_s0 s_0 (fun a0 a1 => loopR (ev r01_All_E (Tb53 R) kk (sub [1, 0, 1, 0, 0] r01_All_c)) [0, 3] [2] kk (r01_All_h0 a0 a1) (kBlock 0 (kSeq r01_All_E (Tb53 R) kk (sub [1, 1] r01_All_c) (kFin r01_All_E Tryz.f50.results.toList none K)))) := by kernel_rfl
theorem r01_All_d0 (R : Type) (kk k : Nat) (s_0 : ByteArray) (t3 : Int) (K : Ex → State → Option R) : loopR (ev r01_All_E (Tb53 R) kk (sub [1, 0, 1, 0, 0] r01_All_c)) [0, 3] [2] (k + 1) (r01_All_h0 s_0 t3) K =
  r01_All_s1 s_0 t3 (fun a0 => K .ret (r01_All_x0_0 a0)) (fun a0 a1 => loopR (ev r01_All_E (Tb53 R) kk (sub [1, 0, 1, 0, 0] r01_All_c)) [0, 3] [2] k (r01_All_h0 a0 a1) K) (K (.exit 0) (r01_All_x0_1)) := by kernel_rfl
theorem r01_All_y0_0 (R : Type) (kk : Nat) (t2 : Bool) (K : List SV → Option Box → Option R) : (kBlock 0 (kSeq r01_All_E (Tb53 R) kk (sub [1, 1] r01_All_c) (kFin r01_All_E Tryz.f50.results.toList none K))) .ret (r01_All_x0_0 t2) =
  r01_All_s2 t2 (fun a0 => K [.dat .bool a0 []] none) := by kernel_rfl
theorem r01_All_y0_1 (R : Type) (kk : Nat)  (K : List SV → Option Box → Option R) : (kBlock 0 (kSeq r01_All_E (Tb53 R) kk (sub [1, 1] r01_All_c) (kFin r01_All_E Tryz.f50.results.toList none K))) (.exit 0) (r01_All_x0_1) =
  r01_All_s3 (fun a0 => K [.dat .bool a0 []] none) := by kernel_rfl
theorem r01_All_lp0 (R : Type) (k : Nat) (s_0 : ByteArray) (t3 : Int) (K : Ex → State → Option R) : loopR (ev r01_All_E (Tb53 R) FUEL (sub [1, 0, 1, 0, 0] r01_All_c)) [0, 3] [2] k (r01_All_h0 s_0 t3) K = (r01_All_l0 k s_0 t3).bind fun e => (Sum.elim (fun (we : Bool) => K .ret (r01_All_x0_0 we)) (fun (we : Unit) => K (.exit 0) (r01_All_x0_1)) e) := by
  induction k generalizing s_0 t3 with
  | zero => rfl
  | succ k ih =>
    rw [r01_All_d0]
    simp only [r01_All_l0, r01_All_s0_bind, r01_All_s1_bind, r01_All_s2_bind, r01_All_s3_bind, ih, cond_bind, within_bind, none_bind, some_bind, sum_bind, bind_bind, Sum.elim_inl, Sum.elim_inr]
theorem r01_All_eq (R : Type) (s_0 : ByteArray) (K : List SV → Option Box → Option R) : evFn r01_All_E (Tb53 R) FUEL Tryz.f50 r01_All_c [.dat .str s_0 []] none K = (r01_All s_0).bind fun r => K [.dat .bool r []] none := by
  rw [r01_All_t]
  simp only [r01_All, r01_All_s0_bind, r01_All_s1_bind, r01_All_s2_bind, r01_All_s3_bind, r01_All_lp0, r01_All_y0_0, r01_All_y0_1, cond_bind, within_bind, none_bind, some_bind, sum_bind, bind_bind, Sum.elim_inl, Sum.elim_inr]
def r01_All_g : Pure := fun R l b K => noBox b (args1 .str l (fun x0 => (r01_All x0).bind fun r => K [.dat .bool r []] none))
theorem r01_All_n : r01_All_g.Nat := fun R S l b F G K h => noBox_nat (args1_nat fun _ => bindr_nat fun _ => h _ _)
def Tb54 : Funs := Tb53.add 50 [.str] r01_All_g
theorem Tb54_nat : Tb54.Nat := add_nat Tb53_nat r01_All_n
theorem Tb54_owes : ∀ f, Owes Tryz.prog Tb54 f := add_owes (E := r01_All_E) (Tab.env_ok tab_ok _ _ _ _) mixed Tb53_nat Tb53_owes (fn := Tryz.f50) (code := r01_All_c) Tryz.func50 (by kernel_rfl) (by kernel_rfl) fun l b r b' h => by
  obtain ⟨rfl, h⟩ := noBox_some h
  obtain ⟨x0, h1, h2⟩ := own1 (E := r01_All_E) rfl h
  exact ⟨FUEL, (h2 _ _ _ _ _ _).trans ((r01_All_eq _ x0 _).trans h1)⟩
noncomputable abbrev r15_Right_c : Code := Tryz.f25.body.getD .skip
def r15_Right_E : Env := tab.env (fun _ => []) (fun _ => []) [] [.str]
theorem r15_Right_t (R : Type) (kk : Nat) (m_0 : ByteArray) (K : List SV → Option Box → Option R) : evFn r15_Right_E (Tb54 R) kk Tryz.f25 r15_Right_c [.dat .str m_0 []] none K =
  r15_Right_s0 m_0 (fun a0 => K [.dat .bool a0 []] none) := by kernel_rfl
theorem r15_Right_eq (R : Type) (m_0 : ByteArray) (K : List SV → Option Box → Option R) : evFn r15_Right_E (Tb54 R) FUEL Tryz.f25 r15_Right_c [.dat .str m_0 []] none K = (r15_Right m_0).bind fun r => K [.dat .bool r []] none := by
  rw [r15_Right_t]
  simp only [r15_Right, r15_Right_s0_bind, cond_bind, within_bind, none_bind, some_bind, sum_bind, bind_bind, Sum.elim_inl, Sum.elim_inr]
def r15_Right_g : Pure := fun R l b K => noBox b (args1 .str l (fun x0 => (r15_Right x0).bind fun r => K [.dat .bool r []] none))
theorem r15_Right_n : r15_Right_g.Nat := fun R S l b F G K h => noBox_nat (args1_nat fun _ => bindr_nat fun _ => h _ _)
def Tb55 : Funs := Tb54.add 25 [.str] r15_Right_g
theorem Tb55_nat : Tb55.Nat := add_nat Tb54_nat r15_Right_n
theorem Tb55_owes : ∀ f, Owes Tryz.prog Tb55 f := add_owes (E := r15_Right_E) (Tab.env_ok tab_ok _ _ _ _) mixed Tb54_nat Tb54_owes (fn := Tryz.f25) (code := r15_Right_c) Tryz.func25 (by kernel_rfl) (by kernel_rfl) fun l b r b' h => by
  obtain ⟨rfl, h⟩ := noBox_some h
  obtain ⟨x0, h1, h2⟩ := own1 (E := r15_Right_E) rfl h
  exact ⟨FUEL, (h2 _ _ _ _ _ _).trans ((r15_Right_eq _ x0 _).trans h1)⟩
noncomputable abbrev r13_Find_c : Code := Tryz.f26.body.getD .skip
def r13_Find_E : Env := tab.env (fun i => bif Nat.beq i 2 then [1, 2, 5] else []) (fun i => bif Nat.beq i 2 then [4] else []) [] [y13, (.int .i64)]
def r13_Find_h0 (no_1 : Int) (t5 : Int) (bt2 : Zt16) : State := ⟨uS 1 ([.dat (.int .i64) no_1 []]::[.ptr 3 y13 []]::(uS 2 ([.dat (.int .i64) t5 []]::(uS 16 ([]))))), nS 3 ((some ⟨y13, bt2, []⟩)::(nS 19 ([])))⟩
def r13_Find_x0_0 (t4 : Int) : State := ⟨uS 4 ([.dat (.int .i64) t4 []]::(uS 17 ([]))), nS 23 []⟩
def r13_Find_x0_1  : State := ⟨uS 22 [], nS 23 []⟩
theorem r13_Find_t (R : Type) (kk : Nat) (s_0 : Zt16) (no_1 : Int) (K : List SV → Option Box → Option R) : evFn r13_Find_E (Tb55 R) kk Tryz.f26 r13_Find_c [.dat y13 s_0 [], .dat (.int .i64) no_1 []] none K =
  r13_Find_s0 s_0 no_1 (fun a0 a1 a2 => loopR (ev r13_Find_E (Tb55 R) kk (sub [1, 0, 1, 0, 0] r13_Find_c)) [1, 2, 5] [4] kk (r13_Find_h0 a0 a1 a2) (kBlock 0 (kSeq r13_Find_E (Tb55 R) kk (sub [1, 1] r13_Find_c) (kFin r13_Find_E Tryz.f26.results.toList none K)))) := by kernel_rfl
theorem r13_Find_d0 (R : Type) (kk k : Nat) (no_1 : Int) (t5 : Int) (bt2 : Zt16) (K : Ex → State → Option R) : loopR (ev r13_Find_E (Tb55 R) kk (sub [1, 0, 1, 0, 0] r13_Find_c)) [1, 2, 5] [4] (k + 1) (r13_Find_h0 no_1 t5 bt2) K =
  r13_Find_s1 no_1 t5 bt2 (fun a0 => K .ret (r13_Find_x0_0 a0)) (fun a0 a1 a2 => loopR (ev r13_Find_E (Tb55 R) kk (sub [1, 0, 1, 0, 0] r13_Find_c)) [1, 2, 5] [4] k (r13_Find_h0 a0 a1 a2) K) (K (.exit 0) (r13_Find_x0_1)) := by kernel_rfl
theorem r13_Find_y0_0 (R : Type) (kk : Nat) (t4 : Int) (K : List SV → Option Box → Option R) : (kBlock 0 (kSeq r13_Find_E (Tb55 R) kk (sub [1, 1] r13_Find_c) (kFin r13_Find_E Tryz.f26.results.toList none K))) .ret (r13_Find_x0_0 t4) =
  r13_Find_s2 t4 (fun a0 => K [.dat (.int .i64) a0 []] none) := by kernel_rfl
theorem r13_Find_y0_1 (R : Type) (kk : Nat)  (K : List SV → Option Box → Option R) : (kBlock 0 (kSeq r13_Find_E (Tb55 R) kk (sub [1, 1] r13_Find_c) (kFin r13_Find_E Tryz.f26.results.toList none K))) (.exit 0) (r13_Find_x0_1) =
  r13_Find_s3 (fun a0 => K [.dat (.int .i64) a0 []] none) := by kernel_rfl
theorem r13_Find_lp0 (R : Type) (k : Nat) (no_1 : Int) (t5 : Int) (bt2 : Zt16) (K : Ex → State → Option R) : loopR (ev r13_Find_E (Tb55 R) FUEL (sub [1, 0, 1, 0, 0] r13_Find_c)) [1, 2, 5] [4] k (r13_Find_h0 no_1 t5 bt2) K = (r13_Find_l0 k no_1 t5 bt2).bind fun e => (Sum.elim (fun (we : Int) => K .ret (r13_Find_x0_0 we)) (fun (we : Unit) => K (.exit 0) (r13_Find_x0_1)) e) := by
  induction k generalizing no_1 t5 bt2 with
  | zero => rfl
  | succ k ih =>
    rw [r13_Find_d0]
    simp only [r13_Find_l0, r13_Find_s0_bind, r13_Find_s1_bind, r13_Find_s2_bind, r13_Find_s3_bind, ih, cond_bind, within_bind, none_bind, some_bind, sum_bind, bind_bind, Sum.elim_inl, Sum.elim_inr]
theorem r13_Find_eq (R : Type) (s_0 : Zt16) (no_1 : Int) (K : List SV → Option Box → Option R) : evFn r13_Find_E (Tb55 R) FUEL Tryz.f26 r13_Find_c [.dat y13 s_0 [], .dat (.int .i64) no_1 []] none K = (r13_Find s_0 no_1).bind fun r => K [.dat (.int .i64) r []] none := by
  rw [r13_Find_t]
  simp only [r13_Find, r13_Find_s0_bind, r13_Find_s1_bind, r13_Find_s2_bind, r13_Find_s3_bind, r13_Find_lp0, r13_Find_y0_0, r13_Find_y0_1, cond_bind, within_bind, none_bind, some_bind, sum_bind, bind_bind, Sum.elim_inl, Sum.elim_inr]
def r13_Find_g : Pure := fun R l b K => noBox b (args2 y13 (.int .i64) l (fun x0 x1 => (r13_Find x0 x1).bind fun r => K [.dat (.int .i64) r []] none))
theorem r13_Find_n : r13_Find_g.Nat := fun R S l b F G K h => noBox_nat (args2_nat fun _ _ => bindr_nat fun _ => h _ _)
def Tb56 : Funs := Tb55.add 26 [y13, (.int .i64)] r13_Find_g
theorem Tb56_nat : Tb56.Nat := add_nat Tb55_nat r13_Find_n
theorem Tb56_owes : ∀ f, Owes Tryz.prog Tb56 f := add_owes (E := r13_Find_E) (Tab.env_ok tab_ok _ _ _ _) mixed Tb55_nat Tb55_owes (fn := Tryz.f26) (code := r13_Find_c) Tryz.func26 (by kernel_rfl) (by kernel_rfl) fun l b r b' h => by
  obtain ⟨rfl, h⟩ := noBox_some h
  obtain ⟨x0, x1, h1, h2⟩ := own2 (E := r13_Find_E) rfl h
  exact ⟨FUEL, (h2 _ _ _ _ _ _).trans ((r13_Find_eq _ x0 x1 _).trans h1)⟩
noncomputable abbrev r04_Is_c : Code := Tryz.f69.body.getD .skip
def r04_Is_E : Env := tab.env (fun _ => []) (fun _ => []) [] [(.int .i64), (.int .u8)]
theorem r04_Is_t (R : Type) (kk : Nat) (class_0 : Int) (b_1 : Int) (K : List SV → Option Box → Option R) : evFn r04_Is_E (Tb56 R) kk Tryz.f69 r04_Is_c [.dat (.int .i64) class_0 [], .dat (.int .u8) b_1 []] none K =
  r04_Is_s0 class_0 b_1 (fun a0 => K [.dat .bool a0 []] none) := by kernel_rfl
theorem r04_Is_eq (R : Type) (class_0 : Int) (b_1 : Int) (K : List SV → Option Box → Option R) : evFn r04_Is_E (Tb56 R) FUEL Tryz.f69 r04_Is_c [.dat (.int .i64) class_0 [], .dat (.int .u8) b_1 []] none K = (r04_Is class_0 b_1).bind fun r => K [.dat .bool r []] none := by
  rw [r04_Is_t]
  simp only [r04_Is, r04_Is_s0_bind, cond_bind, within_bind, none_bind, some_bind, sum_bind, bind_bind, Sum.elim_inl, Sum.elim_inr]
def r04_Is_g : Pure := fun R l b K => noBox b (args2 (.int .i64) (.int .u8) l (fun x0 x1 => (r04_Is x0 x1).bind fun r => K [.dat .bool r []] none))
theorem r04_Is_n : r04_Is_g.Nat := fun R S l b F G K h => noBox_nat (args2_nat fun _ _ => bindr_nat fun _ => h _ _)
def Tb57 : Funs := Tb56.add 69 [(.int .i64), (.int .u8)] r04_Is_g
theorem Tb57_nat : Tb57.Nat := add_nat Tb56_nat r04_Is_n
theorem Tb57_owes : ∀ f, Owes Tryz.prog Tb57 f := add_owes (E := r04_Is_E) (Tab.env_ok tab_ok _ _ _ _) mixed Tb56_nat Tb56_owes (fn := Tryz.f69) (code := r04_Is_c) Tryz.func69 (by kernel_rfl) (by kernel_rfl) fun l b r b' h => by
  obtain ⟨rfl, h⟩ := noBox_some h
  obtain ⟨x0, x1, h1, h2⟩ := own2 (E := r04_Is_E) rfl h
  exact ⟨FUEL, (h2 _ _ _ _ _ _).trans ((r04_Is_eq _ x0 x1 _).trans h1)⟩
noncomputable abbrev r04_First_c : Code := Tryz.f52.body.getD .skip
def r04_First_E : Env := tab.env (fun i => bif Nat.beq i 2 then [0, 1, 5] else []) (fun i => bif Nat.beq i 2 then [4] else []) [] [(.int .i64), .str]
def r04_First_h0 (class_0 : Int) (s_1 : ByteArray) (t5 : Int) : State := ⟨[.dat (.int .i64) class_0 []]::[.dat .str s_1 []]::(uS 3 ([.dat (.int .i64) t5 []]::(uS 13 ([])))), nS 20 []⟩
def r04_First_x0_0 (t4 : Int) : State := ⟨uS 4 ([.dat (.int .i64) t4 []]::(uS 14 ([]))), nS 20 []⟩
def r04_First_x0_1  : State := ⟨uS 19 [], nS 20 []⟩
theorem r04_First_t (R : Type) (kk : Nat) (class_0 : Int) (s_1 : ByteArray) (K : List SV → Option Box → Option R) : evFn r04_First_E (Tb57 R) kk Tryz.f52 r04_First_c [.dat (.int .i64) class_0 [], .dat .str s_1 []] none K =
  r04_First_s0 class_0 s_1 (fun a0 a1 a2 => loopR (ev r04_First_E (Tb57 R) kk (sub [1, 0, 1, 0, 0] r04_First_c)) [0, 1, 5] [4] kk (r04_First_h0 a0 a1 a2) (kBlock 0 (kSeq r04_First_E (Tb57 R) kk (sub [1, 1] r04_First_c) (kFin r04_First_E Tryz.f52.results.toList none K)))) := by kernel_rfl
theorem r04_First_d0 (R : Type) (kk k : Nat) (class_0 : Int) (s_1 : ByteArray) (t5 : Int) (K : Ex → State → Option R) : loopR (ev r04_First_E (Tb57 R) kk (sub [1, 0, 1, 0, 0] r04_First_c)) [0, 1, 5] [4] (k + 1) (r04_First_h0 class_0 s_1 t5) K =
  r04_First_s1 class_0 s_1 t5 (fun a0 => K .ret (r04_First_x0_0 a0)) (fun a0 a1 a2 => loopR (ev r04_First_E (Tb57 R) kk (sub [1, 0, 1, 0, 0] r04_First_c)) [0, 1, 5] [4] k (r04_First_h0 a0 a1 a2) K) (K (.exit 0) (r04_First_x0_1)) := by kernel_rfl
theorem r04_First_y0_0 (R : Type) (kk : Nat) (t4 : Int) (K : List SV → Option Box → Option R) : (kBlock 0 (kSeq r04_First_E (Tb57 R) kk (sub [1, 1] r04_First_c) (kFin r04_First_E Tryz.f52.results.toList none K))) .ret (r04_First_x0_0 t4) =
  r04_First_s2 t4 (fun a0 => K [.dat (.int .i64) a0 []] none) := by kernel_rfl
theorem r04_First_y0_1 (R : Type) (kk : Nat)  (K : List SV → Option Box → Option R) : (kBlock 0 (kSeq r04_First_E (Tb57 R) kk (sub [1, 1] r04_First_c) (kFin r04_First_E Tryz.f52.results.toList none K))) (.exit 0) (r04_First_x0_1) =
  r04_First_s3 (fun a0 => K [.dat (.int .i64) a0 []] none) := by kernel_rfl
theorem r04_First_lp0 (R : Type) (k : Nat) (class_0 : Int) (s_1 : ByteArray) (t5 : Int) (K : Ex → State → Option R) : loopR (ev r04_First_E (Tb57 R) FUEL (sub [1, 0, 1, 0, 0] r04_First_c)) [0, 1, 5] [4] k (r04_First_h0 class_0 s_1 t5) K = (r04_First_l0 k class_0 s_1 t5).bind fun e => (Sum.elim (fun (we : Int) => K .ret (r04_First_x0_0 we)) (fun (we : Unit) => K (.exit 0) (r04_First_x0_1)) e) := by
  induction k generalizing class_0 s_1 t5 with
  | zero => rfl
  | succ k ih =>
    rw [r04_First_d0]
    simp only [r04_First_l0, r04_First_s0_bind, r04_First_s1_bind, r04_First_s2_bind, r04_First_s3_bind, ih, cond_bind, within_bind, none_bind, some_bind, sum_bind, bind_bind, Sum.elim_inl, Sum.elim_inr]
theorem r04_First_eq (R : Type) (class_0 : Int) (s_1 : ByteArray) (K : List SV → Option Box → Option R) : evFn r04_First_E (Tb57 R) FUEL Tryz.f52 r04_First_c [.dat (.int .i64) class_0 [], .dat .str s_1 []] none K = (r04_First class_0 s_1).bind fun r => K [.dat (.int .i64) r []] none := by
  rw [r04_First_t]
  simp only [r04_First, r04_First_s0_bind, r04_First_s1_bind, r04_First_s2_bind, r04_First_s3_bind, r04_First_lp0, r04_First_y0_0, r04_First_y0_1, cond_bind, within_bind, none_bind, some_bind, sum_bind, bind_bind, Sum.elim_inl, Sum.elim_inr]
def r04_First_g : Pure := fun R l b K => noBox b (args2 (.int .i64) .str l (fun x0 x1 => (r04_First x0 x1).bind fun r => K [.dat (.int .i64) r []] none))
theorem r04_First_n : r04_First_g.Nat := fun R S l b F G K h => noBox_nat (args2_nat fun _ _ => bindr_nat fun _ => h _ _)
def Tb58 : Funs := Tb57.add 52 [(.int .i64), .str] r04_First_g
theorem Tb58_nat : Tb58.Nat := add_nat Tb57_nat r04_First_n
theorem Tb58_owes : ∀ f, Owes Tryz.prog Tb58 f := add_owes (E := r04_First_E) (Tab.env_ok tab_ok _ _ _ _) mixed Tb57_nat Tb57_owes (fn := Tryz.f52) (code := r04_First_c) Tryz.func52 (by kernel_rfl) (by kernel_rfl) fun l b r b' h => by
  obtain ⟨rfl, h⟩ := noBox_some h
  obtain ⟨x0, x1, h1, h2⟩ := own2 (E := r04_First_E) rfl h
  exact ⟨FUEL, (h2 _ _ _ _ _ _).trans ((r04_First_eq _ x0 x1 _).trans h1)⟩
noncomputable abbrev r08_First_c : Code := Tryz.f82.body.getD .skip
def r08_First_E : Env := tab.env (fun _ => []) (fun _ => []) [] [(.int .u8)]
theorem r08_First_t (R : Type) (kk : Nat) (b_0 : Int) (K : List SV → Option Box → Option R) : evFn r08_First_E (Tb58 R) kk Tryz.f82 r08_First_c [.dat (.int .u8) b_0 []] none K =
  r08_First_s0 b_0 (fun a0 => K [.dat (.int .i64) a0 []] none) := by kernel_rfl
theorem r08_First_eq (R : Type) (b_0 : Int) (K : List SV → Option Box → Option R) : evFn r08_First_E (Tb58 R) FUEL Tryz.f82 r08_First_c [.dat (.int .u8) b_0 []] none K = (r08_First b_0).bind fun r => K [.dat (.int .i64) r []] none := by
  rw [r08_First_t]
  simp only [r08_First, r08_First_s0_bind, cond_bind, within_bind, none_bind, some_bind, sum_bind, bind_bind, Sum.elim_inl, Sum.elim_inr]
def r08_First_g : Pure := fun R l b K => noBox b (args1 (.int .u8) l (fun x0 => (r08_First x0).bind fun r => K [.dat (.int .i64) r []] none))
theorem r08_First_n : r08_First_g.Nat := fun R S l b F G K h => noBox_nat (args1_nat fun _ => bindr_nat fun _ => h _ _)
def Tb59 : Funs := Tb58.add 82 [(.int .u8)] r08_First_g
theorem Tb59_nat : Tb59.Nat := add_nat Tb58_nat r08_First_n
theorem Tb59_owes : ∀ f, Owes Tryz.prog Tb59 f := add_owes (E := r08_First_E) (Tab.env_ok tab_ok _ _ _ _) mixed Tb58_nat Tb58_owes (fn := Tryz.f82) (code := r08_First_c) Tryz.func82 (by kernel_rfl) (by kernel_rfl) fun l b r b' h => by
  obtain ⟨rfl, h⟩ := noBox_some h
  obtain ⟨x0, h1, h2⟩ := own1 (E := r08_First_E) rfl h
  exact ⟨FUEL, (h2 _ _ _ _ _ _).trans ((r08_First_eq _ x0 _).trans h1)⟩
noncomputable abbrev r08_Get_c : Code := Tryz.f70.body.getD .skip
def r08_Get_E : Env := tab.env (fun _ => []) (fun _ => []) [] [.str, (.int .i64)]
theorem r08_Get_t (R : Type) (kk : Nat) (b_0 : ByteArray) (at_1 : Int) (K : List SV → Option Box → Option R) : evFn r08_Get_E (Tb59 R) kk Tryz.f70 r08_Get_c [.dat .str b_0 [], .dat (.int .i64) at_1 []] none K =
  r08_Get_s0 b_0 at_1 (fun a0 a1 a2 => K [.dat (.int .i64) a0 [], .dat (.int .i64) a1 [], .dat (.int .i64) a2 []] none) := by kernel_rfl
theorem r08_Get_eq (R : Type) (b_0 : ByteArray) (at_1 : Int) (K : List SV → Option Box → Option R) : evFn r08_Get_E (Tb59 R) FUEL Tryz.f70 r08_Get_c [.dat .str b_0 [], .dat (.int .i64) at_1 []] none K = (r08_Get b_0 at_1).bind fun r => K [.dat (.int .i64) r.1 [], .dat (.int .i64) r.2.1 [], .dat (.int .i64) r.2.2 []] none := by
  rw [r08_Get_t]
  simp only [r08_Get, r08_Get_s0_bind, cond_bind, within_bind, none_bind, some_bind, sum_bind, bind_bind, Sum.elim_inl, Sum.elim_inr]
def r08_Get_g : Pure := fun R l b K => noBox b (args2 .str (.int .i64) l (fun x0 x1 => (r08_Get x0 x1).bind fun r => K [.dat (.int .i64) r.1 [], .dat (.int .i64) r.2.1 [], .dat (.int .i64) r.2.2 []] none))
theorem r08_Get_n : r08_Get_g.Nat := fun R S l b F G K h => noBox_nat (args2_nat fun _ _ => bindr_nat fun _ => h _ _)
def Tb60 : Funs := Tb59.add 70 [.str, (.int .i64)] r08_Get_g
theorem Tb60_nat : Tb60.Nat := add_nat Tb59_nat r08_Get_n
theorem Tb60_owes : ∀ f, Owes Tryz.prog Tb60 f := add_owes (E := r08_Get_E) (Tab.env_ok tab_ok _ _ _ _) mixed Tb59_nat Tb59_owes (fn := Tryz.f70) (code := r08_Get_c) Tryz.func70 (by kernel_rfl) (by kernel_rfl) fun l b r b' h => by
  obtain ⟨rfl, h⟩ := noBox_some h
  obtain ⟨x0, x1, h1, h2⟩ := own2 (E := r08_Get_E) rfl h
  exact ⟨FUEL, (h2 _ _ _ _ _ _).trans ((r08_Get_eq _ x0 x1 _).trans h1)⟩
noncomputable abbrev r09_Get_c : Code := Tryz.f71.body.getD .skip
def r09_Get_E : Env := tab.env (fun _ => []) (fun _ => []) [] [.str, (.int .i64)]
theorem r09_Get_t (R : Type) (kk : Nat) (b_0 : ByteArray) (at_1 : Int) (K : List SV → Option Box → Option R) : evFn r09_Get_E (Tb60 R) kk Tryz.f71 r09_Get_c [.dat .str b_0 [], .dat (.int .i64) at_1 []] none K =
  r09_Get_s0 b_0 at_1 (fun a0 a1 a2 => K [.dat (.int .i64) a0 [], .dat (.int .i64) a1 [], .dat (.int .i64) a2 []] none) := by kernel_rfl
theorem r09_Get_eq (R : Type) (b_0 : ByteArray) (at_1 : Int) (K : List SV → Option Box → Option R) : evFn r09_Get_E (Tb60 R) FUEL Tryz.f71 r09_Get_c [.dat .str b_0 [], .dat (.int .i64) at_1 []] none K = (r09_Get b_0 at_1).bind fun r => K [.dat (.int .i64) r.1 [], .dat (.int .i64) r.2.1 [], .dat (.int .i64) r.2.2 []] none := by
  rw [r09_Get_t]
  simp only [r09_Get, r09_Get_s0_bind, cond_bind, within_bind, none_bind, some_bind, sum_bind, bind_bind, Sum.elim_inl, Sum.elim_inr]
def r09_Get_g : Pure := fun R l b K => noBox b (args2 .str (.int .i64) l (fun x0 x1 => (r09_Get x0 x1).bind fun r => K [.dat (.int .i64) r.1 [], .dat (.int .i64) r.2.1 [], .dat (.int .i64) r.2.2 []] none))
theorem r09_Get_n : r09_Get_g.Nat := fun R S l b F G K h => noBox_nat (args2_nat fun _ _ => bindr_nat fun _ => h _ _)
def Tb61 : Funs := Tb60.add 71 [.str, (.int .i64)] r09_Get_g
theorem Tb61_nat : Tb61.Nat := add_nat Tb60_nat r09_Get_n
theorem Tb61_owes : ∀ f, Owes Tryz.prog Tb61 f := add_owes (E := r09_Get_E) (Tab.env_ok tab_ok _ _ _ _) mixed Tb60_nat Tb60_owes (fn := Tryz.f71) (code := r09_Get_c) Tryz.func71 (by kernel_rfl) (by kernel_rfl) fun l b r b' h => by
  obtain ⟨rfl, h⟩ := noBox_some h
  obtain ⟨x0, x1, h1, h2⟩ := own2 (E := r09_Get_E) rfl h
  exact ⟨FUEL, (h2 _ _ _ _ _ _).trans ((r09_Get_eq _ x0 x1 _).trans h1)⟩
noncomputable abbrev r10_has_c : Code := Tryz.f72.body.getD .skip
def r10_has_E : Env := tab.env (fun i => bif Nat.beq i 2 then [0, 1, 2, 7] else []) (fun i => bif Nat.beq i 2 then [6] else []) [] [(.sl 128 (.pair (.int .i64) (.pair .str .unit))), (.int .i64), (.int .i64)]
def r10_has_h0 (l_0 : Zt9) (n_1 : Int) (tag_2 : Int) (t7 : Int) : State := ⟨[.dat (.sl 128 (.pair (.int .i64) (.pair .str .unit))) l_0 []]::[.dat (.int .i64) n_1 []]::[.dat (.int .i64) tag_2 []]::(uS 4 ([.dat (.int .i64) t7 []]::(uS 12 ([])))), nS 21 []⟩
def r10_has_x0_0 (t6 : Bool) : State := ⟨uS 6 ([.dat .bool t6 []]::(uS 13 ([]))), nS 21 []⟩
def r10_has_x0_1  : State := ⟨uS 20 [], nS 21 []⟩
theorem r10_has_t (R : Type) (kk : Nat) (l_0 : Zt9) (n_1 : Int) (tag_2 : Int) (K : List SV → Option Box → Option R) : evFn r10_has_E (Tb61 R) kk Tryz.f72 r10_has_c [.dat (.sl 128 (.pair (.int .i64) (.pair .str .unit))) l_0 [], .dat (.int .i64) n_1 [], .dat (.int .i64) tag_2 []] none K =
  r10_has_s0 l_0 n_1 tag_2 (fun a0 a1 a2 a3 => loopR (ev r10_has_E (Tb61 R) kk (sub [1, 0, 1, 0, 0] r10_has_c)) [0, 1, 2, 7] [6] kk (r10_has_h0 a0 a1 a2 a3) (kBlock 0 (kSeq r10_has_E (Tb61 R) kk (sub [1, 1] r10_has_c) (kFin r10_has_E Tryz.f72.results.toList none K)))) := by kernel_rfl
theorem r10_has_d0 (R : Type) (kk k : Nat) (l_0 : Zt9) (n_1 : Int) (tag_2 : Int) (t7 : Int) (K : Ex → State → Option R) : loopR (ev r10_has_E (Tb61 R) kk (sub [1, 0, 1, 0, 0] r10_has_c)) [0, 1, 2, 7] [6] (k + 1) (r10_has_h0 l_0 n_1 tag_2 t7) K =
  r10_has_s1 l_0 n_1 tag_2 t7 (fun a0 => K .ret (r10_has_x0_0 a0)) (fun a0 a1 a2 a3 => loopR (ev r10_has_E (Tb61 R) kk (sub [1, 0, 1, 0, 0] r10_has_c)) [0, 1, 2, 7] [6] k (r10_has_h0 a0 a1 a2 a3) K) (K (.exit 0) (r10_has_x0_1)) := by kernel_rfl
theorem r10_has_y0_0 (R : Type) (kk : Nat) (t6 : Bool) (K : List SV → Option Box → Option R) : (kBlock 0 (kSeq r10_has_E (Tb61 R) kk (sub [1, 1] r10_has_c) (kFin r10_has_E Tryz.f72.results.toList none K))) .ret (r10_has_x0_0 t6) =
  r10_has_s2 t6 (fun a0 => K [.dat .bool a0 []] none) := by kernel_rfl
theorem r10_has_y0_1 (R : Type) (kk : Nat)  (K : List SV → Option Box → Option R) : (kBlock 0 (kSeq r10_has_E (Tb61 R) kk (sub [1, 1] r10_has_c) (kFin r10_has_E Tryz.f72.results.toList none K))) (.exit 0) (r10_has_x0_1) =
  r10_has_s3 (fun a0 => K [.dat .bool a0 []] none) := by kernel_rfl
theorem r10_has_lp0 (R : Type) (k : Nat) (l_0 : Zt9) (n_1 : Int) (tag_2 : Int) (t7 : Int) (K : Ex → State → Option R) : loopR (ev r10_has_E (Tb61 R) FUEL (sub [1, 0, 1, 0, 0] r10_has_c)) [0, 1, 2, 7] [6] k (r10_has_h0 l_0 n_1 tag_2 t7) K = (r10_has_l0 k l_0 n_1 tag_2 t7).bind fun e => (Sum.elim (fun (we : Bool) => K .ret (r10_has_x0_0 we)) (fun (we : Unit) => K (.exit 0) (r10_has_x0_1)) e) := by
  induction k generalizing l_0 n_1 tag_2 t7 with
  | zero => rfl
  | succ k ih =>
    rw [r10_has_d0]
    simp only [r10_has_l0, r10_has_s0_bind, r10_has_s1_bind, r10_has_s2_bind, r10_has_s3_bind, ih, cond_bind, within_bind, none_bind, some_bind, sum_bind, bind_bind, Sum.elim_inl, Sum.elim_inr]
theorem r10_has_eq (R : Type) (l_0 : Zt9) (n_1 : Int) (tag_2 : Int) (K : List SV → Option Box → Option R) : evFn r10_has_E (Tb61 R) FUEL Tryz.f72 r10_has_c [.dat (.sl 128 (.pair (.int .i64) (.pair .str .unit))) l_0 [], .dat (.int .i64) n_1 [], .dat (.int .i64) tag_2 []] none K = (r10_has l_0 n_1 tag_2).bind fun r => K [.dat .bool r []] none := by
  rw [r10_has_t]
  simp only [r10_has, r10_has_s0_bind, r10_has_s1_bind, r10_has_s2_bind, r10_has_s3_bind, r10_has_lp0, r10_has_y0_0, r10_has_y0_1, cond_bind, within_bind, none_bind, some_bind, sum_bind, bind_bind, Sum.elim_inl, Sum.elim_inr]
def r10_has_g : Pure := fun R l b K => noBox b (args3 (.sl 128 (.pair (.int .i64) (.pair .str .unit))) (.int .i64) (.int .i64) l (fun x0 x1 x2 => (r10_has x0 x1 x2).bind fun r => K [.dat .bool r []] none))
theorem r10_has_n : r10_has_g.Nat := fun R S l b F G K h => noBox_nat (args3_nat fun _ _ _ => bindr_nat fun _ => h _ _)
def Tb62 : Funs := Tb61.add 72 [(.sl 128 (.pair (.int .i64) (.pair .str .unit))), (.int .i64), (.int .i64)] r10_has_g
theorem Tb62_nat : Tb62.Nat := add_nat Tb61_nat r10_has_n
theorem Tb62_owes : ∀ f, Owes Tryz.prog Tb62 f := add_owes (E := r10_has_E) (Tab.env_ok tab_ok _ _ _ _) mixed Tb61_nat Tb61_owes (fn := Tryz.f72) (code := r10_has_c) Tryz.func72 (by kernel_rfl) (by kernel_rfl) fun l b r b' h => by
  obtain ⟨rfl, h⟩ := noBox_some h
  obtain ⟨x0, x1, x2, h1, h2⟩ := own3 (E := r10_has_E) rfl h
  exact ⟨FUEL, (h2 _ _ _ _ _ _).trans ((r10_has_eq _ x0 x1 x2 _).trans h1)⟩
noncomputable abbrev r10_Get_c : Code := Tryz.f53.body.getD .skip
def r10_Get_E : Env := tab.env (fun i => bif Nat.beq i 3 then [0, 5, 6] else []) (fun i => bif Nat.beq i 3 then [2, 3, 4, 5] else []) [] [.str]
def r10_Get_h0 (b_0 : ByteArray) (t5 : Zt9) (t6 : Int) : State := ⟨[.dat .str b_0 []]::(uS 4 ([.dat (.sl 128 (.pair (.int .i64) (.pair .str .unit))) t5 [[]]]::[.dat (.int .i64) t6 []]::(uS 61 ([])))), nS 69 []⟩
def r10_Get_x0_0 (t2 : Zt9) (t3 : Int) (t4 : Int) (t5 : Zt9) : State := ⟨uS 2 ([.dat (.sl 128 (.pair (.int .i64) (.pair .str .unit))) t2 [[]]]::[.dat (.int .i64) t3 []]::[.dat (.int .i64) t4 []]::[.dat (.sl 128 (.pair (.int .i64) (.pair .str .unit))) t5 [[]]]::(uS 62 ([]))), nS 69 []⟩
def r10_Get_x0_1 (t5 : Zt9) : State := ⟨uS 5 ([.dat (.sl 128 (.pair (.int .i64) (.pair .str .unit))) t5 [[]]]::(uS 62 ([]))), nS 69 []⟩
theorem r10_Get_t (R : Type) (kk : Nat) (b_0 : ByteArray) (K : List SV → Option Box → Option R) : evFn r10_Get_E (Tb62 R) kk Tryz.f53 r10_Get_c [.dat .str b_0 []] none K =
  r10_Get_s0 b_0 (fun a0 a1 a2 => loopR (ev r10_Get_E (Tb62 R) kk (sub [1, 1, 1, 0, 0, 0] r10_Get_c)) [0, 5, 6] [2, 3, 4, 5] kk (r10_Get_h0 a0 a1 a2) (kBlock 0 (kSeq r10_Get_E (Tb62 R) kk (sub [1, 1, 1, 1] r10_Get_c) (kFin r10_Get_E Tryz.f53.results.toList none K)))) := by kernel_rfl
theorem r10_Get_d0 (R : Type) (kk k : Nat) (b_0 : ByteArray) (t5 : Zt9) (t6 : Int) (K : Ex → State → Option R) : loopR (ev r10_Get_E (Tb62 R) kk (sub [1, 1, 1, 0, 0, 0] r10_Get_c)) [0, 5, 6] [2, 3, 4, 5] (k + 1) (r10_Get_h0 b_0 t5 t6) K =
  r10_Get_s1 b_0 t5 t6 (fun a0 a1 a2 a3 => K .ret (r10_Get_x0_0 a0 a1 a2 a3)) (fun a0 a1 a2 => loopR (ev r10_Get_E (Tb62 R) kk (sub [1, 1, 1, 0, 0, 0] r10_Get_c)) [0, 5, 6] [2, 3, 4, 5] k (r10_Get_h0 a0 a1 a2) K) (fun a0 => K (.exit 0) (r10_Get_x0_1 a0)) := by kernel_rfl
theorem r10_Get_y0_0 (R : Type) (kk : Nat) (t2 : Zt9) (t3 : Int) (t4 : Int) (t5 : Zt9) (K : List SV → Option Box → Option R) : (kBlock 0 (kSeq r10_Get_E (Tb62 R) kk (sub [1, 1, 1, 1] r10_Get_c) (kFin r10_Get_E Tryz.f53.results.toList none K))) .ret (r10_Get_x0_0 t2 t3 t4 t5) =
  r10_Get_s2 t2 t3 t4 t5 (fun a0 a1 a2 => K [.dat (.sl 128 (.pair (.int .i64) (.pair .str .unit))) a0 [[]], .dat (.int .i64) a1 [], .dat (.int .i64) a2 []] none) := by kernel_rfl
theorem r10_Get_y0_1 (R : Type) (kk : Nat) (t5 : Zt9) (K : List SV → Option Box → Option R) : (kBlock 0 (kSeq r10_Get_E (Tb62 R) kk (sub [1, 1, 1, 1] r10_Get_c) (kFin r10_Get_E Tryz.f53.results.toList none K))) (.exit 0) (r10_Get_x0_1 t5) =
  r10_Get_s3 t5 (fun a0 a1 a2 => K [.dat (.sl 128 (.pair (.int .i64) (.pair .str .unit))) a0 [], .dat (.int .i64) a1 [], .dat (.int .i64) a2 []] none) := by kernel_rfl
theorem r10_Get_lp0 (R : Type) (k : Nat) (b_0 : ByteArray) (t5 : Zt9) (t6 : Int) (K : Ex → State → Option R) : loopR (ev r10_Get_E (Tb62 R) FUEL (sub [1, 1, 1, 0, 0, 0] r10_Get_c)) [0, 5, 6] [2, 3, 4, 5] k (r10_Get_h0 b_0 t5 t6) K = (r10_Get_l0 k b_0 t5 t6).bind fun e => (Sum.elim (fun (we : Zt19) => K .ret (r10_Get_x0_0 we.1 we.2.1 we.2.2.1 we.2.2.2)) (fun (we : Zt9) => K (.exit 0) (r10_Get_x0_1 we)) e) := by
  induction k generalizing b_0 t5 t6 with
  | zero => rfl
  | succ k ih =>
    rw [r10_Get_d0]
    simp only [r10_Get_l0, r10_Get_s0_bind, r10_Get_s1_bind, r10_Get_s2_bind, r10_Get_s3_bind, ih, cond_bind, within_bind, none_bind, some_bind, sum_bind, bind_bind, Sum.elim_inl, Sum.elim_inr]
theorem r10_Get_eq (R : Type) (b_0 : ByteArray) (K : List SV → Option Box → Option R) : evFn r10_Get_E (Tb62 R) FUEL Tryz.f53 r10_Get_c [.dat .str b_0 []] none K = (r10_Get b_0).bind fun r => (Sum.elim (fun (wr : Zt14) => K [.dat (.sl 128 (.pair (.int .i64) (.pair .str .unit))) wr.1 [[]], .dat (.int .i64) wr.2.1 [], .dat (.int .i64) wr.2.2 []] none) (fun (wr : Zt14) => K [.dat (.sl 128 (.pair (.int .i64) (.pair .str .unit))) wr.1 [], .dat (.int .i64) wr.2.1 [], .dat (.int .i64) wr.2.2 []] none) r) := by
  rw [r10_Get_t]
  simp only [r10_Get, r10_Get_s0_bind, r10_Get_s1_bind, r10_Get_s2_bind, r10_Get_s3_bind, r10_Get_lp0, r10_Get_y0_0, r10_Get_y0_1, cond_bind, within_bind, none_bind, some_bind, sum_bind, bind_bind, Sum.elim_inl, Sum.elim_inr]
def r10_Get_g : Pure := fun R l b K => noBox b (args1 .str l (fun x0 => (r10_Get x0).bind fun r => (Sum.elim (fun (wr : Zt14) => K [.dat (.sl 128 (.pair (.int .i64) (.pair .str .unit))) wr.1 [[]], .dat (.int .i64) wr.2.1 [], .dat (.int .i64) wr.2.2 []] none) (fun (wr : Zt14) => K [.dat (.sl 128 (.pair (.int .i64) (.pair .str .unit))) wr.1 [], .dat (.int .i64) wr.2.1 [], .dat (.int .i64) wr.2.2 []] none) r)))
theorem r10_Get_n : r10_Get_g.Nat := fun R S l b F G K h => noBox_nat (args1_nat fun _ => bindr_nat fun _ => sum_nat (fun _ => h _ _) (fun _ => h _ _))
def Tb63 : Funs := Tb62.add 53 [.str] r10_Get_g
theorem Tb63_nat : Tb63.Nat := add_nat Tb62_nat r10_Get_n
theorem Tb63_owes : ∀ f, Owes Tryz.prog Tb63 f := add_owes (E := r10_Get_E) (Tab.env_ok tab_ok _ _ _ _) mixed Tb62_nat Tb62_owes (fn := Tryz.f53) (code := r10_Get_c) Tryz.func53 (by kernel_rfl) (by kernel_rfl) fun l b r b' h => by
  obtain ⟨rfl, h⟩ := noBox_some h
  obtain ⟨x0, h1, h2⟩ := own1 (E := r10_Get_E) rfl h
  exact ⟨FUEL, (h2 _ _ _ _ _ _).trans ((r10_Get_eq _ x0 _).trans h1)⟩
noncomputable abbrev r11_Value_c : Code := Tryz.f27.body.getD .skip
def r11_Value_E : Env := tab.env (fun _ => []) (fun _ => []) [] [y7, .str]
theorem r11_Value_t (R : Type) (kk : Nat) (s_0 : Zt11) (text_1 : ByteArray) (K : List SV → Option Box → Option R) : evFn r11_Value_E (Tb63 R) kk Tryz.f27 r11_Value_c [.dat y7 s_0 [], .dat .str text_1 []] none K =
  r11_Value_s0 s_0 text_1 (fun a0 => K [.dat (.int .i64) a0 []] none) := by kernel_rfl
theorem r11_Value_eq (R : Type) (s_0 : Zt11) (text_1 : ByteArray) (K : List SV → Option Box → Option R) : evFn r11_Value_E (Tb63 R) FUEL Tryz.f27 r11_Value_c [.dat y7 s_0 [], .dat .str text_1 []] none K = (r11_Value s_0 text_1).bind fun r => K [.dat (.int .i64) r []] none := by
  rw [r11_Value_t]
  simp only [r11_Value, r11_Value_s0_bind, cond_bind, within_bind, none_bind, some_bind, sum_bind, bind_bind, Sum.elim_inl, Sum.elim_inr]
def r11_Value_g : Pure := fun R l b K => noBox b (args2 y7 .str l (fun x0 x1 => (r11_Value x0 x1).bind fun r => K [.dat (.int .i64) r []] none))
theorem r11_Value_n : r11_Value_g.Nat := fun R S l b F G K h => noBox_nat (args2_nat fun _ _ => bindr_nat fun _ => h _ _)
def Tb64 : Funs := Tb63.add 27 [y7, .str] r11_Value_g
theorem Tb64_nat : Tb64.Nat := add_nat Tb63_nat r11_Value_n
theorem Tb64_owes : ∀ f, Owes Tryz.prog Tb64 f := add_owes (E := r11_Value_E) (Tab.env_ok tab_ok _ _ _ _) mixed Tb63_nat Tb63_owes (fn := Tryz.f27) (code := r11_Value_c) Tryz.func27 (by kernel_rfl) (by kernel_rfl) fun l b r b' h => by
  obtain ⟨rfl, h⟩ := noBox_some h
  obtain ⟨x0, x1, h1, h2⟩ := own2 (E := r11_Value_E) rfl h
  exact ⟨FUEL, (h2 _ _ _ _ _ _).trans ((r11_Value_eq _ x0 x1 _).trans h1)⟩
noncomputable abbrev r16_Check_c : Code := Tryz.f9.body.getD .skip
def r16_Check_E : Env := tab.env (fun i => bif Nat.beq i 7 then [2, 3, 4, 5, 6] else []) (fun i => bif Nat.beq i 7 then [4] else []) [4] [y13, y4]
def r16_Check_h0 (t5 : Int) (t6 : Int) (bt2 : Zt16) (bt3 : Zt15) (bt4 : Zt4) : State := ⟨uS 2 ([.ptr 3 y13 []]::[.ptr 4 y4 []]::[.ptr 5 (.pair (.int .i64) (.pair (.int .i64) .unit)) []]::[.dat (.int .i64) t5 []]::[.dat (.int .i64) t6 []]::(uS 66 ([]))), nS 3 ((some ⟨y13, bt2, []⟩)::(some ⟨y4, bt3, []⟩)::(some ⟨(.pair (.int .i64) (.pair (.int .i64) .unit)), bt4, []⟩)::(nS 68 ([])))⟩
def r16_Check_x0_0 (bt4 : Zt4) : State := ⟨uS 4 ([.ptr 5 (.pair (.int .i64) (.pair (.int .i64) .unit)) []]::(uS 68 ([]))), nS 5 ((some ⟨(.pair (.int .i64) (.pair (.int .i64) .unit)), bt4, []⟩)::(nS 68 ([])))⟩
def r16_Check_x0_1 (bt4 : Zt4) : State := ⟨uS 4 ([.ptr 5 (.pair (.int .i64) (.pair (.int .i64) .unit)) []]::(uS 68 ([]))), nS 5 ((some ⟨(.pair (.int .i64) (.pair (.int .i64) .unit)), bt4, []⟩)::(nS 68 ([])))⟩
theorem r16_Check_t (R : Type) (kk : Nat) (s_0 : Zt16) (m_1 : Zt15) (K : List SV → Option Box → Option R) : evFn r16_Check_E (Tb64 R) kk Tryz.f9 r16_Check_c [.dat y13 s_0 [], .dat y4 m_1 []] none K =
  r16_Check_s0 s_0 m_1 (fun a0 => K [.dat (.pair (.int .i64) (.pair (.int .i64) .unit)) a0 []] none) (fun a0 a1 a2 a3 a4 => loopR (ev r16_Check_E (Tb64 R) kk (sub [1, 1, 1, 1, 0, 1, 0, 0] r16_Check_c)) [2, 3, 4, 5, 6] [4] kk (r16_Check_h0 a0 a1 a2 a3 a4) (kBlock 0 (kSeq r16_Check_E (Tb64 R) kk (sub [1, 1, 1, 1, 1] r16_Check_c) (kFin r16_Check_E Tryz.f9.results.toList none K)))) := by kernel_rfl
theorem r16_Check_d0 (R : Type) (kk k : Nat) (t5 : Int) (t6 : Int) (bt2 : Zt16) (bt3 : Zt15) (bt4 : Zt4) (K : Ex → State → Option R) : loopR (ev r16_Check_E (Tb64 R) kk (sub [1, 1, 1, 1, 0, 1, 0, 0] r16_Check_c)) [2, 3, 4, 5, 6] [4] (k + 1) (r16_Check_h0 t5 t6 bt2 bt3 bt4) K =
  r16_Check_s1 t5 t6 bt2 bt3 bt4 (fun a0 => K .ret (r16_Check_x0_0 a0)) (fun a0 a1 a2 a3 a4 => loopR (ev r16_Check_E (Tb64 R) kk (sub [1, 1, 1, 1, 0, 1, 0, 0] r16_Check_c)) [2, 3, 4, 5, 6] [4] k (r16_Check_h0 a0 a1 a2 a3 a4) K) (fun a0 => K (.exit 0) (r16_Check_x0_1 a0)) := by kernel_rfl
theorem r16_Check_y0_0 (R : Type) (kk : Nat) (bt4 : Zt4) (K : List SV → Option Box → Option R) : (kBlock 0 (kSeq r16_Check_E (Tb64 R) kk (sub [1, 1, 1, 1, 1] r16_Check_c) (kFin r16_Check_E Tryz.f9.results.toList none K))) .ret (r16_Check_x0_0 bt4) =
  r16_Check_s2 bt4 (fun a0 => K [.dat (.pair (.int .i64) (.pair (.int .i64) .unit)) a0 []] none) := by kernel_rfl
theorem r16_Check_y0_1 (R : Type) (kk : Nat) (bt4 : Zt4) (K : List SV → Option Box → Option R) : (kBlock 0 (kSeq r16_Check_E (Tb64 R) kk (sub [1, 1, 1, 1, 1] r16_Check_c) (kFin r16_Check_E Tryz.f9.results.toList none K))) (.exit 0) (r16_Check_x0_1 bt4) =
  r16_Check_s3 bt4 (fun a0 => K [.dat (.pair (.int .i64) (.pair (.int .i64) .unit)) a0 []] none) := by kernel_rfl
theorem r16_Check_lp0 (R : Type) (k : Nat) (t5 : Int) (t6 : Int) (bt2 : Zt16) (bt3 : Zt15) (bt4 : Zt4) (K : Ex → State → Option R) : loopR (ev r16_Check_E (Tb64 R) FUEL (sub [1, 1, 1, 1, 0, 1, 0, 0] r16_Check_c)) [2, 3, 4, 5, 6] [4] k (r16_Check_h0 t5 t6 bt2 bt3 bt4) K = (r16_Check_l0 k t5 t6 bt2 bt3 bt4).bind fun e => (Sum.elim (fun (we : Zt4) => K .ret (r16_Check_x0_0 we)) (fun (we : Zt4) => K (.exit 0) (r16_Check_x0_1 we)) e) := by
  induction k generalizing t5 t6 bt2 bt3 bt4 with
  | zero => rfl
  | succ k ih =>
    rw [r16_Check_d0]
    simp only [r16_Check_l0, r16_Check_s0_bind, r16_Check_s1_bind, r16_Check_s2_bind, r16_Check_s3_bind, ih, cond_bind, within_bind, none_bind, some_bind, sum_bind, bind_bind, Sum.elim_inl, Sum.elim_inr]
theorem r16_Check_eq (R : Type) (s_0 : Zt16) (m_1 : Zt15) (K : List SV → Option Box → Option R) : evFn r16_Check_E (Tb64 R) FUEL Tryz.f9 r16_Check_c [.dat y13 s_0 [], .dat y4 m_1 []] none K = (r16_Check s_0 m_1).bind fun r => K [.dat (.pair (.int .i64) (.pair (.int .i64) .unit)) r []] none := by
  rw [r16_Check_t]
  simp only [r16_Check, r16_Check_s0_bind, r16_Check_s1_bind, r16_Check_s2_bind, r16_Check_s3_bind, r16_Check_lp0, r16_Check_y0_0, r16_Check_y0_1, cond_bind, within_bind, none_bind, some_bind, sum_bind, bind_bind, Sum.elim_inl, Sum.elim_inr]
def r16_Check_g : Pure := fun R l b K => noBox b (args2 y13 y4 l (fun x0 x1 => (r16_Check x0 x1).bind fun r => K [.dat (.pair (.int .i64) (.pair (.int .i64) .unit)) r []] none))
theorem r16_Check_n : r16_Check_g.Nat := fun R S l b F G K h => noBox_nat (args2_nat fun _ _ => bindr_nat fun _ => h _ _)
def Tb65 : Funs := Tb64.add 9 [y13, y4] r16_Check_g
theorem Tb65_nat : Tb65.Nat := add_nat Tb64_nat r16_Check_n
theorem Tb65_owes : ∀ f, Owes Tryz.prog Tb65 f := add_owes (E := r16_Check_E) (Tab.env_ok tab_ok _ _ _ _) mixed Tb64_nat Tb64_owes (fn := Tryz.f9) (code := r16_Check_c) Tryz.func9 (by kernel_rfl) (by kernel_rfl) fun l b r b' h => by
  obtain ⟨rfl, h⟩ := noBox_some h
  obtain ⟨x0, x1, h1, h2⟩ := own2 (E := r16_Check_E) rfl h
  exact ⟨FUEL, (h2 _ _ _ _ _ _).trans ((r16_Check_eq _ x0 x1 _).trans h1)⟩
noncomputable abbrev msg_Check_c : Code := Tryz.f28.body.getD .skip
def msg_Check_E : Env := tab.env (fun i => bif Nat.beq i 9 then [2, 4, 9, 39, 40, 41] else []) (fun i => bif Nat.beq i 9 then [4] else []) [4] [y13, y4]
def msg_Check_h0 (t9 : Int) (t39 : Zt9) (t40 : Int) (t41 : Int) (bt2 : Zt16) (bt4 : Zt4) : State := ⟨uS 2 ([.ptr 3 y13 []]::(uS 1 ([.ptr 5 (.pair (.int .i64) (.pair (.int .i64) .unit)) []]::(uS 4 ([.dat (.int .i64) t9 []]::(uS 29 ([.dat (.sl 44 (.pair (.int .i64) (.pair .str .unit))) t39 []]::[.dat (.int .i64) t40 []]::[.dat (.int .i64) t41 []]::(uS 36 ([]))))))))), nS 3 ((some ⟨y13, bt2, []⟩)::(nS 1 ((some ⟨(.pair (.int .i64) (.pair (.int .i64) .unit)), bt4, []⟩)::(nS 73 ([])))))⟩
def msg_Check_x0_0 (bt4 : Zt4) : State := ⟨uS 4 ([.ptr 5 (.pair (.int .i64) (.pair (.int .i64) .unit)) []]::(uS 73 ([]))), nS 5 ((some ⟨(.pair (.int .i64) (.pair (.int .i64) .unit)), bt4, []⟩)::(nS 73 ([])))⟩
def msg_Check_x0_1 (bt4 : Zt4) : State := ⟨uS 4 ([.ptr 5 (.pair (.int .i64) (.pair (.int .i64) .unit)) []]::(uS 73 ([]))), nS 5 ((some ⟨(.pair (.int .i64) (.pair (.int .i64) .unit)), bt4, []⟩)::(nS 73 ([])))⟩
theorem msg_Check_t (R : Type) (kk : Nat) (s_0 : Zt16) (m_1 : Zt15) (K : List SV → Option Box → Option R) : evFn msg_Check_E (Tb65 R) kk Tryz.f28 msg_Check_c [.dat y13 s_0 [], .dat y4 m_1 []] none K =
  msg_Check_s0 s_0 m_1 (fun a0 => K [.dat (.pair (.int .i64) (.pair (.int .i64) .unit)) a0 []] none) (fun a0 a1 a2 a3 a4 a5 => loopR (ev msg_Check_E (Tb65 R) kk (sub [1, 1, 1, 1, 0, 1, 0, 0] msg_Check_c)) [2, 4, 9, 39, 40, 41] [4] kk (msg_Check_h0 a0 a1 a2 a3 a4 a5) (kBlock 0 (kSeq msg_Check_E (Tb65 R) kk (sub [1, 1, 1, 1, 1] msg_Check_c) (kFin msg_Check_E Tryz.f28.results.toList none K)))) := by kernel_rfl
theorem msg_Check_d0 (R : Type) (kk k : Nat) (t9 : Int) (t39 : Zt9) (t40 : Int) (t41 : Int) (bt2 : Zt16) (bt4 : Zt4) (K : Ex → State → Option R) : loopR (ev msg_Check_E (Tb65 R) kk (sub [1, 1, 1, 1, 0, 1, 0, 0] msg_Check_c)) [2, 4, 9, 39, 40, 41] [4] (k + 1) (msg_Check_h0 t9 t39 t40 t41 bt2 bt4) K =
  msg_Check_s1 t9 t39 t40 t41 bt2 bt4 (fun a0 => K .ret (msg_Check_x0_0 a0)) (fun a0 a1 a2 a3 a4 a5 => loopR (ev msg_Check_E (Tb65 R) kk (sub [1, 1, 1, 1, 0, 1, 0, 0] msg_Check_c)) [2, 4, 9, 39, 40, 41] [4] k (msg_Check_h0 a0 a1 a2 a3 a4 a5) K) (fun a0 => K (.exit 0) (msg_Check_x0_1 a0)) := by kernel_rfl
theorem msg_Check_y0_0 (R : Type) (kk : Nat) (bt4 : Zt4) (K : List SV → Option Box → Option R) : (kBlock 0 (kSeq msg_Check_E (Tb65 R) kk (sub [1, 1, 1, 1, 1] msg_Check_c) (kFin msg_Check_E Tryz.f28.results.toList none K))) .ret (msg_Check_x0_0 bt4) =
  msg_Check_s2 bt4 (fun a0 => K [.dat (.pair (.int .i64) (.pair (.int .i64) .unit)) a0 []] none) := by kernel_rfl
theorem msg_Check_y0_1 (R : Type) (kk : Nat) (bt4 : Zt4) (K : List SV → Option Box → Option R) : (kBlock 0 (kSeq msg_Check_E (Tb65 R) kk (sub [1, 1, 1, 1, 1] msg_Check_c) (kFin msg_Check_E Tryz.f28.results.toList none K))) (.exit 0) (msg_Check_x0_1 bt4) =
  msg_Check_s3 bt4 (fun a0 => K [.dat (.pair (.int .i64) (.pair (.int .i64) .unit)) a0 []] none) := by kernel_rfl
theorem msg_Check_lp0 (R : Type) (k : Nat) (t9 : Int) (t39 : Zt9) (t40 : Int) (t41 : Int) (bt2 : Zt16) (bt4 : Zt4) (K : Ex → State → Option R) : loopR (ev msg_Check_E (Tb65 R) FUEL (sub [1, 1, 1, 1, 0, 1, 0, 0] msg_Check_c)) [2, 4, 9, 39, 40, 41] [4] k (msg_Check_h0 t9 t39 t40 t41 bt2 bt4) K = (msg_Check_l0 k t9 t39 t40 t41 bt2 bt4).bind fun e => (Sum.elim (fun (we : Zt4) => K .ret (msg_Check_x0_0 we)) (fun (we : Zt4) => K (.exit 0) (msg_Check_x0_1 we)) e) := by
  induction k generalizing t9 t39 t40 t41 bt2 bt4 with
  | zero => rfl
  | succ k ih =>
    rw [msg_Check_d0]
    simp only [msg_Check_l0, msg_Check_s0_bind, msg_Check_s1_bind, msg_Check_s2_bind, msg_Check_s3_bind, ih, cond_bind, within_bind, none_bind, some_bind, sum_bind, bind_bind, Sum.elim_inl, Sum.elim_inr]
theorem msg_Check_eq (R : Type) (s_0 : Zt16) (m_1 : Zt15) (K : List SV → Option Box → Option R) : evFn msg_Check_E (Tb65 R) FUEL Tryz.f28 msg_Check_c [.dat y13 s_0 [], .dat y4 m_1 []] none K = (msg_Check s_0 m_1).bind fun r => K [.dat (.pair (.int .i64) (.pair (.int .i64) .unit)) r []] none := by
  rw [msg_Check_t]
  simp only [msg_Check, msg_Check_s0_bind, msg_Check_s1_bind, msg_Check_s2_bind, msg_Check_s3_bind, msg_Check_lp0, msg_Check_y0_0, msg_Check_y0_1, cond_bind, within_bind, none_bind, some_bind, sum_bind, bind_bind, Sum.elim_inl, Sum.elim_inr]
def msg_Check_g : Pure := fun R l b K => noBox b (args2 y13 y4 l (fun x0 x1 => (msg_Check x0 x1).bind fun r => K [.dat (.pair (.int .i64) (.pair (.int .i64) .unit)) r []] none))
theorem msg_Check_n : msg_Check_g.Nat := fun R S l b F G K h => noBox_nat (args2_nat fun _ _ => bindr_nat fun _ => h _ _)
def Tb66 : Funs := Tb65.add 28 [y13, y4] msg_Check_g
theorem Tb66_nat : Tb66.Nat := add_nat Tb65_nat msg_Check_n
theorem Tb66_owes : ∀ f, Owes Tryz.prog Tb66 f := add_owes (E := msg_Check_E) (Tab.env_ok tab_ok _ _ _ _) mixed Tb65_nat Tb65_owes (fn := Tryz.f28) (code := msg_Check_c) Tryz.func28 (by kernel_rfl) (by kernel_rfl) fun l b r b' h => by
  obtain ⟨rfl, h⟩ := noBox_some h
  obtain ⟨x0, x1, h1, h2⟩ := own2 (E := msg_Check_E) rfl h
  exact ⟨FUEL, (h2 _ _ _ _ _ _).trans ((msg_Check_eq _ x0 x1 _).trans h1)⟩
noncomputable abbrev xlate_head_c : Code := Tryz.f29.body.getD .skip
def xlate_head_E : Env := tab.env (fun i => bif Nat.beq i 2 then [1, 9, 10, 11] else []) (fun i => bif Nat.beq i 2 then [4, 5] else []) [] [y14, .str]
def xlate_head_h0 (t_1 : ByteArray) (t9 : Zt12) (t10 : Int) (t11 : Int) : State := ⟨uS 1 ([.dat .str t_1 []]::(uS 7 ([.dat (.sl 42 (.pair .str (.pair .str .unit))) t9 []]::[.dat (.int .i64) t10 []]::[.dat (.int .i64) t11 []]::(uS 10 ([]))))), nS 23 []⟩
def xlate_head_x0_0 (t4 : ByteArray) (t5 : Bool) : State := ⟨uS 4 ([.dat .str t4 []]::[.dat .bool t5 []]::(uS 16 ([]))), nS 23 []⟩
def xlate_head_x0_1  : State := ⟨uS 22 [], nS 23 []⟩
theorem xlate_head_t (R : Type) (kk : Nat) (m_0 : Zt22) (t_1 : ByteArray) (K : List SV → Option Box → Option R) : evFn xlate_head_E (Tb66 R) kk Tryz.f29 xlate_head_c [.dat y14 m_0 [], .dat .str t_1 []] none K =
  xlate_head_s0 m_0 t_1 (fun a0 a1 a2 a3 => loopR (ev xlate_head_E (Tb66 R) kk (sub [1, 0, 1, 0, 0] xlate_head_c)) [1, 9, 10, 11] [4, 5] kk (xlate_head_h0 a0 a1 a2 a3) (kBlock 0 (kSeq xlate_head_E (Tb66 R) kk (sub [1, 1] xlate_head_c) (kFin xlate_head_E Tryz.f29.results.toList none K)))) := by kernel_rfl
theorem xlate_head_d0 (R : Type) (kk k : Nat) (t_1 : ByteArray) (t9 : Zt12) (t10 : Int) (t11 : Int) (K : Ex → State → Option R) : loopR (ev xlate_head_E (Tb66 R) kk (sub [1, 0, 1, 0, 0] xlate_head_c)) [1, 9, 10, 11] [4, 5] (k + 1) (xlate_head_h0 t_1 t9 t10 t11) K =
  xlate_head_s1 t_1 t9 t10 t11 (fun a0 a1 => K .ret (xlate_head_x0_0 a0 a1)) (fun a0 a1 a2 a3 => loopR (ev xlate_head_E (Tb66 R) kk (sub [1, 0, 1, 0, 0] xlate_head_c)) [1, 9, 10, 11] [4, 5] k (xlate_head_h0 a0 a1 a2 a3) K) (K (.exit 0) (xlate_head_x0_1)) := by kernel_rfl
theorem xlate_head_y0_0 (R : Type) (kk : Nat) (t4 : ByteArray) (t5 : Bool) (K : List SV → Option Box → Option R) : (kBlock 0 (kSeq xlate_head_E (Tb66 R) kk (sub [1, 1] xlate_head_c) (kFin xlate_head_E Tryz.f29.results.toList none K))) .ret (xlate_head_x0_0 t4 t5) =
  xlate_head_s2 t4 t5 (fun a0 a1 => K [.dat .str a0 [], .dat .bool a1 []] none) := by kernel_rfl
theorem xlate_head_y0_1 (R : Type) (kk : Nat)  (K : List SV → Option Box → Option R) : (kBlock 0 (kSeq xlate_head_E (Tb66 R) kk (sub [1, 1] xlate_head_c) (kFin xlate_head_E Tryz.f29.results.toList none K))) (.exit 0) (xlate_head_x0_1) =
  xlate_head_s3 (fun a0 a1 => K [.dat .str a0 [], .dat .bool a1 []] none) := by kernel_rfl
theorem xlate_head_lp0 (R : Type) (k : Nat) (t_1 : ByteArray) (t9 : Zt12) (t10 : Int) (t11 : Int) (K : Ex → State → Option R) : loopR (ev xlate_head_E (Tb66 R) FUEL (sub [1, 0, 1, 0, 0] xlate_head_c)) [1, 9, 10, 11] [4, 5] k (xlate_head_h0 t_1 t9 t10 t11) K = (xlate_head_l0 k t_1 t9 t10 t11).bind fun e => (Sum.elim (fun (we : Zt3) => K .ret (xlate_head_x0_0 we.1 we.2)) (fun (we : Unit) => K (.exit 0) (xlate_head_x0_1)) e) := by
  induction k generalizing t_1 t9 t10 t11 with
  | zero => rfl
  | succ k ih =>
    rw [xlate_head_d0]
    simp only [xlate_head_l0, xlate_head_s0_bind, xlate_head_s1_bind, xlate_head_s2_bind, xlate_head_s3_bind, ih, cond_bind, within_bind, none_bind, some_bind, sum_bind, bind_bind, Sum.elim_inl, Sum.elim_inr]
theorem xlate_head_eq (R : Type) (m_0 : Zt22) (t_1 : ByteArray) (K : List SV → Option Box → Option R) : evFn xlate_head_E (Tb66 R) FUEL Tryz.f29 xlate_head_c [.dat y14 m_0 [], .dat .str t_1 []] none K = (xlate_head m_0 t_1).bind fun r => K [.dat .str r.1 [], .dat .bool r.2 []] none := by
  rw [xlate_head_t]
  simp only [xlate_head, xlate_head_s0_bind, xlate_head_s1_bind, xlate_head_s2_bind, xlate_head_s3_bind, xlate_head_lp0, xlate_head_y0_0, xlate_head_y0_1, cond_bind, within_bind, none_bind, some_bind, sum_bind, bind_bind, Sum.elim_inl, Sum.elim_inr]
def xlate_head_g : Pure := fun R l b K => noBox b (args2 y14 .str l (fun x0 x1 => (xlate_head x0 x1).bind fun r => K [.dat .str r.1 [], .dat .bool r.2 []] none))
theorem xlate_head_n : xlate_head_g.Nat := fun R S l b F G K h => noBox_nat (args2_nat fun _ _ => bindr_nat fun _ => h _ _)
def Tb67 : Funs := Tb66.add 29 [y14, .str] xlate_head_g
theorem Tb67_nat : Tb67.Nat := add_nat Tb66_nat xlate_head_n
theorem Tb67_owes : ∀ f, Owes Tryz.prog Tb67 f := add_owes (E := xlate_head_E) (Tab.env_ok tab_ok _ _ _ _) mixed Tb66_nat Tb66_owes (fn := Tryz.f29) (code := xlate_head_c) Tryz.func29 (by kernel_rfl) (by kernel_rfl) fun l b r b' h => by
  obtain ⟨rfl, h⟩ := noBox_some h
  obtain ⟨x0, x1, h1, h2⟩ := own2 (E := xlate_head_E) rfl h
  exact ⟨FUEL, (h2 _ _ _ _ _ _).trans ((xlate_head_eq _ x0 x1 _).trans h1)⟩
noncomputable abbrev msg_Without_c : Code := Tryz.f56.body.getD .skip
def msg_Without_E : Env := tab.env (fun i => bif Nat.beq i 3 then [1, 4, 5, 12, 13, 14] else []) (fun i => bif Nat.beq i 3 then [4, 5] else []) [4] [y4, (.int .i64)]
def msg_Without_h0 (no_1 : Int) (t12 : Zt9) (t13 : Int) (t14 : Int) (bt4 : Zt15) (bt5 : Zt15) : State := ⟨uS 1 ([.dat (.int .i64) no_1 []]::(uS 2 ([.ptr 5 y4 []]::[.ptr 6 y4 []]::(uS 6 ([.dat (.sl 44 (.pair (.int .i64) (.pair .str .unit))) t12 []]::[.dat (.int .i64) t13 []]::[.dat (.int .i64) t14 []]::(uS 15 ([]))))))), nS 5 ((some ⟨y4, bt4, [[1]]⟩)::(some ⟨y4, bt5, [[1]]⟩)::(nS 24 ([])))⟩
def msg_Without_x0_0 (bt4 : Zt15) (bt5 : Zt15) : State := ⟨uS 4 ([.ptr 5 y4 []]::[.ptr 6 y4 []]::(uS 24 ([]))), nS 5 ((some ⟨y4, bt4, [[1]]⟩)::(some ⟨y4, bt5, [[1]]⟩)::(nS 24 ([])))⟩
theorem msg_Without_t (R : Type) (kk : Nat) (m_0 : Zt15) (no_1 : Int) (K : List SV → Option Box → Option R) : evFn msg_Without_E (Tb67 R) kk Tryz.f56 msg_Without_c [.dat y4 m_0 [], .dat (.int .i64) no_1 []] none K =
  msg_Without_s0 m_0 no_1 (fun a0 a1 a2 a3 a4 a5 => loopR (ev msg_Without_E (Tb67 R) kk (sub [1, 1, 0, 1, 0, 0] msg_Without_c)) [1, 4, 5, 12, 13, 14] [4, 5] kk (msg_Without_h0 a0 a1 a2 a3 a4 a5) (kBlock 0 (kSeq msg_Without_E (Tb67 R) kk (sub [1, 1, 1] msg_Without_c) (kFin msg_Without_E Tryz.f56.results.toList none K)))) := by kernel_rfl
theorem msg_Without_d0 (R : Type) (kk k : Nat) (no_1 : Int) (t12 : Zt9) (t13 : Int) (t14 : Int) (bt4 : Zt15) (bt5 : Zt15) (K : Ex → State → Option R) : loopR (ev msg_Without_E (Tb67 R) kk (sub [1, 1, 0, 1, 0, 0] msg_Without_c)) [1, 4, 5, 12, 13, 14] [4, 5] (k + 1) (msg_Without_h0 no_1 t12 t13 t14 bt4 bt5) K =
  msg_Without_s1 no_1 t12 t13 t14 bt4 bt5 (fun a0 a1 a2 a3 a4 a5 => loopR (ev msg_Without_E (Tb67 R) kk (sub [1, 1, 0, 1, 0, 0] msg_Without_c)) [1, 4, 5, 12, 13, 14] [4, 5] k (msg_Without_h0 a0 a1 a2 a3 a4 a5) K) (fun a0 a1 => K (.exit 0) (msg_Without_x0_0 a0 a1)) := by kernel_rfl
theorem msg_Without_y0_0 (R : Type) (kk : Nat) (bt4 : Zt15) (bt5 : Zt15) (K : List SV → Option Box → Option R) : (kBlock 0 (kSeq msg_Without_E (Tb67 R) kk (sub [1, 1, 1] msg_Without_c) (kFin msg_Without_E Tryz.f56.results.toList none K))) (.exit 0) (msg_Without_x0_0 bt4 bt5) =
  msg_Without_s2 bt4 bt5 (fun a0 => K [.dat y4 a0 [[1]]] none) := by kernel_rfl
theorem msg_Without_lp0 (R : Type) (k : Nat) (no_1 : Int) (t12 : Zt9) (t13 : Int) (t14 : Int) (bt4 : Zt15) (bt5 : Zt15) (K : Ex → State → Option R) : loopR (ev msg_Without_E (Tb67 R) FUEL (sub [1, 1, 0, 1, 0, 0] msg_Without_c)) [1, 4, 5, 12, 13, 14] [4, 5] k (msg_Without_h0 no_1 t12 t13 t14 bt4 bt5) K = (msg_Without_l0 k no_1 t12 t13 t14 bt4 bt5).bind fun e => K (.exit 0) (msg_Without_x0_0 e.1 e.2) := by
  induction k generalizing no_1 t12 t13 t14 bt4 bt5 with
  | zero => rfl
  | succ k ih =>
    rw [msg_Without_d0]
    simp only [msg_Without_l0, msg_Without_s0_bind, msg_Without_s1_bind, msg_Without_s2_bind, ih, cond_bind, within_bind, none_bind, some_bind, sum_bind, bind_bind, Sum.elim_inl, Sum.elim_inr]
theorem msg_Without_eq (R : Type) (m_0 : Zt15) (no_1 : Int) (K : List SV → Option Box → Option R) : evFn msg_Without_E (Tb67 R) FUEL Tryz.f56 msg_Without_c [.dat y4 m_0 [], .dat (.int .i64) no_1 []] none K = (msg_Without m_0 no_1).bind fun r => K [.dat y4 r [[1]]] none := by
  rw [msg_Without_t]
  simp only [msg_Without, msg_Without_s0_bind, msg_Without_s1_bind, msg_Without_s2_bind, msg_Without_lp0, msg_Without_y0_0, cond_bind, within_bind, none_bind, some_bind, sum_bind, bind_bind, Sum.elim_inl, Sum.elim_inr]
def msg_Without_g : Pure := fun R l b K => noBox b (args2 y4 (.int .i64) l (fun x0 x1 => (msg_Without x0 x1).bind fun r => K [.dat y4 r [[1]]] none))
theorem msg_Without_n : msg_Without_g.Nat := fun R S l b F G K h => noBox_nat (args2_nat fun _ _ => bindr_nat fun _ => h _ _)
def Tb68 : Funs := Tb67.add 56 [y4, (.int .i64)] msg_Without_g
theorem Tb68_nat : Tb68.Nat := add_nat Tb67_nat msg_Without_n
theorem Tb68_owes : ∀ f, Owes Tryz.prog Tb68 f := add_owes (E := msg_Without_E) (Tab.env_ok tab_ok _ _ _ _) mixed Tb67_nat Tb67_owes (fn := Tryz.f56) (code := msg_Without_c) Tryz.func56 (by kernel_rfl) (by kernel_rfl) fun l b r b' h => by
  obtain ⟨rfl, h⟩ := noBox_some h
  obtain ⟨x0, x1, h1, h2⟩ := own2 (E := msg_Without_E) rfl h
  exact ⟨FUEL, (h2 _ _ _ _ _ _).trans ((msg_Without_eq _ x0 x1 _).trans h1)⟩
noncomputable abbrev msg_With_1_c : Code := Tryz.f58.body.getD .skip
def msg_With_1_E : Env := tab.env (fun _ => []) (fun _ => []) [] [(.pair (.int .i64) (.pair .str .unit)), .unit]
theorem msg_With_1_t (R : Type) (kk : Nat) (x_0 : Zt6) (free_1 : Int) (K : List SV → Option Box → Option R) : evFn msg_With_1_E (Tb68 R) kk Tryz.f58 msg_With_1_c [.dat (.pair (.int .i64) (.pair .str .unit)) x_0 [], .ptr 0 (.int .i64) []] (some ⟨(.int .i64), free_1, []⟩) K =
  msg_With_1_s0 x_0 free_1 (fun a0 a1 => K [.dat .bool a0 []] (some ⟨(.int .i64), a1, []⟩)) := by kernel_rfl
theorem msg_With_1_eq (R : Type) (x_0 : Zt6) (free_1 : Int) (K : List SV → Option Box → Option R) : evFn msg_With_1_E (Tb68 R) FUEL Tryz.f58 msg_With_1_c [.dat (.pair (.int .i64) (.pair .str .unit)) x_0 [], .ptr 0 (.int .i64) []] (some ⟨(.int .i64), free_1, []⟩) K = (msg_With_1 x_0 free_1).bind fun r => K [.dat .bool r.1 []] (some ⟨(.int .i64), r.2, []⟩) := by
  rw [msg_With_1_t]
  simp only [msg_With_1, msg_With_1_s0_bind, cond_bind, within_bind, none_bind, some_bind, sum_bind, bind_bind, Sum.elim_inl, Sum.elim_inr]
def msg_With_1_g : Pure := fun R l b K => argZ1 (.pair (.int .i64) (.pair .str .unit)) (.int .i64) (.int .i64) [] l b fun x0 x => (msg_With_1 x0 x).bind fun r => K [.dat .bool r.1 []] (some ⟨(.int .i64), r.2, []⟩)
theorem msg_With_1_n : msg_With_1_g.Nat := fun R S l b F G K h => argZ1_nat fun _ _ => bindr_nat fun _ => h _ _
def Tb69 : Funs := Tb68.add 58 [(.pair (.int .i64) (.pair .str .unit)), .unit] msg_With_1_g
theorem Tb69_nat : Tb69.Nat := add_nat Tb68_nat msg_With_1_n
theorem Tb69_owes : ∀ f, Owes Tryz.prog Tb69 f := add_owes (E := msg_With_1_E) (Tab.env_ok tab_ok _ _ _ _) mixed Tb68_nat Tb68_owes (fn := Tryz.f58) (code := msg_With_1_c) Tryz.func58 (by kernel_rfl) (by kernel_rfl) fun l b r b' h => by
  obtain ⟨x0, x, rfl, h1, h2⟩ := ownZ1 (E := msg_With_1_E) rfl h
  exact ⟨FUEL, (h2 _ _ _ _ _ _).trans ((msg_With_1_eq _ x0 x _).trans h1)⟩
noncomputable abbrev slices_IndexFunc_api_Value_api_Value_at_msg_With_1_c : Code := Tryz.f57.body.getD .skip
def slices_IndexFunc_api_Value_api_Value_at_msg_With_1_E : Env := tab.env (fun i => bif Nat.beq i 2 then [0, 1, 7, 8] else []) (fun i => bif Nat.beq i 2 then [4] else []) [] [(.sl 44 (.pair (.int .i64) (.pair .str .unit))), .unit]
def slices_IndexFunc_api_Value_api_Value_at_msg_With_1_h0 (a_0 : Zt9) (t7 : Int) (t8 : Int) (recv : Int) : State := ⟨[.dat (.sl 44 (.pair (.int .i64) (.pair .str .unit))) a_0 []]::[.ptr 0 (.spc (.clo 58) (.int .i64) .unit) []]::(uS 5 ([.dat (.int .i64) t7 []]::[.dat (.int .i64) t8 []]::(uS 10 ([])))), (some ⟨(.int .i64), recv, []⟩)::(nS 19 ([]))⟩
def slices_IndexFunc_api_Value_api_Value_at_msg_With_1_x0_0 (t4 : Int) (recv : Int) : State := ⟨uS 4 ([.dat (.int .i64) t4 []]::(uS 14 ([]))), (some ⟨(.int .i64), recv, []⟩)::(nS 19 ([]))⟩
def slices_IndexFunc_api_Value_api_Value_at_msg_With_1_x0_1 (recv : Int) : State := ⟨uS 19 [], (some ⟨(.int .i64), recv, []⟩)::(nS 19 ([]))⟩
theorem slices_IndexFunc_api_Value_api_Value_at_msg_With_1_t (R : Type) (kk : Nat) (a_0 : Zt9) (a_1 : Int) (K : List SV → Option Box → Option R) : evFn slices_IndexFunc_api_Value_api_Value_at_msg_With_1_E (Tb69 R) kk Tryz.f57 slices_IndexFunc_api_Value_api_Value_at_msg_With_1_c [.dat (.sl 44 (.pair (.int .i64) (.pair .str .unit))) a_0 [], .ptr 0 (.spc (.clo 58) (.int .i64) .unit) []] (some ⟨(.int .i64), a_1, []⟩) K =
  slices_IndexFunc_api_Value_api_Value_at_msg_With_1_s0 a_0 a_1 (fun a0 a1 a2 a3 => loopR (ev slices_IndexFunc_api_Value_api_Value_at_msg_With_1_E (Tb69 R) kk (sub [1, 0, 1, 0, 0] slices_IndexFunc_api_Value_api_Value_at_msg_With_1_c)) [0, 1, 7, 8] [4] kk (slices_IndexFunc_api_Value_api_Value_at_msg_With_1_h0 a0 a1 a2 a3) (kBlock 0 (kSeq slices_IndexFunc_api_Value_api_Value_at_msg_With_1_E (Tb69 R) kk (sub [1, 1] slices_IndexFunc_api_Value_api_Value_at_msg_With_1_c) (kFin slices_IndexFunc_api_Value_api_Value_at_msg_With_1_E Tryz.f57.results.toList (some ⟨(.int .i64), a_1, []⟩) K)))) := by kernel_rfl
theorem slices_IndexFunc_api_Value_api_Value_at_msg_With_1_d0 (R : Type) (kk k : Nat) (a_0 : Zt9) (t7 : Int) (t8 : Int) (recv : Int) (K : Ex → State → Option R) : loopR (ev slices_IndexFunc_api_Value_api_Value_at_msg_With_1_E (Tb69 R) kk (sub [1, 0, 1, 0, 0] slices_IndexFunc_api_Value_api_Value_at_msg_With_1_c)) [0, 1, 7, 8] [4] (k + 1) (slices_IndexFunc_api_Value_api_Value_at_msg_With_1_h0 a_0 t7 t8 recv) K =
  slices_IndexFunc_api_Value_api_Value_at_msg_With_1_s1 a_0 t7 t8 recv (fun a0 a1 => K .ret (slices_IndexFunc_api_Value_api_Value_at_msg_With_1_x0_0 a0 a1)) (fun a0 a1 a2 a3 => loopR (ev slices_IndexFunc_api_Value_api_Value_at_msg_With_1_E (Tb69 R) kk (sub [1, 0, 1, 0, 0] slices_IndexFunc_api_Value_api_Value_at_msg_With_1_c)) [0, 1, 7, 8] [4] k (slices_IndexFunc_api_Value_api_Value_at_msg_With_1_h0 a0 a1 a2 a3) K) (fun a0 => K (.exit 0) (slices_IndexFunc_api_Value_api_Value_at_msg_With_1_x0_1 a0)) := by kernel_rfl
theorem slices_IndexFunc_api_Value_api_Value_at_msg_With_1_y0_0 (R : Type) (kk : Nat) (x0 : Int) (t4 : Int) (recv : Int) (K : List SV → Option Box → Option R) : (kBlock 0 (kSeq slices_IndexFunc_api_Value_api_Value_at_msg_With_1_E (Tb69 R) kk (sub [1, 1] slices_IndexFunc_api_Value_api_Value_at_msg_With_1_c) (kFin slices_IndexFunc_api_Value_api_Value_at_msg_With_1_E Tryz.f57.results.toList (some ⟨(.int .i64), x0, []⟩) K))) .ret (slices_IndexFunc_api_Value_api_Value_at_msg_With_1_x0_0 t4 recv) =
  slices_IndexFunc_api_Value_api_Value_at_msg_With_1_s2 t4 recv (fun a0 a1 => K [.dat (.int .i64) a0 []] (some ⟨(.int .i64), a1, []⟩)) := by kernel_rfl
theorem slices_IndexFunc_api_Value_api_Value_at_msg_With_1_y0_1 (R : Type) (kk : Nat) (x0 : Int) (recv : Int) (K : List SV → Option Box → Option R) : (kBlock 0 (kSeq slices_IndexFunc_api_Value_api_Value_at_msg_With_1_E (Tb69 R) kk (sub [1, 1] slices_IndexFunc_api_Value_api_Value_at_msg_With_1_c) (kFin slices_IndexFunc_api_Value_api_Value_at_msg_With_1_E Tryz.f57.results.toList (some ⟨(.int .i64), x0, []⟩) K))) (.exit 0) (slices_IndexFunc_api_Value_api_Value_at_msg_With_1_x0_1 recv) =
  slices_IndexFunc_api_Value_api_Value_at_msg_With_1_s3 recv (fun a0 a1 => K [.dat (.int .i64) a0 []] (some ⟨(.int .i64), a1, []⟩)) := by kernel_rfl
theorem slices_IndexFunc_api_Value_api_Value_at_msg_With_1_lp0 (R : Type) (k : Nat) (a_0 : Zt9) (t7 : Int) (t8 : Int) (recv : Int) (K : Ex → State → Option R) : loopR (ev slices_IndexFunc_api_Value_api_Value_at_msg_With_1_E (Tb69 R) FUEL (sub [1, 0, 1, 0, 0] slices_IndexFunc_api_Value_api_Value_at_msg_With_1_c)) [0, 1, 7, 8] [4] k (slices_IndexFunc_api_Value_api_Value_at_msg_With_1_h0 a_0 t7 t8 recv) K = (slices_IndexFunc_api_Value_api_Value_at_msg_With_1_l0 k a_0 t7 t8 recv).bind fun e => (Sum.elim (fun (we : (Int × Int)) => K .ret (slices_IndexFunc_api_Value_api_Value_at_msg_With_1_x0_0 we.1 we.2)) (fun (we : Int) => K (.exit 0) (slices_IndexFunc_api_Value_api_Value_at_msg_With_1_x0_1 we)) e) := by
  induction k generalizing a_0 t7 t8 recv with
  | zero => rfl
  | succ k ih =>
    rw [slices_IndexFunc_api_Value_api_Value_at_msg_With_1_d0]
    simp only [slices_IndexFunc_api_Value_api_Value_at_msg_With_1_l0, slices_IndexFunc_api_Value_api_Value_at_msg_With_1_s0_bind, slices_IndexFunc_api_Value_api_Value_at_msg_With_1_s1_bind, slices_IndexFunc_api_Value_api_Value_at_msg_With_1_s2_bind, slices_IndexFunc_api_Value_api_Value_at_msg_With_1_s3_bind, ih, cond_bind, within_bind, none_bind, some_bind, sum_bind, bind_bind, Sum.elim_inl, Sum.elim_inr]
theorem slices_IndexFunc_api_Value_api_Value_at_msg_With_1_eq (R : Type) (a_0 : Zt9) (a_1 : Int) (K : List SV → Option Box → Option R) : evFn slices_IndexFunc_api_Value_api_Value_at_msg_With_1_E (Tb69 R) FUEL Tryz.f57 slices_IndexFunc_api_Value_api_Value_at_msg_With_1_c [.dat (.sl 44 (.pair (.int .i64) (.pair .str .unit))) a_0 [], .ptr 0 (.spc (.clo 58) (.int .i64) .unit) []] (some ⟨(.int .i64), a_1, []⟩) K = (slices_IndexFunc_api_Value_api_Value_at_msg_With_1 a_0 a_1).bind fun r => K [.dat (.int .i64) r.1 []] (some ⟨(.int .i64), r.2, []⟩) := by
  rw [slices_IndexFunc_api_Value_api_Value_at_msg_With_1_t]
  simp only [slices_IndexFunc_api_Value_api_Value_at_msg_With_1, slices_IndexFunc_api_Value_api_Value_at_msg_With_1_s0_bind, slices_IndexFunc_api_Value_api_Value_at_msg_With_1_s1_bind, slices_IndexFunc_api_Value_api_Value_at_msg_With_1_s2_bind, slices_IndexFunc_api_Value_api_Value_at_msg_With_1_s3_bind, slices_IndexFunc_api_Value_api_Value_at_msg_With_1_lp0, slices_IndexFunc_api_Value_api_Value_at_msg_With_1_y0_0, slices_IndexFunc_api_Value_api_Value_at_msg_With_1_y0_1, cond_bind, within_bind, none_bind, some_bind, sum_bind, bind_bind, Sum.elim_inl, Sum.elim_inr]
def slices_IndexFunc_api_Value_api_Value_at_msg_With_1_g : Pure := fun R l b K => argZ1 (.sl 44 (.pair (.int .i64) (.pair .str .unit))) (.spc (.clo 58) (.int .i64) .unit) (.int .i64) [] l b fun x0 x => (slices_IndexFunc_api_Value_api_Value_at_msg_With_1 x0 x).bind fun r => K [.dat (.int .i64) r.1 []] (some ⟨(.int .i64), r.2, []⟩)
theorem slices_IndexFunc_api_Value_api_Value_at_msg_With_1_n : slices_IndexFunc_api_Value_api_Value_at_msg_With_1_g.Nat := fun R S l b F G K h => argZ1_nat fun _ _ => bindr_nat fun _ => h _ _
def Tb70 : Funs := Tb69.add 57 [(.sl 44 (.pair (.int .i64) (.pair .str .unit))), .unit] slices_IndexFunc_api_Value_api_Value_at_msg_With_1_g
theorem Tb70_nat : Tb70.Nat := add_nat Tb69_nat slices_IndexFunc_api_Value_api_Value_at_msg_With_1_n
theorem Tb70_owes : ∀ f, Owes Tryz.prog Tb70 f := add_owes (E := slices_IndexFunc_api_Value_api_Value_at_msg_With_1_E) (Tab.env_ok tab_ok _ _ _ _) mixed Tb69_nat Tb69_owes (fn := Tryz.f57) (code := slices_IndexFunc_api_Value_api_Value_at_msg_With_1_c) Tryz.func57 (by kernel_rfl) (by kernel_rfl) fun l b r b' h => by
  obtain ⟨x0, x, rfl, h1, h2⟩ := ownZ1 (E := slices_IndexFunc_api_Value_api_Value_at_msg_With_1_E) rfl h
  exact ⟨FUEL, (h2 _ _ _ _ _ _).trans ((slices_IndexFunc_api_Value_api_Value_at_msg_With_1_eq _ x0 x _).trans h1)⟩
noncomputable abbrev msg_With_c : Code := Tryz.f30.body.getD .skip
def msg_With_E : Env := { tab.env (fun _ => []) (fun _ => []) [6] [y4, (.int .i64), .str] with fz := fun i => bif Nat.beq i 9 then some (9, 30) else none }
theorem msg_With_t (R : Type) (kk : Nat) (m_0 : Zt15) (no_1 : Int) (text_2 : ByteArray) (K : List SV → Option Box → Option R) : evFn msg_With_E (Tb70 R) kk Tryz.f30 msg_With_c [.dat y4 m_0 [], .dat (.int .i64) no_1 [], .dat .str text_2 []] none K =
  msg_With_s0 m_0 no_1 text_2 (fun a0 => K [.dat y4 a0 []] none) := by kernel_rfl
theorem msg_With_eq (R : Type) (m_0 : Zt15) (no_1 : Int) (text_2 : ByteArray) (K : List SV → Option Box → Option R) : evFn msg_With_E (Tb70 R) FUEL Tryz.f30 msg_With_c [.dat y4 m_0 [], .dat (.int .i64) no_1 [], .dat .str text_2 []] none K = (msg_With m_0 no_1 text_2).bind fun r => K [.dat y4 r []] none := by
  rw [msg_With_t]
  simp only [msg_With, msg_With_s0_bind, cond_bind, within_bind, none_bind, some_bind, sum_bind, bind_bind, Sum.elim_inl, Sum.elim_inr]
def msg_With_g : Pure := fun R l b K => noBox b (args3 y4 (.int .i64) .str l (fun x0 x1 x2 => (msg_With x0 x1 x2).bind fun r => K [.dat y4 r []] none))
theorem msg_With_n : msg_With_g.Nat := fun R S l b F G K h => noBox_nat (args3_nat fun _ _ _ => bindr_nat fun _ => h _ _)
def Tb71 : Funs := Tb70.add 30 [y4, (.int .i64), .str] msg_With_g
theorem Tb71_nat : Tb71.Nat := add_nat Tb70_nat msg_With_n
theorem Tb71_owes : ∀ f, Owes Tryz.prog Tb71 f := add_owes (E := msg_With_E) ((Tab.env_ok tab_ok _ _ _ _).fz _) mixed Tb70_nat Tb70_owes (fn := Tryz.f30) (code := msg_With_c) Tryz.func30 (by kernel_rfl) (by kernel_rfl) fun l b r b' h => by
  obtain ⟨rfl, h⟩ := noBox_some h
  obtain ⟨x0, x1, x2, h1, h2⟩ := own3 (E := msg_With_E) rfl h
  exact ⟨FUEL, (h2 _ _ _ _ _ _).trans ((msg_With_eq _ x0 x1 x2 _).trans h1)⟩
noncomputable abbrev xlate_find_c : Code := Tryz.f31.body.getD .skip
def xlate_find_E : Env := { tab.env (fun i => bif Nat.beq i 2 then [1, 4, 9, 10, 11] else []) (fun i => bif Nat.beq i 2 then [4, 5] else []) [4] [y14, (.int .i64)] with ro := true }
def xlate_find_h0 (no_1 : Int) (t9 : Zt20) (t10 : Int) (t11 : Int) (bt4 : Zt18) : State := ⟨uS 1 ([.dat (.int .i64) no_1 []]::(uS 2 ([.ptr 5 y9 []]::(uS 4 ([.dat (.sl 46 y9) t9 []]::[.dat (.int .i64) t10 []]::[.dat (.int .i64) t11 []]::(uS 10 ([]))))))), nS 5 ((some ⟨y9, bt4, [[4]]⟩)::(nS 17 ([])))⟩
def xlate_find_x0_0 (t5 : Bool) (bt4 : Zt18) : State := ⟨uS 4 ([.ptr 5 y9 []]::[.dat .bool t5 []]::(uS 16 ([]))), nS 5 ((some ⟨y9, bt4, []⟩)::(nS 17 ([])))⟩
def xlate_find_x0_1 (bt4 : Zt18) : State := ⟨uS 4 ([.ptr 5 y9 []]::(uS 17 ([]))), nS 5 ((some ⟨y9, bt4, [[4]]⟩)::(nS 17 ([])))⟩
theorem xlate_find_t (R : Type) (kk : Nat) (m_0 : Zt22) (no_1 : Int) (K : List SV → Option Box → Option R) : evFn xlate_find_E (Tb71 R) kk Tryz.f31 xlate_find_c [.dat y14 m_0 [], .dat (.int .i64) no_1 []] none K =
  xlate_find_s0 m_0 no_1 (fun a0 a1 a2 a3 a4 => loopR (ev xlate_find_E (Tb71 R) kk (sub [1, 0, 1, 0, 0] xlate_find_c)) [1, 4, 9, 10, 11] [4, 5] kk (xlate_find_h0 a0 a1 a2 a3 a4) (kBlock 0 (kSeq xlate_find_E (Tb71 R) kk (sub [1, 1] xlate_find_c) (kFin xlate_find_E Tryz.f31.results.toList none K)))) := by kernel_rfl
theorem xlate_find_d0 (R : Type) (kk k : Nat) (no_1 : Int) (t9 : Zt20) (t10 : Int) (t11 : Int) (bt4 : Zt18) (K : Ex → State → Option R) : loopR (ev xlate_find_E (Tb71 R) kk (sub [1, 0, 1, 0, 0] xlate_find_c)) [1, 4, 9, 10, 11] [4, 5] (k + 1) (xlate_find_h0 no_1 t9 t10 t11 bt4) K =
  xlate_find_s1 no_1 t9 t10 t11 bt4 (fun a0 a1 => K .ret (xlate_find_x0_0 a0 a1)) (fun a0 a1 a2 a3 a4 => loopR (ev xlate_find_E (Tb71 R) kk (sub [1, 0, 1, 0, 0] xlate_find_c)) [1, 4, 9, 10, 11] [4, 5] k (xlate_find_h0 a0 a1 a2 a3 a4) K) (fun a0 => K (.exit 0) (xlate_find_x0_1 a0)) := by kernel_rfl
theorem xlate_find_y0_0 (R : Type) (kk : Nat) (t5 : Bool) (bt4 : Zt18) (K : List SV → Option Box → Option R) : (kBlock 0 (kSeq xlate_find_E (Tb71 R) kk (sub [1, 1] xlate_find_c) (kFin xlate_find_E Tryz.f31.results.toList none K))) .ret (xlate_find_x0_0 t5 bt4) =
  xlate_find_s2 t5 bt4 (fun a0 a1 => K [.dat y9 a0 [], .dat .bool a1 []] none) := by kernel_rfl
theorem xlate_find_y0_1 (R : Type) (kk : Nat) (bt4 : Zt18) (K : List SV → Option Box → Option R) : (kBlock 0 (kSeq xlate_find_E (Tb71 R) kk (sub [1, 1] xlate_find_c) (kFin xlate_find_E Tryz.f31.results.toList none K))) (.exit 0) (xlate_find_x0_1 bt4) =
  xlate_find_s3 bt4 (fun a0 a1 => K [.dat y9 a0 [], .dat .bool a1 []] none) := by kernel_rfl
theorem xlate_find_lp0 (R : Type) (k : Nat) (no_1 : Int) (t9 : Zt20) (t10 : Int) (t11 : Int) (bt4 : Zt18) (K : Ex → State → Option R) : loopR (ev xlate_find_E (Tb71 R) FUEL (sub [1, 0, 1, 0, 0] xlate_find_c)) [1, 4, 9, 10, 11] [4, 5] k (xlate_find_h0 no_1 t9 t10 t11 bt4) K = (xlate_find_l0 k no_1 t9 t10 t11 bt4).bind fun e => (Sum.elim (fun (we : (Bool × Zt18)) => K .ret (xlate_find_x0_0 we.1 we.2)) (fun (we : Zt18) => K (.exit 0) (xlate_find_x0_1 we)) e) := by
  induction k generalizing no_1 t9 t10 t11 bt4 with
  | zero => rfl
  | succ k ih =>
    rw [xlate_find_d0]
    simp only [xlate_find_l0, xlate_find_s0_bind, xlate_find_s1_bind, xlate_find_s2_bind, xlate_find_s3_bind, ih, cond_bind, within_bind, none_bind, some_bind, sum_bind, bind_bind, Sum.elim_inl, Sum.elim_inr]
theorem xlate_find_eq (R : Type) (m_0 : Zt22) (no_1 : Int) (K : List SV → Option Box → Option R) : evFn xlate_find_E (Tb71 R) FUEL Tryz.f31 xlate_find_c [.dat y14 m_0 [], .dat (.int .i64) no_1 []] none K = (xlate_find m_0 no_1).bind fun r => K [.dat y9 r.1 [], .dat .bool r.2 []] none := by
  rw [xlate_find_t]
  simp only [xlate_find, xlate_find_s0_bind, xlate_find_s1_bind, xlate_find_s2_bind, xlate_find_s3_bind, xlate_find_lp0, xlate_find_y0_0, xlate_find_y0_1, cond_bind, within_bind, none_bind, some_bind, sum_bind, bind_bind, Sum.elim_inl, Sum.elim_inr]
def xlate_find_g : Pure := fun R l b K => noBox b (args2 y14 (.int .i64) l (fun x0 x1 => (xlate_find x0 x1).bind fun r => K [.dat y9 r.1 [], .dat .bool r.2 []] none))
theorem xlate_find_n : xlate_find_g.Nat := fun R S l b F G K h => noBox_nat (args2_nat fun _ _ => bindr_nat fun _ => h _ _)
def Tb72 : Funs := Tb71.add 31 [y14, (.int .i64)] xlate_find_g
theorem Tb72_nat : Tb72.Nat := add_nat Tb71_nat xlate_find_n
theorem Tb72_owes : ∀ f, Owes Tryz.prog Tb72 f := add_owes (E := xlate_find_E) ((Tab.env_ok tab_ok _ _ _ _).ro _) mixed Tb71_nat Tb71_owes (fn := Tryz.f31) (code := xlate_find_c) Tryz.func31 (by kernel_rfl) (by kernel_rfl) fun l b r b' h => by
  obtain ⟨rfl, h⟩ := noBox_some h
  obtain ⟨x0, x1, h1, h2⟩ := own2 (E := xlate_find_E) rfl h
  exact ⟨FUEL, (h2 _ _ _ _ _ _).trans ((xlate_find_eq _ x0 x1 _).trans h1)⟩
def Tryz.laysRepeat_ren : Go.Shelf.Ren := ⟨fun | 105 => 77 | 212 => 87 | 99 => 88 | 165 => 89 | 166 => 90 | 170 => 91 | 169 => 92 | 263 => 104 | 264 => 105 | 206 => 106 | 240 => 107 | 241 => 108 | 276 => 113 | 277 => 114 | n => n, fun | 9 => 9 | 3 => 3 | 4 => 4 | 20 => 20 | 0 => 0 | 46 => 138 | 109 => 139 | 5 => 5 | 72 => 145 | 76 => 149 | 51 => 160 | 146 => 161 | 53 => 50 | 148 => 163 | 70 => 142 | 37 => 143 | 75 => 148 | 127 => 165 | 164 => 169 | 80 => 152 | n => n, fun n => n⟩
theorem Tryz.laysRepeat : Go.Proofs.Lays.n105 Go.Proofs.Tryz.prog Tryz.laysRepeat_ren := {
  mixed := by kernel_rfl,
  f99 := Go.Proofs.Tryz.func88.trans (congrArg some (by kernel_rfl)),
  f105 := Go.Proofs.Tryz.func77.trans (congrArg some (by kernel_rfl)),
  f165 := Go.Proofs.Tryz.func89.trans (congrArg some (by kernel_rfl)),
  f166 := Go.Proofs.Tryz.func90.trans (congrArg some (by kernel_rfl)),
  f169 := Go.Proofs.Tryz.func92.trans (congrArg some (by kernel_rfl)),
  f170 := Go.Proofs.Tryz.func91.trans (congrArg some (by kernel_rfl)),
  f206 := Go.Proofs.Tryz.func106.trans (congrArg some (by kernel_rfl)),
  f212 := Go.Proofs.Tryz.func87.trans (congrArg some (by kernel_rfl)),
  f240 := Go.Proofs.Tryz.func107.trans (congrArg some (by kernel_rfl)),
  f241 := Go.Proofs.Tryz.func108.trans (congrArg some (by kernel_rfl)),
  f263 := Go.Proofs.Tryz.func104.trans (congrArg some (by kernel_rfl)),
  f264 := Go.Proofs.Tryz.func105.trans (congrArg some (by kernel_rfl)),
  f276 := Go.Proofs.Tryz.func113.trans (congrArg some (by kernel_rfl)),
  f277 := Go.Proofs.Tryz.func114.trans (congrArg some (by kernel_rfl)),
  t0 := Go.Proofs.Tryz.underlying0,
  a0 := Go.Proofs.Tryz.isAgg0,
  z0 := Go.Proofs.Tryz.sizeOf0,
  v0 := Go.Proofs.Tryz.zeroValue0,
  t3 := Go.Proofs.Tryz.underlying3,
  a3 := Go.Proofs.Tryz.isAgg3,
  z3 := Go.Proofs.Tryz.sizeOf3,
  v3 := Go.Proofs.Tryz.zeroValue3,
  t4 := Go.Proofs.Tryz.underlying4,
  a4 := Go.Proofs.Tryz.isAgg4,
  z4 := Go.Proofs.Tryz.sizeOf4,
  v4 := Go.Proofs.Tryz.zeroValue4,
  t5 := Go.Proofs.Tryz.underlying5,
  a5 := Go.Proofs.Tryz.isAgg5,
  z5 := Go.Proofs.Tryz.sizeOf5,
  v5 := Go.Proofs.Tryz.zeroValue5,
  t9 := Go.Proofs.Tryz.underlying9,
  a9 := Go.Proofs.Tryz.isAgg9,
  z9 := Go.Proofs.Tryz.sizeOf9,
  v9 := Go.Proofs.Tryz.zeroValue9,
  t20 := Go.Proofs.Tryz.underlying20,
  a20 := Go.Proofs.Tryz.isAgg20,
  z20 := Go.Proofs.Tryz.sizeOf20,
  v20 := Go.Proofs.Tryz.zeroValue20,
  t37 := Go.Proofs.Tryz.underlying143,
  a37 := Go.Proofs.Tryz.isAgg143,
  z37 := Go.Proofs.Tryz.sizeOf143,
  v37 := Go.Proofs.Tryz.zeroValue143,
  t46 := Go.Proofs.Tryz.underlying138,
  a46 := Go.Proofs.Tryz.isAgg138,
  z46 := Go.Proofs.Tryz.sizeOf138,
  v46 := Go.Proofs.Tryz.zeroValue138,
  t51 := Go.Proofs.Tryz.underlying160,
  a51 := Go.Proofs.Tryz.isAgg160,
  z51 := Go.Proofs.Tryz.sizeOf160,
  v51 := Go.Proofs.Tryz.zeroValue160,
  t53 := Go.Proofs.Tryz.underlying50,
  a53 := Go.Proofs.Tryz.isAgg50,
  z53 := Go.Proofs.Tryz.sizeOf50,
  v53 := Go.Proofs.Tryz.zeroValue50,
  t70 := Go.Proofs.Tryz.underlying142,
  a70 := Go.Proofs.Tryz.isAgg142,
  z70 := Go.Proofs.Tryz.sizeOf142,
  v70 := Go.Proofs.Tryz.zeroValue142,
  t72 := Go.Proofs.Tryz.underlying145,
  a72 := Go.Proofs.Tryz.isAgg145,
  z72 := Go.Proofs.Tryz.sizeOf145,
  v72 := Go.Proofs.Tryz.zeroValue145,
  t75 := Go.Proofs.Tryz.underlying148,
  a75 := Go.Proofs.Tryz.isAgg148,
  z75 := Go.Proofs.Tryz.sizeOf148,
  v75 := Go.Proofs.Tryz.zeroValue148,
  t76 := Go.Proofs.Tryz.underlying149,
  a76 := Go.Proofs.Tryz.isAgg149,
  z76 := Go.Proofs.Tryz.sizeOf149,
  v76 := Go.Proofs.Tryz.zeroValue149,
  t109 := Go.Proofs.Tryz.underlying139,
  a109 := Go.Proofs.Tryz.isAgg139,
  z109 := Go.Proofs.Tryz.sizeOf139,
  v109 := Go.Proofs.Tryz.zeroValue139,
  t127 := Go.Proofs.Tryz.underlying165,
  a127 := Go.Proofs.Tryz.isAgg165,
  z127 := Go.Proofs.Tryz.sizeOf165,
  v127 := Go.Proofs.Tryz.zeroValue165,
  t146 := Go.Proofs.Tryz.underlying161,
  a146 := Go.Proofs.Tryz.isAgg161,
  z146 := Go.Proofs.Tryz.sizeOf161,
  v146 := Go.Proofs.Tryz.zeroValue161,
  t148 := Go.Proofs.Tryz.underlying163,
  a148 := Go.Proofs.Tryz.isAgg163,
  z148 := Go.Proofs.Tryz.sizeOf163,
  v148 := Go.Proofs.Tryz.zeroValue163,
  t164 := Go.Proofs.Tryz.underlying169,
  a164 := Go.Proofs.Tryz.isAgg169,
  z164 := Go.Proofs.Tryz.sizeOf169,
  v164 := Go.Proofs.Tryz.zeroValue169 }
theorem Tryz.extraRepeat : Go.Proofs.Builder.Extra Go.Proofs.Tryz.prog Tryz.laysRepeat_ren := {
  sizeBuilder := by kernel_rfl,
  liesBuilder := by kernel_rfl,
  t5 := Tryz.laysRepeat.t5,
  a5 := Tryz.laysRepeat.a5,
  z5 := Tryz.laysRepeat.z5,
  v5 := Tryz.laysRepeat.v5,
  infoByte := by kernel_rfl,
  cellsByte := by kernel_rfl,
  sizeByte := by kernel_rfl,
  neB5 := by decide }
noncomputable abbrev strings_Repeat_c : Code := Tryz.f77.body.getD .skip
theorem strings_Repeat_ent : Ent Tryz.prog 77 := ⟨Tryz.f77, strings_Repeat_c, Tryz.func77, by kernel_rfl, by kernel_rfl⟩
def strings_Repeat_g : Pure := fun R l b K => noBox b (args2 .str (.int .i64) l fun x0 x1 => (strings_Repeat x0 x1).bind fun r => K [.dat .str r []] none)
theorem strings_Repeat_n : strings_Repeat_g.Nat := fun R S l b F G K h => noBox_nat (args2_nat fun _ _ => bindr_nat fun _ => h _ _)
def Tb73 : Funs := Tb72.add 77 [] strings_Repeat_g
theorem Tb73_nat : Tb73.Nat := add_nat Tb72_nat strings_Repeat_n
theorem Tb73_owes : ∀ f, Owes Tryz.prog Tb73 f := lib_si_s Tb72_owes strings_Repeat_ent strings_Repeat (strings_Repeat_calls Tryz.laysRepeat Tryz.extraRepeat (by kernel_rfl))
noncomputable abbrev strings_trimRightByte_c : Code := Tryz.f94.body.getD .skip
def strings_trimRightByte_E : Env := tab.env (fun i => bif Nat.beq i 1 then [0, 1] else []) (fun i => bif Nat.beq i 1 then [0] else []) [] [.str, (.int .u8)]
def strings_trimRightByte_h0 (s_0 : ByteArray) (c_1 : Int) : State := ⟨[.dat .str s_0 []]::[.dat (.int .u8) c_1 []]::(uS 21 ([])), nS 24 []⟩
def strings_trimRightByte_x0_0 (s_0 : ByteArray) : State := ⟨[.dat .str s_0 []]::(uS 22 ([])), nS 24 []⟩
theorem strings_trimRightByte_t (R : Type) (kk : Nat) (s_0 : ByteArray) (c_1 : Int) (K : List SV → Option Box → Option R) : evFn strings_trimRightByte_E (Tb73 R) kk Tryz.f94 strings_trimRightByte_c [.dat .str s_0 [], .dat (.int .u8) c_1 []] none K =
  strings_trimRightByte_s0 s_0 c_1 (fun a0 a1 => loopR (ev strings_trimRightByte_E (Tb73 R) kk (sub [1, 0, 0, 0] strings_trimRightByte_c)) [0, 1] [0] kk (strings_trimRightByte_h0 a0 a1) (kBlock 0 (kSeq strings_trimRightByte_E (Tb73 R) kk (sub [1, 1] strings_trimRightByte_c) (kFin strings_trimRightByte_E Tryz.f94.results.toList none K)))) := by kernel_rfl
theorem strings_trimRightByte_d0 (R : Type) (kk k : Nat) (s_0 : ByteArray) (c_1 : Int) (K : Ex → State → Option R) : loopR (ev strings_trimRightByte_E (Tb73 R) kk (sub [1, 0, 0, 0] strings_trimRightByte_c)) [0, 1] [0] (k + 1) (strings_trimRightByte_h0 s_0 c_1) K =
  strings_trimRightByte_s1 s_0 c_1 (fun a0 a1 => loopR (ev strings_trimRightByte_E (Tb73 R) kk (sub [1, 0, 0, 0] strings_trimRightByte_c)) [0, 1] [0] k (strings_trimRightByte_h0 a0 a1) K) (fun a0 => K (.exit 0) (strings_trimRightByte_x0_0 a0)) := by kernel_rfl
theorem strings_trimRightByte_y0_0 (R : Type) (kk : Nat) (s_0 : ByteArray) (K : List SV → Option Box → Option R) : (kBlock 0 (kSeq strings_trimRightByte_E (Tb73 R) kk (sub [1, 1] strings_trimRightByte_c) (kFin strings_trimRightByte_E Tryz.f94.results.toList none K))) (.exit 0) (strings_trimRightByte_x0_0 s_0) =
  strings_trimRightByte_s2 s_0 (fun a0 => K [.dat .str a0 []] none) := by kernel_rfl
theorem strings_trimRightByte_lp0 (R : Type) (k : Nat) (s_0 : ByteArray) (c_1 : Int) (K : Ex → State → Option R) : loopR (ev strings_trimRightByte_E (Tb73 R) FUEL (sub [1, 0, 0, 0] strings_trimRightByte_c)) [0, 1] [0] k (strings_trimRightByte_h0 s_0 c_1) K = (strings_trimRightByte_l0 k s_0 c_1).bind fun e => K (.exit 0) (strings_trimRightByte_x0_0 e) := by
  induction k generalizing s_0 c_1 with
  | zero => rfl
  | succ k ih =>
    rw [strings_trimRightByte_d0]
    simp only [strings_trimRightByte_l0, strings_trimRightByte_s0_bind, strings_trimRightByte_s1_bind, strings_trimRightByte_s2_bind, ih, cond_bind, within_bind, none_bind, some_bind, sum_bind, bind_bind, Sum.elim_inl, Sum.elim_inr]
theorem strings_trimRightByte_eq (R : Type) (s_0 : ByteArray) (c_1 : Int) (K : List SV → Option Box → Option R) : evFn strings_trimRightByte_E (Tb73 R) FUEL Tryz.f94 strings_trimRightByte_c [.dat .str s_0 [], .dat (.int .u8) c_1 []] none K = (strings_trimRightByte s_0 c_1).bind fun r => K [.dat .str r []] none := by
  rw [strings_trimRightByte_t]
  simp only [strings_trimRightByte, strings_trimRightByte_s0_bind, strings_trimRightByte_s1_bind, strings_trimRightByte_s2_bind, strings_trimRightByte_lp0, strings_trimRightByte_y0_0, cond_bind, within_bind, none_bind, some_bind, sum_bind, bind_bind, Sum.elim_inl, Sum.elim_inr]
def strings_trimRightByte_g : Pure := fun R l b K => noBox b (args2 .str (.int .u8) l (fun x0 x1 => (strings_trimRightByte x0 x1).bind fun r => K [.dat .str r []] none))
theorem strings_trimRightByte_n : strings_trimRightByte_g.Nat := fun R S l b F G K h => noBox_nat (args2_nat fun _ _ => bindr_nat fun _ => h _ _)
def Tb74 : Funs := Tb73.add 94 [.str, (.int .u8)] strings_trimRightByte_g
theorem Tb74_nat : Tb74.Nat := add_nat Tb73_nat strings_trimRightByte_n
theorem Tb74_owes : ∀ f, Owes Tryz.prog Tb74 f := add_owes (E := strings_trimRightByte_E) (Tab.env_ok tab_ok _ _ _ _) mixed Tb73_nat Tb73_owes (fn := Tryz.f94) (code := strings_trimRightByte_c) Tryz.func94 (by kernel_rfl) (by kernel_rfl) fun l b r b' h => by
  obtain ⟨rfl, h⟩ := noBox_some h
  obtain ⟨x0, x1, h1, h2⟩ := own2 (E := strings_trimRightByte_E) rfl h
  exact ⟨FUEL, (h2 _ _ _ _ _ _).trans ((strings_trimRightByte_eq _ x0 x1 _).trans h1)⟩
noncomputable abbrev strings_trimLeftByte_c : Code := Tryz.f93.body.getD .skip
def strings_trimLeftByte_E : Env := tab.env (fun i => bif Nat.beq i 1 then [0, 1] else []) (fun i => bif Nat.beq i 1 then [0] else []) [] [.str, (.int .u8)]
def strings_trimLeftByte_h0 (s_0 : ByteArray) (c_1 : Int) : State := ⟨[.dat .str s_0 []]::[.dat (.int .u8) c_1 []]::(uS 15 ([])), nS 18 []⟩
def strings_trimLeftByte_x0_0 (s_0 : ByteArray) : State := ⟨[.dat .str s_0 []]::(uS 16 ([])), nS 18 []⟩
theorem strings_trimLeftByte_t (R : Type) (kk : Nat) (s_0 : ByteArray) (c_1 : Int) (K : List SV → Option Box → Option R) : evFn strings_trimLeftByte_E (Tb74 R) kk Tryz.f93 strings_trimLeftByte_c [.dat .str s_0 [], .dat (.int .u8) c_1 []] none K =
  strings_trimLeftByte_s0 s_0 c_1 (fun a0 a1 => loopR (ev strings_trimLeftByte_E (Tb74 R) kk (sub [1, 0, 0, 0] strings_trimLeftByte_c)) [0, 1] [0] kk (strings_trimLeftByte_h0 a0 a1) (kBlock 0 (kSeq strings_trimLeftByte_E (Tb74 R) kk (sub [1, 1] strings_trimLeftByte_c) (kFin strings_trimLeftByte_E Tryz.f93.results.toList none K)))) := by kernel_rfl
theorem strings_trimLeftByte_d0 (R : Type) (kk k : Nat) (s_0 : ByteArray) (c_1 : Int) (K : Ex → State → Option R) : loopR (ev strings_trimLeftByte_E (Tb74 R) kk (sub [1, 0, 0, 0] strings_trimLeftByte_c)) [0, 1] [0] (k + 1) (strings_trimLeftByte_h0 s_0 c_1) K =
  strings_trimLeftByte_s1 s_0 c_1 (fun a0 a1 => loopR (ev strings_trimLeftByte_E (Tb74 R) kk (sub [1, 0, 0, 0] strings_trimLeftByte_c)) [0, 1] [0] k (strings_trimLeftByte_h0 a0 a1) K) (fun a0 => K (.exit 0) (strings_trimLeftByte_x0_0 a0)) := by kernel_rfl
theorem strings_trimLeftByte_y0_0 (R : Type) (kk : Nat) (s_0 : ByteArray) (K : List SV → Option Box → Option R) : (kBlock 0 (kSeq strings_trimLeftByte_E (Tb74 R) kk (sub [1, 1] strings_trimLeftByte_c) (kFin strings_trimLeftByte_E Tryz.f93.results.toList none K))) (.exit 0) (strings_trimLeftByte_x0_0 s_0) =
  strings_trimLeftByte_s2 s_0 (fun a0 => K [.dat .str a0 []] none) := by kernel_rfl
theorem strings_trimLeftByte_lp0 (R : Type) (k : Nat) (s_0 : ByteArray) (c_1 : Int) (K : Ex → State → Option R) : loopR (ev strings_trimLeftByte_E (Tb74 R) FUEL (sub [1, 0, 0, 0] strings_trimLeftByte_c)) [0, 1] [0] k (strings_trimLeftByte_h0 s_0 c_1) K = (strings_trimLeftByte_l0 k s_0 c_1).bind fun e => K (.exit 0) (strings_trimLeftByte_x0_0 e) := by
  induction k generalizing s_0 c_1 with
  | zero => rfl
  | succ k ih =>
    rw [strings_trimLeftByte_d0]
    simp only [strings_trimLeftByte_l0, strings_trimLeftByte_s0_bind, strings_trimLeftByte_s1_bind, strings_trimLeftByte_s2_bind, ih, cond_bind, within_bind, none_bind, some_bind, sum_bind, bind_bind, Sum.elim_inl, Sum.elim_inr]
theorem strings_trimLeftByte_eq (R : Type) (s_0 : ByteArray) (c_1 : Int) (K : List SV → Option Box → Option R) : evFn strings_trimLeftByte_E (Tb74 R) FUEL Tryz.f93 strings_trimLeftByte_c [.dat .str s_0 [], .dat (.int .u8) c_1 []] none K = (strings_trimLeftByte s_0 c_1).bind fun r => K [.dat .str r []] none := by
  rw [strings_trimLeftByte_t]
  simp only [strings_trimLeftByte, strings_trimLeftByte_s0_bind, strings_trimLeftByte_s1_bind, strings_trimLeftByte_s2_bind, strings_trimLeftByte_lp0, strings_trimLeftByte_y0_0, cond_bind, within_bind, none_bind, some_bind, sum_bind, bind_bind, Sum.elim_inl, Sum.elim_inr]
def strings_trimLeftByte_g : Pure := fun R l b K => noBox b (args2 .str (.int .u8) l (fun x0 x1 => (strings_trimLeftByte x0 x1).bind fun r => K [.dat .str r []] none))
theorem strings_trimLeftByte_n : strings_trimLeftByte_g.Nat := fun R S l b F G K h => noBox_nat (args2_nat fun _ _ => bindr_nat fun _ => h _ _)
def Tb75 : Funs := Tb74.add 93 [.str, (.int .u8)] strings_trimLeftByte_g
theorem Tb75_nat : Tb75.Nat := add_nat Tb74_nat strings_trimLeftByte_n
theorem Tb75_owes : ∀ f, Owes Tryz.prog Tb75 f := add_owes (E := strings_trimLeftByte_E) (Tab.env_ok tab_ok _ _ _ _) mixed Tb74_nat Tb74_owes (fn := Tryz.f93) (code := strings_trimLeftByte_c) Tryz.func93 (by kernel_rfl) (by kernel_rfl) fun l b r b' h => by
  obtain ⟨rfl, h⟩ := noBox_some h
  obtain ⟨x0, x1, h1, h2⟩ := own2 (E := strings_trimLeftByte_E) rfl h
  exact ⟨FUEL, (h2 _ _ _ _ _ _).trans ((strings_trimLeftByte_eq _ x0 x1 _).trans h1)⟩
noncomputable abbrev strings_Trim_c : Code := Tryz.f78.body.getD .skip
def strings_Trim_E : Env := tab.env (fun _ => []) (fun _ => []) [] [.str, .str]
theorem strings_Trim_t (R : Type) (kk : Nat) (s_0 : ByteArray) (cutset_1 : ByteArray) (K : List SV → Option Box → Option R) : evFn strings_Trim_E (Tb75 R) kk Tryz.f78 strings_Trim_c [.dat .str s_0 [], .dat .str cutset_1 []] none K =
  strings_Trim_s0 s_0 cutset_1 (fun a0 => K [.dat .str a0 []] none) := by kernel_rfl
theorem strings_Trim_eq (R : Type) (s_0 : ByteArray) (cutset_1 : ByteArray) (K : List SV → Option Box → Option R) : evFn strings_Trim_E (Tb75 R) FUEL Tryz.f78 strings_Trim_c [.dat .str s_0 [], .dat .str cutset_1 []] none K = (strings_Trim s_0 cutset_1).bind fun r => K [.dat .str r []] none := by
  rw [strings_Trim_t]
  simp only [strings_Trim, strings_Trim_s0_bind, cond_bind, within_bind, none_bind, some_bind, sum_bind, bind_bind, Sum.elim_inl, Sum.elim_inr]
def strings_Trim_g : Pure := fun R l b K => noBox b (args2 .str .str l (fun x0 x1 => (strings_Trim x0 x1).bind fun r => K [.dat .str r []] none))
theorem strings_Trim_n : strings_Trim_g.Nat := fun R S l b F G K h => noBox_nat (args2_nat fun _ _ => bindr_nat fun _ => h _ _)
def Tb76 : Funs := Tb75.add 78 [.str, .str] strings_Trim_g
theorem Tb76_nat : Tb76.Nat := add_nat Tb75_nat strings_Trim_n
theorem Tb76_owes : ∀ f, Owes Tryz.prog Tb76 f := add_owes (E := strings_Trim_E) (Tab.env_ok tab_ok _ _ _ _) mixed Tb75_nat Tb75_owes (fn := Tryz.f78) (code := strings_Trim_c) Tryz.func78 (by kernel_rfl) (by kernel_rfl) fun l b r b' h => by
  obtain ⟨rfl, h⟩ := noBox_some h
  obtain ⟨x0, x1, h1, h2⟩ := own2 (E := strings_Trim_E) rfl h
  exact ⟨FUEL, (h2 _ _ _ _ _ _).trans ((strings_Trim_eq _ x0 x1 _).trans h1)⟩
noncomputable abbrev digits_Pad_c : Code := Tryz.f59.body.getD .skip
def digits_Pad_E : Env := tab.env (fun _ => []) (fun _ => []) [] [.str, (.int .i64)]
theorem digits_Pad_t (R : Type) (kk : Nat) (s_0 : ByteArray) (width_1 : Int) (K : List SV → Option Box → Option R) : evFn digits_Pad_E (Tb76 R) kk Tryz.f59 digits_Pad_c [.dat .str s_0 [], .dat (.int .i64) width_1 []] none K =
  digits_Pad_s0 s_0 width_1 (fun a0 a1 => K [.dat .str a0 [], .dat .bool a1 []] none) := by kernel_rfl
theorem digits_Pad_eq (R : Type) (s_0 : ByteArray) (width_1 : Int) (K : List SV → Option Box → Option R) : evFn digits_Pad_E (Tb76 R) FUEL Tryz.f59 digits_Pad_c [.dat .str s_0 [], .dat (.int .i64) width_1 []] none K = (digits_Pad s_0 width_1).bind fun r => K [.dat .str r.1 [], .dat .bool r.2 []] none := by
  rw [digits_Pad_t]
  simp only [digits_Pad, digits_Pad_s0_bind, cond_bind, within_bind, none_bind, some_bind, sum_bind, bind_bind, Sum.elim_inl, Sum.elim_inr]
def digits_Pad_g : Pure := fun R l b K => noBox b (args2 .str (.int .i64) l (fun x0 x1 => (digits_Pad x0 x1).bind fun r => K [.dat .str r.1 [], .dat .bool r.2 []] none))
theorem digits_Pad_n : digits_Pad_g.Nat := fun R S l b F G K h => noBox_nat (args2_nat fun _ _ => bindr_nat fun _ => h _ _)
def Tb77 : Funs := Tb76.add 59 [.str, (.int .i64)] digits_Pad_g
theorem Tb77_nat : Tb77.Nat := add_nat Tb76_nat digits_Pad_n
theorem Tb77_owes : ∀ f, Owes Tryz.prog Tb77 f := add_owes (E := digits_Pad_E) (Tab.env_ok tab_ok _ _ _ _) mixed Tb76_nat Tb76_owes (fn := Tryz.f59) (code := digits_Pad_c) Tryz.func59 (by kernel_rfl) (by kernel_rfl) fun l b r b' h => by
  obtain ⟨rfl, h⟩ := noBox_some h
  obtain ⟨x0, x1, h1, h2⟩ := own2 (E := digits_Pad_E) rfl h
  exact ⟨FUEL, (h2 _ _ _ _ _ _).trans ((digits_Pad_eq _ x0 x1 _).trans h1)⟩
noncomputable abbrev codes_Apply_c : Code := Tryz.f60.body.getD .skip
def codes_Apply_E : Env := tab.env (fun i => bif Nat.beq i 2 then [1, 8, 9, 10] else []) (fun i => bif Nat.beq i 2 then [4, 5] else []) [] [(.sl 42 (.pair .str (.pair .str .unit))), .str]
def codes_Apply_h0 (text_1 : ByteArray) (t8 : Zt12) (t9 : Int) (t10 : Int) : State := ⟨uS 1 ([.dat .str text_1 []]::(uS 6 ([.dat (.sl 42 (.pair .str (.pair .str .unit))) t8 []]::[.dat (.int .i64) t9 []]::[.dat (.int .i64) t10 []]::(uS 10 ([]))))), nS 22 []⟩
def codes_Apply_x0_0 (t4 : ByteArray) (t5 : Bool) : State := ⟨uS 4 ([.dat .str t4 []]::[.dat .bool t5 []]::(uS 15 ([]))), nS 22 []⟩
def codes_Apply_x0_1  : State := ⟨uS 21 [], nS 22 []⟩
theorem codes_Apply_t (R : Type) (kk : Nat) (l_0 : Zt12) (text_1 : ByteArray) (K : List SV → Option Box → Option R) : evFn codes_Apply_E (Tb77 R) kk Tryz.f60 codes_Apply_c [.dat (.sl 42 (.pair .str (.pair .str .unit))) l_0 [], .dat .str text_1 []] none K =
  codes_Apply_s0 l_0 text_1 (fun a0 a1 a2 a3 => loopR (ev codes_Apply_E (Tb77 R) kk (sub [1, 0, 1, 0, 0] codes_Apply_c)) [1, 8, 9, 10] [4, 5] kk (codes_Apply_h0 a0 a1 a2 a3) (kBlock 0 (kSeq codes_Apply_E (Tb77 R) kk (sub [1, 1] codes_Apply_c) (kFin codes_Apply_E Tryz.f60.results.toList none K)))) := by kernel_rfl
theorem codes_Apply_d0 (R : Type) (kk k : Nat) (text_1 : ByteArray) (t8 : Zt12) (t9 : Int) (t10 : Int) (K : Ex → State → Option R) : loopR (ev codes_Apply_E (Tb77 R) kk (sub [1, 0, 1, 0, 0] codes_Apply_c)) [1, 8, 9, 10] [4, 5] (k + 1) (codes_Apply_h0 text_1 t8 t9 t10) K =
  codes_Apply_s1 text_1 t8 t9 t10 (fun a0 a1 => K .ret (codes_Apply_x0_0 a0 a1)) (fun a0 a1 a2 a3 => loopR (ev codes_Apply_E (Tb77 R) kk (sub [1, 0, 1, 0, 0] codes_Apply_c)) [1, 8, 9, 10] [4, 5] k (codes_Apply_h0 a0 a1 a2 a3) K) (K (.exit 0) (codes_Apply_x0_1)) := by kernel_rfl
theorem codes_Apply_y0_0 (R : Type) (kk : Nat) (t4 : ByteArray) (t5 : Bool) (K : List SV → Option Box → Option R) : (kBlock 0 (kSeq codes_Apply_E (Tb77 R) kk (sub [1, 1] codes_Apply_c) (kFin codes_Apply_E Tryz.f60.results.toList none K))) .ret (codes_Apply_x0_0 t4 t5) =
  codes_Apply_s2 t4 t5 (fun a0 a1 => K [.dat .str a0 [], .dat .bool a1 []] none) := by kernel_rfl
theorem codes_Apply_y0_1 (R : Type) (kk : Nat)  (K : List SV → Option Box → Option R) : (kBlock 0 (kSeq codes_Apply_E (Tb77 R) kk (sub [1, 1] codes_Apply_c) (kFin codes_Apply_E Tryz.f60.results.toList none K))) (.exit 0) (codes_Apply_x0_1) =
  codes_Apply_s3 (fun a0 a1 => K [.dat .str a0 [], .dat .bool a1 []] none) := by kernel_rfl
theorem codes_Apply_lp0 (R : Type) (k : Nat) (text_1 : ByteArray) (t8 : Zt12) (t9 : Int) (t10 : Int) (K : Ex → State → Option R) : loopR (ev codes_Apply_E (Tb77 R) FUEL (sub [1, 0, 1, 0, 0] codes_Apply_c)) [1, 8, 9, 10] [4, 5] k (codes_Apply_h0 text_1 t8 t9 t10) K = (codes_Apply_l0 k text_1 t8 t9 t10).bind fun e => (Sum.elim (fun (we : Zt3) => K .ret (codes_Apply_x0_0 we.1 we.2)) (fun (we : Unit) => K (.exit 0) (codes_Apply_x0_1)) e) := by
  induction k generalizing text_1 t8 t9 t10 with
  | zero => rfl
  | succ k ih =>
    rw [codes_Apply_d0]
    simp only [codes_Apply_l0, codes_Apply_s0_bind, codes_Apply_s1_bind, codes_Apply_s2_bind, codes_Apply_s3_bind, ih, cond_bind, within_bind, none_bind, some_bind, sum_bind, bind_bind, Sum.elim_inl, Sum.elim_inr]
theorem codes_Apply_eq (R : Type) (l_0 : Zt12) (text_1 : ByteArray) (K : List SV → Option Box → Option R) : evFn codes_Apply_E (Tb77 R) FUEL Tryz.f60 codes_Apply_c [.dat (.sl 42 (.pair .str (.pair .str .unit))) l_0 [], .dat .str text_1 []] none K = (codes_Apply l_0 text_1).bind fun r => K [.dat .str r.1 [], .dat .bool r.2 []] none := by
  rw [codes_Apply_t]
  simp only [codes_Apply, codes_Apply_s0_bind, codes_Apply_s1_bind, codes_Apply_s2_bind, codes_Apply_s3_bind, codes_Apply_lp0, codes_Apply_y0_0, codes_Apply_y0_1, cond_bind, within_bind, none_bind, some_bind, sum_bind, bind_bind, Sum.elim_inl, Sum.elim_inr]
def codes_Apply_g : Pure := fun R l b K => noBox b (args2 (.sl 42 (.pair .str (.pair .str .unit))) .str l (fun x0 x1 => (codes_Apply x0 x1).bind fun r => K [.dat .str r.1 [], .dat .bool r.2 []] none))
theorem codes_Apply_n : codes_Apply_g.Nat := fun R S l b F G K h => noBox_nat (args2_nat fun _ _ => bindr_nat fun _ => h _ _)
def Tb78 : Funs := Tb77.add 60 [(.sl 42 (.pair .str (.pair .str .unit))), .str] codes_Apply_g
theorem Tb78_nat : Tb78.Nat := add_nat Tb77_nat codes_Apply_n
theorem Tb78_owes : ∀ f, Owes Tryz.prog Tb78 f := add_owes (E := codes_Apply_E) (Tab.env_ok tab_ok _ _ _ _) mixed Tb77_nat Tb77_owes (fn := Tryz.f60) (code := codes_Apply_c) Tryz.func60 (by kernel_rfl) (by kernel_rfl) fun l b r b' h => by
  obtain ⟨rfl, h⟩ := noBox_some h
  obtain ⟨x0, x1, h1, h2⟩ := own2 (E := codes_Apply_E) rfl h
  exact ⟨FUEL, (h2 _ _ _ _ _ _).trans ((codes_Apply_eq _ x0 x1 _).trans h1)⟩
noncomputable abbrev rule_Apply_c : Code := Tryz.f32.body.getD .skip
def rule_Apply_E : Env := tab.env (fun _ => []) (fun _ => []) [6] [y9, y13, .str]
theorem rule_Apply_t (R : Type) (kk : Nat) (r_0 : Zt18) (b_1 : Zt16) (text_2 : ByteArray) (K : List SV → Option Box → Option R) : evFn rule_Apply_E (Tb78 R) kk Tryz.f32 rule_Apply_c [.dat y9 r_0 [], .dat y13 b_1 [], .dat .str text_2 []] none K =
  rule_Apply_s0 r_0 b_1 text_2 (fun a0 a1 => K [.dat (.pair (.int .i64) (.pair .str .unit)) a0 [], .dat (.int .i64) a1 []] none) := by kernel_rfl
theorem rule_Apply_eq (R : Type) (r_0 : Zt18) (b_1 : Zt16) (text_2 : ByteArray) (K : List SV → Option Box → Option R) : evFn rule_Apply_E (Tb78 R) FUEL Tryz.f32 rule_Apply_c [.dat y9 r_0 [], .dat y13 b_1 [], .dat .str text_2 []] none K = (rule_Apply r_0 b_1 text_2).bind fun r => K [.dat (.pair (.int .i64) (.pair .str .unit)) r.1 [], .dat (.int .i64) r.2 []] none := by
  rw [rule_Apply_t]
  simp only [rule_Apply, rule_Apply_s0_bind, cond_bind, within_bind, none_bind, some_bind, sum_bind, bind_bind, Sum.elim_inl, Sum.elim_inr]
def rule_Apply_g : Pure := fun R l b K => noBox b (args3 y9 y13 .str l (fun x0 x1 x2 => (rule_Apply x0 x1 x2).bind fun r => K [.dat (.pair (.int .i64) (.pair .str .unit)) r.1 [], .dat (.int .i64) r.2 []] none))
theorem rule_Apply_n : rule_Apply_g.Nat := fun R S l b F G K h => noBox_nat (args3_nat fun _ _ _ => bindr_nat fun _ => h _ _)
def Tb79 : Funs := Tb78.add 32 [y9, y13, .str] rule_Apply_g
theorem Tb79_nat : Tb79.Nat := add_nat Tb78_nat rule_Apply_n
theorem Tb79_owes : ∀ f, Owes Tryz.prog Tb79 f := add_owes (E := rule_Apply_E) (Tab.env_ok tab_ok _ _ _ _) mixed Tb78_nat Tb78_owes (fn := Tryz.f32) (code := rule_Apply_c) Tryz.func32 (by kernel_rfl) (by kernel_rfl) fun l b r b' h => by
  obtain ⟨rfl, h⟩ := noBox_some h
  obtain ⟨x0, x1, x2, h1, h2⟩ := own3 (E := rule_Apply_E) rfl h
  exact ⟨FUEL, (h2 _ _ _ _ _ _).trans ((rule_Apply_eq _ x0 x1 x2 _).trans h1)⟩
noncomputable abbrev xlate_Translate_c : Code := Tryz.f10.body.getD .skip
def xlate_Translate_E : Env := { { tab.env (fun i => bif Nat.beq i 12 then [4, 6, 7, 8, 9, 16, 59, 60, 61] else bif Nat.beq i 18 then [4, 6, 8, 9, 16, 76, 77, 78] else []) (fun i => bif Nat.beq i 12 then [4, 6, 7, 8, 9, 16] else bif Nat.beq i 18 then [8, 9, 16] else []) [8, 9] [y14, y13, y13, y4] with dr := fun i => bif Nat.beq i 12 then [17] else [] } with ro := true }
def xlate_Translate_h0 (t59 : Zt20) (t60 : Int) (t61 : Int) (bt4 : Zt22) (bt6 : Zt16) (bt7 : Zt15) (bt8 : Zt15) (bt9 : Zt4) (bt16 : Zt15) : State := ⟨uS 4 ([.ptr 5 y14 []]::(uS 1 ([.ptr 7 y13 []]::[.ptr 8 y4 []]::[.ptr 9 y4 []]::[.ptr 10 (.pair (.int .i64) (.pair (.int .i64) .unit)) []]::(uS 6 ([.ptr 17 y4 []]::(uS 42 ([.dat (.sl 46 y9) t59 []]::[.dat (.int .i64) t60 []]::[.dat (.int .i64) t61 []]::(uS 60 ([]))))))))), nS 5 ((some ⟨y14, bt4, []⟩)::(nS 1 ((some ⟨y13, bt6, []⟩)::(some ⟨y4, bt7, []⟩)::(some ⟨y4, bt8, [[1]]⟩)::(some ⟨(.pair (.int .i64) (.pair (.int .i64) .unit)), bt9, []⟩)::(nS 6 ((some ⟨y4, bt16, []⟩)::(nS 105 ([])))))))⟩
def xlate_Translate_x0_0 (bt4 : Zt22) (bt6 : Zt16) (bt7 : Zt15) (bt8 : Zt15) (bt9 : Zt4) (bt16 : Zt15) : State := ⟨uS 4 ([.ptr 5 y14 []]::(uS 1 ([.ptr 7 y13 []]::[.ptr 8 y4 []]::[.ptr 9 y4 []]::[.ptr 10 (.pair (.int .i64) (.pair (.int .i64) .unit)) []]::(uS 6 ([.ptr 17 y4 []]::(uS 105 ([]))))))), nS 5 ((some ⟨y14, bt4, []⟩)::(nS 1 ((some ⟨y13, bt6, []⟩)::(some ⟨y4, bt7, []⟩)::(some ⟨y4, bt8, [[1]]⟩)::(some ⟨(.pair (.int .i64) (.pair (.int .i64) .unit)), bt9, []⟩)::(nS 6 ((some ⟨y4, bt16, []⟩)::(nS 105 ([])))))))⟩
def xlate_Translate_h1 (t76 : Zt9) (t77 : Int) (t78 : Int) (bt4 : Zt22) (bt6 : Zt16) (bt8 : Zt15) (bt9 : Zt4) (bt16 : Zt15) : State := ⟨uS 4 ([.ptr 5 y14 []]::(uS 1 ([.ptr 7 y13 []]::(uS 1 ([.ptr 9 y4 []]::[.ptr 10 (.pair (.int .i64) (.pair (.int .i64) .unit)) []]::(uS 6 ([.ptr 17 y4 []]::(uS 59 ([.dat (.sl 44 (.pair (.int .i64) (.pair .str .unit))) t76 []]::[.dat (.int .i64) t77 []]::[.dat (.int .i64) t78 []]::(uS 43 ([]))))))))))), nS 5 ((some ⟨y14, bt4, []⟩)::(nS 1 ((some ⟨y13, bt6, []⟩)::(nS 1 ((some ⟨y4, bt8, [[1]]⟩)::(some ⟨(.pair (.int .i64) (.pair (.int .i64) .unit)), bt9, []⟩)::(nS 6 ((some ⟨y4, bt16, []⟩)::(nS 105 ([])))))))))⟩
def xlate_Translate_x1_0 (bt8 : Zt15) (bt9 : Zt4) (bt16 : Zt15) : State := ⟨uS 8 ([.ptr 9 y4 []]::[.ptr 10 (.pair (.int .i64) (.pair (.int .i64) .unit)) []]::(uS 6 ([.ptr 17 y4 []]::(uS 105 ([]))))), nS 9 ((some ⟨y4, bt8, [[1]]⟩)::(some ⟨(.pair (.int .i64) (.pair (.int .i64) .unit)), bt9, []⟩)::(nS 6 ((some ⟨y4, bt16, []⟩)::(nS 105 ([])))))⟩
def xlate_Translate_x1_1 (bt8 : Zt15) (bt9 : Zt4) (bt16 : Zt15) : State := ⟨uS 8 ([.ptr 9 y4 []]::[.ptr 10 (.pair (.int .i64) (.pair (.int .i64) .unit)) []]::(uS 6 ([.ptr 17 y4 []]::(uS 105 ([]))))), nS 9 ((some ⟨y4, bt8, [[1]]⟩)::(some ⟨(.pair (.int .i64) (.pair (.int .i64) .unit)), bt9, []⟩)::(nS 6 ((some ⟨y4, bt16, []⟩)::(nS 105 ([])))))⟩
theorem xlate_Translate_t (R : Type) (kk : Nat) (m_0 : Zt22) (a_1 : Zt16) (b_2 : Zt16) (x_3 : Zt15) (K : List SV → Option Box → Option R) : evFn xlate_Translate_E (Tb79 R) kk Tryz.f10 xlate_Translate_c [.dat y14 m_0 [], .dat y13 a_1 [], .dat y13 b_2 [], .dat y4 x_3 []] none K =
  xlate_Translate_s0 m_0 a_1 b_2 x_3 (fun a0 a1 => K [.dat y4 a0 [], .dat (.pair (.int .i64) (.pair (.int .i64) .unit)) a1 []] none) (fun a0 a1 a2 a3 a4 a5 a6 a7 a8 => loopR (ev xlate_Translate_E (Tb79 R) kk (sub [1, 1, 1, 1, 1, 1, 0, 1, 0, 0] xlate_Translate_c)) [4, 6, 7, 8, 9, 16, 59, 60, 61] [4, 6, 7, 8, 9, 16] kk (xlate_Translate_h0 a0 a1 a2 a3 a4 a5 a6 a7 a8) (kBlock 0 (kSeq xlate_Translate_E (Tb79 R) kk (sub [1, 1, 1, 1, 1, 1, 1] xlate_Translate_c) (kFin xlate_Translate_E Tryz.f10.results.toList none K)))) := by kernel_rfl
theorem xlate_Translate_d0 (R : Type) (kk k : Nat) (t59 : Zt20) (t60 : Int) (t61 : Int) (bt4 : Zt22) (bt6 : Zt16) (bt7 : Zt15) (bt8 : Zt15) (bt9 : Zt4) (bt16 : Zt15) (K : Ex → State → Option R) : loopR (ev xlate_Translate_E (Tb79 R) kk (sub [1, 1, 1, 1, 1, 1, 0, 1, 0, 0] xlate_Translate_c)) [4, 6, 7, 8, 9, 16, 59, 60, 61] [4, 6, 7, 8, 9, 16] (k + 1) (xlate_Translate_h0 t59 t60 t61 bt4 bt6 bt7 bt8 bt9 bt16) K =
  xlate_Translate_s1 t59 t60 t61 bt4 bt6 bt7 bt8 bt9 bt16 (fun a0 a1 a2 a3 a4 a5 a6 a7 a8 => loopR (ev xlate_Translate_E (Tb79 R) kk (sub [1, 1, 1, 1, 1, 1, 0, 1, 0, 0] xlate_Translate_c)) [4, 6, 7, 8, 9, 16, 59, 60, 61] [4, 6, 7, 8, 9, 16] k (xlate_Translate_h0 a0 a1 a2 a3 a4 a5 a6 a7 a8) K) (fun a0 a1 a2 a3 a4 a5 => K (.exit 0) (xlate_Translate_x0_0 a0 a1 a2 a3 a4 a5)) := by kernel_rfl
theorem xlate_Translate_y0_0 (R : Type) (kk : Nat) (bt4 : Zt22) (bt6 : Zt16) (bt7 : Zt15) (bt8 : Zt15) (bt9 : Zt4) (bt16 : Zt15) (K : List SV → Option Box → Option R) : (kBlock 0 (kSeq xlate_Translate_E (Tb79 R) kk (sub [1, 1, 1, 1, 1, 1, 1] xlate_Translate_c) (kFin xlate_Translate_E Tryz.f10.results.toList none K))) (.exit 0) (xlate_Translate_x0_0 bt4 bt6 bt7 bt8 bt9 bt16) =
  xlate_Translate_s2 bt4 bt6 bt7 bt8 bt9 bt16 (fun a0 a1 a2 a3 a4 a5 a6 a7 => loopR (ev xlate_Translate_E (Tb79 R) kk (sub [1, 1, 1, 1, 1, 1, 1, 0, 1, 0, 0] xlate_Translate_c)) [4, 6, 8, 9, 16, 76, 77, 78] [8, 9, 16] kk (xlate_Translate_h1 a0 a1 a2 a3 a4 a5 a6 a7) (kBlock 2 (kSeq xlate_Translate_E (Tb79 R) kk (sub [1, 1, 1, 1, 1, 1, 1, 1] xlate_Translate_c) (kFin xlate_Translate_E Tryz.f10.results.toList none K)))) := by kernel_rfl
theorem xlate_Translate_d1 (R : Type) (kk k : Nat) (t76 : Zt9) (t77 : Int) (t78 : Int) (bt4 : Zt22) (bt6 : Zt16) (bt8 : Zt15) (bt9 : Zt4) (bt16 : Zt15) (K : Ex → State → Option R) : loopR (ev xlate_Translate_E (Tb79 R) kk (sub [1, 1, 1, 1, 1, 1, 1, 0, 1, 0, 0] xlate_Translate_c)) [4, 6, 8, 9, 16, 76, 77, 78] [8, 9, 16] (k + 1) (xlate_Translate_h1 t76 t77 t78 bt4 bt6 bt8 bt9 bt16) K =
  xlate_Translate_s3 t76 t77 t78 bt4 bt6 bt8 bt9 bt16 (fun a0 a1 a2 => K .ret (xlate_Translate_x1_0 a0 a1 a2)) (fun a0 a1 a2 a3 a4 a5 a6 a7 => loopR (ev xlate_Translate_E (Tb79 R) kk (sub [1, 1, 1, 1, 1, 1, 1, 0, 1, 0, 0] xlate_Translate_c)) [4, 6, 8, 9, 16, 76, 77, 78] [8, 9, 16] k (xlate_Translate_h1 a0 a1 a2 a3 a4 a5 a6 a7) K) (fun a0 a1 a2 => K (.exit 2) (xlate_Translate_x1_1 a0 a1 a2)) := by kernel_rfl
theorem xlate_Translate_y1_0 (R : Type) (kk : Nat) (bt8 : Zt15) (bt9 : Zt4) (bt16 : Zt15) (K : List SV → Option Box → Option R) : (kBlock 2 (kSeq xlate_Translate_E (Tb79 R) kk (sub [1, 1, 1, 1, 1, 1, 1, 1] xlate_Translate_c) (kFin xlate_Translate_E Tryz.f10.results.toList none K))) .ret (xlate_Translate_x1_0 bt8 bt9 bt16) =
  xlate_Translate_s4 bt8 bt9 bt16 (fun a0 a1 => K [.dat y4 a0 [], .dat (.pair (.int .i64) (.pair (.int .i64) .unit)) a1 []] none) := by kernel_rfl
theorem xlate_Translate_y1_1 (R : Type) (kk : Nat) (bt8 : Zt15) (bt9 : Zt4) (bt16 : Zt15) (K : List SV → Option Box → Option R) : (kBlock 2 (kSeq xlate_Translate_E (Tb79 R) kk (sub [1, 1, 1, 1, 1, 1, 1, 1] xlate_Translate_c) (kFin xlate_Translate_E Tryz.f10.results.toList none K))) (.exit 2) (xlate_Translate_x1_1 bt8 bt9 bt16) =
  xlate_Translate_s5 bt8 bt9 bt16 (fun a0 a1 => K [.dat y4 a0 [], .dat (.pair (.int .i64) (.pair (.int .i64) .unit)) a1 []] none) := by kernel_rfl
theorem xlate_Translate_lp0 (R : Type) (k : Nat) (t59 : Zt20) (t60 : Int) (t61 : Int) (bt4 : Zt22) (bt6 : Zt16) (bt7 : Zt15) (bt8 : Zt15) (bt9 : Zt4) (bt16 : Zt15) (K : Ex → State → Option R) : loopR (ev xlate_Translate_E (Tb79 R) FUEL (sub [1, 1, 1, 1, 1, 1, 0, 1, 0, 0] xlate_Translate_c)) [4, 6, 7, 8, 9, 16, 59, 60, 61] [4, 6, 7, 8, 9, 16] k (xlate_Translate_h0 t59 t60 t61 bt4 bt6 bt7 bt8 bt9 bt16) K = (xlate_Translate_l0 k t59 t60 t61 bt4 bt6 bt7 bt8 bt9 bt16).bind fun e => K (.exit 0) (xlate_Translate_x0_0 e.1 e.2.1 e.2.2.1 e.2.2.2.1 e.2.2.2.2.1 e.2.2.2.2.2) := by
  induction k generalizing t59 t60 t61 bt4 bt6 bt7 bt8 bt9 bt16 with
  | zero => rfl
  | succ k ih =>
    rw [xlate_Translate_d0]
    simp only [xlate_Translate_l0, xlate_Translate_s0_bind, xlate_Translate_s1_bind, xlate_Translate_s2_bind, xlate_Translate_s3_bind, xlate_Translate_s4_bind, xlate_Translate_s5_bind, ih, cond_bind, within_bind, none_bind, some_bind, sum_bind, bind_bind, Sum.elim_inl, Sum.elim_inr]
theorem xlate_Translate_lp1 (R : Type) (k : Nat) (t76 : Zt9) (t77 : Int) (t78 : Int) (bt4 : Zt22) (bt6 : Zt16) (bt8 : Zt15) (bt9 : Zt4) (bt16 : Zt15) (K : Ex → State → Option R) : loopR (ev xlate_Translate_E (Tb79 R) FUEL (sub [1, 1, 1, 1, 1, 1, 1, 0, 1, 0, 0] xlate_Translate_c)) [4, 6, 8, 9, 16, 76, 77, 78] [8, 9, 16] k (xlate_Translate_h1 t76 t77 t78 bt4 bt6 bt8 bt9 bt16) K = (xlate_Translate_l1 k t76 t77 t78 bt4 bt6 bt8 bt9 bt16).bind fun e => (Sum.elim (fun (we : Zt21) => K .ret (xlate_Translate_x1_0 we.1 we.2.1 we.2.2)) (fun (we : Zt21) => K (.exit 2) (xlate_Translate_x1_1 we.1 we.2.1 we.2.2)) e) := by
  induction k generalizing t76 t77 t78 bt4 bt6 bt8 bt9 bt16 with
  | zero => rfl
  | succ k ih =>
    rw [xlate_Translate_d1]
    simp only [xlate_Translate_l1, xlate_Translate_s0_bind, xlate_Translate_s1_bind, xlate_Translate_s2_bind, xlate_Translate_s3_bind, xlate_Translate_s4_bind, xlate_Translate_s5_bind, ih, cond_bind, within_bind, none_bind, some_bind, sum_bind, bind_bind, Sum.elim_inl, Sum.elim_inr]
theorem xlate_Translate_eq (R : Type) (m_0 : Zt22) (a_1 : Zt16) (b_2 : Zt16) (x_3 : Zt15) (K : List SV → Option Box → Option R) : evFn xlate_Translate_E (Tb79 R) FUEL Tryz.f10 xlate_Translate_c [.dat y14 m_0 [], .dat y13 a_1 [], .dat y13 b_2 [], .dat y4 x_3 []] none K = (xlate_Translate m_0 a_1 b_2 x_3).bind fun r => K [.dat y4 r.1 [], .dat (.pair (.int .i64) (.pair (.int .i64) .unit)) r.2 []] none := by
  rw [xlate_Translate_t]
  simp only [xlate_Translate, xlate_Translate_s0_bind, xlate_Translate_s1_bind, xlate_Translate_s2_bind, xlate_Translate_s3_bind, xlate_Translate_s4_bind, xlate_Translate_s5_bind, xlate_Translate_lp0, xlate_Translate_lp1, xlate_Translate_y0_0, xlate_Translate_y1_0, xlate_Translate_y1_1, cond_bind, within_bind, none_bind, some_bind, sum_bind, bind_bind, Sum.elim_inl, Sum.elim_inr]
def xlate_Translate_g : Pure := fun R l b K => noBox b (args4 y14 y13 y13 y4 l (fun x0 x1 x2 x3 => (xlate_Translate x0 x1 x2 x3).bind fun r => K [.dat y4 r.1 [], .dat (.pair (.int .i64) (.pair (.int .i64) .unit)) r.2 []] none))
theorem xlate_Translate_n : xlate_Translate_g.Nat := fun R S l b F G K h => noBox_nat (args4_nat fun _ _ _ _ => bindr_nat fun _ => h _ _)
def Tb80 : Funs := Tb79.add 10 [y14, y13, y13, y4] xlate_Translate_g
theorem Tb80_nat : Tb80.Nat := add_nat Tb79_nat xlate_Translate_n
theorem Tb80_owes : ∀ f, Owes Tryz.prog Tb80 f := add_owes (E := xlate_Translate_E) (((Tab.env_ok tab_ok _ _ _ _).dr _).ro _) mixed Tb79_nat Tb79_owes (fn := Tryz.f10) (code := xlate_Translate_c) Tryz.func10 (by kernel_rfl) (by kernel_rfl) fun l b r b' h => by
  obtain ⟨rfl, h⟩ := noBox_some h
  obtain ⟨x0, x1, x2, x3, h1, h2⟩ := own4 (E := xlate_Translate_E) rfl h
  exact ⟨FUEL, (h2 _ _ _ _ _ _).trans ((xlate_Translate_eq _ x0 x1 x2 x3 _).trans h1)⟩
noncomputable abbrev w22_InvertMakes_c : Code := Tryz.f3.body.getD .skip
def w22_InvertMakes_E : Env := tab.env (fun i => bif Nat.beq i 5 then [3, 4, 5, 7, 49, 50, 51] else bif Nat.beq i 10 then [3, 4, 5, 7, 65, 66, 67] else bif Nat.beq i 14 then [3, 4, 5, 7, 11, 12, 65, 66, 67, 72, 73, 74] else bif Nat.beq i 19 then [3, 4, 5, 7, 11, 12, 65, 66, 67, 72, 73, 74, 87, 88, 89] else []) (fun i => bif Nat.beq i 5 then [3, 4, 5, 7] else bif Nat.beq i 10 then [3, 4, 5, 7] else bif Nat.beq i 14 then [3, 4, 5, 7, 12, 65, 66, 67] else bif Nat.beq i 19 then [3, 4, 5, 7, 11, 12, 65, 66, 67, 72, 73, 74] else []) [] [y14, (.arr 2 y13), y4]
def w22_InvertMakes_h0 (t7 : Bool) (t49 : Zt12) (t50 : Int) (t51 : Int) (bt3 : Zt22) (bt4 : Zt17) (bt5 : Zt15) : State := ⟨uS 3 ([.ptr 4 y14 []]::[.ptr 5 (.arr 2 y13) []]::[.ptr 6 y4 []]::(uS 1 ([.dat .bool t7 []]::(uS 41 ([.dat (.sl 42 (.pair .str (.pair .str .unit))) t49 []]::[.dat (.int .i64) t50 []]::[.dat (.int .i64) t51 []]::(uS 71 ([]))))))), nS 4 ((some ⟨y14, bt3, []⟩)::(some ⟨(.arr 2 y13), bt4, []⟩)::(some ⟨y4, bt5, []⟩)::(nS 117 ([])))⟩
def w22_InvertMakes_x0_0 (t7 : Bool) (bt3 : Zt22) (bt4 : Zt17) (bt5 : Zt15) : State := ⟨uS 3 ([.ptr 4 y14 []]::[.ptr 5 (.arr 2 y13) []]::[.ptr 6 y4 []]::(uS 1 ([.dat .bool t7 []]::(uS 115 ([]))))), nS 4 ((some ⟨y14, bt3, []⟩)::(some ⟨(.arr 2 y13), bt4, []⟩)::(some ⟨y4, bt5, []⟩)::(nS 117 ([])))⟩
def w22_InvertMakes_h1 (t7 : Bool) (t65 : Zt9) (t66 : Int) (t67 : Int) (bt3 : Zt22) (bt4 : Zt17) (bt5 : Zt15) : State := ⟨uS 3 ([.ptr 4 y14 []]::[.ptr 5 (.arr 2 y13) []]::[.ptr 6 y4 []]::(uS 1 ([.dat .bool t7 []]::(uS 57 ([.dat (.sl 44 (.pair (.int .i64) (.pair .str .unit))) t65 []]::[.dat (.int .i64) t66 []]::[.dat (.int .i64) t67 []]::(uS 55 ([]))))))), nS 4 ((some ⟨y14, bt3, []⟩)::(some ⟨(.arr 2 y13), bt4, []⟩)::(some ⟨y4, bt5, []⟩)::(nS 117 ([])))⟩
def w22_InvertMakes_x1_0 (t7 : Bool) (bt3 : Zt22) (bt4 : Zt17) (bt5 : Zt15) : State := ⟨uS 3 ([.ptr 4 y14 []]::[.ptr 5 (.arr 2 y13) []]::[.ptr 6 y4 []]::(uS 1 ([.dat .bool t7 []]::(uS 115 ([]))))), nS 4 ((some ⟨y14, bt3, []⟩)::(some ⟨(.arr 2 y13), bt4, []⟩)::(some ⟨y4, bt5, []⟩)::(nS 117 ([])))⟩
def w22_InvertMakes_h2 (t7 : Bool) (t12 : Bool) (t65 : Zt9) (t66 : Int) (t67 : Int) (t72 : Zt20) (t73 : Int) (t74 : Int) (bt3 : Zt22) (bt4 : Zt17) (bt5 : Zt15) (bt11 : Zt6) : State := ⟨uS 3 ([.ptr 4 y14 []]::[.ptr 5 (.arr 2 y13) []]::[.ptr 6 y4 []]::(uS 1 ([.dat .bool t7 []]::(uS 3 ([.ptr 12 (.pair (.int .i64) (.pair .str .unit)) []]::[.dat .bool t12 []]::(uS 52 ([.dat (.sl 44 (.pair (.int .i64) (.pair .str .unit))) t65 []]::[.dat (.int .i64) t66 []]::[.dat (.int .i64) t67 []]::(uS 4 ([.dat (.sl 46 y9) t72 []]::[.dat (.int .i64) t73 []]::[.dat (.int .i64) t74 []]::(uS 48 ([]))))))))))), nS 4 ((some ⟨y14, bt3, []⟩)::(some ⟨(.arr 2 y13), bt4, []⟩)::(some ⟨y4, bt5, []⟩)::(nS 5 ((some ⟨(.pair (.int .i64) (.pair .str .unit)), bt11, []⟩)::(nS 111 ([])))))⟩
def w22_InvertMakes_x2_0 (t7 : Bool) (t12 : Bool) (t65 : Zt9) (t66 : Int) (t67 : Int) (bt3 : Zt22) (bt4 : Zt17) (bt5 : Zt15) : State := ⟨uS 3 ([.ptr 4 y14 []]::[.ptr 5 (.arr 2 y13) []]::[.ptr 6 y4 []]::(uS 1 ([.dat .bool t7 []]::(uS 4 ([.dat .bool t12 []]::(uS 52 ([.dat (.sl 44 (.pair (.int .i64) (.pair .str .unit))) t65 []]::[.dat (.int .i64) t66 []]::[.dat (.int .i64) t67 []]::(uS 55 ([]))))))))), nS 4 ((some ⟨y14, bt3, []⟩)::(some ⟨(.arr 2 y13), bt4, []⟩)::(some ⟨y4, bt5, []⟩)::(nS 117 ([])))⟩
def w22_InvertMakes_h3 (t7 : Bool) (t12 : Bool) (t65 : Zt9) (t66 : Int) (t67 : Int) (t72 : Zt20) (t73 : Int) (t74 : Int) (t87 : Zt12) (t88 : Int) (t89 : Int) (bt3 : Zt22) (bt4 : Zt17) (bt5 : Zt15) (bt11 : Zt6) : State := ⟨uS 3 ([.ptr 4 y14 []]::[.ptr 5 (.arr 2 y13) []]::[.ptr 6 y4 []]::(uS 1 ([.dat .bool t7 []]::(uS 3 ([.ptr 12 (.pair (.int .i64) (.pair .str .unit)) []]::[.dat .bool t12 []]::(uS 52 ([.dat (.sl 44 (.pair (.int .i64) (.pair .str .unit))) t65 []]::[.dat (.int .i64) t66 []]::[.dat (.int .i64) t67 []]::(uS 4 ([.dat (.sl 46 y9) t72 []]::[.dat (.int .i64) t73 []]::[.dat (.int .i64) t74 []]::(uS 12 ([.dat (.sl 42 (.pair .str (.pair .str .unit))) t87 []]::[.dat (.int .i64) t88 []]::[.dat (.int .i64) t89 []]::(uS 33 ([]))))))))))))), nS 4 ((some ⟨y14, bt3, []⟩)::(some ⟨(.arr 2 y13), bt4, []⟩)::(some ⟨y4, bt5, []⟩)::(nS 5 ((some ⟨(.pair (.int .i64) (.pair .str .unit)), bt11, []⟩)::(nS 111 ([])))))⟩
def w22_InvertMakes_x3_0 (t7 : Bool) (t12 : Bool) (t65 : Zt9) (t66 : Int) (t67 : Int) (t72 : Zt20) (t73 : Int) (t74 : Int) (bt3 : Zt22) (bt4 : Zt17) (bt5 : Zt15) (bt11 : Zt6) : State := ⟨uS 3 ([.ptr 4 y14 []]::[.ptr 5 (.arr 2 y13) []]::[.ptr 6 y4 []]::(uS 1 ([.dat .bool t7 []]::(uS 3 ([.ptr 12 (.pair (.int .i64) (.pair .str .unit)) []]::[.dat .bool t12 []]::(uS 52 ([.dat (.sl 44 (.pair (.int .i64) (.pair .str .unit))) t65 []]::[.dat (.int .i64) t66 []]::[.dat (.int .i64) t67 []]::(uS 4 ([.dat (.sl 46 y9) t72 []]::[.dat (.int .i64) t73 []]::[.dat (.int .i64) t74 []]::(uS 48 ([]))))))))))), nS 4 ((some ⟨y14, bt3, []⟩)::(some ⟨(.arr 2 y13), bt4, []⟩)::(some ⟨y4, bt5, []⟩)::(nS 5 ((some ⟨(.pair (.int .i64) (.pair .str .unit)), bt11, []⟩)::(nS 111 ([])))))⟩
theorem w22_InvertMakes_t (R : Type) (kk : Nat) (m_0 : Zt22) (s_1 : Zt17) (x_2 : Zt15) (K : List SV → Option Box → Option R) : evFn w22_InvertMakes_E (Tb80 R) kk Tryz.f3 w22_InvertMakes_c [.dat y14 m_0 [], .dat (.arr 2 y13) s_1 [], .dat y4 x_2 []] none K =
  w22_InvertMakes_s0 m_0 s_1 x_2 (fun a0 => K [.dat .bool a0 []] none) (fun a0 a1 a2 a3 a4 a5 a6 => loopR (ev w22_InvertMakes_E (Tb80 R) kk (sub [1, 1, 1, 0, 1, 0, 0] w22_InvertMakes_c)) [3, 4, 5, 7, 49, 50, 51] [3, 4, 5, 7] kk (w22_InvertMakes_h0 a0 a1 a2 a3 a4 a5 a6) (kBlock 0 (kSeq w22_InvertMakes_E (Tb80 R) kk (sub [1, 1, 1, 1] w22_InvertMakes_c) (kFin w22_InvertMakes_E Tryz.f3.results.toList none K)))) := by kernel_rfl
theorem w22_InvertMakes_d0 (R : Type) (kk k : Nat) (t7 : Bool) (t49 : Zt12) (t50 : Int) (t51 : Int) (bt3 : Zt22) (bt4 : Zt17) (bt5 : Zt15) (K : Ex → State → Option R) : loopR (ev w22_InvertMakes_E (Tb80 R) kk (sub [1, 1, 1, 0, 1, 0, 0] w22_InvertMakes_c)) [3, 4, 5, 7, 49, 50, 51] [3, 4, 5, 7] (k + 1) (w22_InvertMakes_h0 t7 t49 t50 t51 bt3 bt4 bt5) K =
  w22_InvertMakes_s1 t7 t49 t50 t51 bt3 bt4 bt5 (fun a0 a1 a2 a3 a4 a5 a6 => loopR (ev w22_InvertMakes_E (Tb80 R) kk (sub [1, 1, 1, 0, 1, 0, 0] w22_InvertMakes_c)) [3, 4, 5, 7, 49, 50, 51] [3, 4, 5, 7] k (w22_InvertMakes_h0 a0 a1 a2 a3 a4 a5 a6) K) (fun a0 a1 a2 a3 => K (.exit 0) (w22_InvertMakes_x0_0 a0 a1 a2 a3)) := by kernel_rfl
theorem w22_InvertMakes_y0_0 (R : Type) (kk : Nat) (t7 : Bool) (bt3 : Zt22) (bt4 : Zt17) (bt5 : Zt15) (K : List SV → Option Box → Option R) : (kBlock 0 (kSeq w22_InvertMakes_E (Tb80 R) kk (sub [1, 1, 1, 1] w22_InvertMakes_c) (kFin w22_InvertMakes_E Tryz.f3.results.toList none K))) (.exit 0) (w22_InvertMakes_x0_0 t7 bt3 bt4 bt5) =
  w22_InvertMakes_s2 t7 bt3 bt4 bt5 (fun a0 a1 a2 a3 a4 a5 a6 => loopR (ev w22_InvertMakes_E (Tb80 R) kk (sub [1, 1, 1, 1, 0, 1, 0, 0] w22_InvertMakes_c)) [3, 4, 5, 7, 65, 66, 67] [3, 4, 5, 7] kk (w22_InvertMakes_h1 a0 a1 a2 a3 a4 a5 a6) (kBlock 2 (kSeq w22_InvertMakes_E (Tb80 R) kk (sub [1, 1, 1, 1, 1] w22_InvertMakes_c) (kFin w22_InvertMakes_E Tryz.f3.results.toList none K)))) := by kernel_rfl
theorem w22_InvertMakes_d1 (R : Type) (kk k : Nat) (t7 : Bool) (t65 : Zt9) (t66 : Int) (t67 : Int) (bt3 : Zt22) (bt4 : Zt17) (bt5 : Zt15) (K : Ex → State → Option R) : loopR (ev w22_InvertMakes_E (Tb80 R) kk (sub [1, 1, 1, 1, 0, 1, 0, 0] w22_InvertMakes_c)) [3, 4, 5, 7, 65, 66, 67] [3, 4, 5, 7] (k + 1) (w22_InvertMakes_h1 t7 t65 t66 t67 bt3 bt4 bt5) K =
  w22_InvertMakes_s3 t7 t65 t66 t67 bt3 bt4 bt5 (fun a0 a1 a2 a3 a4 a5 a6 a7 a8 a9 a10 a11 => loopR (ev w22_InvertMakes_E (Tb80 R) kk (sub [1, 1, 1, 1, 0, 1, 0, 0, 1, 1, 0, 0, 1, 1, 0, 1, 0, 0] w22_InvertMakes_c)) [3, 4, 5, 7, 11, 12, 65, 66, 67, 72, 73, 74] [3, 4, 5, 7, 12, 65, 66, 67] kk (w22_InvertMakes_h2 a0 a1 a2 a3 a4 a5 a6 a7 a8 a9 a10 a11) (kBlock 4 (kSeq w22_InvertMakes_E (Tb80 R) kk (sub [1, 1, 1, 1, 0, 1, 0, 0, 1, 1, 0, 0, 1, 1, 1] w22_InvertMakes_c) (kBlock 3 (kSeq w22_InvertMakes_E (Tb80 R) kk (sub [1, 1, 1, 1, 0, 1, 0, 0, 1, 1, 1] w22_InvertMakes_c) (kLoop (ev w22_InvertMakes_E (Tb80 R) kk (sub [1, 1, 1, 1, 0, 1, 0, 0] w22_InvertMakes_c)) [3, 4, 5, 7, 65, 66, 67] [3, 4, 5, 7] k K)))))) (fun a0 a1 a2 a3 => K (.exit 2) (w22_InvertMakes_x1_0 a0 a1 a2 a3)) := by kernel_rfl
theorem w22_InvertMakes_y1_0 (R : Type) (kk : Nat) (t7 : Bool) (bt3 : Zt22) (bt4 : Zt17) (bt5 : Zt15) (K : List SV → Option Box → Option R) : (kBlock 2 (kSeq w22_InvertMakes_E (Tb80 R) kk (sub [1, 1, 1, 1, 1] w22_InvertMakes_c) (kFin w22_InvertMakes_E Tryz.f3.results.toList none K))) (.exit 2) (w22_InvertMakes_x1_0 t7 bt3 bt4 bt5) =
  w22_InvertMakes_s4 t7 bt3 bt4 bt5 (fun a0 => K [.dat .bool a0 []] none) := by kernel_rfl
theorem w22_InvertMakes_d2 (R : Type) (kk k : Nat) (t7 : Bool) (t12 : Bool) (t65 : Zt9) (t66 : Int) (t67 : Int) (t72 : Zt20) (t73 : Int) (t74 : Int) (bt3 : Zt22) (bt4 : Zt17) (bt5 : Zt15) (bt11 : Zt6) (K : Ex → State → Option R) : loopR (ev w22_InvertMakes_E (Tb80 R) kk (sub [1, 1, 1, 1, 0, 1, 0, 0, 1, 1, 0, 0, 1, 1, 0, 1, 0, 0] w22_InvertMakes_c)) [3, 4, 5, 7, 11, 12, 65, 66, 67, 72, 73, 74] [3, 4, 5, 7, 12, 65, 66, 67] (k + 1) (w22_InvertMakes_h2 t7 t12 t65 t66 t67 t72 t73 t74 bt3 bt4 bt5 bt11) K =
  w22_InvertMakes_s5 t7 t12 t65 t66 t67 t72 t73 t74 bt3 bt4 bt5 bt11 (fun a0 a1 a2 a3 a4 a5 a6 a7 a8 a9 a10 a11 => loopR (ev w22_InvertMakes_E (Tb80 R) kk (sub [1, 1, 1, 1, 0, 1, 0, 0, 1, 1, 0, 0, 1, 1, 0, 1, 0, 0] w22_InvertMakes_c)) [3, 4, 5, 7, 11, 12, 65, 66, 67, 72, 73, 74] [3, 4, 5, 7, 12, 65, 66, 67] k (w22_InvertMakes_h2 a0 a1 a2 a3 a4 a5 a6 a7 a8 a9 a10 a11) K) (fun a0 a1 a2 a3 a4 a5 a6 a7 a8 a9 a10 a11 a12 a13 a14 => loopR (ev w22_InvertMakes_E (Tb80 R) kk (sub [1, 1, 1, 1, 0, 1, 0, 0, 1, 1, 0, 0, 1, 1, 0, 1, 0, 0, 1, 1, 0, 0, 1, 1, 1, 1, 0, 0] w22_InvertMakes_c)) [3, 4, 5, 7, 11, 12, 65, 66, 67, 72, 73, 74, 87, 88, 89] [3, 4, 5, 7, 11, 12, 65, 66, 67, 72, 73, 74] kk (w22_InvertMakes_h3 a0 a1 a2 a3 a4 a5 a6 a7 a8 a9 a10 a11 a12 a13 a14) (kBlock 6 (kBlock 5 (kSeq w22_InvertMakes_E (Tb80 R) kk (sub [1, 1, 1, 1, 0, 1, 0, 0, 1, 1, 0, 0, 1, 1, 0, 1, 0, 0, 1, 1, 1] w22_InvertMakes_c) (kLoop (ev w22_InvertMakes_E (Tb80 R) kk (sub [1, 1, 1, 1, 0, 1, 0, 0, 1, 1, 0, 0, 1, 1, 0, 1, 0, 0] w22_InvertMakes_c)) [3, 4, 5, 7, 11, 12, 65, 66, 67, 72, 73, 74] [3, 4, 5, 7, 12, 65, 66, 67] k K))))) (fun a0 a1 a2 a3 a4 a5 a6 a7 => K (.exit 4) (w22_InvertMakes_x2_0 a0 a1 a2 a3 a4 a5 a6 a7)) := by kernel_rfl
theorem w22_InvertMakes_y2_0 (R : Type) (kk k : Nat) (t7 : Bool) (t12 : Bool) (t65 : Zt9) (t66 : Int) (t67 : Int) (bt3 : Zt22) (bt4 : Zt17) (bt5 : Zt15) (K : Ex → State → Option R) : (kBlock 4 (kSeq w22_InvertMakes_E (Tb80 R) kk (sub [1, 1, 1, 1, 0, 1, 0, 0, 1, 1, 0, 0, 1, 1, 1] w22_InvertMakes_c) (kBlock 3 (kSeq w22_InvertMakes_E (Tb80 R) kk (sub [1, 1, 1, 1, 0, 1, 0, 0, 1, 1, 1] w22_InvertMakes_c) (kLoop (ev w22_InvertMakes_E (Tb80 R) kk (sub [1, 1, 1, 1, 0, 1, 0, 0] w22_InvertMakes_c)) [3, 4, 5, 7, 65, 66, 67] [3, 4, 5, 7] k K))))) (.exit 4) (w22_InvertMakes_x2_0 t7 t12 t65 t66 t67 bt3 bt4 bt5) =
  w22_InvertMakes_s6 t7 t12 t65 t66 t67 bt3 bt4 bt5 (fun a0 a1 a2 a3 a4 a5 a6 => loopR (ev w22_InvertMakes_E (Tb80 R) kk (sub [1, 1, 1, 1, 0, 1, 0, 0] w22_InvertMakes_c)) [3, 4, 5, 7, 65, 66, 67] [3, 4, 5, 7] k (w22_InvertMakes_h1 a0 a1 a2 a3 a4 a5 a6) K) := by kernel_rfl
theorem w22_InvertMakes_d3 (R : Type) (kk k : Nat) (t7 : Bool) (t12 : Bool) (t65 : Zt9) (t66 : Int) (t67 : Int) (t72 : Zt20) (t73 : Int) (t74 : Int) (t87 : Zt12) (t88 : Int) (t89 : Int) (bt3 : Zt22) (bt4 : Zt17) (bt5 : Zt15) (bt11 : Zt6) (K : Ex → State → Option R) : loopR (ev w22_InvertMakes_E (Tb80 R) kk (sub [1, 1, 1, 1, 0, 1, 0, 0, 1, 1, 0, 0, 1, 1, 0, 1, 0, 0, 1, 1, 0, 0, 1, 1, 1, 1, 0, 0] w22_InvertMakes_c)) [3, 4, 5, 7, 11, 12, 65, 66, 67, 72, 73, 74, 87, 88, 89] [3, 4, 5, 7, 11, 12, 65, 66, 67, 72, 73, 74] (k + 1) (w22_InvertMakes_h3 t7 t12 t65 t66 t67 t72 t73 t74 t87 t88 t89 bt3 bt4 bt5 bt11) K =
  w22_InvertMakes_s7 t7 t12 t65 t66 t67 t72 t73 t74 t87 t88 t89 bt3 bt4 bt5 bt11 (fun a0 a1 a2 a3 a4 a5 a6 a7 a8 a9 a10 a11 a12 a13 a14 => loopR (ev w22_InvertMakes_E (Tb80 R) kk (sub [1, 1, 1, 1, 0, 1, 0, 0, 1, 1, 0, 0, 1, 1, 0, 1, 0, 0, 1, 1, 0, 0, 1, 1, 1, 1, 0, 0] w22_InvertMakes_c)) [3, 4, 5, 7, 11, 12, 65, 66, 67, 72, 73, 74, 87, 88, 89] [3, 4, 5, 7, 11, 12, 65, 66, 67, 72, 73, 74] k (w22_InvertMakes_h3 a0 a1 a2 a3 a4 a5 a6 a7 a8 a9 a10 a11 a12 a13 a14) K) (fun a0 a1 a2 a3 a4 a5 a6 a7 a8 a9 a10 a11 => K (.exit 6) (w22_InvertMakes_x3_0 a0 a1 a2 a3 a4 a5 a6 a7 a8 a9 a10 a11)) := by kernel_rfl
theorem w22_InvertMakes_y3_0 (R : Type) (kk k : Nat) (t7 : Bool) (t12 : Bool) (t65 : Zt9) (t66 : Int) (t67 : Int) (t72 : Zt20) (t73 : Int) (t74 : Int) (bt3 : Zt22) (bt4 : Zt17) (bt5 : Zt15) (bt11 : Zt6) (K : Ex → State → Option R) : (kBlock 6 (kBlock 5 (kSeq w22_InvertMakes_E (Tb80 R) kk (sub [1, 1, 1, 1, 0, 1, 0, 0, 1, 1, 0, 0, 1, 1, 0, 1, 0, 0, 1, 1, 1] w22_InvertMakes_c) (kLoop (ev w22_InvertMakes_E (Tb80 R) kk (sub [1, 1, 1, 1, 0, 1, 0, 0, 1, 1, 0, 0, 1, 1, 0, 1, 0, 0] w22_InvertMakes_c)) [3, 4, 5, 7, 11, 12, 65, 66, 67, 72, 73, 74] [3, 4, 5, 7, 12, 65, 66, 67] k K)))) (.exit 6) (w22_InvertMakes_x3_0 t7 t12 t65 t66 t67 t72 t73 t74 bt3 bt4 bt5 bt11) =
  w22_InvertMakes_s8 t7 t12 t65 t66 t67 t72 t73 t74 bt3 bt4 bt5 bt11 (fun a0 a1 a2 a3 a4 a5 a6 a7 a8 a9 a10 a11 => loopR (ev w22_InvertMakes_E (Tb80 R) kk (sub [1, 1, 1, 1, 0, 1, 0, 0, 1, 1, 0, 0, 1, 1, 0, 1, 0, 0] w22_InvertMakes_c)) [3, 4, 5, 7, 11, 12, 65, 66, 67, 72, 73, 74] [3, 4, 5, 7, 12, 65, 66, 67] k (w22_InvertMakes_h2 a0 a1 a2 a3 a4 a5 a6 a7 a8 a9 a10 a11) K) := by kernel_rfl
theorem w22_InvertMakes_lp0 (R : Type) (k : Nat) (t7 : Bool) (t49 : Zt12) (t50 : Int) (t51 : Int) (bt3 : Zt22) (bt4 : Zt17) (bt5 : Zt15) (K : Ex → State → Option R) : loopR (ev w22_InvertMakes_E (Tb80 R) FUEL (sub [1, 1, 1, 0, 1, 0, 0] w22_InvertMakes_c)) [3, 4, 5, 7, 49, 50, 51] [3, 4, 5, 7] k (w22_InvertMakes_h0 t7 t49 t50 t51 bt3 bt4 bt5) K = (w22_InvertMakes_l0 k t7 t49 t50 t51 bt3 bt4 bt5).bind fun e => K (.exit 0) (w22_InvertMakes_x0_0 e.1 e.2.1 e.2.2.1 e.2.2.2) := by
  induction k generalizing t7 t49 t50 t51 bt3 bt4 bt5 with
  | zero => rfl
  | succ k ih =>
    rw [w22_InvertMakes_d0]
    simp only [w22_InvertMakes_l0, w22_InvertMakes_s0_bind, w22_InvertMakes_s1_bind, w22_InvertMakes_s2_bind, w22_InvertMakes_s3_bind, w22_InvertMakes_s4_bind, w22_InvertMakes_s5_bind, w22_InvertMakes_s6_bind, w22_InvertMakes_s7_bind, w22_InvertMakes_s8_bind, ih, cond_bind, within_bind, none_bind, some_bind, sum_bind, bind_bind, Sum.elim_inl, Sum.elim_inr]
theorem w22_InvertMakes_lp3 (R : Type) (k : Nat) (t7 : Bool) (t12 : Bool) (t65 : Zt9) (t66 : Int) (t67 : Int) (t72 : Zt20) (t73 : Int) (t74 : Int) (t87 : Zt12) (t88 : Int) (t89 : Int) (bt3 : Zt22) (bt4 : Zt17) (bt5 : Zt15) (bt11 : Zt6) (K : Ex → State → Option R) : loopR (ev w22_InvertMakes_E (Tb80 R) FUEL (sub [1, 1, 1, 1, 0, 1, 0, 0, 1, 1, 0, 0, 1, 1, 0, 1, 0, 0, 1, 1, 0, 0, 1, 1, 1, 1, 0, 0] w22_InvertMakes_c)) [3, 4, 5, 7, 11, 12, 65, 66, 67, 72, 73, 74, 87, 88, 89] [3, 4, 5, 7, 11, 12, 65, 66, 67, 72, 73, 74] k (w22_InvertMakes_h3 t7 t12 t65 t66 t67 t72 t73 t74 t87 t88 t89 bt3 bt4 bt5 bt11) K = (w22_InvertMakes_l3 k t7 t12 t65 t66 t67 t72 t73 t74 t87 t88 t89 bt3 bt4 bt5 bt11).bind fun e => K (.exit 6) (w22_InvertMakes_x3_0 e.1 e.2.1 e.2.2.1 e.2.2.2.1 e.2.2.2.2.1 e.2.2.2.2.2.1 e.2.2.2.2.2.2.1 e.2.2.2.2.2.2.2.1 e.2.2.2.2.2.2.2.2.1 e.2.2.2.2.2.2.2.2.2.1 e.2.2.2.2.2.2.2.2.2.2.1 e.2.2.2.2.2.2.2.2.2.2.2) := by
  induction k generalizing t7 t12 t65 t66 t67 t72 t73 t74 t87 t88 t89 bt3 bt4 bt5 bt11 with
  | zero => rfl
  | succ k ih =>
    rw [w22_InvertMakes_d3]
    simp only [w22_InvertMakes_l3, w22_InvertMakes_s0_bind, w22_InvertMakes_s1_bind, w22_InvertMakes_s2_bind, w22_InvertMakes_s3_bind, w22_InvertMakes_s4_bind, w22_InvertMakes_s5_bind, w22_InvertMakes_s6_bind, w22_InvertMakes_s7_bind, w22_InvertMakes_s8_bind, ih, cond_bind, within_bind, none_bind, some_bind, sum_bind, bind_bind, Sum.elim_inl, Sum.elim_inr]
theorem w22_InvertMakes_lp2 (R : Type) (k : Nat) (t7 : Bool) (t12 : Bool) (t65 : Zt9) (t66 : Int) (t67 : Int) (t72 : Zt20) (t73 : Int) (t74 : Int) (bt3 : Zt22) (bt4 : Zt17) (bt5 : Zt15) (bt11 : Zt6) (K : Ex → State → Option R) : loopR (ev w22_InvertMakes_E (Tb80 R) FUEL (sub [1, 1, 1, 1, 0, 1, 0, 0, 1, 1, 0, 0, 1, 1, 0, 1, 0, 0] w22_InvertMakes_c)) [3, 4, 5, 7, 11, 12, 65, 66, 67, 72, 73, 74] [3, 4, 5, 7, 12, 65, 66, 67] k (w22_InvertMakes_h2 t7 t12 t65 t66 t67 t72 t73 t74 bt3 bt4 bt5 bt11) K = (w22_InvertMakes_l2 k t7 t12 t65 t66 t67 t72 t73 t74 bt3 bt4 bt5 bt11).bind fun e => K (.exit 4) (w22_InvertMakes_x2_0 e.1 e.2.1 e.2.2.1 e.2.2.2.1 e.2.2.2.2.1 e.2.2.2.2.2.1 e.2.2.2.2.2.2.1 e.2.2.2.2.2.2.2) := by
  induction k generalizing t7 t12 t65 t66 t67 t72 t73 t74 bt3 bt4 bt5 bt11 with
  | zero => rfl
  | succ k ih =>
    rw [w22_InvertMakes_d2]
    simp only [w22_InvertMakes_l2, w22_InvertMakes_s0_bind, w22_InvertMakes_s1_bind, w22_InvertMakes_s2_bind, w22_InvertMakes_s3_bind, w22_InvertMakes_s4_bind, w22_InvertMakes_s5_bind, w22_InvertMakes_s6_bind, w22_InvertMakes_s7_bind, w22_InvertMakes_s8_bind, ih, w22_InvertMakes_lp3, w22_InvertMakes_y3_0, cond_bind, within_bind, none_bind, some_bind, sum_bind, bind_bind, Sum.elim_inl, Sum.elim_inr]
theorem w22_InvertMakes_lp1 (R : Type) (k : Nat) (t7 : Bool) (t65 : Zt9) (t66 : Int) (t67 : Int) (bt3 : Zt22) (bt4 : Zt17) (bt5 : Zt15) (K : Ex → State → Option R) : loopR (ev w22_InvertMakes_E (Tb80 R) FUEL (sub [1, 1, 1, 1, 0, 1, 0, 0] w22_InvertMakes_c)) [3, 4, 5, 7, 65, 66, 67] [3, 4, 5, 7] k (w22_InvertMakes_h1 t7 t65 t66 t67 bt3 bt4 bt5) K = (w22_InvertMakes_l1 k t7 t65 t66 t67 bt3 bt4 bt5).bind fun e => K (.exit 2) (w22_InvertMakes_x1_0 e.1 e.2.1 e.2.2.1 e.2.2.2) := by
  induction k generalizing t7 t65 t66 t67 bt3 bt4 bt5 with
  | zero => rfl
  | succ k ih =>
    rw [w22_InvertMakes_d1]
    simp only [w22_InvertMakes_l1, w22_InvertMakes_s0_bind, w22_InvertMakes_s1_bind, w22_InvertMakes_s2_bind, w22_InvertMakes_s3_bind, w22_InvertMakes_s4_bind, w22_InvertMakes_s5_bind, w22_InvertMakes_s6_bind, w22_InvertMakes_s7_bind, w22_InvertMakes_s8_bind, ih, w22_InvertMakes_lp2, w22_InvertMakes_y2_0, cond_bind, within_bind, none_bind, some_bind, sum_bind, bind_bind, Sum.elim_inl, Sum.elim_inr]
theorem w22_InvertMakes_eq (R : Type) (m_0 : Zt22) (s_1 : Zt17) (x_2 : Zt15) (K : List SV → Option Box → Option R) : evFn w22_InvertMakes_E (Tb80 R) FUEL Tryz.f3 w22_InvertMakes_c [.dat y14 m_0 [], .dat (.arr 2 y13) s_1 [], .dat y4 x_2 []] none K = (w22_InvertMakes m_0 s_1 x_2).bind fun r => K [.dat .bool r []] none := by
  rw [w22_InvertMakes_t]
  simp only [w22_InvertMakes, w22_InvertMakes_s0_bind, w22_InvertMakes_s1_bind, w22_InvertMakes_s2_bind, w22_InvertMakes_s3_bind, w22_InvertMakes_s4_bind, w22_InvertMakes_s5_bind, w22_InvertMakes_s6_bind, w22_InvertMakes_s7_bind, w22_InvertMakes_s8_bind, w22_InvertMakes_lp0, w22_InvertMakes_lp1, w22_InvertMakes_lp2, w22_InvertMakes_lp3, w22_InvertMakes_y0_0, w22_InvertMakes_y1_0, w22_InvertMakes_y2_0, w22_InvertMakes_y3_0, cond_bind, within_bind, none_bind, some_bind, sum_bind, bind_bind, Sum.elim_inl, Sum.elim_inr]
def w22_InvertMakes_g : Pure := fun R l b K => noBox b (args3 y14 (.arr 2 y13) y4 l (fun x0 x1 x2 => (w22_InvertMakes x0 x1 x2).bind fun r => K [.dat .bool r []] none))
def Tb81 : Funs := Tb80.add 3 [y14, (.arr 2 y13), y4] w22_InvertMakes_g
theorem Tb81_owes : ∀ f, Owes Tryz.prog Tb81 f := add_owes (E := w22_InvertMakes_E) (Tab.env_ok tab_ok _ _ _ _) mixed Tb80_nat Tb80_owes (fn := Tryz.f3) (code := w22_InvertMakes_c) Tryz.func3 (by kernel_rfl) (by kernel_rfl) fun l b r b' h => by
  obtain ⟨rfl, h⟩ := noBox_some h
  obtain ⟨x0, x1, x2, h1, h2⟩ := own3 (E := w22_InvertMakes_E) rfl h
  exact ⟨FUEL, (h2 _ _ _ _ _ _).trans ((w22_InvertMakes_eq _ x0 x1 x2 _).trans h1)⟩
end Go.Proofs.YthdphoohfdiodaaGreatDoor
