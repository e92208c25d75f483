/- No condition. -/
import Derived.Test.YtkgpjibbdpikcaaGreatDoorK4
set_option linter.unusedVariables false
set_option linter.unusedSimpArgs false
set_option maxRecDepth 100000
namespace Go.Proofs.YtkgpjibbdpikcaaGreatDoor
open Go Go.Ref Groat
def zvw (t76 : Zt11) (t77 : Int) (t78 : Int) (bt4 : Zt24) (bt6 : Zt18) (bt8 : Zt17) (bt9 : Zt5) (bt16 : Zt17) : State := ⟨uS 4 ([.ptr 5 y16 []]::(uS 1 ([.ptr 7 y15 []]::(uS 1 ([.ptr 9 y5 []]::[.ptr 10 (.pair (.int .i64) (.pair (.int .i64) .unit)) []]::(uS 6 ([.ptr 17 y5 []]::(uS 59 ([.dat (.sl 90 (.pair (.int .i64) (.pair .str .unit))) t76 []]::[.dat (.int .i64) t77 []]::[.dat (.int .i64) t78 []]::(uS 43 ([]))))))))))), nS 5 ((some ⟨y16, bt4, []⟩)::(nS 1 ((some ⟨y15, bt6, []⟩)::(nS 1 ((some ⟨y5, bt8, [[1]]⟩)::(some ⟨(.pair (.int .i64) (.pair (.int .i64) .unit)), bt9, []⟩)::(nS 6 ((some ⟨y5, bt16, []⟩)::(nS 105 ([])))))))))⟩
def zqg (bt8 : Zt17) (bt9 : Zt5) (bt16 : Zt17) : State := ⟨uS 8 ([.ptr 9 y5 []]::[.ptr 10 (.pair (.int .i64) (.pair (.int .i64) .unit)) []]::(uS 6 ([.ptr 17 y5 []]::(uS 105 ([]))))), nS 9 ((some ⟨y5, bt8, [[1]]⟩)::(some ⟨(.pair (.int .i64) (.pair (.int .i64) .unit)), bt9, []⟩)::(nS 6 ((some ⟨y5, bt16, []⟩)::(nS 105 ([])))))⟩
def zp1 (bt8 : Zt17) (bt9 : Zt5) (bt16 : Zt17) : State := ⟨uS 8 ([.ptr 9 y5 []]::[.ptr 10 (.pair (.int .i64) (.pair (.int .i64) .unit)) []]::(uS 6 ([.ptr 17 y5 []]::(uS 105 ([]))))), nS 9 ((some ⟨y5, bt8, [[1]]⟩)::(some ⟨(.pair (.int .i64) (.pair (.int .i64) .unit)), bt9, []⟩)::(nS 6 ((some ⟨y5, bt16, []⟩)::(nS 105 ([])))))⟩
theorem z28r (R : Type) (kk : Nat) (m_0 : Zt24) (a_1 : Zt18) (b_2 : Zt18) (x_3 : Zt17) (K : Kf_ R) : evFn z1q (Tb106 R) kk Tryz.f40 z2c [.dat y16 m_0 [], .dat y15 a_1 [], .dat y15 b_2 [], .dat y5 x_3 []] none K =
  zf1 m_0 a_1 b_2 x_3 (fun a0 a1 => K [.dat y5 a0 [], .dat (.pair (.int .i64) (.pair (.int .i64) .unit)) a1 []] none) (fun a0 a1 a2 a3 a4 a5 a6 a7 a8 => loopR (ev z1q (Tb106 R) kk (sub [1, 1, 1, 1, 1, 1, 0, 1, 0, 0] z2c)) [4, 6, 7, 8, 9, 16, 59, 60, 61] [4, 6, 7, 8, 9, 16] kk (zvc a0 a1 a2 a3 a4 a5 a6 a7 a8) (zi 0 (kSeq z1q (Tb106 R) kk (sub [1, 1, 1, 1, 1, 1, 1] z2c) (kFin z1q Tryz.f40.results.toList none K)))) := by kernel_rfl
theorem z205 (R : Type) (kk k : Nat) (t59 : Zt22) (t60 : Int) (t61 : Int) (bt4 : Zt24) (bt6 : Zt18) (bt7 : Zt17) (bt8 : Zt17) (bt9 : Zt5) (bt16 : Zt17) (K : Kx_ R) : loopR (ev z1q (Tb106 R) kk (sub [1, 1, 1, 1, 1, 1, 0, 1, 0, 0] z2c)) [4, 6, 7, 8, 9, 16, 59, 60, 61] [4, 6, 7, 8, 9, 16] (k + 1) (zvc t59 t60 t61 bt4 bt6 bt7 bt8 bt9 bt16) K =
  zh9 t59 t60 t61 bt4 bt6 bt7 bt8 bt9 bt16 (fun a0 a1 a2 a3 a4 a5 a6 a7 a8 => loopR (ev z1q (Tb106 R) kk (sub [1, 1, 1, 1, 1, 1, 0, 1, 0, 0] z2c)) [4, 6, 7, 8, 9, 16, 59, 60, 61] [4, 6, 7, 8, 9, 16] k (zvc a0 a1 a2 a3 a4 a5 a6 a7 a8) K) (fun a0 a1 a2 a3 a4 a5 => K (.exit 0) (zp0 a0 a1 a2 a3 a4 a5)) := by kernel_rfl
theorem z1pd (R : Type) (kk : Nat) (bt4 : Zt24) (bt6 : Zt18) (bt7 : Zt17) (bt8 : Zt17) (bt9 : Zt5) (bt16 : Zt17) (K : Kf_ R) : (zi 0 (kSeq z1q (Tb106 R) kk (sub [1, 1, 1, 1, 1, 1, 1] z2c) (kFin z1q Tryz.f40.results.toList none K))) (.exit 0) (zp0 bt4 bt6 bt7 bt8 bt9 bt16) =
  zip bt4 bt6 bt7 bt8 bt9 bt16 (fun a0 a1 a2 a3 a4 a5 a6 a7 => loopR (ev z1q (Tb106 R) kk (sub [1, 1, 1, 1, 1, 1, 1, 0, 1, 0, 0] z2c)) [4, 6, 8, 9, 16, 76, 77, 78] [8, 9, 16] kk (zvw a0 a1 a2 a3 a4 a5 a6 a7) (zi 2 (kSeq z1q (Tb106 R) kk (sub [1, 1, 1, 1, 1, 1, 1, 1] z2c) (kFin z1q Tryz.f40.results.toList none K)))) := by kernel_rfl
theorem z1zd (R : Type) (kk k : Nat) (t76 : Zt11) (t77 : Int) (t78 : Int) (bt4 : Zt24) (bt6 : Zt18) (bt8 : Zt17) (bt9 : Zt5) (bt16 : Zt17) (K : Kx_ R) : loopR (ev z1q (Tb106 R) kk (sub [1, 1, 1, 1, 1, 1, 1, 0, 1, 0, 0] z2c)) [4, 6, 8, 9, 16, 76, 77, 78] [8, 9, 16] (k + 1) (zvw t76 t77 t78 bt4 bt6 bt8 bt9 bt16) K =
  zgl t76 t77 t78 bt4 bt6 bt8 bt9 bt16 (fun a0 a1 a2 => K .ret (zqg a0 a1 a2)) (fun a0 a1 a2 a3 a4 a5 a6 a7 => loopR (ev z1q (Tb106 R) kk (sub [1, 1, 1, 1, 1, 1, 1, 0, 1, 0, 0] z2c)) [4, 6, 8, 9, 16, 76, 77, 78] [8, 9, 16] k (zvw a0 a1 a2 a3 a4 a5 a6 a7) K) (fun a0 a1 a2 => K (.exit 2) (zp1 a0 a1 a2)) := by kernel_rfl
theorem z1mb (R : Type) (kk : Nat) (bt8 : Zt17) (bt9 : Zt5) (bt16 : Zt17) (K : Kf_ R) : (zi 2 (kSeq z1q (Tb106 R) kk (sub [1, 1, 1, 1, 1, 1, 1, 1] z2c) (kFin z1q Tryz.f40.results.toList none K))) .ret (zqg bt8 bt9 bt16) =
  zgz bt8 bt9 bt16 (fun a0 a1 => K [.dat y5 a0 [], .dat (.pair (.int .i64) (.pair (.int .i64) .unit)) a1 []] none) := by kernel_rfl
theorem z1l6 (R : Type) (kk : Nat) (bt8 : Zt17) (bt9 : Zt5) (bt16 : Zt17) (K : Kf_ R) : (zi 2 (kSeq z1q (Tb106 R) kk (sub [1, 1, 1, 1, 1, 1, 1, 1] z2c) (kFin z1q Tryz.f40.results.toList none K))) (.exit 2) (zp1 bt8 bt9 bt16) =
  zgn bt8 bt9 bt16 (fun a0 a1 => K [.dat y5 a0 [], .dat (.pair (.int .i64) (.pair (.int .i64) .unit)) a1 []] none) := by kernel_rfl
theorem z1va (R : Type) (k : Nat) (t59 : Zt22) (t60 : Int) (t61 : Int) (bt4 : Zt24) (bt6 : Zt18) (bt7 : Zt17) (bt8 : Zt17) (bt9 : Zt5) (bt16 : Zt17) (K : Kx_ R) : loopR (ev z1q (Tb106 R) FUEL (sub [1, 1, 1, 1, 1, 1, 0, 1, 0, 0] z2c)) [4, 6, 7, 8, 9, 16, 59, 60, 61] [4, 6, 7, 8, 9, 16] k (zvc t59 t60 t61 bt4 bt6 bt7 bt8 bt9 bt16) K = (zvn k t59 t60 t61 bt4 bt6 bt7 bt8 bt9 bt16).bind fun e => K (.exit 0) (zp0 e.1 e.2.1 e.2.2.1 e.2.2.2.1 e.2.2.2.2.1 e.2.2.2.2.2) := by
  induction k generalizing t59 t60 t61 bt4 bt6 bt7 bt8 bt9 bt16 with
  | zero => rfl
  | succ k ih =>
    rw [z205]
    simp only [zvn, zbz, zct, zde, zd2, zca, zcn, ih, z8, z6, zd, z7, ze, zc, Sum.elim_inl, Sum.elim_inr]
theorem z1ww (R : Type) (k : Nat) (t76 : Zt11) (t77 : Int) (t78 : Int) (bt4 : Zt24) (bt6 : Zt18) (bt8 : Zt17) (bt9 : Zt5) (bt16 : Zt17) (K : Kx_ R) : loopR (ev z1q (Tb106 R) FUEL (sub [1, 1, 1, 1, 1, 1, 1, 0, 1, 0, 0] z2c)) [4, 6, 8, 9, 16, 76, 77, 78] [8, 9, 16] k (zvw t76 t77 t78 bt4 bt6 bt8 bt9 bt16) K = (zu4 k t76 t77 t78 bt4 bt6 bt8 bt9 bt16).bind fun e => (Sum.elim (fun (we : Zt23) => K .ret (zqg we.1 we.2.1 we.2.2)) (fun (we : Zt23) => K (.exit 2) (zp1 we.1 we.2.1 we.2.2)) e) := by
  induction k generalizing t76 t77 t78 bt4 bt6 bt8 bt9 bt16 with
  | zero => rfl
  | succ k ih =>
    rw [z1zd]
    simp only [zu4, zbz, zct, zde, zd2, zca, zcn, ih, z8, z6, zd, z7, ze, zc, Sum.elim_inl, Sum.elim_inr]
theorem z21w (R : Type) (m_0 : Zt24) (a_1 : Zt18) (b_2 : Zt18) (x_3 : Zt17) (K : Kf_ R) : evFn z1q (Tb106 R) FUEL Tryz.f40 z2c [.dat y16 m_0 [], .dat y15 a_1 [], .dat y15 b_2 [], .dat y5 x_3 []] none K = (Q289 m_0 a_1 b_2 x_3).bind fun r => K [.dat y5 r.1 [], .dat (.pair (.int .i64) (.pair (.int .i64) .unit)) r.2 []] none := by
  rw [z28r]
  simp only [Q289, zbz, zct, zde, zd2, zca, zcn, z1va, z1ww, z1pd, z1mb, z1l6, z8, z6, zd, z7, ze, zc, Sum.elim_inl, Sum.elim_inr]
def z1l4 : Pure := fun R l b K => noBox b (args4 y16 y15 y15 y5 l (fun x0 x1 x2 x3 => (Q289 x0 x1 x2 x3).bind fun r => K [.dat y5 r.1 [], .dat (.pair (.int .i64) (.pair (.int .i64) .unit)) r.2 []] none))
theorem z263 : z1l4.Nat := fun R S l b F G K h => zh (zrw fun _ _ _ _ => zg fun _ => h _ _)
def Tb107 : Funs := Tb106.add 40 [y16, y15, y15, y5] z1l4
theorem z13u : Tb107.Nat := zl z145 z263
theorem z1gw : ∀ f, Owes Tryz.prog Tb107 f := zk (E := z1q) (((Tab.env_ok zm _ _ _ _).dr _).ro _) mixed z145 z1go (fn := Tryz.f40) (code := z2c) Tryz.func40 (by kernel_rfl) (by kernel_rfl) fun l b r b' h => by
  obtain ⟨rfl, h⟩ := zf h
  obtain ⟨x0, x1, x2, x3, h1, h2⟩ := own4 (E := z1q) rfl h
  exact ⟨FUEL, (h2 _ _ _ _ _ _).trans ((z21w _ x0 x1 x2 x3 _).trans h1)⟩
noncomputable abbrev z17w : Code := Tryz.f14.body.getD .skip
def z100 : Env := { tab.env (fun _ => []) (fun _ => []) [] [y19, (.int .i64), .str] with fr := fun i => bif Nat.beq i 5 then [12, 4] else [] }
theorem z25k (R : Type) (kk : Nat) (c_0 : Zt29) (link_1 : Int) (payload_2 : ByteArray) (K : Kf_ R) : evFn z100 (Tb107 R) kk Tryz.f14 z17w [.dat y19 c_0 [], .dat (.int .i64) link_1 [], .dat .str payload_2 []] none K =
  zew c_0 link_1 payload_2 (fun a0 a1 => K [.dat (.int .i64) a0 [], .dat .str a1 []] none) := by kernel_rfl
theorem z20p (R : Type) (c_0 : Zt29) (link_1 : Int) (payload_2 : ByteArray) (K : Kf_ R) : evFn z100 (Tb107 R) FUEL Tryz.f14 z17w [.dat y19 c_0 [], .dat (.int .i64) link_1 [], .dat .str payload_2 []] none K = (Q241 c_0 link_1 payload_2).bind fun r => K [.dat (.int .i64) r.1 [], .dat .str r.2 []] none := by
  rw [z25k]
  simp only [Q241, z17v, z8, z6, zd, z7, ze, zc, Sum.elim_inl, Sum.elim_inr]
def z1o0 : Pure := fun R l b K => noBox b (args3 y19 (.int .i64) .str l (fun x0 x1 x2 => (Q241 x0 x1 x2).bind fun r => K [.dat (.int .i64) r.1 [], .dat .str r.2 []] none))
theorem z28g : z1o0.Nat := fun R S l b F G K h => zh (z17 fun _ _ _ => zg fun _ => h _ _)
def Tb108 : Funs := Tb107.add 14 [y19, (.int .i64), .str] z1o0
theorem z140 : Tb108.Nat := zl z13u z28g
theorem z1fm : ∀ f, Owes Tryz.prog Tb108 f := zk (E := z100) ((Tab.env_ok zm _ _ _ _).fr _) mixed z13u z1gw (fn := Tryz.f14) (code := z17w) Tryz.func14 (by kernel_rfl) (by kernel_rfl) fun l b r b' h => by
  obtain ⟨rfl, h⟩ := zf h
  obtain ⟨x0, x1, x2, h1, h2⟩ := own3 (E := z100) rfl h
  exact ⟨FUEL, (h2 _ _ _ _ _ _).trans ((z20p _ x0 x1 x2 _).trans h1)⟩
noncomputable abbrev Q95_c : Code := Tryz.f9.body.getD .skip
def Q95_E : Env := tab.env (fun _ => []) (fun _ => []) [] []
theorem Q95_t (R : Type) (kk : Nat)  (K : Kf_ R) : evFn Q95_E (Tb108 R) kk Tryz.f9 Q95_c [] none K =
  zr4 (fun a0 => K [.dat .bool a0 []] none) := by kernel_rfl
theorem z27q (R : Type)  (K : Kf_ R) : evFn Q95_E (Tb108 R) FUEL Tryz.f9 Q95_c [] none K = (Q95).bind fun r => K [.dat .bool r []] none := by
  rw [Q95_t]
  simp only [Q95, z1dy, z8, z6, zd, z7, ze, zc, Sum.elim_inl, Sum.elim_inr]
def Q95_g : Pure := fun R l b K => noBox b (args0 l ((Q95).bind fun r => K [.dat .bool r []] none))
theorem Q95_n : Q95_g.Nat := fun R S l b F G K h => zh (z5z (zg fun _ => h _ _))
def Tb109 : Funs := Tb108.add 9 [] Q95_g
theorem z131 : Tb109.Nat := zl z140 Q95_n
theorem z1gi : ∀ f, Owes Tryz.prog Tb109 f := zk (E := Q95_E) (Tab.env_ok zm _ _ _ _) mixed z140 z1fm (fn := Tryz.f9) (code := Q95_c) Tryz.func9 (by kernel_rfl) (by kernel_rfl) fun l b r b' h => by
  obtain ⟨rfl, h⟩ := zf h
  obtain ⟨h1, h2⟩ := own0 (E := Q95_E) rfl h
  exact ⟨FUEL, (h2 _ _ _ _ _ _).trans ((z27q _  _).trans h1)⟩
noncomputable abbrev z5f : Code := Tryz.f28.body.getD .skip
def z3d : Env := tab.env (fun i => bif Nat.beq i 4 then [1, 3] else []) (fun i => bif Nat.beq i 4 then [2] else []) [] [y18]
def zwd (t3 : Int) (bt1 : Zt26) : State := ⟨uS 1 ([.ptr 2 y18 []]::(uS 1 ([.dat (.int .i64) t3 []]::(uS 32 ([]))))), nS 2 ((some ⟨y18, bt1, []⟩)::(nS 34 ([])))⟩
def zo2 (t2 : Bool) : State := ⟨uS 2 ([.dat .bool t2 []]::(uS 33 ([]))), nS 37 []⟩
def zsl  : State := ⟨uS 36 [], nS 37 []⟩
theorem z29v (R : Type) (kk : Nat) (s_0 : Zt26) (K : Kf_ R) : evFn z3d (Tb109 R) kk Tryz.f28 z5f [.dat y18 s_0 []] none K =
  z9x s_0 (fun a0 => K [.dat .bool a0 []] none) (fun a0 a1 => loopR (ev z3d (Tb109 R) kk (sub [1, 1, 0, 1, 0, 0] z5f)) [1, 3] [2] kk (zwd a0 a1) (zi 0 (kSeq z3d (Tb109 R) kk (sub [1, 1, 1] z5f) (kFin z3d Tryz.f28.results.toList none K)))) := by kernel_rfl
theorem z1yw (R : Type) (kk k : Nat) (t3 : Int) (bt1 : Zt26) (K : Kx_ R) : loopR (ev z3d (Tb109 R) kk (sub [1, 1, 0, 1, 0, 0] z5f)) [1, 3] [2] (k + 1) (zwd t3 bt1) K =
  zey t3 bt1 (fun a0 => K .ret (zo2 a0)) (fun a0 a1 => loopR (ev z3d (Tb109 R) kk (sub [1, 1, 0, 1, 0, 0] z5f)) [1, 3] [2] k (zwd a0 a1) K) (K (.exit 0) (zsl)) := by kernel_rfl
theorem z1je (R : Type) (kk : Nat) (t2 : Bool) (K : Kf_ R) : (zi 0 (kSeq z3d (Tb109 R) kk (sub [1, 1, 1] z5f) (kFin z3d Tryz.f28.results.toList none K))) .ret (zo2 t2) =
  zfy t2 (fun a0 => K [.dat .bool a0 []] none) := by kernel_rfl
theorem z1rq (R : Type) (kk : Nat)  (K : Kf_ R) : (zi 0 (kSeq z3d (Tb109 R) kk (sub [1, 1, 1] z5f) (kFin z3d Tryz.f28.results.toList none K))) (.exit 0) (zsl) =
  zfe (fun a0 => K [.dat .bool a0 []] none) := by kernel_rfl
theorem z1tw (R : Type) (k : Nat) (t3 : Int) (bt1 : Zt26) (K : Kx_ R) : loopR (ev z3d (Tb109 R) FUEL (sub [1, 1, 0, 1, 0, 0] z5f)) [1, 3] [2] k (zwd t3 bt1) K = (zet k t3 bt1).bind fun e => (Sum.elim (fun (we : Bool) => K .ret (zo2 we)) (fun (we : Unit) => K (.exit 0) (zsl)) e) := by
  induction k generalizing t3 bt1 with
  | zero => rfl
  | succ k ih =>
    rw [z1yw]
    simp only [zet, zlm, zpm, zsy, zna, ih, z8, z6, zd, z7, ze, zc, Sum.elim_inl, Sum.elim_inr]
theorem z21l (R : Type) (s_0 : Zt26) (K : Kf_ R) : evFn z3d (Tb109 R) FUEL Tryz.f28 z5f [.dat y18 s_0 []] none K = (Q184 s_0).bind fun r => K [.dat .bool r []] none := by
  rw [z29v]
  simp only [Q184, zlm, zpm, zsy, zna, z1tw, z1je, z1rq, z8, z6, zd, z7, ze, zc, Sum.elim_inl, Sum.elim_inr]
def z1jw : Pure := fun R l b K => noBox b (args1 y18 l (fun x0 => (Q184 x0).bind fun r => K [.dat .bool r []] none))
theorem z28i : z1jw.Nat := fun R S l b F G K h => zh (zp fun _ => zg fun _ => h _ _)
def Tb110 : Funs := Tb109.add 28 [y18] z1jw
theorem z143 : Tb110.Nat := zl z131 z28i
theorem z1gr : ∀ f, Owes Tryz.prog Tb110 f := zk (E := z3d) (Tab.env_ok zm _ _ _ _) mixed z131 z1gi (fn := Tryz.f28) (code := z5f) Tryz.func28 (by kernel_rfl) (by kernel_rfl) fun l b r b' h => by
  obtain ⟨rfl, h⟩ := zf h
  obtain ⟨x0, h1, h2⟩ := own1 (E := z3d) rfl h
  exact ⟨FUEL, (h2 _ _ _ _ _ _).trans ((z21l _ x0 _).trans h1)⟩
noncomputable abbrev z5q : Code := Tryz.f71.body.getD .skip
def z2t : Env := tab.env (fun i => bif Nat.beq i 4 then [1, 3] else []) (fun i => bif Nat.beq i 4 then [2] else []) [] [y12]
def zvb (t3 : Int) (bt1 : Zt20) : State := ⟨uS 1 ([.ptr 2 y12 []]::(uS 1 ([.dat (.int .i64) t3 []]::(uS 35 ([]))))), nS 2 ((some ⟨y12, bt1, []⟩)::(nS 37 ([])))⟩
def zlv (t2 : Bool) : State := ⟨uS 2 ([.dat .bool t2 []]::(uS 36 ([]))), nS 40 []⟩
def zn9  : State := ⟨uS 39 [], nS 40 []⟩
theorem z244 (R : Type) (kk : Nat) (r_0 : Zt20) (K : Kf_ R) : evFn z2t (Tb110 R) kk Tryz.f71 z5q [.dat y12 r_0 []] none K =
  zbe r_0 (fun a0 => K [.dat .bool a0 []] none) (fun a0 a1 => loopR (ev z2t (Tb110 R) kk (sub [1, 1, 0, 1, 0, 0] z5q)) [1, 3] [2] kk (zvb a0 a1) (zi 0 (kSeq z2t (Tb110 R) kk (sub [1, 1, 1] z5q) (kFin z2t Tryz.f71.results.toList none K)))) := by kernel_rfl
theorem z22l (R : Type) (kk k : Nat) (t3 : Int) (bt1 : Zt20) (K : Kx_ R) : loopR (ev z2t (Tb110 R) kk (sub [1, 1, 0, 1, 0, 0] z5q)) [1, 3] [2] (k + 1) (zvb t3 bt1) K =
  z8v t3 bt1 (fun a0 => K .ret (zlv a0)) (fun a0 a1 => loopR (ev z2t (Tb110 R) kk (sub [1, 1, 0, 1, 0, 0] z5q)) [1, 3] [2] k (zvb a0 a1) K) (K (.exit 0) (zn9)) := by kernel_rfl
theorem z1qm (R : Type) (kk : Nat) (t2 : Bool) (K : Kf_ R) : (zi 0 (kSeq z2t (Tb110 R) kk (sub [1, 1, 1] z5q) (kFin z2t Tryz.f71.results.toList none K))) .ret (zlv t2) =
  zhu t2 (fun a0 => K [.dat .bool a0 []] none) := by kernel_rfl
theorem z1kf (R : Type) (kk : Nat)  (K : Kf_ R) : (zi 0 (kSeq z2t (Tb110 R) kk (sub [1, 1, 1] z5q) (kFin z2t Tryz.f71.results.toList none K))) (.exit 0) (zn9) =
  zex (fun a0 => K [.dat .bool a0 []] none) := by kernel_rfl
theorem z1ts (R : Type) (k : Nat) (t3 : Int) (bt1 : Zt20) (K : Kx_ R) : loopR (ev z2t (Tb110 R) FUEL (sub [1, 1, 0, 1, 0, 0] z5q)) [1, 3] [2] k (zvb t3 bt1) K = (z4i k t3 bt1).bind fun e => (Sum.elim (fun (we : Bool) => K .ret (zlv we)) (fun (we : Unit) => K (.exit 0) (zn9)) e) := by
  induction k generalizing t3 bt1 with
  | zero => rfl
  | succ k ih =>
    rw [z22l]
    simp only [z4i, zte, zq3, zm5, zm4, ih, z8, z6, zd, z7, ze, zc, Sum.elim_inl, Sum.elim_inr]
theorem z1yd (R : Type) (r_0 : Zt20) (K : Kf_ R) : evFn z2t (Tb110 R) FUEL Tryz.f71 z5q [.dat y12 r_0 []] none K = (Q168 r_0).bind fun r => K [.dat .bool r []] none := by
  rw [z244]
  simp only [Q168, zte, zq3, zm5, zm4, z1ts, z1qm, z1kf, z8, z6, zd, z7, ze, zc, Sum.elim_inl, Sum.elim_inr]
def z1n8 : Pure := fun R l b K => noBox b (args1 y12 l (fun x0 => (Q168 x0).bind fun r => K [.dat .bool r []] none))
theorem z257 : z1n8.Nat := fun R S l b F G K h => zh (zp fun _ => zg fun _ => h _ _)
def Tb111 : Funs := Tb110.add 71 [y12] z1n8
theorem z152 : Tb111.Nat := zl z143 z257
theorem z1fo : ∀ f, Owes Tryz.prog Tb111 f := zk (E := z2t) (Tab.env_ok zm _ _ _ _) mixed z143 z1gr (fn := Tryz.f71) (code := z5q) Tryz.func71 (by kernel_rfl) (by kernel_rfl) fun l b r b' h => by
  obtain ⟨rfl, h⟩ := zf h
  obtain ⟨x0, h1, h2⟩ := own1 (E := z2t) rfl h
  exact ⟨FUEL, (h2 _ _ _ _ _ _).trans ((z1yd _ x0 _).trans h1)⟩
noncomputable abbrev z25 : Code := Tryz.f29.body.getD .skip
def z1j : Env := tab.env (fun i => bif Nat.beq i 4 then [1, 3] else bif Nat.beq i 9 then [1, 4] else []) (fun i => bif Nat.beq i 4 then [1, 2] else bif Nat.beq i 9 then [2] else []) [] [y16]
def zvq (t3 : Int) (bt1 : Zt24) : State := ⟨uS 1 ([.ptr 2 y16 []]::(uS 1 ([.dat (.int .i64) t3 []]::(uS 49 ([]))))), nS 2 ((some ⟨y16, bt1, []⟩)::(nS 51 ([])))⟩
def zme (t2 : Bool) (bt1 : Zt24) : State := ⟨uS 1 ([.ptr 2 y16 []]::[.dat .bool t2 []]::(uS 50 ([]))), nS 2 ((some ⟨y16, bt1, []⟩)::(nS 51 ([])))⟩
def zqs (bt1 : Zt24) : State := ⟨uS 1 ([.ptr 2 y16 []]::(uS 51 ([]))), nS 2 ((some ⟨y16, bt1, []⟩)::(nS 51 ([])))⟩
def zvv (t4 : Int) (bt1 : Zt24) : State := ⟨uS 1 ([.ptr 2 y16 []]::(uS 2 ([.dat (.int .i64) t4 []]::(uS 48 ([]))))), nS 2 ((some ⟨y16, bt1, []⟩)::(nS 51 ([])))⟩
def zlz (t2 : Bool) : State := ⟨uS 2 ([.dat .bool t2 []]::(uS 50 ([]))), nS 54 []⟩
def zne  : State := ⟨uS 53 [], nS 54 []⟩
theorem z283 (R : Type) (kk : Nat) (m_0 : Zt24) (K : Kf_ R) : evFn z1j (Tb111 R) kk Tryz.f29 z25 [.dat y16 m_0 []] none K =
  zab m_0 (fun a0 => K [.dat .bool a0 []] none) (fun a0 a1 => loopR (ev z1j (Tb111 R) kk (sub [1, 1, 0, 1, 0, 0] z25)) [1, 3] [1, 2] kk (zvq a0 a1) (zi 0 (kSeq z1j (Tb111 R) kk (sub [1, 1, 1] z25) (kFin z1j Tryz.f29.results.toList none K)))) := by kernel_rfl
theorem z21z (R : Type) (kk k : Nat) (t3 : Int) (bt1 : Zt24) (K : Kx_ R) : loopR (ev z1j (Tb111 R) kk (sub [1, 1, 0, 1, 0, 0] z25)) [1, 3] [1, 2] (k + 1) (zvq t3 bt1) K =
  z7x t3 bt1 (fun a0 a1 => K .ret (zme a0 a1)) (fun a0 a1 => loopR (ev z1j (Tb111 R) kk (sub [1, 1, 0, 1, 0, 0] z25)) [1, 3] [1, 2] k (zvq a0 a1) K) (fun a0 => K (.exit 0) (zqs a0)) := by kernel_rfl
theorem z1qt (R : Type) (kk : Nat) (t2 : Bool) (bt1 : Zt24) (K : Kf_ R) : (zi 0 (kSeq z1j (Tb111 R) kk (sub [1, 1, 1] z25) (kFin z1j Tryz.f29.results.toList none K))) .ret (zme t2 bt1) =
  zfz t2 bt1 (fun a0 => K [.dat .bool a0 []] none) := by kernel_rfl
theorem z1jh (R : Type) (kk : Nat) (bt1 : Zt24) (K : Kf_ R) : (zi 0 (kSeq z1j (Tb111 R) kk (sub [1, 1, 1] z25) (kFin z1j Tryz.f29.results.toList none K))) (.exit 0) (zqs bt1) =
  zbr bt1 (fun a0 a1 => loopR (ev z1j (Tb111 R) kk (sub [1, 1, 1, 0, 1, 0, 0] z25)) [1, 4] [2] kk (zvv a0 a1) (zi 2 (kSeq z1j (Tb111 R) kk (sub [1, 1, 1, 1] z25) (kFin z1j Tryz.f29.results.toList none K)))) := by kernel_rfl
theorem z1xf (R : Type) (kk k : Nat) (t4 : Int) (bt1 : Zt24) (K : Kx_ R) : loopR (ev z1j (Tb111 R) kk (sub [1, 1, 1, 0, 1, 0, 0] z25)) [1, 4] [2] (k + 1) (zvv t4 bt1) K =
  zfv t4 bt1 (fun a0 => K .ret (zlz a0)) (fun a0 a1 => loopR (ev z1j (Tb111 R) kk (sub [1, 1, 1, 0, 1, 0, 0] z25)) [1, 4] [2] k (zvv a0 a1) K) (K (.exit 2) (zne)) := by kernel_rfl
theorem z1nm (R : Type) (kk : Nat) (t2 : Bool) (K : Kf_ R) : (zi 2 (kSeq z1j (Tb111 R) kk (sub [1, 1, 1, 1] z25) (kFin z1j Tryz.f29.results.toList none K))) .ret (zlz t2) =
  zfh t2 (fun a0 => K [.dat .bool a0 []] none) := by kernel_rfl
theorem z1jg (R : Type) (kk : Nat)  (K : Kf_ R) : (zi 2 (kSeq z1j (Tb111 R) kk (sub [1, 1, 1, 1] z25) (kFin z1j Tryz.f29.results.toList none K))) (.exit 2) (zne) =
  zi1 (fun a0 => K [.dat .bool a0 []] none) := by kernel_rfl
theorem z1u1 (R : Type) (k : Nat) (t3 : Int) (bt1 : Zt24) (K : Kx_ R) : loopR (ev z1j (Tb111 R) FUEL (sub [1, 1, 0, 1, 0, 0] z25)) [1, 3] [1, 2] k (zvq t3 bt1) K = (z4k k t3 bt1).bind fun e => (Sum.elim (fun (we : (Bool × Zt24)) => K .ret (zme we.1 we.2)) (fun (we : Zt24) => K (.exit 0) (zqs we)) e) := by
  induction k generalizing t3 bt1 with
  | zero => rfl
  | succ k ih =>
    rw [z21z]
    simp only [z4k, zcz, zcy, zc4, zd7, zcf, zdb, zd1, ih, z8, z6, zd, z7, ze, zc, Sum.elim_inl, Sum.elim_inr]
theorem z1t7 (R : Type) (k : Nat) (t4 : Int) (bt1 : Zt24) (K : Kx_ R) : loopR (ev z1j (Tb111 R) FUEL (sub [1, 1, 1, 0, 1, 0, 0] z25)) [1, 4] [2] k (zvv t4 bt1) K = (zgw k t4 bt1).bind fun e => (Sum.elim (fun (we : Bool) => K .ret (zlz we)) (fun (we : Unit) => K (.exit 2) (zne)) e) := by
  induction k generalizing t4 bt1 with
  | zero => rfl
  | succ k ih =>
    rw [z1xf]
    simp only [zgw, zcz, zcy, zc4, zd7, zcf, zdb, zd1, ih, z8, z6, zd, z7, ze, zc, Sum.elim_inl, Sum.elim_inr]
theorem z21m (R : Type) (m_0 : Zt24) (K : Kf_ R) : evFn z1j (Tb111 R) FUEL Tryz.f29 z25 [.dat y16 m_0 []] none K = (Q171 m_0).bind fun r => K [.dat .bool r []] none := by
  rw [z283]
  simp only [Q171, zcz, zcy, zc4, zd7, zcf, zdb, zd1, z1u1, z1t7, z1qt, z1jh, z1nm, z1jg, z8, z6, zd, z7, ze, zc, Sum.elim_inl, Sum.elim_inr]
def z1py : Pure := fun R l b K => noBox b (args1 y16 l (fun x0 => (Q171 x0).bind fun r => K [.dat .bool r []] none))
theorem z294 : z1py.Nat := fun R S l b F G K h => zh (zp fun _ => zg fun _ => h _ _)
def Tb112 : Funs := Tb111.add 29 [y16] z1py
theorem z15k : Tb112.Nat := zl z152 z294
theorem z1gl : ∀ f, Owes Tryz.prog Tb112 f := zk (E := z1j) (Tab.env_ok zm _ _ _ _) mixed z152 z1fo (fn := Tryz.f29) (code := z25) Tryz.func29 (by kernel_rfl) (by kernel_rfl) fun l b r b' h => by
  obtain ⟨rfl, h⟩ := zf h
  obtain ⟨x0, h1, h2⟩ := own1 (E := z1j) rfl h
  exact ⟨FUEL, (h2 _ _ _ _ _ _).trans ((z21m _ x0 _).trans h1)⟩
noncomputable abbrev z18m : Code := Tryz.f10.body.getD .skip
def zzm : Env := tab.env (fun _ => []) (fun _ => []) [] [y19]
theorem z28k (R : Type) (kk : Nat) (c_0 : Zt29) (K : Kf_ R) : evFn zzm (Tb112 R) kk Tryz.f10 z18m [.dat y19 c_0 []] none K =
  zbf c_0 (fun a0 => K [.dat .bool a0 []] none) := by kernel_rfl
theorem z1x4 (R : Type) (c_0 : Zt29) (K : Kf_ R) : evFn zzm (Tb112 R) FUEL Tryz.f10 z18m [.dat y19 c_0 []] none K = (Q189 c_0).bind fun r => K [.dat .bool r []] none := by
  rw [z28k]
  simp only [Q189, z17n, z8, z6, zd, z7, ze, zc, Sum.elim_inl, Sum.elim_inr]
def z1rm : Pure := fun R l b K => noBox b (args1 y19 l (fun x0 => (Q189 x0).bind fun r => K [.dat .bool r []] none))
theorem z25f : z1rm.Nat := fun R S l b F G K h => zh (zp fun _ => zg fun _ => h _ _)
def Tb113 : Funs := Tb112.add 10 [y19] z1rm
theorem z154 : Tb113.Nat := zl z15k z25f
theorem z1fc : ∀ f, Owes Tryz.prog Tb113 f := zk (E := zzm) (Tab.env_ok zm _ _ _ _) mixed z15k z1gl (fn := Tryz.f10) (code := z18m) Tryz.func10 (by kernel_rfl) (by kernel_rfl) fun l b r b' h => by
  obtain ⟨rfl, h⟩ := zf h
  obtain ⟨x0, h1, h2⟩ := own1 (E := zzm) rfl h
  exact ⟨FUEL, (h2 _ _ _ _ _ _).trans ((z1x4 _ x0 _).trans h1)⟩
noncomputable abbrev z19t : Code := Tryz.f81.body.getD .skip
def z11f : Env := tab.env (fun _ => []) (fun _ => []) [] [(.sl 116 (.pair .str (.pair .str .unit)))]
theorem z29a (R : Type) (kk : Nat) (l_0 : Zt14) (K : Kf_ R) : evFn z11f (Tb113 R) kk Tryz.f81 z19t [.dat (.sl 116 (.pair .str (.pair .str .unit))) l_0 []] none K =
  zaf l_0 (fun a0 => K [.dat (.sl 116 (.pair .str (.pair .str .unit))) a0 [[]]] none) := by kernel_rfl
theorem z1zt (R : Type) (l_0 : Zt14) (K : Kf_ R) : evFn z11f (Tb113 R) FUEL Tryz.f81 z19t [.dat (.sl 116 (.pair .str (.pair .str .unit))) l_0 []] none K = (Q161 l_0).bind fun r => K [.dat (.sl 116 (.pair .str (.pair .str .unit))) r [[]]] none := by
  rw [z29a]
  simp only [Q161, z1bm, z8, z6, zd, z7, ze, zc, Sum.elim_inl, Sum.elim_inr]
def z1qy : Pure := fun R l b K => noBox b (args1 (.sl 116 (.pair .str (.pair .str .unit))) l (fun x0 => (Q161 x0).bind fun r => K [.dat (.sl 116 (.pair .str (.pair .str .unit))) r [[]]] none))
theorem z239 : z1qy.Nat := fun R S l b F G K h => zh (zp fun _ => zg fun _ => h _ _)
def Tb114 : Funs := Tb113.add 81 [(.sl 116 (.pair .str (.pair .str .unit)))] z1qy
theorem z14d : Tb114.Nat := zl z154 z239
theorem z1gs : ∀ f, Owes Tryz.prog Tb114 f := zk (E := z11f) (Tab.env_ok zm _ _ _ _) mixed z154 z1fc (fn := Tryz.f81) (code := z19t) Tryz.func81 (by kernel_rfl) (by kernel_rfl) fun l b r b' h => by
  obtain ⟨rfl, h⟩ := zf h
  obtain ⟨x0, h1, h2⟩ := own1 (E := z11f) rfl h
  exact ⟨FUEL, (h2 _ _ _ _ _ _).trans ((z1zt _ x0 _).trans h1)⟩
noncomputable abbrev z1cc : Code := Tryz.f82.body.getD .skip
def zzu : Env := tab.env (fun _ => []) (fun _ => []) [2] [y12]
theorem z274 (R : Type) (kk : Nat) (r_0 : Zt20) (K : Kf_ R) : evFn zzu (Tb114 R) kk Tryz.f82 z1cc [.dat y12 r_0 []] none K =
  zaw r_0 (fun a0 => K [.dat y12 a0 [[4]]] none) := by kernel_rfl
theorem z204 (R : Type) (r_0 : Zt20) (K : Kf_ R) : evFn zzu (Tb114 R) FUEL Tryz.f82 z1cc [.dat y12 r_0 []] none K = (Q167 r_0).bind fun r => K [.dat y12 r [[4]]] none := by
  rw [z274]
  simp only [Q167, z18e, z8, z6, zd, z7, ze, zc, Sum.elim_inl, Sum.elim_inr]
def z1k0 : Pure := fun R l b K => noBox b (args1 y12 l (fun x0 => (Q167 x0).bind fun r => K [.dat y12 r [[4]]] none))
theorem z26a : z1k0.Nat := fun R S l b F G K h => zh (zp fun _ => zg fun _ => h _ _)
def Tb115 : Funs := Tb114.add 82 [y12] z1k0
theorem z138 : Tb115.Nat := zl z14d z26a
theorem z1g3 : ∀ f, Owes Tryz.prog Tb115 f := zk (E := zzu) (Tab.env_ok zm _ _ _ _) mixed z14d z1gs (fn := Tryz.f82) (code := z1cc) Tryz.func82 (by kernel_rfl) (by kernel_rfl) fun l b r b' h => by
  obtain ⟨rfl, h⟩ := zf h
  obtain ⟨x0, h1, h2⟩ := own1 (E := zzu) rfl h
  exact ⟨FUEL, (h2 _ _ _ _ _ _).trans ((z204 _ x0 _).trans h1)⟩
noncomputable abbrev z6j : Code := Tryz.f32.body.getD .skip
def z3v : Env := tab.env (fun i => bif Nat.beq i 3 then [1, 2, 3, 4] else []) (fun i => bif Nat.beq i 3 then [2, 3] else []) [2] [y16]
def zua (t4 : Int) (bt1 : Zt24) (bt2 : Zt24) (bt3 : Zt24) : State := ⟨uS 1 ([.ptr 2 y16 []]::[.ptr 3 y16 []]::[.ptr 4 y16 []]::[.dat (.int .i64) t4 []]::(uS 23 ([]))), nS 2 ((some ⟨y16, bt1, []⟩)::(some ⟨y16, bt2, [[0], [1]]⟩)::(some ⟨y16, bt3, [[0], [1]]⟩)::(nS 24 ([])))⟩
def zsb (bt2 : Zt24) (bt3 : Zt24) : State := ⟨uS 2 ([.ptr 3 y16 []]::[.ptr 4 y16 []]::(uS 24 ([]))), nS 3 ((some ⟨y16, bt2, [[0], [1]]⟩)::(some ⟨y16, bt3, [[0], [1]]⟩)::(nS 24 ([])))⟩
theorem z281 (R : Type) (kk : Nat) (m_0 : Zt24) (K : Kf_ R) : evFn z3v (Tb115 R) kk Tryz.f32 z6j [.dat y16 m_0 []] none K =
  zb4 m_0 (fun a0 a1 a2 a3 => loopR (ev z3v (Tb115 R) kk (sub [1, 1, 0, 1, 0, 0] z6j)) [1, 2, 3, 4] [2, 3] kk (zua a0 a1 a2 a3) (zi 0 (kSeq z3v (Tb115 R) kk (sub [1, 1, 1] z6j) (kFin z3v Tryz.f32.results.toList none K)))) := by kernel_rfl
theorem z1yx (R : Type) (kk k : Nat) (t4 : Int) (bt1 : Zt24) (bt2 : Zt24) (bt3 : Zt24) (K : Kx_ R) : loopR (ev z3v (Tb115 R) kk (sub [1, 1, 0, 1, 0, 0] z6j)) [1, 2, 3, 4] [2, 3] (k + 1) (zua t4 bt1 bt2 bt3) K =
  zjc t4 bt1 bt2 bt3 (fun a0 a1 a2 a3 => loopR (ev z3v (Tb115 R) kk (sub [1, 1, 0, 1, 0, 0] z6j)) [1, 2, 3, 4] [2, 3] k (zua a0 a1 a2 a3) K) (fun a0 a1 => K (.exit 0) (zsb a0 a1)) := by kernel_rfl
theorem z1lt (R : Type) (kk : Nat) (bt2 : Zt24) (bt3 : Zt24) (K : Kf_ R) : (zi 0 (kSeq z3v (Tb115 R) kk (sub [1, 1, 1] z6j) (kFin z3v Tryz.f32.results.toList none K))) (.exit 0) (zsb bt2 bt3) =
  zho bt2 bt3 (fun a0 => K [.dat y16 a0 [[0], [1]]] none) := by kernel_rfl
theorem z1vm (R : Type) (k : Nat) (t4 : Int) (bt1 : Zt24) (bt2 : Zt24) (bt3 : Zt24) (K : Kx_ R) : loopR (ev z3v (Tb115 R) FUEL (sub [1, 1, 0, 1, 0, 0] z6j)) [1, 2, 3, 4] [2, 3] k (zua t4 bt1 bt2 bt3) K = (zer k t4 bt1 bt2 bt3).bind fun e => K (.exit 0) (zsb e.1 e.2) := by
  induction k generalizing t4 bt1 bt2 bt3 with
  | zero => rfl
  | succ k ih =>
    rw [z1yx]
    simp only [zer, znt, zpt, zok, ih, z8, z6, zd, z7, ze, zc, Sum.elim_inl, Sum.elim_inr]
theorem z217 (R : Type) (m_0 : Zt24) (K : Kf_ R) : evFn z3v (Tb115 R) FUEL Tryz.f32 z6j [.dat y16 m_0 []] none K = (Q170 m_0).bind fun r => K [.dat y16 r [[0], [1]]] none := by
  rw [z281]
  simp only [Q170, znt, zpt, zok, z1vm, z1lt, z8, z6, zd, z7, ze, zc, Sum.elim_inl, Sum.elim_inr]
def z1kd : Pure := fun R l b K => noBox b (args1 y16 l (fun x0 => (Q170 x0).bind fun r => K [.dat y16 r [[0], [1]]] none))
theorem z2a1 : z1kd.Nat := fun R S l b F G K h => zh (zp fun _ => zg fun _ => h _ _)
def Tb116 : Funs := Tb115.add 32 [y16] z1kd
theorem z12w : Tb116.Nat := zl z138 z2a1
theorem z1g2 : ∀ f, Owes Tryz.prog Tb116 f := zk (E := z3v) (Tab.env_ok zm _ _ _ _) mixed z138 z1g3 (fn := Tryz.f32) (code := z6j) Tryz.func32 (by kernel_rfl) (by kernel_rfl) fun l b r b' h => by
  obtain ⟨rfl, h⟩ := zf h
  obtain ⟨x0, h1, h2⟩ := own1 (E := z3v) rfl h
  exact ⟨FUEL, (h2 _ _ _ _ _ _).trans ((z217 _ x0 _).trans h1)⟩
noncomputable abbrev z1ai : Code := Tryz.f83.body.getD .skip
def zyl : Env := tab.env (fun _ => []) (fun _ => []) [2] [y15]
theorem z29t (R : Type) (kk : Nat) (s_0 : Zt18) (K : Kf_ R) : evFn zyl (Tb116 R) kk Tryz.f83 z1ai [.dat y15 s_0 []] none K =
  zam s_0 (fun a0 => K [.dat y15 a0 [[2]]] none) := by kernel_rfl
theorem z1xm (R : Type) (s_0 : Zt18) (K : Kf_ R) : evFn zyl (Tb116 R) FUEL Tryz.f83 z1ai [.dat y15 s_0 []] none K = (Q138 s_0).bind fun r => K [.dat y15 r [[2]]] none := by
  rw [z29t]
  simp only [Q138, z1dc, z8, z6, zd, z7, ze, zc, Sum.elim_inl, Sum.elim_inr]
def z1ke : Pure := fun R l b K => noBox b (args1 y15 l (fun x0 => (Q138 x0).bind fun r => K [.dat y15 r [[2]]] none))
theorem z23x : z1ke.Nat := fun R S l b F G K h => zh (zp fun _ => zg fun _ => h _ _)
def Tb117 : Funs := Tb116.add 83 [y15] z1ke
theorem z14j : Tb117.Nat := zl z12w z23x
theorem z1hf : ∀ f, Owes Tryz.prog Tb117 f := zk (E := zyl) (Tab.env_ok zm _ _ _ _) mixed z12w z1g2 (fn := Tryz.f83) (code := z1ai) Tryz.func83 (by kernel_rfl) (by kernel_rfl) fun l b r b' h => by
  obtain ⟨rfl, h⟩ := zf h
  obtain ⟨x0, h1, h2⟩ := own1 (E := zyl) rfl h
  exact ⟨FUEL, (h2 _ _ _ _ _ _).trans ((z1xm _ x0 _).trans h1)⟩
noncomputable abbrev z176 : Code := Tryz.f33.body.getD .skip
def zyw : Env := tab.env (fun _ => []) (fun _ => []) [2] [y18]
theorem z262 (R : Type) (kk : Nat) (s_0 : Zt26) (K : Kf_ R) : evFn zyw (Tb117 R) kk Tryz.f33 z176 [.dat y18 s_0 []] none K =
  zbu s_0 (fun a0 => K [.dat y18 a0 [[3], [2], [0, 2]]] none) := by kernel_rfl
theorem z20m (R : Type) (s_0 : Zt26) (K : Kf_ R) : evFn zyw (Tb117 R) FUEL Tryz.f33 z176 [.dat y18 s_0 []] none K = (Q183 s_0).bind fun r => K [.dat y18 r [[3], [2], [0, 2]]] none := by
  rw [z262]
  simp only [Q183, z1a9, z8, z6, zd, z7, ze, zc, Sum.elim_inl, Sum.elim_inr]
def z1r8 : Pure := fun R l b K => noBox b (args1 y18 l (fun x0 => (Q183 x0).bind fun r => K [.dat y18 r [[3], [2], [0, 2]]] none))
theorem z23k : z1r8.Nat := fun R S l b F G K h => zh (zp fun _ => zg fun _ => h _ _)
def Tb118 : Funs := Tb117.add 33 [y18] z1r8
theorem z14h : Tb118.Nat := zl z14j z23k
theorem z1fr : ∀ f, Owes Tryz.prog Tb118 f := zk (E := zyw) (Tab.env_ok zm _ _ _ _) mixed z14j z1hf (fn := Tryz.f33) (code := z176) Tryz.func33 (by kernel_rfl) (by kernel_rfl) fun l b r b' h => by
  obtain ⟨rfl, h⟩ := zf h
  obtain ⟨x0, h1, h2⟩ := own1 (E := zyw) rfl h
  exact ⟨FUEL, (h2 _ _ _ _ _ _).trans ((z20m _ x0 _).trans h1)⟩
noncomputable abbrev z6d : Code := Tryz.f12.body.getD .skip
def z44 : Env := { tab.env (fun i => bif Nat.beq i 2 then [1, 2, 3] else []) (fun i => bif Nat.beq i 2 then [1, 2] else []) [2] [y19] with sh := [20] }
def zwb (t3 : Int) (bt1 : Zt29) (bt2 : Zt29) : State := ⟨uS 1 ([.ptr 2 y19 []]::[.ptr 3 y19 []]::[.dat (.int .i64) t3 []]::(uS 25 ([]))), nS 2 ((some ⟨y19, bt1, []⟩)::(some ⟨y19, bt2, []⟩)::(nS 26 ([])))⟩
def zlp (bt1 : Zt29) (bt2 : Zt29) : State := ⟨uS 1 ([.ptr 2 y19 []]::[.ptr 3 y19 []]::(uS 26 ([]))), nS 2 ((some ⟨y19, bt1, []⟩)::(some ⟨y19, bt2, []⟩)::(nS 26 ([])))⟩
theorem z28d (R : Type) (kk : Nat) (c_0 : Zt29) (K : Kf_ R) : evFn z44 (Tb118 R) kk Tryz.f12 z6d [.dat y19 c_0 []] none K =
  zao c_0 (fun a0 a1 a2 => loopR (ev z44 (Tb118 R) kk (sub [1, 0, 1, 0, 0] z6d)) [1, 2, 3] [1, 2] kk (zwb a0 a1 a2) (zi 0 (kSeq z44 (Tb118 R) kk (sub [1, 1] z6d) (kFin z44 Tryz.f12.results.toList none K)))) := by kernel_rfl
theorem z20o (R : Type) (kk k : Nat) (t3 : Int) (bt1 : Zt29) (bt2 : Zt29) (K : Kx_ R) : loopR (ev z44 (Tb118 R) kk (sub [1, 0, 1, 0, 0] z6d)) [1, 2, 3] [1, 2] (k + 1) (zwb t3 bt1 bt2) K =
  z68 t3 bt1 bt2 (fun a0 a1 a2 => loopR (ev z44 (Tb118 R) kk (sub [1, 0, 1, 0, 0] z6d)) [1, 2, 3] [1, 2] k (zwb a0 a1 a2) K) (fun a0 a1 => K (.exit 0) (zlp a0 a1)) := by kernel_rfl
theorem z1jj (R : Type) (kk : Nat) (bt1 : Zt29) (bt2 : Zt29) (K : Kf_ R) : (zi 0 (kSeq z44 (Tb118 R) kk (sub [1, 1] z6d) (kFin z44 Tryz.f12.results.toList none K))) (.exit 0) (zlp bt1 bt2) =
  zj9 bt1 bt2 (fun a0 => K [.dat y19 a0 []] none) := by kernel_rfl
theorem z1wx (R : Type) (k : Nat) (t3 : Int) (bt1 : Zt29) (bt2 : Zt29) (K : Kx_ R) : loopR (ev z44 (Tb118 R) FUEL (sub [1, 0, 1, 0, 0] z6d)) [1, 2, 3] [1, 2] k (zwb t3 bt1 bt2) K = (z8o k t3 bt1 bt2).bind fun e => K (.exit 0) (zlp e.1 e.2) := by
  induction k generalizing t3 bt1 bt2 with
  | zero => rfl
  | succ k ih =>
    rw [z20o]
    simp only [z8o, zlq, znn, zmq, ih, z8, z6, zd, z7, ze, zc, Sum.elim_inl, Sum.elim_inr]
theorem z1xo (R : Type) (c_0 : Zt29) (K : Kf_ R) : evFn z44 (Tb118 R) FUEL Tryz.f12 z6d [.dat y19 c_0 []] none K = (Q188 c_0).bind fun r => K [.dat y19 r []] none := by
  rw [z28d]
  simp only [Q188, zlq, znn, zmq, z1wx, z1jj, z8, z6, zd, z7, ze, zc, Sum.elim_inl, Sum.elim_inr]
def z1q5 : Pure := fun R l b K => noBox b (args1 y19 l (fun x0 => (Q188 x0).bind fun r => K [.dat y19 r []] none))
theorem z27y : z1q5.Nat := fun R S l b F G K h => zh (zp fun _ => zg fun _ => h _ _)
def Tb119 : Funs := Tb118.add 12 [y19] z1q5
theorem z14o : Tb119.Nat := zl z14h z27y
theorem z1hp : ∀ f, Owes Tryz.prog Tb119 f := zk (E := z44) ((Tab.env_ok zm _ _ _ _).sh _) mixed z14h z1fr (fn := Tryz.f12) (code := z6d) Tryz.func12 (by kernel_rfl) (by kernel_rfl) fun l b r b' h => by
  obtain ⟨rfl, h⟩ := zf h
  obtain ⟨x0, h1, h2⟩ := own1 (E := z44) rfl h
  exact ⟨FUEL, (h2 _ _ _ _ _ _).trans ((z1xo _ x0 _).trans h1)⟩
noncomputable abbrev z16b : Code := Tryz.f143.body.getD .skip
def zyt : Env := tab.env (fun _ => []) (fun _ => []) [] [y9]
theorem z22u (R : Type) (kk : Nat) (s_0 : Zt13) (K : Kf_ R) : evFn zyt (Tb119 R) kk Tryz.f143 z16b [.dat y9 s_0 []] none K =
  zah s_0 (fun a0 => K [.dat (.int .i64) a0 []] none) := by kernel_rfl
theorem z20t (R : Type) (s_0 : Zt13) (K : Kf_ R) : evFn zyt (Tb119 R) FUEL Tryz.f143 z16b [.dat y9 s_0 []] none K = (Q133 s_0).bind fun r => K [.dat (.int .i64) r []] none := by
  rw [z22u]
  simp only [Q133, z1bu, z8, z6, zd, z7, ze, zc, Sum.elim_inl, Sum.elim_inr]
def z1rk : Pure := fun R l b K => noBox b (args1 y9 l (fun x0 => (Q133 x0).bind fun r => K [.dat (.int .i64) r []] none))
theorem z2a0 : z1rk.Nat := fun R S l b F G K h => zh (zp fun _ => zg fun _ => h _ _)
def Tb120 : Funs := Tb119.add 143 [y9] z1rk
theorem z13o : Tb120.Nat := zl z14o z2a0
theorem z1hh : ∀ f, Owes Tryz.prog Tb120 f := zk (E := zyt) (Tab.env_ok zm _ _ _ _) mixed z14o z1hp (fn := Tryz.f143) (code := z16b) Tryz.func143 (by kernel_rfl) (by kernel_rfl) fun l b r b' h => by
  obtain ⟨rfl, h⟩ := zf h
  obtain ⟨x0, h1, h2⟩ := own1 (E := zyt) rfl h
  exact ⟨FUEL, (h2 _ _ _ _ _ _).trans ((z20t _ x0 _).trans h1)⟩
noncomputable abbrev z4v : Code := Tryz.f142.body.getD .skip
def z30 : Env := tab.env (fun i => bif Nat.beq i 7 then [1, 4, 5] else []) (fun i => bif Nat.beq i 7 then [2, 3] else []) [] [y15]
def zw3 (t4 : Int) (t5 : Int) (bt1 : Zt18) : State := ⟨uS 1 ([.ptr 2 y15 []]::(uS 2 ([.dat (.int .i64) t4 []]::[.dat (.int .i64) t5 []]::(uS 49 ([]))))), nS 2 ((some ⟨y15, bt1, []⟩)::(nS 53 ([])))⟩
def zrr (t2 : Int) (t3 : Int) : State := ⟨uS 2 ([.dat (.int .i64) t2 []]::[.dat (.int .i64) t3 []]::(uS 51 ([]))), nS 56 []⟩
def zta  : State := ⟨uS 55 [], nS 56 []⟩
theorem z28h (R : Type) (kk : Nat) (s_0 : Zt18) (K : Kf_ R) : evFn z30 (Tb120 R) kk Tryz.f142 z4v [.dat y15 s_0 []] none K =
  zay s_0 (fun a0 a1 => K [.dat (.int .i64) a0 [], .dat (.int .i64) a1 []] none) (fun a0 a1 a2 => loopR (ev z30 (Tb120 R) kk (sub [1, 1, 1, 1, 0, 1, 0, 0] z4v)) [1, 4, 5] [2, 3] kk (zw3 a0 a1 a2) (zi 0 (kSeq z30 (Tb120 R) kk (sub [1, 1, 1, 1, 1] z4v) (kFin z30 Tryz.f142.results.toList none K)))) := by kernel_rfl
theorem z1z3 (R : Type) (kk k : Nat) (t4 : Int) (t5 : Int) (bt1 : Zt18) (K : Kx_ R) : loopR (ev z30 (Tb120 R) kk (sub [1, 1, 1, 1, 0, 1, 0, 0] z4v)) [1, 4, 5] [2, 3] (k + 1) (zw3 t4 t5 bt1) K =
  z7r t4 t5 bt1 (fun a0 a1 => K .ret (zrr a0 a1)) (fun a0 a1 a2 => loopR (ev z30 (Tb120 R) kk (sub [1, 1, 1, 1, 0, 1, 0, 0] z4v)) [1, 4, 5] [2, 3] k (zw3 a0 a1 a2) K) (K (.exit 0) (zta)) := by kernel_rfl
theorem z1iq (R : Type) (kk : Nat) (t2 : Int) (t3 : Int) (K : Kf_ R) : (zi 0 (kSeq z30 (Tb120 R) kk (sub [1, 1, 1, 1, 1] z4v) (kFin z30 Tryz.f142.results.toList none K))) .ret (zrr t2 t3) =
  zb2 t2 t3 (fun a0 a1 => K [.dat (.int .i64) a0 [], .dat (.int .i64) a1 []] none) := by kernel_rfl
theorem z1jl (R : Type) (kk : Nat)  (K : Kf_ R) : (zi 0 (kSeq z30 (Tb120 R) kk (sub [1, 1, 1, 1, 1] z4v) (kFin z30 Tryz.f142.results.toList none K))) (.exit 0) (zta) =
  zbj (fun a0 a1 => K [.dat (.int .i64) a0 [], .dat (.int .i64) a1 []] none) := by kernel_rfl
theorem z1wi (R : Type) (k : Nat) (t4 : Int) (t5 : Int) (bt1 : Zt18) (K : Kx_ R) : loopR (ev z30 (Tb120 R) FUEL (sub [1, 1, 1, 1, 0, 1, 0, 0] z4v)) [1, 4, 5] [2, 3] k (zw3 t4 t5 bt1) K = (z4q k t4 t5 bt1).bind fun e => (Sum.elim (fun (we : (Int × Int)) => K .ret (zrr we.1 we.2)) (fun (we : Unit) => K (.exit 0) (zta)) e) := by
  induction k generalizing t4 t5 bt1 with
  | zero => rfl
  | succ k ih =>
    rw [z1z3]
    simp only [z4q, zn7, zpd, zrd, zq7, ih, z8, z6, zd, z7, ze, zc, Sum.elim_inl, Sum.elim_inr]
theorem z216 (R : Type) (s_0 : Zt18) (K : Kf_ R) : evFn z30 (Tb120 R) FUEL Tryz.f142 z4v [.dat y15 s_0 []] none K = (Q137 s_0).bind fun r => K [.dat (.int .i64) r.1 [], .dat (.int .i64) r.2 []] none := by
  rw [z28h]
  simp only [Q137, zn7, zpd, zrd, zq7, z1wi, z1iq, z1jl, z8, z6, zd, z7, ze, zc, Sum.elim_inl, Sum.elim_inr]
def z1kq : Pure := fun R l b K => noBox b (args1 y15 l (fun x0 => (Q137 x0).bind fun r => K [.dat (.int .i64) r.1 [], .dat (.int .i64) r.2 []] none))
theorem z26z : z1kq.Nat := fun R S l b F G K h => zh (zp fun _ => zg fun _ => h _ _)
def Tb121 : Funs := Tb120.add 142 [y15] z1kq
theorem z13t : Tb121.Nat := zl z13o z26z
theorem z1h1 : ∀ f, Owes Tryz.prog Tb121 f := zk (E := z30) (Tab.env_ok zm _ _ _ _) mixed z13o z1hh (fn := Tryz.f142) (code := z4v) Tryz.func142 (by kernel_rfl) (by kernel_rfl) fun l b r b' h => by
  obtain ⟨rfl, h⟩ := zf h
  obtain ⟨x0, h1, h2⟩ := own1 (E := z30) rfl h
  exact ⟨FUEL, (h2 _ _ _ _ _ _).trans ((z216 _ x0 _).trans h1)⟩
noncomputable abbrev z1cm : Code := Tryz.f84.body.getD .skip
def z11s : Env := tab.env (fun _ => []) (fun _ => []) [] [y15]
theorem z27s (R : Type) (kk : Nat) (s_0 : Zt18) (K : Kf_ R) : evFn z11s (Tb121 R) kk Tryz.f84 z1cm [.dat y15 s_0 []] none K =
  zbx s_0 (fun a0 => K [.dat .bool a0 []] none) := by kernel_rfl
theorem z20s (R : Type) (s_0 : Zt18) (K : Kf_ R) : evFn z11s (Tb121 R) FUEL Tryz.f84 z1cm [.dat y15 s_0 []] none K = (Q141 s_0).bind fun r => K [.dat .bool r []] none := by
  rw [z27s]
  simp only [Q141, z1b8, z8, z6, zd, z7, ze, zc, Sum.elim_inl, Sum.elim_inr]
def z1sf : Pure := fun R l b K => noBox b (args1 y15 l (fun x0 => (Q141 x0).bind fun r => K [.dat .bool r []] none))
theorem z24e : z1sf.Nat := fun R S l b F G K h => zh (zp fun _ => zg fun _ => h _ _)
def Tb122 : Funs := Tb121.add 84 [y15] z1sf
theorem z13b : Tb122.Nat := zl z13t z24e
theorem z1fi : ∀ f, Owes Tryz.prog Tb122 f := zk (E := z11s) (Tab.env_ok zm _ _ _ _) mixed z13t z1h1 (fn := Tryz.f84) (code := z1cm) Tryz.func84 (by kernel_rfl) (by kernel_rfl) fun l b r b' h => by
  obtain ⟨rfl, h⟩ := zf h
  obtain ⟨x0, h1, h2⟩ := own1 (E := z11s) rfl h
  exact ⟨FUEL, (h2 _ _ _ _ _ _).trans ((z20s _ x0 _).trans h1)⟩
noncomputable abbrev z5a : Code := Tryz.f49.body.getD .skip
def z3f : Env := tab.env (fun i => bif Nat.beq i 2 then [1, 2, 5] else []) (fun i => bif Nat.beq i 2 then [4] else []) [] [y15, (.int .i64)]
def zvt (no_1 : Int) (t5 : Int) (bt2 : Zt18) : State := ⟨uS 1 ([.dat (.int .i64) no_1 []]::[.ptr 3 y15 []]::(uS 2 ([.dat (.int .i64) t5 []]::(uS 16 ([]))))), nS 3 ((some ⟨y15, bt2, []⟩)::(nS 19 ([])))⟩
def zph (t4 : Int) : State := ⟨uS 4 ([.dat (.int .i64) t4 []]::(uS 17 ([]))), nS 23 []⟩
def zoc  : State := ⟨uS 22 [], nS 23 []⟩
theorem z23u (R : Type) (kk : Nat) (s_0 : Zt18) (no_1 : Int) (K : Kf_ R) : evFn z3f (Tb122 R) kk Tryz.f49 z5a [.dat y15 s_0 [], .dat (.int .i64) no_1 []] none K =
  z9z s_0 no_1 (fun a0 a1 a2 => loopR (ev z3f (Tb122 R) kk (sub [1, 0, 1, 0, 0] z5a)) [1, 2, 5] [4] kk (zvt a0 a1 a2) (zi 0 (kSeq z3f (Tb122 R) kk (sub [1, 1] z5a) (kFin z3f Tryz.f49.results.toList none K)))) := by kernel_rfl
theorem z1yf (R : Type) (kk k : Nat) (no_1 : Int) (t5 : Int) (bt2 : Zt18) (K : Kx_ R) : loopR (ev z3f (Tb122 R) kk (sub [1, 0, 1, 0, 0] z5a)) [1, 2, 5] [4] (k + 1) (zvt no_1 t5 bt2) K =
  zg7 no_1 t5 bt2 (fun a0 => K .ret (zph a0)) (fun a0 a1 a2 => loopR (ev z3f (Tb122 R) kk (sub [1, 0, 1, 0, 0] z5a)) [1, 2, 5] [4] k (zvt a0 a1 a2) K) (K (.exit 0) (zoc)) := by kernel_rfl
theorem z1nw (R : Type) (kk : Nat) (t4 : Int) (K : Kf_ R) : (zi 0 (kSeq z3f (Tb122 R) kk (sub [1, 1] z5a) (kFin z3f Tryz.f49.results.toList none K))) .ret (zph t4) =
  zhb t4 (fun a0 => K [.dat (.int .i64) a0 []] none) := by kernel_rfl
theorem z1il (R : Type) (kk : Nat)  (K : Kf_ R) : (zi 0 (kSeq z3f (Tb122 R) kk (sub [1, 1] z5a) (kFin z3f Tryz.f49.results.toList none K))) (.exit 0) (zoc) =
  zhl (fun a0 => K [.dat (.int .i64) a0 []] none) := by kernel_rfl
theorem z1tk (R : Type) (k : Nat) (no_1 : Int) (t5 : Int) (bt2 : Zt18) (K : Kx_ R) : loopR (ev z3f (Tb122 R) FUEL (sub [1, 0, 1, 0, 0] z5a)) [1, 2, 5] [4] k (zvt no_1 t5 bt2) K = (zfb k no_1 t5 bt2).bind fun e => (Sum.elim (fun (we : Int) => K .ret (zph we)) (fun (we : Unit) => K (.exit 0) (zoc)) e) := by
  induction k generalizing no_1 t5 bt2 with
  | zero => rfl
  | succ k ih =>
    rw [z1yf]
    simp only [zfb, znh, zpi, zqn, zo7, ih, z8, z6, zd, z7, ze, zc, Sum.elim_inl, Sum.elim_inr]
theorem z20r (R : Type) (s_0 : Zt18) (no_1 : Int) (K : Kf_ R) : evFn z3f (Tb122 R) FUEL Tryz.f49 z5a [.dat y15 s_0 [], .dat (.int .i64) no_1 []] none K = (Q139 s_0 no_1).bind fun r => K [.dat (.int .i64) r []] none := by
  rw [z23u]
  simp only [Q139, znh, zpi, zqn, zo7, z1tk, z1nw, z1il, z8, z6, zd, z7, ze, zc, Sum.elim_inl, Sum.elim_inr]
def z1i3 : Pure := fun R l b K => noBox b (args2 y15 (.int .i64) l (fun x0 x1 => (Q139 x0 x1).bind fun r => K [.dat (.int .i64) r []] none))
theorem z28l : z1i3.Nat := fun R S l b F G K h => zh (zq fun _ _ => zg fun _ => h _ _)
def Tb123 : Funs := Tb122.add 49 [y15, (.int .i64)] z1i3
theorem z13w : Tb123.Nat := zl z13b z28l
theorem z1gq : ∀ f, Owes Tryz.prog Tb123 f := zk (E := z3f) (Tab.env_ok zm _ _ _ _) mixed z13b z1fi (fn := Tryz.f49) (code := z5a) Tryz.func49 (by kernel_rfl) (by kernel_rfl) fun l b r b' h => by
  obtain ⟨rfl, h⟩ := zf h
  obtain ⟨x0, x1, h1, h2⟩ := own2 (E := z3f) rfl h
  exact ⟨FUEL, (h2 _ _ _ _ _ _).trans ((z20r _ x0 x1 _).trans h1)⟩
noncomputable abbrev z5i : Code := Tryz.f85.body.getD .skip
def z2v : Env := tab.env (fun i => bif Nat.beq i 2 then [0, 1, 5] else []) (fun i => bif Nat.beq i 2 then [4] else []) [] [(.sl 3 (.int .i64)), (.int .i64)]
def zv9 (l_0 : (List Int)) (n_1 : Int) (t5 : Int) : State := ⟨[.dat (.sl 3 (.int .i64)) l_0 []]::[.dat (.int .i64) n_1 []]::(uS 3 ([.dat (.int .i64) t5 []]::(uS 12 ([])))), nS 19 []⟩
def znl (t4 : Bool) : State := ⟨uS 4 ([.dat .bool t4 []]::(uS 13 ([]))), nS 19 []⟩
def zru  : State := ⟨uS 18 [], nS 19 []⟩
theorem z288 (R : Type) (kk : Nat) (l_0 : (List Int)) (n_1 : Int) (K : Kf_ R) : evFn z2v (Tb123 R) kk Tryz.f85 z5i [.dat (.sl 3 (.int .i64)) l_0 [], .dat (.int .i64) n_1 []] none K =
  z9m l_0 n_1 (fun a0 a1 a2 => loopR (ev z2v (Tb123 R) kk (sub [1, 0, 1, 0, 0] z5i)) [0, 1, 5] [4] kk (zv9 a0 a1 a2) (zi 0 (kSeq z2v (Tb123 R) kk (sub [1, 1] z5i) (kFin z2v Tryz.f85.results.toList none K)))) := by kernel_rfl
theorem z1xg (R : Type) (kk k : Nat) (l_0 : (List Int)) (n_1 : Int) (t5 : Int) (K : Kx_ R) : loopR (ev z2v (Tb123 R) kk (sub [1, 0, 1, 0, 0] z5i)) [0, 1, 5] [4] (k + 1) (zv9 l_0 n_1 t5) K =
  z8n l_0 n_1 t5 (fun a0 => K .ret (znl a0)) (fun a0 a1 a2 => loopR (ev z2v (Tb123 R) kk (sub [1, 0, 1, 0, 0] z5i)) [0, 1, 5] [4] k (zv9 a0 a1 a2) K) (K (.exit 0) (zru)) := by kernel_rfl
theorem z1kj (R : Type) (kk : Nat) (t4 : Bool) (K : Kf_ R) : (zi 0 (kSeq z2v (Tb123 R) kk (sub [1, 1] z5i) (kFin z2v Tryz.f85.results.toList none K))) .ret (znl t4) =
  zev t4 (fun a0 => K [.dat .bool a0 []] none) := by kernel_rfl
theorem z1rx (R : Type) (kk : Nat)  (K : Kf_ R) : (zi 0 (kSeq z2v (Tb123 R) kk (sub [1, 1] z5i) (kFin z2v Tryz.f85.results.toList none K))) (.exit 0) (zru) =
  zel (fun a0 => K [.dat .bool a0 []] none) := by kernel_rfl
theorem z1wc (R : Type) (k : Nat) (l_0 : (List Int)) (n_1 : Int) (t5 : Int) (K : Kx_ R) : loopR (ev z2v (Tb123 R) FUEL (sub [1, 0, 1, 0, 0] z5i)) [0, 1, 5] [4] k (zv9 l_0 n_1 t5) K = (z7u k l_0 n_1 t5).bind fun e => (Sum.elim (fun (we : Bool) => K .ret (znl we)) (fun (we : Unit) => K (.exit 0) (zru)) e) := by
  induction k generalizing l_0 n_1 t5 with
  | zero => rfl
  | succ k ih =>
    rw [z1xg]
    simp only [z7u, zr5, zkw, zq4, znu, ih, z8, z6, zd, z7, ze, zc, Sum.elim_inl, Sum.elim_inr]
theorem z220 (R : Type) (l_0 : (List Int)) (n_1 : Int) (K : Kf_ R) : evFn z2v (Tb123 R) FUEL Tryz.f85 z5i [.dat (.sl 3 (.int .i64)) l_0 [], .dat (.int .i64) n_1 []] none K = (Q118 l_0 n_1).bind fun r => K [.dat .bool r []] none := by
  rw [z288]
  simp only [Q118, zr5, zkw, zq4, znu, z1wc, z1kj, z1rx, z8, z6, zd, z7, ze, zc, Sum.elim_inl, Sum.elim_inr]
def z1o5 : Pure := fun R l b K => noBox b (args2 (.sl 3 (.int .i64)) (.int .i64) l (fun x0 x1 => (Q118 x0 x1).bind fun r => K [.dat .bool r []] none))
theorem z27t : z1o5.Nat := fun R S l b F G K h => zh (zq fun _ _ => zg fun _ => h _ _)
def Tb124 : Funs := Tb123.add 85 [(.sl 3 (.int .i64)), (.int .i64)] z1o5
theorem z13h : Tb124.Nat := zl z13w z27t
theorem z1gj : ∀ f, Owes Tryz.prog Tb124 f := zk (E := z2v) (Tab.env_ok zm _ _ _ _) mixed z13w z1gq (fn := Tryz.f85) (code := z5i) Tryz.func85 (by kernel_rfl) (by kernel_rfl) fun l b r b' h => by
  obtain ⟨rfl, h⟩ := zf h
  obtain ⟨x0, x1, h1, h2⟩ := own2 (E := z2v) rfl h
  exact ⟨FUEL, (h2 _ _ _ _ _ _).trans ((z220 _ x0 x1 _).trans h1)⟩
noncomputable abbrev z5b : Code := Tryz.f86.body.getD .skip
def z32 : Env := tab.env (fun i => bif Nat.beq i 2 then [0, 1, 2, 7] else []) (fun i => bif Nat.beq i 2 then [6] else []) [] [(.sl 96 (.pair (.int .i64) (.pair .str .unit))), (.int .i64), (.int .i64)]
def zvu (l_0 : Zt11) (n_1 : Int) (e_2 : Int) (t7 : Int) : State := ⟨[.dat (.sl 96 (.pair (.int .i64) (.pair .str .unit))) l_0 []]::[.dat (.int .i64) n_1 []]::[.dat (.int .i64) e_2 []]::(uS 4 ([.dat (.int .i64) t7 []]::(uS 13 ([])))), nS 22 []⟩
def ztk (t6 : Int) : State := ⟨uS 6 ([.dat (.int .i64) t6 []]::(uS 14 ([]))), nS 22 []⟩
def zq0  : State := ⟨uS 21 [], nS 22 []⟩
theorem z29b (R : Type) (kk : Nat) (l_0 : Zt11) (n_1 : Int) (e_2 : Int) (K : Kf_ R) : evFn z32 (Tb124 R) kk Tryz.f86 z5b [.dat (.sl 96 (.pair (.int .i64) (.pair .str .unit))) l_0 [], .dat (.int .i64) n_1 [], .dat (.int .i64) e_2 []] none K =
  zbv l_0 n_1 e_2 (fun a0 a1 a2 a3 => loopR (ev z32 (Tb124 R) kk (sub [1, 0, 1, 0, 0] z5b)) [0, 1, 2, 7] [6] kk (zvu a0 a1 a2 a3) (zi 0 (kSeq z32 (Tb124 R) kk (sub [1, 1] z5b) (kFin z32 Tryz.f86.results.toList none K)))) := by kernel_rfl
theorem z22p (R : Type) (kk k : Nat) (l_0 : Zt11) (n_1 : Int) (e_2 : Int) (t7 : Int) (K : Kx_ R) : loopR (ev z32 (Tb124 R) kk (sub [1, 0, 1, 0, 0] z5b)) [0, 1, 2, 7] [6] (k + 1) (zvu l_0 n_1 e_2 t7) K =
  z8p l_0 n_1 e_2 t7 (fun a0 => K .ret (ztk a0)) (fun a0 a1 a2 a3 => loopR (ev z32 (Tb124 R) kk (sub [1, 0, 1, 0, 0] z5b)) [0, 1, 2, 7] [6] k (zvu a0 a1 a2 a3) K) (K (.exit 0) (zq0)) := by kernel_rfl
theorem z1nx (R : Type) (kk : Nat) (t6 : Int) (K : Kf_ R) : (zi 0 (kSeq z32 (Tb124 R) kk (sub [1, 1] z5b) (kFin z32 Tryz.f86.results.toList none K))) .ret (ztk t6) =
  zhi t6 (fun a0 => K [.dat (.int .i64) a0 []] none) := by kernel_rfl
theorem z1mz (R : Type) (kk : Nat)  (K : Kf_ R) : (zi 0 (kSeq z32 (Tb124 R) kk (sub [1, 1] z5b) (kFin z32 Tryz.f86.results.toList none K))) (.exit 0) (zq0) =
  zgf (fun a0 => K [.dat (.int .i64) a0 []] none) := by kernel_rfl
theorem z1wl (R : Type) (k : Nat) (l_0 : Zt11) (n_1 : Int) (e_2 : Int) (t7 : Int) (K : Kx_ R) : loopR (ev z32 (Tb124 R) FUEL (sub [1, 0, 1, 0, 0] z5b)) [0, 1, 2, 7] [6] k (zvu l_0 n_1 e_2 t7) K = (z8u k l_0 n_1 e_2 t7).bind fun e => (Sum.elim (fun (we : Int) => K .ret (ztk we)) (fun (we : Unit) => K (.exit 0) (zq0)) e) := by
  induction k generalizing l_0 n_1 e_2 t7 with
  | zero => rfl
  | succ k ih =>
    rw [z22p]
    simp only [z8u, zmz, znp, zl1, zrk, ih, z8, z6, zd, z7, ze, zc, Sum.elim_inl, Sum.elim_inr]
theorem z20e (R : Type) (l_0 : Zt11) (n_1 : Int) (e_2 : Int) (K : Kf_ R) : evFn z32 (Tb124 R) FUEL Tryz.f86 z5b [.dat (.sl 96 (.pair (.int .i64) (.pair .str .unit))) l_0 [], .dat (.int .i64) n_1 [], .dat (.int .i64) e_2 []] none K = (Q185 l_0 n_1 e_2).bind fun r => K [.dat (.int .i64) r []] none := by
  rw [z29b]
  simp only [Q185, zmz, znp, zl1, zrk, z1wl, z1nx, z1mz, z8, z6, zd, z7, ze, zc, Sum.elim_inl, Sum.elim_inr]
def z1qx : Pure := fun R l b K => noBox b (args3 (.sl 96 (.pair (.int .i64) (.pair .str .unit))) (.int .i64) (.int .i64) l (fun x0 x1 x2 => (Q185 x0 x1 x2).bind fun r => K [.dat (.int .i64) r []] none))
theorem z29i : z1qx.Nat := fun R S l b F G K h => zh (z17 fun _ _ _ => zg fun _ => h _ _)
def Tb125 : Funs := Tb124.add 86 [(.sl 96 (.pair (.int .i64) (.pair .str .unit))), (.int .i64), (.int .i64)] z1qx
theorem z12u : Tb125.Nat := zl z13h z29i
theorem z1fl : ∀ f, Owes Tryz.prog Tb125 f := zk (E := z32) (Tab.env_ok zm _ _ _ _) mixed z13h z1gj (fn := Tryz.f86) (code := z5b) Tryz.func86 (by kernel_rfl) (by kernel_rfl) fun l b r b' h => by
  obtain ⟨rfl, h⟩ := zf h
  obtain ⟨x0, x1, x2, h1, h2⟩ := own3 (E := z32) rfl h
  exact ⟨FUEL, (h2 _ _ _ _ _ _).trans ((z20e _ x0 x1 x2 _).trans h1)⟩
noncomputable abbrev z1dg : Code := Tryz.f193.body.getD .skip
def z10x : Env := tab.env (fun _ => []) (fun _ => []) [] [(.int .i64), (.int .u8)]
theorem z26m (R : Type) (kk : Nat) (class_0 : Int) (b_1 : Int) (K : Kf_ R) : evFn z10x (Tb125 R) kk Tryz.f193 z1dg [.dat (.int .i64) class_0 [], .dat (.int .u8) b_1 []] none K =
  z9w class_0 b_1 (fun a0 => K [.dat .bool a0 []] none) := by kernel_rfl
theorem z1zw (R : Type) (class_0 : Int) (b_1 : Int) (K : Kf_ R) : evFn z10x (Tb125 R) FUEL Tryz.f193 z1dg [.dat (.int .i64) class_0 [], .dat (.int .u8) b_1 []] none K = (Q114 class_0 b_1).bind fun r => K [.dat .bool r []] none := by
  rw [z26m]
  simp only [Q114, z195, z8, z6, zd, z7, ze, zc, Sum.elim_inl, Sum.elim_inr]
def z1lo : Pure := fun R l b K => noBox b (args2 (.int .i64) (.int .u8) l (fun x0 x1 => (Q114 x0 x1).bind fun r => K [.dat .bool r []] none))
theorem z299 : z1lo.Nat := fun R S l b F G K h => zh (zq fun _ _ => zg fun _ => h _ _)
def Tb126 : Funs := Tb125.add 193 [(.int .i64), (.int .u8)] z1lo
theorem z14c : Tb126.Nat := zl z12u z299
theorem z1fn : ∀ f, Owes Tryz.prog Tb126 f := zk (E := z10x) (Tab.env_ok zm _ _ _ _) mixed z12u z1fl (fn := Tryz.f193) (code := z1dg) Tryz.func193 (by kernel_rfl) (by kernel_rfl) fun l b r b' h => by
  obtain ⟨rfl, h⟩ := zf h
  obtain ⟨x0, x1, h1, h2⟩ := own2 (E := z10x) rfl h
  exact ⟨FUEL, (h2 _ _ _ _ _ _).trans ((z1zw _ x0 x1 _).trans h1)⟩
noncomputable abbrev z5c : Code := Tryz.f144.body.getD .skip
def z2q : Env := tab.env (fun i => bif Nat.beq i 2 then [0, 1, 5] else []) (fun i => bif Nat.beq i 2 then [4] else []) [] [(.int .i64), .str]
def zuw (class_0 : Int) (s_1 : ByteArray) (t5 : Int) : State := ⟨[.dat (.int .i64) class_0 []]::[.dat .str s_1 []]::(uS 3 ([.dat (.int .i64) t5 []]::(uS 13 ([])))), nS 20 []⟩
def zmn (t4 : Int) : State := ⟨uS 4 ([.dat (.int .i64) t4 []]::(uS 14 ([]))), nS 20 []⟩
def zot  : State := ⟨uS 19 [], nS 20 []⟩
theorem z25i (R : Type) (kk : Nat) (class_0 : Int) (s_1 : ByteArray) (K : Kf_ R) : evFn z2q (Tb126 R) kk Tryz.f144 z5c [.dat (.int .i64) class_0 [], .dat .str s_1 []] none K =
  zak class_0 s_1 (fun a0 a1 a2 => loopR (ev z2q (Tb126 R) kk (sub [1, 0, 1, 0, 0] z5c)) [0, 1, 5] [4] kk (zuw a0 a1 a2) (zi 0 (kSeq z2q (Tb126 R) kk (sub [1, 1] z5c) (kFin z2q Tryz.f144.results.toList none K)))) := by kernel_rfl
theorem z228 (R : Type) (kk k : Nat) (class_0 : Int) (s_1 : ByteArray) (t5 : Int) (K : Kx_ R) : loopR (ev z2q (Tb126 R) kk (sub [1, 0, 1, 0, 0] z5c)) [0, 1, 5] [4] (k + 1) (zuw class_0 s_1 t5) K =
  z8m class_0 s_1 t5 (fun a0 => K .ret (zmn a0)) (fun a0 a1 a2 => loopR (ev z2q (Tb126 R) kk (sub [1, 0, 1, 0, 0] z5c)) [0, 1, 5] [4] k (zuw a0 a1 a2) K) (K (.exit 0) (zot)) := by kernel_rfl
theorem z1pg (R : Type) (kk : Nat) (t4 : Int) (K : Kf_ R) : (zi 0 (kSeq z2q (Tb126 R) kk (sub [1, 1] z5c) (kFin z2q Tryz.f144.results.toList none K))) .ret (zmn t4) =
  zdw t4 (fun a0 => K [.dat (.int .i64) a0 []] none) := by kernel_rfl
theorem z1np (R : Type) (kk : Nat)  (K : Kf_ R) : (zi 0 (kSeq z2q (Tb126 R) kk (sub [1, 1] z5c) (kFin z2q Tryz.f144.results.toList none K))) (.exit 0) (zot) =
  zic (fun a0 => K [.dat (.int .i64) a0 []] none) := by kernel_rfl
theorem z1vc (R : Type) (k : Nat) (class_0 : Int) (s_1 : ByteArray) (t5 : Int) (K : Kx_ R) : loopR (ev z2q (Tb126 R) FUEL (sub [1, 0, 1, 0, 0] z5c)) [0, 1, 5] [4] k (zuw class_0 s_1 t5) K = (z8f k class_0 s_1 t5).bind fun e => (Sum.elim (fun (we : Int) => K .ret (zmn we)) (fun (we : Unit) => K (.exit 0) (zot)) e) := by
  induction k generalizing class_0 s_1 t5 with
  | zero => rfl
  | succ k ih =>
    rw [z228]
    simp only [z8f, zrq, zox, zos, zt5, ih, z8, z6, zd, z7, ze, zc, Sum.elim_inl, Sum.elim_inr]
theorem z1zv (R : Type) (class_0 : Int) (s_1 : ByteArray) (K : Kf_ R) : evFn z2q (Tb126 R) FUEL Tryz.f144 z5c [.dat (.int .i64) class_0 [], .dat .str s_1 []] none K = (Q113 class_0 s_1).bind fun r => K [.dat (.int .i64) r []] none := by
  rw [z25i]
  simp only [Q113, zrq, zox, zos, zt5, z1vc, z1pg, z1np, z8, z6, zd, z7, ze, zc, Sum.elim_inl, Sum.elim_inr]
def z1pz : Pure := fun R l b K => noBox b (args2 (.int .i64) .str l (fun x0 x1 => (Q113 x0 x1).bind fun r => K [.dat (.int .i64) r []] none))
theorem z232 : z1pz.Nat := fun R S l b F G K h => zh (zq fun _ _ => zg fun _ => h _ _)
def Tb127 : Funs := Tb126.add 144 [(.int .i64), .str] z1pz
theorem z12t : Tb127.Nat := zl z14c z232
theorem z1fv : ∀ f, Owes Tryz.prog Tb127 f := zk (E := z2q) (Tab.env_ok zm _ _ _ _) mixed z14c z1fn (fn := Tryz.f144) (code := z5c) Tryz.func144 (by kernel_rfl) (by kernel_rfl) fun l b r b' h => by
  obtain ⟨rfl, h⟩ := zf h
  obtain ⟨x0, x1, h1, h2⟩ := own2 (E := z2q) rfl h
  exact ⟨FUEL, (h2 _ _ _ _ _ _).trans ((z1zv _ x0 x1 _).trans h1)⟩
noncomputable abbrev z1ci : Code := Tryz.f215.body.getD .skip
def z117 : Env := tab.env (fun _ => []) (fun _ => []) [] [(.int .u8)]
theorem z27b (R : Type) (kk : Nat) (b_0 : Int) (K : Kf_ R) : evFn z117 (Tb127 R) kk Tryz.f215 z1ci [.dat (.int .u8) b_0 []] none K =
  zg1 b_0 (fun a0 => K [.dat (.int .i64) a0 []] none) := by kernel_rfl
theorem z1xk (R : Type) (b_0 : Int) (K : Kf_ R) : evFn z117 (Tb127 R) FUEL Tryz.f215 z1ci [.dat (.int .u8) b_0 []] none K = (Q128 b_0).bind fun r => K [.dat (.int .i64) r []] none := by
  rw [z27b]
  simp only [Q128, z1d1, z8, z6, zd, z7, ze, zc, Sum.elim_inl, Sum.elim_inr]
def z1p0 : Pure := fun R l b K => noBox b (args1 (.int .u8) l (fun x0 => (Q128 x0).bind fun r => K [.dat (.int .i64) r []] none))
theorem z255 : z1p0.Nat := fun R S l b F G K h => zh (zp fun _ => zg fun _ => h _ _)
def Tb128 : Funs := Tb127.add 215 [(.int .u8)] z1p0
theorem z13m : Tb128.Nat := zl z12t z255
theorem z1fj : ∀ f, Owes Tryz.prog Tb128 f := zk (E := z117) (Tab.env_ok zm _ _ _ _) mixed z12t z1fv (fn := Tryz.f215) (code := z1ci) Tryz.func215 (by kernel_rfl) (by kernel_rfl) fun l b r b' h => by
  obtain ⟨rfl, h⟩ := zf h
  obtain ⟨x0, h1, h2⟩ := own1 (E := z117) rfl h
  exact ⟨FUEL, (h2 _ _ _ _ _ _).trans ((z1xk _ x0 _).trans h1)⟩
noncomputable abbrev z189 : Code := Tryz.f194.body.getD .skip
def zzy : Env := tab.env (fun _ => []) (fun _ => []) [] [.str, (.int .i64)]
theorem z26r (R : Type) (kk : Nat) (b_0 : ByteArray) (at_1 : Int) (K : Kf_ R) : evFn zzy (Tb128 R) kk Tryz.f194 z189 [.dat .str b_0 [], .dat (.int .i64) at_1 []] none K =
  z7w b_0 at_1 (fun a0 a1 a2 => K [.dat (.int .i64) a0 [], .dat (.int .i64) a1 [], .dat (.int .i64) a2 []] none) := by kernel_rfl
theorem z1z2 (R : Type) (b_0 : ByteArray) (at_1 : Int) (K : Kf_ R) : evFn zzy (Tb128 R) FUEL Tryz.f194 z189 [.dat .str b_0 [], .dat (.int .i64) at_1 []] none K = (Q129 b_0 at_1).bind fun r => K [.dat (.int .i64) r.1 [], .dat (.int .i64) r.2.1 [], .dat (.int .i64) r.2.2 []] none := by
  rw [z26r]
  simp only [Q129, z1dd, z8, z6, zd, z7, ze, zc, Sum.elim_inl, Sum.elim_inr]
def z1no : Pure := fun R l b K => noBox b (args2 .str (.int .i64) l (fun x0 x1 => (Q129 x0 x1).bind fun r => K [.dat (.int .i64) r.1 [], .dat (.int .i64) r.2.1 [], .dat (.int .i64) r.2.2 []] none))
theorem z28a : z1no.Nat := fun R S l b F G K h => zh (zq fun _ _ => zg fun _ => h _ _)
def Tb129 : Funs := Tb128.add 194 [.str, (.int .i64)] z1no
theorem z153 : Tb129.Nat := zl z13m z28a
theorem z1gh : ∀ f, Owes Tryz.prog Tb129 f := zk (E := zzy) (Tab.env_ok zm _ _ _ _) mixed z13m z1fj (fn := Tryz.f194) (code := z189) Tryz.func194 (by kernel_rfl) (by kernel_rfl) fun l b r b' h => by
  obtain ⟨rfl, h⟩ := zf h
  obtain ⟨x0, x1, h1, h2⟩ := own2 (E := zzy) rfl h
  exact ⟨FUEL, (h2 _ _ _ _ _ _).trans ((z1z2 _ x0 x1 _).trans h1)⟩
noncomputable abbrev z19y : Code := Tryz.f195.body.getD .skip
def z10t : Env := tab.env (fun _ => []) (fun _ => []) [] [.str, (.int .i64)]
theorem z2a2 (R : Type) (kk : Nat) (b_0 : ByteArray) (at_1 : Int) (K : Kf_ R) : evFn z10t (Tb129 R) kk Tryz.f195 z19y [.dat .str b_0 [], .dat (.int .i64) at_1 []] none K =
  z8z b_0 at_1 (fun a0 a1 a2 => K [.dat (.int .i64) a0 [], .dat (.int .i64) a1 [], .dat (.int .i64) a2 []] none) := by kernel_rfl
theorem z1xr (R : Type) (b_0 : ByteArray) (at_1 : Int) (K : Kf_ R) : evFn z10t (Tb129 R) FUEL Tryz.f195 z19y [.dat .str b_0 [], .dat (.int .i64) at_1 []] none K = (Q130 b_0 at_1).bind fun r => K [.dat (.int .i64) r.1 [], .dat (.int .i64) r.2.1 [], .dat (.int .i64) r.2.2 []] none := by
  rw [z2a2]
  simp only [Q130, z17a, z8, z6, zd, z7, ze, zc, Sum.elim_inl, Sum.elim_inr]
def z1ow : Pure := fun R l b K => noBox b (args2 .str (.int .i64) l (fun x0 x1 => (Q130 x0 x1).bind fun r => K [.dat (.int .i64) r.1 [], .dat (.int .i64) r.2.1 [], .dat (.int .i64) r.2.2 []] none))
theorem z25u : z1ow.Nat := fun R S l b F G K h => zh (zq fun _ _ => zg fun _ => h _ _)
def Tb130 : Funs := Tb129.add 195 [.str, (.int .i64)] z1ow
theorem z14s : Tb130.Nat := zl z153 z25u
theorem z1hd : ∀ f, Owes Tryz.prog Tb130 f := zk (E := z10t) (Tab.env_ok zm _ _ _ _) mixed z153 z1gh (fn := Tryz.f195) (code := z19y) Tryz.func195 (by kernel_rfl) (by kernel_rfl) fun l b r b' h => by
  obtain ⟨rfl, h⟩ := zf h
  obtain ⟨x0, x1, h1, h2⟩ := own2 (E := z10t) rfl h
  exact ⟨FUEL, (h2 _ _ _ _ _ _).trans ((z1xr _ x0 x1 _).trans h1)⟩
noncomputable abbrev z5e : Code := Tryz.f196.body.getD .skip
def z2z : Env := tab.env (fun i => bif Nat.beq i 2 then [0, 1, 2, 7] else []) (fun i => bif Nat.beq i 2 then [6] else []) [] [(.sl 245 (.pair (.int .i64) (.pair .str .unit))), (.int .i64), (.int .i64)]
def zw1 (l_0 : Zt11) (n_1 : Int) (tag_2 : Int) (t7 : Int) : State := ⟨[.dat (.sl 245 (.pair (.int .i64) (.pair .str .unit))) l_0 []]::[.dat (.int .i64) n_1 []]::[.dat (.int .i64) tag_2 []]::(uS 4 ([.dat (.int .i64) t7 []]::(uS 12 ([])))), nS 21 []⟩
def zqb (t6 : Bool) : State := ⟨uS 6 ([.dat .bool t6 []]::(uS 13 ([]))), nS 21 []⟩
def zo3  : State := ⟨uS 20 [], nS 21 []⟩
theorem z25b (R : Type) (kk : Nat) (l_0 : Zt11) (n_1 : Int) (tag_2 : Int) (K : Kf_ R) : evFn z2z (Tb130 R) kk Tryz.f196 z5e [.dat (.sl 245 (.pair (.int .i64) (.pair .str .unit))) l_0 [], .dat (.int .i64) n_1 [], .dat (.int .i64) tag_2 []] none K =
  zbs l_0 n_1 tag_2 (fun a0 a1 a2 a3 => loopR (ev z2z (Tb130 R) kk (sub [1, 0, 1, 0, 0] z5e)) [0, 1, 2, 7] [6] kk (zw1 a0 a1 a2 a3) (zi 0 (kSeq z2z (Tb130 R) kk (sub [1, 1] z5e) (kFin z2z Tryz.f196.results.toList none K)))) := by kernel_rfl
theorem z21o (R : Type) (kk k : Nat) (l_0 : Zt11) (n_1 : Int) (tag_2 : Int) (t7 : Int) (K : Kx_ R) : loopR (ev z2z (Tb130 R) kk (sub [1, 0, 1, 0, 0] z5e)) [0, 1, 2, 7] [6] (k + 1) (zw1 l_0 n_1 tag_2 t7) K =
  z8y l_0 n_1 tag_2 t7 (fun a0 => K .ret (zqb a0)) (fun a0 a1 a2 a3 => loopR (ev z2z (Tb130 R) kk (sub [1, 0, 1, 0, 0] z5e)) [0, 1, 2, 7] [6] k (zw1 a0 a1 a2 a3) K) (K (.exit 0) (zo3)) := by kernel_rfl
theorem z1rd (R : Type) (kk : Nat) (t6 : Bool) (K : Kf_ R) : (zi 0 (kSeq z2z (Tb130 R) kk (sub [1, 1] z5e) (kFin z2z Tryz.f196.results.toList none K))) .ret (zqb t6) =
  zhq t6 (fun a0 => K [.dat .bool a0 []] none) := by kernel_rfl
theorem z1pb (R : Type) (kk : Nat)  (K : Kf_ R) : (zi 0 (kSeq z2z (Tb130 R) kk (sub [1, 1] z5e) (kFin z2z Tryz.f196.results.toList none K))) (.exit 0) (zo3) =
  zgx (fun a0 => K [.dat .bool a0 []] none) := by kernel_rfl
theorem z1uh (R : Type) (k : Nat) (l_0 : Zt11) (n_1 : Int) (tag_2 : Int) (t7 : Int) (K : Kx_ R) : loopR (ev z2z (Tb130 R) FUEL (sub [1, 0, 1, 0, 0] z5e)) [0, 1, 2, 7] [6] k (zw1 l_0 n_1 tag_2 t7) K = (z8l k l_0 n_1 tag_2 t7).bind fun e => (Sum.elim (fun (we : Bool) => K .ret (zqb we)) (fun (we : Unit) => K (.exit 0) (zo3)) e) := by
  induction k generalizing l_0 n_1 tag_2 t7 with
  | zero => rfl
  | succ k ih =>
    rw [z21o]
    simp only [z8l, zo6, zt9, zob, zsk, ih, z8, z6, zd, z7, ze, zc, Sum.elim_inl, Sum.elim_inr]
theorem z1x2 (R : Type) (l_0 : Zt11) (n_1 : Int) (tag_2 : Int) (K : Kf_ R) : evFn z2z (Tb130 R) FUEL Tryz.f196 z5e [.dat (.sl 245 (.pair (.int .i64) (.pair .str .unit))) l_0 [], .dat (.int .i64) n_1 [], .dat (.int .i64) tag_2 []] none K = (Q132 l_0 n_1 tag_2).bind fun r => K [.dat .bool r []] none := by
  rw [z25b]
  simp only [Q132, zo6, zt9, zob, zsk, z1uh, z1rd, z1pb, z8, z6, zd, z7, ze, zc, Sum.elim_inl, Sum.elim_inr]
def z1li : Pure := fun R l b K => noBox b (args3 (.sl 245 (.pair (.int .i64) (.pair .str .unit))) (.int .i64) (.int .i64) l (fun x0 x1 x2 => (Q132 x0 x1 x2).bind fun r => K [.dat .bool r []] none))
theorem z24x : z1li.Nat := fun R S l b F G K h => zh (z17 fun _ _ _ => zg fun _ => h _ _)
def Tb131 : Funs := Tb130.add 196 [(.sl 245 (.pair (.int .i64) (.pair .str .unit))), (.int .i64), (.int .i64)] z1li
theorem z14v : Tb131.Nat := zl z14s z24x
theorem z1h3 : ∀ f, Owes Tryz.prog Tb131 f := zk (E := z2z) (Tab.env_ok zm _ _ _ _) mixed z14s z1hd (fn := Tryz.f196) (code := z5e) Tryz.func196 (by kernel_rfl) (by kernel_rfl) fun l b r b' h => by
  obtain ⟨rfl, h⟩ := zf h
  obtain ⟨x0, x1, x2, h1, h2⟩ := own3 (E := z2z) rfl h
  exact ⟨FUEL, (h2 _ _ _ _ _ _).trans ((z1x2 _ x0 x1 x2 _).trans h1)⟩
noncomputable abbrev z52 : Code := Tryz.f145.body.getD .skip
def z34 : Env := tab.env (fun i => bif Nat.beq i 3 then [0, 5, 6] else []) (fun i => bif Nat.beq i 3 then [2, 3, 4, 5] else []) [] [.str]
def zu3 (b_0 : ByteArray) (t5 : Zt11) (t6 : Int) : State := ⟨[.dat .str b_0 []]::(uS 4 ([.dat (.sl 245 (.pair (.int .i64) (.pair .str .unit))) t5 [[]]]::[.dat (.int .i64) t6 []]::(uS 61 ([])))), nS 69 []⟩
def zol (t2 : Zt11) (t3 : Int) (t4 : Int) (t5 : Zt11) : State := ⟨uS 2 ([.dat (.sl 245 (.pair (.int .i64) (.pair .str .unit))) t2 [[]]]::[.dat (.int .i64) t3 []]::[.dat (.int .i64) t4 []]::[.dat (.sl 245 (.pair (.int .i64) (.pair .str .unit))) t5 [[]]]::(uS 62 ([]))), nS 69 []⟩
def zoq (t5 : Zt11) : State := ⟨uS 5 ([.dat (.sl 245 (.pair (.int .i64) (.pair .str .unit))) t5 [[]]]::(uS 62 ([]))), nS 69 []⟩
theorem z29j (R : Type) (kk : Nat) (b_0 : ByteArray) (K : Kf_ R) : evFn z34 (Tb131 R) kk Tryz.f145 z52 [.dat .str b_0 []] none K =
  z8i b_0 (fun a0 a1 a2 => loopR (ev z34 (Tb131 R) kk (sub [1, 1, 1, 0, 0, 0] z52)) [0, 5, 6] [2, 3, 4, 5] kk (zu3 a0 a1 a2) (zi 0 (kSeq z34 (Tb131 R) kk (sub [1, 1, 1, 1] z52) (kFin z34 Tryz.f145.results.toList none K)))) := by kernel_rfl
theorem z20x (R : Type) (kk k : Nat) (b_0 : ByteArray) (t5 : Zt11) (t6 : Int) (K : Kx_ R) : loopR (ev z34 (Tb131 R) kk (sub [1, 1, 1, 0, 0, 0] z52)) [0, 5, 6] [2, 3, 4, 5] (k + 1) (zu3 b_0 t5 t6) K =
  z86 b_0 t5 t6 (fun a0 a1 a2 a3 => K .ret (zol a0 a1 a2 a3)) (fun a0 a1 a2 => loopR (ev z34 (Tb131 R) kk (sub [1, 1, 1, 0, 0, 0] z52)) [0, 5, 6] [2, 3, 4, 5] k (zu3 a0 a1 a2) K) (fun a0 => K (.exit 0) (zoq a0)) := by kernel_rfl
theorem z1o9 (R : Type) (kk : Nat) (t2 : Zt11) (t3 : Int) (t4 : Int) (t5 : Zt11) (K : Kf_ R) : (zi 0 (kSeq z34 (Tb131 R) kk (sub [1, 1, 1, 1] z52) (kFin z34 Tryz.f145.results.toList none K))) .ret (zol t2 t3 t4 t5) =
  zhj t2 t3 t4 t5 (fun a0 a1 a2 => K [.dat (.sl 245 (.pair (.int .i64) (.pair .str .unit))) a0 [[]], .dat (.int .i64) a1 [], .dat (.int .i64) a2 []] none) := by kernel_rfl
theorem z1my (R : Type) (kk : Nat) (t5 : Zt11) (K : Kf_ R) : (zi 0 (kSeq z34 (Tb131 R) kk (sub [1, 1, 1, 1] z52) (kFin z34 Tryz.f145.results.toList none K))) (.exit 0) (zoq t5) =
  zgg t5 (fun a0 a1 a2 => K [.dat (.sl 245 (.pair (.int .i64) (.pair .str .unit))) a0 [], .dat (.int .i64) a1 [], .dat (.int .i64) a2 []] none) := by kernel_rfl
theorem z1uv (R : Type) (k : Nat) (b_0 : ByteArray) (t5 : Zt11) (t6 : Int) (K : Kx_ R) : loopR (ev z34 (Tb131 R) FUEL (sub [1, 1, 1, 0, 0, 0] z52)) [0, 5, 6] [2, 3, 4, 5] k (zu3 b_0 t5 t6) K = (z63 k b_0 t5 t6).bind fun e => (Sum.elim (fun (we : Zt21) => K .ret (zol we.1 we.2.1 we.2.2.1 we.2.2.2)) (fun (we : Zt11) => K (.exit 0) (zoq we)) e) := by
  induction k generalizing b_0 t5 t6 with
  | zero => rfl
  | succ k ih =>
    rw [z20x]
    simp only [z63, zt4, zpv, zs6, zo5, ih, z8, z6, zd, z7, ze, zc, Sum.elim_inl, Sum.elim_inr]
theorem z1yz (R : Type) (b_0 : ByteArray) (K : Kf_ R) : evFn z34 (Tb131 R) FUEL Tryz.f145 z52 [.dat .str b_0 []] none K = (Q131 b_0).bind fun r => (Sum.elim (fun (wr : Zt16) => K [.dat (.sl 245 (.pair (.int .i64) (.pair .str .unit))) wr.1 [[]], .dat (.int .i64) wr.2.1 [], .dat (.int .i64) wr.2.2 []] none) (fun (wr : Zt16) => K [.dat (.sl 245 (.pair (.int .i64) (.pair .str .unit))) wr.1 [], .dat (.int .i64) wr.2.1 [], .dat (.int .i64) wr.2.2 []] none) r) := by
  rw [z29j]
  simp only [Q131, zt4, zpv, zs6, zo5, z1uv, z1o9, z1my, z8, z6, zd, z7, ze, zc, Sum.elim_inl, Sum.elim_inr]
def z1ng : Pure := fun R l b K => noBox b (args1 .str l (fun x0 => (Q131 x0).bind fun r => (Sum.elim (fun (wr : Zt16) => K [.dat (.sl 245 (.pair (.int .i64) (.pair .str .unit))) wr.1 [[]], .dat (.int .i64) wr.2.1 [], .dat (.int .i64) wr.2.2 []] none) (fun (wr : Zt16) => K [.dat (.sl 245 (.pair (.int .i64) (.pair .str .unit))) wr.1 [], .dat (.int .i64) wr.2.1 [], .dat (.int .i64) wr.2.2 []] none) r)))
theorem z24g : z1ng.Nat := fun R S l b F G K h => zh (zp fun _ => zg fun _ => z1f0 (fun _ => h _ _) (fun _ => h _ _))
def Tb132 : Funs := Tb131.add 145 [.str] z1ng
theorem z14p : Tb132.Nat := zl z14v z24g
theorem z1gy : ∀ f, Owes Tryz.prog Tb132 f := zk (E := z34) (Tab.env_ok zm _ _ _ _) mixed z14v z1h3 (fn := Tryz.f145) (code := z52) Tryz.func145 (by kernel_rfl) (by kernel_rfl) fun l b r b' h => by
  obtain ⟨rfl, h⟩ := zf h
  obtain ⟨x0, h1, h2⟩ := own1 (E := z34) rfl h
  exact ⟨FUEL, (h2 _ _ _ _ _ _).trans ((z1yz _ x0 _).trans h1)⟩
noncomputable abbrev z1bd : Code := Tryz.f87.body.getD .skip
def zyn : Env := tab.env (fun _ => []) (fun _ => []) [] [y9, .str]
theorem z230 (R : Type) (kk : Nat) (s_0 : Zt13) (text_1 : ByteArray) (K : Kf_ R) : evFn zyn (Tb132 R) kk Tryz.f87 z1bd [.dat y9 s_0 [], .dat .str text_1 []] none K =
  z81 s_0 text_1 (fun a0 => K [.dat (.int .i64) a0 []] none) := by kernel_rfl
theorem z1zy (R : Type) (s_0 : Zt13) (text_1 : ByteArray) (K : Kf_ R) : evFn zyn (Tb132 R) FUEL Tryz.f87 z1bd [.dat y9 s_0 [], .dat .str text_1 []] none K = (Q134 s_0 text_1).bind fun r => K [.dat (.int .i64) r []] none := by
  rw [z230]
  simp only [Q134, z17j, z8, z6, zd, z7, ze, zc, Sum.elim_inl, Sum.elim_inr]
def z1mm : Pure := fun R l b K => noBox b (args2 y9 .str l (fun x0 x1 => (Q134 x0 x1).bind fun r => K [.dat (.int .i64) r []] none))
theorem z26t : z1mm.Nat := fun R S l b F G K h => zh (zq fun _ _ => zg fun _ => h _ _)
def Tb133 : Funs := Tb132.add 87 [y9, .str] z1mm
theorem z15j : Tb133.Nat := zl z14p z26t
theorem z1fu : ∀ f, Owes Tryz.prog Tb133 f := zk (E := zyn) (Tab.env_ok zm _ _ _ _) mixed z14p z1gy (fn := Tryz.f87) (code := z1bd) Tryz.func87 (by kernel_rfl) (by kernel_rfl) fun l b r b' h => by
  obtain ⟨rfl, h⟩ := zf h
  obtain ⟨x0, x1, h1, h2⟩ := own2 (E := zyn) rfl h
  exact ⟨FUEL, (h2 _ _ _ _ _ _).trans ((z1zy _ x0 x1 _).trans h1)⟩
noncomputable abbrev z27 : Code := Tryz.f34.body.getD .skip
def z1i : Env := tab.env (fun i => bif Nat.beq i 7 then [1, 5, 6] else bif Nat.beq i 16 then [1, 5, 7] else []) (fun i => bif Nat.beq i 7 then [1, 2, 3, 4, 5] else bif Nat.beq i 16 then [1, 2, 3, 4] else []) [] [y18]
def zun (t5 : Int) (t6 : Int) (bt1 : Zt26) : State := ⟨uS 1 ([.ptr 2 y18 []]::(uS 3 ([.dat (.int .i64) t5 []]::[.dat (.int .i64) t6 []]::(uS 109 ([]))))), nS 2 ((some ⟨y18, bt1, []⟩)::(nS 114 ([])))⟩
def zp2 (t2 : Int) (t3 : Int) (t4 : Int) (t5 : Int) (bt1 : Zt26) : State := ⟨uS 1 ([.ptr 2 y18 []]::[.dat (.int .i64) t2 []]::[.dat (.int .i64) t3 []]::[.dat (.int .i64) t4 []]::[.dat (.int .i64) t5 []]::(uS 110 ([]))), nS 2 ((some ⟨y18, bt1, []⟩)::(nS 114 ([])))⟩
def zor (t5 : Int) (bt1 : Zt26) : State := ⟨uS 1 ([.ptr 2 y18 []]::(uS 3 ([.dat (.int .i64) t5 []]::(uS 110 ([]))))), nS 2 ((some ⟨y18, bt1, []⟩)::(nS 114 ([])))⟩
def ztz (t5 : Int) (t7 : Int) (bt1 : Zt26) : State := ⟨uS 1 ([.ptr 2 y18 []]::(uS 3 ([.dat (.int .i64) t5 []]::(uS 1 ([.dat (.int .i64) t7 []]::(uS 108 ([]))))))), nS 2 ((some ⟨y18, bt1, []⟩)::(nS 114 ([])))⟩
def zsz (t2 : Int) (t3 : Int) (t4 : Int) (bt1 : Zt26) : State := ⟨uS 1 ([.ptr 2 y18 []]::[.dat (.int .i64) t2 []]::[.dat (.int .i64) t3 []]::[.dat (.int .i64) t4 []]::(uS 111 ([]))), nS 2 ((some ⟨y18, bt1, []⟩)::(nS 114 ([])))⟩
def zqw (bt1 : Zt26) : State := ⟨uS 1 ([.ptr 2 y18 []]::(uS 114 ([]))), nS 2 ((some ⟨y18, bt1, []⟩)::(nS 114 ([])))⟩
theorem z24c (R : Type) (kk : Nat) (s_0 : Zt26) (K : Kf_ R) : evFn z1i (Tb133 R) kk Tryz.f34 z27 [.dat y18 s_0 []] none K =
  zbm s_0 (fun a0 a1 a2 => K [.dat (.int .i64) a0 [], .dat (.int .i64) a1 [], .dat (.int .i64) a2 []] none) (fun a0 a1 a2 => loopR (ev z1i (Tb133 R) kk (sub [1, 1, 1, 1, 0, 1, 0, 0] z27)) [1, 5, 6] [1, 2, 3, 4, 5] kk (zun a0 a1 a2) (zi 0 (kSeq z1i (Tb133 R) kk (sub [1, 1, 1, 1, 1] z27) (kFin z1i Tryz.f34.results.toList none K)))) := by kernel_rfl
theorem z1zx (R : Type) (kk k : Nat) (t5 : Int) (t6 : Int) (bt1 : Zt26) (K : Kx_ R) : loopR (ev z1i (Tb133 R) kk (sub [1, 1, 1, 1, 0, 1, 0, 0] z27)) [1, 5, 6] [1, 2, 3, 4, 5] (k + 1) (zun t5 t6 bt1) K =
  z7q t5 t6 bt1 (fun a0 a1 a2 a3 a4 => K .ret (zp2 a0 a1 a2 a3 a4)) (fun a0 a1 a2 => loopR (ev z1i (Tb133 R) kk (sub [1, 1, 1, 1, 0, 1, 0, 0] z27)) [1, 5, 6] [1, 2, 3, 4, 5] k (zun a0 a1 a2) K) (fun a0 a1 => K (.exit 0) (zor a0 a1)) := by kernel_rfl
theorem z1r7 (R : Type) (kk : Nat) (t2 : Int) (t3 : Int) (t4 : Int) (t5 : Int) (bt1 : Zt26) (K : Kf_ R) : (zi 0 (kSeq z1i (Tb133 R) kk (sub [1, 1, 1, 1, 1] z27) (kFin z1i Tryz.f34.results.toList none K))) .ret (zp2 t2 t3 t4 t5 bt1) =
  zep t2 t3 t4 t5 bt1 (fun a0 a1 a2 => K [.dat (.int .i64) a0 [], .dat (.int .i64) a1 [], .dat (.int .i64) a2 []] none) := by kernel_rfl
theorem z1ic (R : Type) (kk : Nat) (t5 : Int) (bt1 : Zt26) (K : Kf_ R) : (zi 0 (kSeq z1i (Tb133 R) kk (sub [1, 1, 1, 1, 1] z27) (kFin z1i Tryz.f34.results.toList none K))) (.exit 0) (zor t5 bt1) =
  zb5 t5 bt1 (fun a0 a1 a2 => loopR (ev z1i (Tb133 R) kk (sub [1, 1, 1, 1, 1, 0, 1, 0, 0] z27)) [1, 5, 7] [1, 2, 3, 4] kk (ztz a0 a1 a2) (zi 2 (kSeq z1i (Tb133 R) kk (sub [1, 1, 1, 1, 1, 1] z27) (kFin z1i Tryz.f34.results.toList none K)))) := by kernel_rfl
theorem z1xs (R : Type) (kk k : Nat) (t5 : Int) (t7 : Int) (bt1 : Zt26) (K : Kx_ R) : loopR (ev z1i (Tb133 R) kk (sub [1, 1, 1, 1, 1, 0, 1, 0, 0] z27)) [1, 5, 7] [1, 2, 3, 4] (k + 1) (ztz t5 t7 bt1) K =
  z85 t5 t7 bt1 (fun a0 a1 a2 a3 => K .ret (zsz a0 a1 a2 a3)) (fun a0 a1 a2 => loopR (ev z1i (Tb133 R) kk (sub [1, 1, 1, 1, 1, 0, 1, 0, 0] z27)) [1, 5, 7] [1, 2, 3, 4] k (ztz a0 a1 a2) K) (fun a0 => K (.exit 2) (zqw a0)) := by kernel_rfl
theorem z1oq (R : Type) (kk : Nat) (t2 : Int) (t3 : Int) (t4 : Int) (bt1 : Zt26) (K : Kf_ R) : (zi 2 (kSeq z1i (Tb133 R) kk (sub [1, 1, 1, 1, 1, 1] z27) (kFin z1i Tryz.f34.results.toList none K))) .ret (zsz t2 t3 t4 bt1) =
  zes t2 t3 t4 bt1 (fun a0 a1 a2 => K [.dat (.int .i64) a0 [], .dat (.int .i64) a1 [], .dat (.int .i64) a2 []] none) := by kernel_rfl
theorem z1mh (R : Type) (kk : Nat) (bt1 : Zt26) (K : Kf_ R) : (zi 2 (kSeq z1i (Tb133 R) kk (sub [1, 1, 1, 1, 1, 1] z27) (kFin z1i Tryz.f34.results.toList none K))) (.exit 2) (zqw bt1) =
  zat bt1 (fun a0 a1 a2 => K [.dat (.int .i64) a0 [], .dat (.int .i64) a1 [], .dat (.int .i64) a2 []] none) := by kernel_rfl
theorem z1vy (R : Type) (k : Nat) (t5 : Int) (t6 : Int) (bt1 : Zt26) (K : Kx_ R) : loopR (ev z1i (Tb133 R) FUEL (sub [1, 1, 1, 1, 0, 1, 0, 0] z27)) [1, 5, 6] [1, 2, 3, 4, 5] k (zun t5 t6 bt1) K = (z8d k t5 t6 bt1).bind fun e => (Sum.elim (fun (we : (Int × Int × Int × Int × Zt26)) => K .ret (zp2 we.1 we.2.1 we.2.2.1 we.2.2.2.1 we.2.2.2.2)) (fun (we : (Int × Zt26)) => K (.exit 0) (zor we.1 we.2)) e) := by
  induction k generalizing t5 t6 bt1 with
  | zero => rfl
  | succ k ih =>
    rw [z1zx]
    simp only [z8d, zd9, zcj, zdd, zcp, zda, zci, zd4, ih, z8, z6, zd, z7, ze, zc, Sum.elim_inl, Sum.elim_inr]
theorem z1tb (R : Type) (k : Nat) (t5 : Int) (t7 : Int) (bt1 : Zt26) (K : Kx_ R) : loopR (ev z1i (Tb133 R) FUEL (sub [1, 1, 1, 1, 1, 0, 1, 0, 0] z27)) [1, 5, 7] [1, 2, 3, 4] k (ztz t5 t7 bt1) K = (z90 k t5 t7 bt1).bind fun e => (Sum.elim (fun (we : (Int × Int × Int × Zt26)) => K .ret (zsz we.1 we.2.1 we.2.2.1 we.2.2.2)) (fun (we : Zt26) => K (.exit 2) (zqw we)) e) := by
  induction k generalizing t5 t7 bt1 with
  | zero => rfl
  | succ k ih =>
    rw [z1xs]
    simp only [z90, zd9, zcj, zdd, zcp, zda, zci, zd4, ih, z8, z6, zd, z7, ze, zc, Sum.elim_inl, Sum.elim_inr]
theorem z22t (R : Type) (s_0 : Zt26) (K : Kf_ R) : evFn z1i (Tb133 R) FUEL Tryz.f34 z27 [.dat y18 s_0 []] none K = (Q181 s_0).bind fun r => K [.dat (.int .i64) r.1 [], .dat (.int .i64) r.2.1 [], .dat (.int .i64) r.2.2 []] none := by
  rw [z24c]
  simp only [Q181, zd9, zcj, zdd, zcp, zda, zci, zd4, z1vy, z1tb, z1r7, z1ic, z1oq, z1mh, z8, z6, zd, z7, ze, zc, Sum.elim_inl, Sum.elim_inr]
def z1lw : Pure := fun R l b K => noBox b (args1 y18 l (fun x0 => (Q181 x0).bind fun r => K [.dat (.int .i64) r.1 [], .dat (.int .i64) r.2.1 [], .dat (.int .i64) r.2.2 []] none))
theorem z266 : z1lw.Nat := fun R S l b F G K h => zh (zp fun _ => zg fun _ => h _ _)
def Tb134 : Funs := Tb133.add 34 [y18] z1lw
theorem z15a : Tb134.Nat := zl z15j z266
theorem z1g1 : ∀ f, Owes Tryz.prog Tb134 f := zk (E := z1i) (Tab.env_ok zm _ _ _ _) mixed z15j z1fu (fn := Tryz.f34) (code := z27) Tryz.func34 (by kernel_rfl) (by kernel_rfl) fun l b r b' h => by
  obtain ⟨rfl, h⟩ := zf h
  obtain ⟨x0, h1, h2⟩ := own1 (E := z1i) rfl h
  exact ⟨FUEL, (h2 _ _ _ _ _ _).trans ((z22t _ x0 _).trans h1)⟩
noncomputable abbrev z165 : Code := Tryz.f184.body.getD .skip
def z105 : Env := tab.env (fun _ => []) (fun _ => []) [] [(.int .u8)]
theorem z26d (R : Type) (kk : Nat) (b_0 : Int) (K : Kf_ R) : evFn z105 (Tb134 R) kk Tryz.f184 z165 [.dat (.int .u8) b_0 []] none K =
  zai b_0 (fun a0 => K [.dat .bool a0 []] none) := by kernel_rfl
theorem z1y9 (R : Type) (b_0 : Int) (K : Kf_ R) : evFn z105 (Tb134 R) FUEL Tryz.f184 z165 [.dat (.int .u8) b_0 []] none K = (Q104 b_0).bind fun r => K [.dat .bool r []] none := by
  rw [z26d]
  simp only [Q104, z1a2, z8, z6, zd, z7, ze, zc, Sum.elim_inl, Sum.elim_inr]
def z1m6 : Pure := fun R l b K => noBox b (args1 (.int .u8) l (fun x0 => (Q104 x0).bind fun r => K [.dat .bool r []] none))
theorem z24u : z1m6.Nat := fun R S l b F G K h => zh (zp fun _ => zg fun _ => h _ _)
def Tb135 : Funs := Tb134.add 184 [(.int .u8)] z1m6
theorem z14k : Tb135.Nat := zl z15a z24u
theorem z1he : ∀ f, Owes Tryz.prog Tb135 f := zk (E := z105) (Tab.env_ok zm _ _ _ _) mixed z15a z1g1 (fn := Tryz.f184) (code := z165) Tryz.func184 (by kernel_rfl) (by kernel_rfl) fun l b r b' h => by
  obtain ⟨rfl, h⟩ := zf h
  obtain ⟨x0, h1, h2⟩ := own1 (E := z105) rfl h
  exact ⟨FUEL, (h2 _ _ _ _ _ _).trans ((z1y9 _ x0 _).trans h1)⟩
noncomputable abbrev z56 : Code := Tryz.f124.body.getD .skip
def z3a : Env := tab.env (fun i => bif Nat.beq i 2 then [0, 3] else []) (fun i => bif Nat.beq i 2 then [2] else []) [] [.str]
def zvh (s_0 : ByteArray) (t3 : Int) : State := ⟨[.dat .str s_0 []]::(uS 2 ([.dat (.int .i64) t3 []]::(uS 11 ([])))), nS 16 []⟩
def zkx (t2 : Bool) : State := ⟨uS 2 ([.dat .bool t2 []]::(uS 12 ([]))), nS 16 []⟩
def zlj  : State := ⟨uS 15 [], nS 16 []⟩
theorem z2aa (R : Type) (kk : Nat) (s_0 : ByteArray) (K : Kf_ R) : evFn z3a (Tb135 R) kk Tryz.f124 z56 [.dat .str s_0 []] none K =
  z9o s_0 (fun a0 a1 => loopR (ev z3a (Tb135 R) kk (sub [1, 0, 1, 0, 0] z56)) [0, 3] [2] kk (zvh a0 a1) (zi 0 (kSeq z3a (Tb135 R) kk (sub [1, 1] z56) (kFin z3a Tryz.f124.results.toList none K)))) := by kernel_rfl
theorem z1ym (R : Type) (kk k : Nat) (s_0 : ByteArray) (t3 : Int) (K : Kx_ R) : loopR (ev z3a (Tb135 R) kk (sub [1, 0, 1, 0, 0] z56)) [0, 3] [2] (k + 1) (zvh s_0 t3) K =
  za2 s_0 t3 (fun a0 => K .ret (zkx a0)) (fun a0 a1 => loopR (ev z3a (Tb135 R) kk (sub [1, 0, 1, 0, 0] z56)) [0, 3] [2] k (zvh a0 a1) K) (K (.exit 0) (zlj)) := by kernel_rfl
theorem z1ql (R : Type) (kk : Nat) (t2 : Bool) (K : Kf_ R) : (zi 0 (kSeq z3a (Tb135 R) kk (sub [1, 1] z56) (kFin z3a Tryz.f124.results.toList none K))) .ret (zkx t2) =
  zja t2 (fun a0 => K [.dat .bool a0 []] none) := by kernel_rfl
theorem z1qa (R : Type) (kk : Nat)  (K : Kf_ R) : (zi 0 (kSeq z3a (Tb135 R) kk (sub [1, 1] z56) (kFin z3a Tryz.f124.results.toList none K))) (.exit 0) (zlj) =
  zfp (fun a0 => K [.dat .bool a0 []] none) := by kernel_rfl
theorem z1vt (R : Type) (k : Nat) (s_0 : ByteArray) (t3 : Int) (K : Kx_ R) : loopR (ev z3a (Tb135 R) FUEL (sub [1, 0, 1, 0, 0] z56)) [0, 3] [2] k (zvh s_0 t3) K = (z9p k s_0 t3).bind fun e => (Sum.elim (fun (we : Bool) => K .ret (zkx we)) (fun (we : Unit) => K (.exit 0) (zlj)) e) := by
  induction k generalizing s_0 t3 with
  | zero => rfl
  | succ k ih =>
    rw [z1ym]
    simp only [z9p, znj, zth, zqh, zqx, ih, z8, z6, zd, z7, ze, zc, Sum.elim_inl, Sum.elim_inr]
theorem z20y (R : Type) (s_0 : ByteArray) (K : Kf_ R) : evFn z3a (Tb135 R) FUEL Tryz.f124 z56 [.dat .str s_0 []] none K = (Q103 s_0).bind fun r => K [.dat .bool r []] none := by
  rw [z2aa]
  simp only [Q103, znj, zth, zqh, zqx, z1vt, z1ql, z1qa, z8, z6, zd, z7, ze, zc, Sum.elim_inl, Sum.elim_inr]
def z1o3 : Pure := fun R l b K => noBox b (args1 .str l (fun x0 => (Q103 x0).bind fun r => K [.dat .bool r []] none))
theorem z22y : z1o3.Nat := fun R S l b F G K h => zh (zp fun _ => zg fun _ => h _ _)
def Tb136 : Funs := Tb135.add 124 [.str] z1o3
theorem z13i : Tb136.Nat := zl z14k z22y
theorem z1hb : ∀ f, Owes Tryz.prog Tb136 f := zk (E := z3a) (Tab.env_ok zm _ _ _ _) mixed z14k z1he (fn := Tryz.f124) (code := z56) Tryz.func124 (by kernel_rfl) (by kernel_rfl) fun l b r b' h => by
  obtain ⟨rfl, h⟩ := zf h
  obtain ⟨x0, h1, h2⟩ := own1 (E := z3a) rfl h
  exact ⟨FUEL, (h2 _ _ _ _ _ _).trans ((z20y _ x0 _).trans h1)⟩
noncomputable abbrev z19m : Code := Tryz.f112.body.getD .skip
def zys : Env := tab.env (fun _ => []) (fun _ => []) [] [.str]
theorem z23a (R : Type) (kk : Nat) (m_0 : ByteArray) (K : Kf_ R) : evFn zys (Tb136 R) kk Tryz.f112 z19m [.dat .str m_0 []] none K =
  z9t m_0 (fun a0 => K [.dat .bool a0 []] none) := by kernel_rfl
theorem z1zb (R : Type) (m_0 : ByteArray) (K : Kf_ R) : evFn zys (Tb136 R) FUEL Tryz.f112 z19m [.dat .str m_0 []] none K = (Q148 m_0).bind fun r => K [.dat .bool r []] none := by
  rw [z23a]
  simp only [Q148, z16t, z8, z6, zd, z7, ze, zc, Sum.elim_inl, Sum.elim_inr]
def z1nl : Pure := fun R l b K => noBox b (args1 .str l (fun x0 => (Q148 x0).bind fun r => K [.dat .bool r []] none))
theorem z29n : z1nl.Nat := fun R S l b F G K h => zh (zp fun _ => zg fun _ => h _ _)
def Tb137 : Funs := Tb136.add 112 [.str] z1nl
theorem z13k : Tb137.Nat := zl z13i z29n
theorem z1gp : ∀ f, Owes Tryz.prog Tb137 f := zk (E := zys) (Tab.env_ok zm _ _ _ _) mixed z13i z1hb (fn := Tryz.f112) (code := z19m) Tryz.func112 (by kernel_rfl) (by kernel_rfl) fun l b r b' h => by
  obtain ⟨rfl, h⟩ := zf h
  obtain ⟨x0, h1, h2⟩ := own1 (E := zys) rfl h
  exact ⟨FUEL, (h2 _ _ _ _ _ _).trans ((z1zb _ x0 _).trans h1)⟩
noncomputable abbrev z18v : Code := Tryz.f88.body.getD .skip
def z11p : Env := tab.env (fun _ => []) (fun _ => []) [] [.str, (.int .i64)]
theorem z23d (R : Type) (kk : Nat) (m_0 : ByteArray) (v_1 : Int) (K : Kf_ R) : evFn z11p (Tb137 R) kk Tryz.f88 z18v [.dat .str m_0 [], .dat (.int .i64) v_1 []] none K =
  za6 m_0 v_1 (fun a0 => K [.dat .bool a0 []] none) := by kernel_rfl
theorem z20d (R : Type) (m_0 : ByteArray) (v_1 : Int) (K : Kf_ R) : evFn z11p (Tb137 R) FUEL Tryz.f88 z18v [.dat .str m_0 [], .dat (.int .i64) v_1 []] none K = (Q176 m_0 v_1).bind fun r => K [.dat .bool r []] none := by
  rw [z23d]
  simp only [Q176, z1a7, z8, z6, zd, z7, ze, zc, Sum.elim_inl, Sum.elim_inr]
def z1qo : Pure := fun R l b K => noBox b (args2 .str (.int .i64) l (fun x0 x1 => (Q176 x0 x1).bind fun r => K [.dat .bool r []] none))
theorem z27e : z1qo.Nat := fun R S l b F G K h => zh (zq fun _ _ => zg fun _ => h _ _)
def Tb138 : Funs := Tb137.add 88 [.str, (.int .i64)] z1qo
theorem z14z : Tb138.Nat := zl z13k z27e
theorem z1gf : ∀ f, Owes Tryz.prog Tb138 f := zk (E := z11p) (Tab.env_ok zm _ _ _ _) mixed z13k z1gp (fn := Tryz.f88) (code := z18v) Tryz.func88 (by kernel_rfl) (by kernel_rfl) fun l b r b' h => by
  obtain ⟨rfl, h⟩ := zf h
  obtain ⟨x0, x1, h1, h2⟩ := own2 (E := z11p) rfl h
  exact ⟨FUEL, (h2 _ _ _ _ _ _).trans ((z20d _ x0 x1 _).trans h1)⟩
noncomputable abbrev z74 : Code := Tryz.f50.body.getD .skip
def z45 : Env := tab.env (fun i => bif Nat.beq i 5 then [0, 4, 5] else []) (fun i => bif Nat.beq i 5 then [4] else []) [] [.str]
def zw4 (s_0 : ByteArray) (t4 : Int) (t5 : Int) : State := ⟨[.dat .str s_0 []]::(uS 3 ([.dat (.int .i64) t4 []]::[.dat (.int .i64) t5 []]::(uS 28 ([])))), nS 35 []⟩
def zkp (t4 : Int) : State := ⟨uS 4 ([.dat (.int .i64) t4 []]::(uS 29 ([]))), nS 35 []⟩
theorem z26b (R : Type) (kk : Nat) (s_0 : ByteArray) (K : Kf_ R) : evFn z45 (Tb138 R) kk Tryz.f50 z74 [.dat .str s_0 []] none K =
  zbn s_0 (fun a0 a1 => K [.dat (.int .i64) a0 [], .dat .bool a1 []] none) (fun a0 a1 a2 => loopR (ev z45 (Tb138 R) kk (sub [1, 1, 1, 0, 1, 0, 0] z74)) [0, 4, 5] [4] kk (zw4 a0 a1 a2) (zi 0 (kSeq z45 (Tb138 R) kk (sub [1, 1, 1, 1] z74) (kFin z45 Tryz.f50.results.toList none K)))) := by kernel_rfl
theorem z22i (R : Type) (kk k : Nat) (s_0 : ByteArray) (t4 : Int) (t5 : Int) (K : Kx_ R) : loopR (ev z45 (Tb138 R) kk (sub [1, 1, 1, 0, 1, 0, 0] z74)) [0, 4, 5] [4] (k + 1) (zw4 s_0 t4 t5) K =
  z9f s_0 t4 t5 (fun a0 a1 a2 => loopR (ev z45 (Tb138 R) kk (sub [1, 1, 1, 0, 1, 0, 0] z74)) [0, 4, 5] [4] k (zw4 a0 a1 a2) K) (fun a0 => K (.exit 0) (zkp a0)) := by kernel_rfl
theorem z1k2 (R : Type) (kk : Nat) (t4 : Int) (K : Kf_ R) : (zi 0 (kSeq z45 (Tb138 R) kk (sub [1, 1, 1, 1] z74) (kFin z45 Tryz.f50.results.toList none K))) (.exit 0) (zkp t4) =
  zhd t4 (fun a0 a1 => K [.dat (.int .i64) a0 [], .dat .bool a1 []] none) := by kernel_rfl
theorem z1w9 (R : Type) (k : Nat) (s_0 : ByteArray) (t4 : Int) (t5 : Int) (K : Kx_ R) : loopR (ev z45 (Tb138 R) FUEL (sub [1, 1, 1, 0, 1, 0, 0] z74)) [0, 4, 5] [4] k (zw4 s_0 t4 t5) K = (zb7 k s_0 t4 t5).bind fun e => K (.exit 0) (zkp e) := by
  induction k generalizing s_0 t4 t5 with
  | zero => rfl
  | succ k ih =>
    rw [z22i]
    simp only [zb7, zpl, zqt, zoi, ih, z8, z6, zd, z7, ze, zc, Sum.elim_inl, Sum.elim_inr]
theorem z21f (R : Type) (s_0 : ByteArray) (K : Kf_ R) : evFn z45 (Tb138 R) FUEL Tryz.f50 z74 [.dat .str s_0 []] none K = (Q105 s_0).bind fun r => K [.dat (.int .i64) r.1 [], .dat .bool r.2 []] none := by
  rw [z26b]
  simp only [Q105, zpl, zqt, zoi, z1w9, z1k2, z8, z6, zd, z7, ze, zc, Sum.elim_inl, Sum.elim_inr]
def z1mx : Pure := fun R l b K => noBox b (args1 .str l (fun x0 => (Q105 x0).bind fun r => K [.dat (.int .i64) r.1 [], .dat .bool r.2 []] none))
theorem z29e : z1mx.Nat := fun R S l b F G K h => zh (zp fun _ => zg fun _ => h _ _)
def Tb139 : Funs := Tb138.add 50 [.str] z1mx
theorem z14f : Tb139.Nat := zl z14z z29e
theorem z1hw : ∀ f, Owes Tryz.prog Tb139 f := zk (E := z45) (Tab.env_ok zm _ _ _ _) mixed z14z z1gf (fn := Tryz.f50) (code := z74) Tryz.func50 (by kernel_rfl) (by kernel_rfl) fun l b r b' h => by
  obtain ⟨rfl, h⟩ := zf h
  obtain ⟨x0, h1, h2⟩ := own1 (E := z45) rfl h
  exact ⟨FUEL, (h2 _ _ _ _ _ _).trans ((z21f _ x0 _).trans h1)⟩
noncomputable abbrev z1bf : Code := Tryz.f19.body.getD .skip
def z11i : Env := tab.env (fun _ => []) (fun _ => []) [] [.str]
theorem z234 (R : Type) (kk : Nat) (m_0 : ByteArray) (K : Kf_ R) : evFn z11i (Tb139 R) kk Tryz.f19 z1bf [.dat .str m_0 []] none K =
  zaa m_0 (fun a0 => K [.dat .bool a0 []] none) := by kernel_rfl
theorem z20q (R : Type) (m_0 : ByteArray) (K : Kf_ R) : evFn z11i (Tb139 R) FUEL Tryz.f19 z1bf [.dat .str m_0 []] none K = (Q146 m_0).bind fun r => K [.dat .bool r []] none := by
  rw [z234]
  simp only [Q146, z180, z8, z6, zd, z7, ze, zc, Sum.elim_inl, Sum.elim_inr]
def z1sk : Pure := fun R l b K => noBox b (args1 .str l (fun x0 => (Q146 x0).bind fun r => K [.dat .bool r []] none))
theorem z28w : z1sk.Nat := fun R S l b F G K h => zh (zp fun _ => zg fun _ => h _ _)
def Tb140 : Funs := Tb139.add 19 [.str] z1sk
theorem z13s : Tb140.Nat := zl z14f z28w
theorem z1ha : ∀ f, Owes Tryz.prog Tb140 f := zk (E := z11i) (Tab.env_ok zm _ _ _ _) mixed z14f z1hw (fn := Tryz.f19) (code := z1bf) Tryz.func19 (by kernel_rfl) (by kernel_rfl) fun l b r b' h => by
  obtain ⟨rfl, h⟩ := zf h
  obtain ⟨x0, h1, h2⟩ := own1 (E := z11i) rfl h
  exact ⟨FUEL, (h2 _ _ _ _ _ _).trans ((z20q _ x0 _).trans h1)⟩
noncomputable abbrev z4x : Code := Tryz.f146.body.getD .skip
def z3e : Env := tab.env (fun i => bif Nat.beq i 2 then [0, 1, 2, 7] else []) (fun i => bif Nat.beq i 2 then [6] else []) [] [(.sl 116 (.pair .str (.pair .str .unit))), (.int .i64), .str]
def zu5 (l_0 : Zt14) (n_1 : Int) (from_2 : ByteArray) (t7 : Int) : State := ⟨[.dat (.sl 116 (.pair .str (.pair .str .unit))) l_0 []]::[.dat (.int .i64) n_1 []]::[.dat .str from_2 []]::(uS 4 ([.dat (.int .i64) t7 []]::(uS 13 ([])))), nS 22 []⟩
def znf (t6 : Int) : State := ⟨uS 6 ([.dat (.int .i64) t6 []]::(uS 14 ([]))), nS 22 []⟩
def zsj  : State := ⟨uS 21 [], nS 22 []⟩
theorem z24v (R : Type) (kk : Nat) (l_0 : Zt14) (n_1 : Int) (from_2 : ByteArray) (K : Kf_ R) : evFn z3e (Tb140 R) kk Tryz.f146 z4x [.dat (.sl 116 (.pair .str (.pair .str .unit))) l_0 [], .dat (.int .i64) n_1 [], .dat .str from_2 []] none K =
  zaq l_0 n_1 from_2 (fun a0 a1 a2 a3 => loopR (ev z3e (Tb140 R) kk (sub [1, 0, 1, 0, 0] z4x)) [0, 1, 2, 7] [6] kk (zu5 a0 a1 a2 a3) (zi 0 (kSeq z3e (Tb140 R) kk (sub [1, 1] z4x) (kFin z3e Tryz.f146.results.toList none K)))) := by kernel_rfl
theorem z21v (R : Type) (kk k : Nat) (l_0 : Zt14) (n_1 : Int) (from_2 : ByteArray) (t7 : Int) (K : Kx_ R) : loopR (ev z3e (Tb140 R) kk (sub [1, 0, 1, 0, 0] z4x)) [0, 1, 2, 7] [6] (k + 1) (zu5 l_0 n_1 from_2 t7) K =
  z91 l_0 n_1 from_2 t7 (fun a0 => K .ret (znf a0)) (fun a0 a1 a2 a3 => loopR (ev z3e (Tb140 R) kk (sub [1, 0, 1, 0, 0] z4x)) [0, 1, 2, 7] [6] k (zu5 a0 a1 a2 a3) K) (K (.exit 0) (zsj)) := by kernel_rfl
theorem z1io (R : Type) (kk : Nat) (t6 : Int) (K : Kf_ R) : (zi 0 (kSeq z3e (Tb140 R) kk (sub [1, 1] z4x) (kFin z3e Tryz.f146.results.toList none K))) .ret (znf t6) =
  zih t6 (fun a0 => K [.dat (.int .i64) a0 []] none) := by kernel_rfl
theorem z1om (R : Type) (kk : Nat)  (K : Kf_ R) : (zi 0 (kSeq z3e (Tb140 R) kk (sub [1, 1] z4x) (kFin z3e Tryz.f146.results.toList none K))) (.exit 0) (zsj) =
  zjj (fun a0 => K [.dat (.int .i64) a0 []] none) := by kernel_rfl
theorem z1w4 (R : Type) (k : Nat) (l_0 : Zt14) (n_1 : Int) (from_2 : ByteArray) (t7 : Int) (K : Kx_ R) : loopR (ev z3e (Tb140 R) FUEL (sub [1, 0, 1, 0, 0] z4x)) [0, 1, 2, 7] [6] k (zu5 l_0 n_1 from_2 t7) K = (z7t k l_0 n_1 from_2 t7).bind fun e => (Sum.elim (fun (we : Int) => K .ret (znf we)) (fun (we : Unit) => K (.exit 0) (zsj)) e) := by
  induction k generalizing l_0 n_1 from_2 t7 with
  | zero => rfl
  | succ k ih =>
    rw [z21v]
    simp only [z7t, zpj, zt7, zlf, zr9, ih, z8, z6, zd, z7, ze, zc, Sum.elim_inl, Sum.elim_inr]
theorem z20a (R : Type) (l_0 : Zt14) (n_1 : Int) (from_2 : ByteArray) (K : Kf_ R) : evFn z3e (Tb140 R) FUEL Tryz.f146 z4x [.dat (.sl 116 (.pair .str (.pair .str .unit))) l_0 [], .dat (.int .i64) n_1 [], .dat .str from_2 []] none K = (Q164 l_0 n_1 from_2).bind fun r => K [.dat (.int .i64) r []] none := by
  rw [z24v]
  simp only [Q164, zpj, zt7, zlf, zr9, z1w4, z1io, z1om, z8, z6, zd, z7, ze, zc, Sum.elim_inl, Sum.elim_inr]
def z1kr : Pure := fun R l b K => noBox b (args3 (.sl 116 (.pair .str (.pair .str .unit))) (.int .i64) .str l (fun x0 x1 x2 => (Q164 x0 x1 x2).bind fun r => K [.dat (.int .i64) r []] none))
theorem z290 : z1kr.Nat := fun R S l b F G K h => zh (z17 fun _ _ _ => zg fun _ => h _ _)
def Tb141 : Funs := Tb140.add 146 [(.sl 116 (.pair .str (.pair .str .unit))), (.int .i64), .str] z1kr
theorem z139 : Tb141.Nat := zl z13s z290
theorem z1h0 : ∀ f, Owes Tryz.prog Tb141 f := zk (E := z3e) (Tab.env_ok zm _ _ _ _) mixed z13s z1ha (fn := Tryz.f146) (code := z4x) Tryz.func146 (by kernel_rfl) (by kernel_rfl) fun l b r b' h => by
  obtain ⟨rfl, h⟩ := zf h
  obtain ⟨x0, x1, x2, h1, h2⟩ := own3 (E := z3e) rfl h
  exact ⟨FUEL, (h2 _ _ _ _ _ _).trans ((z20a _ x0 x1 x2 _).trans h1)⟩
noncomputable abbrev z18g : Code := Tryz.f89.body.getD .skip
def z10g : Env := tab.env (fun _ => []) (fun _ => []) [] [(.sl 116 (.pair .str (.pair .str .unit))), .str]
theorem z22w (R : Type) (kk : Nat) (l_0 : Zt14) (text_1 : ByteArray) (K : Kf_ R) : evFn z10g (Tb141 R) kk Tryz.f89 z18g [.dat (.sl 116 (.pair .str (.pair .str .unit))) l_0 [], .dat .str text_1 []] none K =
  za0 l_0 text_1 (fun a0 a1 => K [.dat .str a0 [], .dat .bool a1 []] none) := by kernel_rfl
theorem z21d (R : Type) (l_0 : Zt14) (text_1 : ByteArray) (K : Kf_ R) : evFn z10g (Tb141 R) FUEL Tryz.f89 z18g [.dat (.sl 116 (.pair .str (.pair .str .unit))) l_0 [], .dat .str text_1 []] none K = (Q158 l_0 text_1).bind fun r => K [.dat .str r.1 [], .dat .bool r.2 []] none := by
  rw [z22w]
  simp only [Q158, z1cb, z8, z6, zd, z7, ze, zc, Sum.elim_inl, Sum.elim_inr]
def z1km : Pure := fun R l b K => noBox b (args2 (.sl 116 (.pair .str (.pair .str .unit))) .str l (fun x0 x1 => (Q158 x0 x1).bind fun r => K [.dat .str r.1 [], .dat .bool r.2 []] none))
theorem z28m : z1km.Nat := fun R S l b F G K h => zh (zq fun _ _ => zg fun _ => h _ _)
def Tb142 : Funs := Tb141.add 89 [(.sl 116 (.pair .str (.pair .str .unit))), .str] z1km
theorem z13n : Tb142.Nat := zl z139 z28m
theorem z1h4 : ∀ f, Owes Tryz.prog Tb142 f := zk (E := z10g) (Tab.env_ok zm _ _ _ _) mixed z139 z1h0 (fn := Tryz.f89) (code := z18g) Tryz.func89 (by kernel_rfl) (by kernel_rfl) fun l b r b' h => by
  obtain ⟨rfl, h⟩ := zf h
  obtain ⟨x0, x1, h1, h2⟩ := own2 (E := z10g) rfl h
  exact ⟨FUEL, (h2 _ _ _ _ _ _).trans ((z21d _ x0 x1 _).trans h1)⟩
noncomputable abbrev z5d : Code := Tryz.f197.body.getD .skip
def z2o : Env := tab.env (fun i => bif Nat.beq i 4 then [0, 1, 5] else []) (fun i => bif Nat.beq i 4 then [4] else []) [] [(.int .i64), (.int .i64)]
def zve (a_0 : Int) (b_1 : Int) (t5 : Int) : State := ⟨[.dat (.int .i64) a_0 []]::[.dat (.int .i64) b_1 []]::(uS 3 ([.dat (.int .i64) t5 []]::(uS 29 ([])))), nS 36 []⟩
def zl2 (t4 : Bool) : State := ⟨uS 4 ([.dat .bool t4 []]::(uS 30 ([]))), nS 36 []⟩
def zts  : State := ⟨uS 35 [], nS 36 []⟩
theorem z25r (R : Type) (kk : Nat) (a_0 : Int) (b_1 : Int) (K : Kf_ R) : evFn z2o (Tb142 R) kk Tryz.f197 z5d [.dat (.int .i64) a_0 [], .dat (.int .i64) b_1 []] none K =
  zad a_0 b_1 (fun a0 => K [.dat .bool a0 []] none) (fun a0 a1 a2 => loopR (ev z2o (Tb142 R) kk (sub [1, 1, 0, 1, 0, 0] z5d)) [0, 1, 5] [4] kk (zve a0 a1 a2) (zi 0 (kSeq z2o (Tb142 R) kk (sub [1, 1, 1] z5d) (kFin z2o Tryz.f197.results.toList none K)))) := by kernel_rfl
theorem z1y8 (R : Type) (kk k : Nat) (a_0 : Int) (b_1 : Int) (t5 : Int) (K : Kx_ R) : loopR (ev z2o (Tb142 R) kk (sub [1, 1, 0, 1, 0, 0] z5d)) [0, 1, 5] [4] (k + 1) (zve a_0 b_1 t5) K =
  zg2 a_0 b_1 t5 (fun a0 => K .ret (zl2 a0)) (fun a0 a1 a2 => loopR (ev z2o (Tb142 R) kk (sub [1, 1, 0, 1, 0, 0] z5d)) [0, 1, 5] [4] k (zve a0 a1 a2) K) (K (.exit 0) (zts)) := by kernel_rfl
theorem z1js (R : Type) (kk : Nat) (t4 : Bool) (K : Kf_ R) : (zi 0 (kSeq z2o (Tb142 R) kk (sub [1, 1, 1] z5d) (kFin z2o Tryz.f197.results.toList none K))) .ret (zl2 t4) =
  zj1 t4 (fun a0 => K [.dat .bool a0 []] none) := by kernel_rfl
theorem z1kl (R : Type) (kk : Nat)  (K : Kf_ R) : (zi 0 (kSeq z2o (Tb142 R) kk (sub [1, 1, 1] z5d) (kFin z2o Tryz.f197.results.toList none K))) (.exit 0) (zts) =
  zhn (fun a0 => K [.dat .bool a0 []] none) := by kernel_rfl
theorem z1wp (R : Type) (k : Nat) (a_0 : Int) (b_1 : Int) (t5 : Int) (K : Kx_ R) : loopR (ev z2o (Tb142 R) FUEL (sub [1, 1, 0, 1, 0, 0] z5d)) [0, 1, 5] [4] k (zve a_0 b_1 t5) K = (zw2 k a_0 b_1 t5).bind fun e => (Sum.elim (fun (we : Bool) => K .ret (zl2 we)) (fun (we : Unit) => K (.exit 0) (zts)) e) := by
  induction k generalizing a_0 b_1 t5 with
  | zero => rfl
  | succ k ih =>
    rw [z1y8]
    simp only [zw2, zoy, zqq, zrs, zqk, ih, z8, z6, zd, z7, ze, zc, Sum.elim_inl, Sum.elim_inr]
theorem z1yl (R : Type) (a_0 : Int) (b_1 : Int) (K : Kf_ R) : evFn z2o (Tb142 R) FUEL Tryz.f197 z5d [.dat (.int .i64) a_0 [], .dat (.int .i64) b_1 []] none K = (Q115 a_0 b_1).bind fun r => K [.dat .bool r []] none := by
  rw [z25r]
  simp only [Q115, zoy, zqq, zrs, zqk, z1wp, z1js, z1kl, z8, z6, zd, z7, ze, zc, Sum.elim_inl, Sum.elim_inr]
def z1j3 : Pure := fun R l b K => noBox b (args2 (.int .i64) (.int .i64) l (fun x0 x1 => (Q115 x0 x1).bind fun r => K [.dat .bool r []] none))
theorem z23j : z1j3.Nat := fun R S l b F G K h => zh (zq fun _ _ => zg fun _ => h _ _)
def Tb143 : Funs := Tb142.add 197 [(.int .i64), (.int .i64)] z1j3
theorem z13r : Tb143.Nat := zl z13n z23j
theorem z1gd : ∀ f, Owes Tryz.prog Tb143 f := zk (E := z2o) (Tab.env_ok zm _ _ _ _) mixed z13n z1h4 (fn := Tryz.f197) (code := z5d) Tryz.func197 (by kernel_rfl) (by kernel_rfl) fun l b r b' h => by
  obtain ⟨rfl, h⟩ := zf h
  obtain ⟨x0, x1, h1, h2⟩ := own2 (E := z2o) rfl h
  exact ⟨FUEL, (h2 _ _ _ _ _ _).trans ((z1yl _ x0 x1 _).trans h1)⟩
noncomputable abbrev z19g : Code := Tryz.f147.body.getD .skip
def z11d : Env := tab.env (fun _ => []) (fun _ => []) [] [y9, y9]
theorem z29c (R : Type) (kk : Nat) (a_0 : Zt13) (b_1 : Zt13) (K : Kf_ R) : evFn z11d (Tb143 R) kk Tryz.f147 z19g [.dat y9 a_0 [], .dat y9 b_1 []] none K =
  z8h a_0 b_1 (fun a0 => K [.dat .bool a0 []] none) := by kernel_rfl
theorem z227 (R : Type) (a_0 : Zt13) (b_1 : Zt13) (K : Kf_ R) : evFn z11d (Tb143 R) FUEL Tryz.f147 z19g [.dat y9 a_0 [], .dat y9 b_1 []] none K = (Q135 a_0 b_1).bind fun r => K [.dat .bool r []] none := by
  rw [z29c]
  simp only [Q135, z1ae, z8, z6, zd, z7, ze, zc, Sum.elim_inl, Sum.elim_inr]
def z1q3 : Pure := fun R l b K => noBox b (args2 y9 y9 l (fun x0 x1 => (Q135 x0 x1).bind fun r => K [.dat .bool r []] none))
theorem z25v : z1q3.Nat := fun R S l b F G K h => zh (zq fun _ _ => zg fun _ => h _ _)
def Tb144 : Funs := Tb143.add 147 [y9, y9] z1q3
theorem z13a : Tb144.Nat := zl z13r z25v
theorem z1h5 : ∀ f, Owes Tryz.prog Tb144 f := zk (E := z11d) (Tab.env_ok zm _ _ _ _) mixed z13r z1gd (fn := Tryz.f147) (code := z19g) Tryz.func147 (by kernel_rfl) (by kernel_rfl) fun l b r b' h => by
  obtain ⟨rfl, h⟩ := zf h
  obtain ⟨x0, x1, h1, h2⟩ := own2 (E := z11d) rfl h
  exact ⟨FUEL, (h2 _ _ _ _ _ _).trans ((z227 _ x0 x1 _).trans h1)⟩
noncomputable abbrev z5o : Code := Tryz.f148.body.getD .skip
def z35 : Env := tab.env (fun i => bif Nat.beq i 4 then [0, 4] else []) (fun i => bif Nat.beq i 4 then [2, 3] else []) [] [(.sl 116 (.pair .str (.pair .str .unit)))]
def zv0 (l_0 : Zt14) (t4 : Int) : State := ⟨[.dat (.sl 116 (.pair .str (.pair .str .unit))) l_0 []]::(uS 3 ([.dat (.int .i64) t4 []]::(uS 19 ([])))), nS 25 []⟩
def zqo (t2 : Int) (t3 : Int) : State := ⟨uS 2 ([.dat (.int .i64) t2 []]::[.dat (.int .i64) t3 []]::(uS 20 ([]))), nS 25 []⟩
def zpx  : State := ⟨uS 24 [], nS 25 []⟩
theorem z29o (R : Type) (kk : Nat) (l_0 : Zt14) (K : Kf_ R) : evFn z35 (Tb144 R) kk Tryz.f148 z5o [.dat (.sl 116 (.pair .str (.pair .str .unit))) l_0 []] none K =
  zau l_0 (fun a0 a1 => K [.dat (.int .i64) a0 [], .dat (.int .i64) a1 []] none) (fun a0 a1 => loopR (ev z35 (Tb144 R) kk (sub [1, 1, 0, 1, 0, 0] z5o)) [0, 4] [2, 3] kk (zv0 a0 a1) (zi 0 (kSeq z35 (Tb144 R) kk (sub [1, 1, 1] z5o) (kFin z35 Tryz.f148.results.toList none K)))) := by kernel_rfl
theorem z1zq (R : Type) (kk k : Nat) (l_0 : Zt14) (t4 : Int) (K : Kx_ R) : loopR (ev z35 (Tb144 R) kk (sub [1, 1, 0, 1, 0, 0] z5o)) [0, 4] [2, 3] (k + 1) (zv0 l_0 t4) K =
  z80 l_0 t4 (fun a0 a1 => K .ret (zqo a0 a1)) (fun a0 a1 => loopR (ev z35 (Tb144 R) kk (sub [1, 1, 0, 1, 0, 0] z5o)) [0, 4] [2, 3] k (zv0 a0 a1) K) (K (.exit 0) (zpx)) := by kernel_rfl
theorem z1pu (R : Type) (kk : Nat) (t2 : Int) (t3 : Int) (K : Kf_ R) : (zi 0 (kSeq z35 (Tb144 R) kk (sub [1, 1, 1] z5o) (kFin z35 Tryz.f148.results.toList none K))) .ret (zqo t2 t3) =
  zjf t2 t3 (fun a0 a1 => K [.dat (.int .i64) a0 [], .dat (.int .i64) a1 []] none) := by kernel_rfl
theorem z1ii (R : Type) (kk : Nat)  (K : Kf_ R) : (zi 0 (kSeq z35 (Tb144 R) kk (sub [1, 1, 1] z5o) (kFin z35 Tryz.f148.results.toList none K))) (.exit 0) (zpx) =
  zjk (fun a0 a1 => K [.dat (.int .i64) a0 [], .dat (.int .i64) a1 []] none) := by kernel_rfl
theorem z1t1 (R : Type) (k : Nat) (l_0 : Zt14) (t4 : Int) (K : Kx_ R) : loopR (ev z35 (Tb144 R) FUEL (sub [1, 1, 0, 1, 0, 0] z5o)) [0, 4] [2, 3] k (zv0 l_0 t4) K = (z83 k l_0 t4).bind fun e => (Sum.elim (fun (we : (Int × Int)) => K .ret (zqo we.1 we.2)) (fun (we : Unit) => K (.exit 0) (zpx)) e) := by
  induction k generalizing l_0 t4 with
  | zero => rfl
  | succ k ih =>
    rw [z1zq]
    simp only [z83, zpq, zpb, zof, zss, ih, z8, z6, zd, z7, ze, zc, Sum.elim_inl, Sum.elim_inr]
theorem z1xw (R : Type) (l_0 : Zt14) (K : Kf_ R) : evFn z35 (Tb144 R) FUEL Tryz.f148 z5o [.dat (.sl 116 (.pair .str (.pair .str .unit))) l_0 []] none K = (Q160 l_0).bind fun r => K [.dat (.int .i64) r.1 [], .dat (.int .i64) r.2 []] none := by
  rw [z29o]
  simp only [Q160, zpq, zpb, zof, zss, z1t1, z1pu, z1ii, z8, z6, zd, z7, ze, zc, Sum.elim_inl, Sum.elim_inr]
def z1sd : Pure := fun R l b K => noBox b (args1 (.sl 116 (.pair .str (.pair .str .unit))) l (fun x0 => (Q160 x0).bind fun r => K [.dat (.int .i64) r.1 [], .dat (.int .i64) r.2 []] none))
theorem z27g : z1sd.Nat := fun R S l b F G K h => zh (zp fun _ => zg fun _ => h _ _)
def Tb145 : Funs := Tb144.add 148 [(.sl 116 (.pair .str (.pair .str .unit)))] z1sd
theorem z15n : Tb145.Nat := zl z13a z27g
theorem z1ft : ∀ f, Owes Tryz.prog Tb145 f := zk (E := z35) (Tab.env_ok zm _ _ _ _) mixed z13a z1h5 (fn := Tryz.f148) (code := z5o) Tryz.func148 (by kernel_rfl) (by kernel_rfl) fun l b r b' h => by
  obtain ⟨rfl, h⟩ := zf h
  obtain ⟨x0, h1, h2⟩ := own1 (E := z35) rfl h
  exact ⟨FUEL, (h2 _ _ _ _ _ _).trans ((z1xw _ x0 _).trans h1)⟩
noncomputable abbrev zs : Code := Tryz.f90.body.getD .skip
def zo : Env := { tab.env (fun i => bif Nat.beq i 27 then [3, 4, 5, 7, 8, 13] else []) (fun i => bif Nat.beq i 27 then [6] else []) [] [y12, y15, y15] with join := fun i => bif Nat.beq i 2 then some [3, 4, 5, 23] else bif Nat.beq i 3 then some [3, 4, 5] else bif Nat.beq i 6 then some [3, 4, 5, 7, 8, 48] else bif Nat.beq i 7 then some [3, 4, 5, 7, 8] else bif Nat.beq i 8 then some [3, 4, 5, 7, 8, 65] else bif Nat.beq i 9 then some [3, 4, 5, 7, 8] else bif Nat.beq i 10 then some [3, 4, 5, 7, 8, 84] else bif Nat.beq i 11 then some [3, 4, 5, 7, 8] else bif Nat.beq i 35 then some [] else bif Nat.beq i 21 then some [140] else bif Nat.beq i 25 then some [3, 4, 5, 7, 8, 156] else bif Nat.beq i 26 then some [3, 4, 5, 7, 8] else bif Nat.beq i 29 then some [3, 4, 5, 7, 8, 13] else bif Nat.beq i 32 then some [3, 4, 5, 7, 8, 13] else bif Nat.beq i 28 then some [3, 4, 5, 7, 8, 13] else none }
def z1am (t23 : Bool) (bt3 : Zt20) (bt4 : Zt18) (bt5 : Zt18) : State := ⟨uS 3 ([.ptr 4 y12 []]::[.ptr 5 y15 []]::[.ptr 6 y15 []]::(uS 17 ([.dat .bool t23 []]::(uS 170 ([]))))), nS 4 ((some ⟨y12, bt3, []⟩)::(some ⟨y15, bt4, []⟩)::(some ⟨y15, bt5, []⟩)::(nS 188 ([])))⟩
def z17p (bt3 : Zt20) (bt4 : Zt18) (bt5 : Zt18) : State := ⟨uS 3 ([.ptr 4 y12 []]::[.ptr 5 y15 []]::[.ptr 6 y15 []]::(uS 188 ([]))), nS 4 ((some ⟨y12, bt3, []⟩)::(some ⟨y15, bt4, []⟩)::(some ⟨y15, bt5, []⟩)::(nS 188 ([])))⟩
def z1d4 (t7 : Int) (t8 : Int) (t48 : Bool) (bt3 : Zt20) (bt4 : Zt18) (bt5 : Zt18) : State := ⟨uS 3 ([.ptr 4 y12 []]::[.ptr 5 y15 []]::[.ptr 6 y15 []]::(uS 1 ([.dat (.int .i64) t7 []]::[.dat (.int .i64) t8 []]::(uS 39 ([.dat .bool t48 []]::(uS 145 ([]))))))), nS 4 ((some ⟨y12, bt3, []⟩)::(some ⟨y15, bt4, []⟩)::(some ⟨y15, bt5, []⟩)::(nS 188 ([])))⟩
def z1cd (t7 : Int) (t8 : Int) (bt3 : Zt20) (bt4 : Zt18) (bt5 : Zt18) : State := ⟨uS 3 ([.ptr 4 y12 []]::[.ptr 5 y15 []]::[.ptr 6 y15 []]::(uS 1 ([.dat (.int .i64) t7 []]::[.dat (.int .i64) t8 []]::(uS 185 ([]))))), nS 4 ((some ⟨y12, bt3, []⟩)::(some ⟨y15, bt4, []⟩)::(some ⟨y15, bt5, []⟩)::(nS 188 ([])))⟩
def z16d (t7 : Int) (t8 : Int) (t65 : Bool) (bt3 : Zt20) (bt4 : Zt18) (bt5 : Zt18) : State := ⟨uS 3 ([.ptr 4 y12 []]::[.ptr 5 y15 []]::[.ptr 6 y15 []]::(uS 1 ([.dat (.int .i64) t7 []]::[.dat (.int .i64) t8 []]::(uS 56 ([.dat .bool t65 []]::(uS 128 ([]))))))), nS 4 ((some ⟨y12, bt3, []⟩)::(some ⟨y15, bt4, []⟩)::(some ⟨y15, bt5, []⟩)::(nS 188 ([])))⟩
def z1df (t7 : Int) (t8 : Int) (bt3 : Zt20) (bt4 : Zt18) (bt5 : Zt18) : State := ⟨uS 3 ([.ptr 4 y12 []]::[.ptr 5 y15 []]::[.ptr 6 y15 []]::(uS 1 ([.dat (.int .i64) t7 []]::[.dat (.int .i64) t8 []]::(uS 185 ([]))))), nS 4 ((some ⟨y12, bt3, []⟩)::(some ⟨y15, bt4, []⟩)::(some ⟨y15, bt5, []⟩)::(nS 188 ([])))⟩
end Go.Proofs.YtkgpjibbdpikcaaGreatDoor
namespace Go.Proofs.YtkgpjibbdpikcaaGreatDoor
open Go Go.Ref Groat
def z1at (t7 : Int) (t8 : Int) (t84 : Bool) (bt3 : Zt20) (bt4 : Zt18) (bt5 : Zt18) : State := ⟨uS 3 ([.ptr 4 y12 []]::[.ptr 5 y15 []]::[.ptr 6 y15 []]::(uS 1 ([.dat (.int .i64) t7 []]::[.dat (.int .i64) t8 []]::(uS 75 ([.dat .bool t84 []]::(uS 109 ([]))))))), nS 4 ((some ⟨y12, bt3, []⟩)::(some ⟨y15, bt4, []⟩)::(some ⟨y15, bt5, []⟩)::(nS 188 ([])))⟩
def z1d2 (t7 : Int) (t8 : Int) (bt3 : Zt20) (bt4 : Zt18) (bt5 : Zt18) : State := ⟨uS 3 ([.ptr 4 y12 []]::[.ptr 5 y15 []]::[.ptr 6 y15 []]::(uS 1 ([.dat (.int .i64) t7 []]::[.dat (.int .i64) t8 []]::(uS 185 ([]))))), nS 4 ((some ⟨y12, bt3, []⟩)::(some ⟨y15, bt4, []⟩)::(some ⟨y15, bt5, []⟩)::(nS 188 ([])))⟩
def zjs  : State := ⟨uS 194 [], nS 195 []⟩
def z1db (t140 : Bool) : State := ⟨uS 140 ([.dat .bool t140 []]::(uS 53 ([]))), nS 195 []⟩
def z142 (t7 : Int) (t8 : Int) (t156 : Bool) (bt3 : Zt20) (bt4 : Zt18) (bt5 : Zt18) : State := ⟨uS 3 ([.ptr 4 y12 []]::[.ptr 5 y15 []]::[.ptr 6 y15 []]::(uS 1 ([.dat (.int .i64) t7 []]::[.dat (.int .i64) t8 []]::(uS 147 ([.dat .bool t156 []]::(uS 37 ([]))))))), nS 4 ((some ⟨y12, bt3, []⟩)::(some ⟨y15, bt4, []⟩)::(some ⟨y15, bt5, []⟩)::(nS 188 ([])))⟩
def z13v (t7 : Int) (t8 : Int) (bt3 : Zt20) (bt4 : Zt18) (bt5 : Zt18) : State := ⟨uS 3 ([.ptr 4 y12 []]::[.ptr 5 y15 []]::[.ptr 6 y15 []]::(uS 1 ([.dat (.int .i64) t7 []]::[.dat (.int .i64) t8 []]::(uS 185 ([]))))), nS 4 ((some ⟨y12, bt3, []⟩)::(some ⟨y15, bt4, []⟩)::(some ⟨y15, bt5, []⟩)::(nS 188 ([])))⟩
def z157 (t7 : Int) (t8 : Int) (t13 : Int) (bt3 : Zt20) (bt4 : Zt18) (bt5 : Zt18) : State := ⟨uS 3 ([.ptr 4 y12 []]::[.ptr 5 y15 []]::[.ptr 6 y15 []]::(uS 1 ([.dat (.int .i64) t7 []]::[.dat (.int .i64) t8 []]::(uS 4 ([.dat (.int .i64) t13 []]::(uS 180 ([]))))))), nS 4 ((some ⟨y12, bt3, []⟩)::(some ⟨y15, bt4, []⟩)::(some ⟨y15, bt5, []⟩)::(nS 188 ([])))⟩
def z14r (t7 : Int) (t8 : Int) (t13 : Int) (bt3 : Zt20) (bt4 : Zt18) (bt5 : Zt18) : State := ⟨uS 3 ([.ptr 4 y12 []]::[.ptr 5 y15 []]::[.ptr 6 y15 []]::(uS 1 ([.dat (.int .i64) t7 []]::[.dat (.int .i64) t8 []]::(uS 4 ([.dat (.int .i64) t13 []]::(uS 180 ([]))))))), nS 4 ((some ⟨y12, bt3, []⟩)::(some ⟨y15, bt4, []⟩)::(some ⟨y15, bt5, []⟩)::(nS 188 ([])))⟩
def z15m (t7 : Int) (t8 : Int) (t13 : Int) (bt3 : Zt20) (bt4 : Zt18) (bt5 : Zt18) : State := ⟨uS 3 ([.ptr 4 y12 []]::[.ptr 5 y15 []]::[.ptr 6 y15 []]::(uS 1 ([.dat (.int .i64) t7 []]::[.dat (.int .i64) t8 []]::(uS 4 ([.dat (.int .i64) t13 []]::(uS 180 ([]))))))), nS 4 ((some ⟨y12, bt3, []⟩)::(some ⟨y15, bt4, []⟩)::(some ⟨y15, bt5, []⟩)::(nS 188 ([])))⟩
def zw0 (t7 : Int) (t8 : Int) (t13 : Int) (bt3 : Zt20) (bt4 : Zt18) (bt5 : Zt18) : State := ⟨uS 3 ([.ptr 4 y12 []]::[.ptr 5 y15 []]::[.ptr 6 y15 []]::(uS 1 ([.dat (.int .i64) t7 []]::[.dat (.int .i64) t8 []]::(uS 4 ([.dat (.int .i64) t13 []]::(uS 180 ([]))))))), nS 4 ((some ⟨y12, bt3, []⟩)::(some ⟨y15, bt4, []⟩)::(some ⟨y15, bt5, []⟩)::(nS 188 ([])))⟩
def zp7  : State := ⟨uS 194 [], nS 195 []⟩
def zdn (t6 : Int) : State := ⟨uS 6 ([.dat (.int .i64) t6 []]::(uS 187 ([]))), nS 195 []⟩
theorem z27k (R : Type) (kk : Nat) (r_0 : Zt20) (a_1 : Zt18) (b_2 : Zt18) (K : Kf_ R) : evFn zo (Tb145 R) kk Tryz.f90 zs [.dat y12 r_0 [], .dat y15 a_1 [], .dat y15 b_2 []] none K =
  zas r_0 a_1 b_2 (fun a0 a1 a2 a3 => joinK kk fun _ => ev zo (Tb145 R) kk (sub [1, 0, 1] zs) (z1am a0 a1 a2 a3) (kSeq zo (Tb145 R) kk (sub [1, 1] zs) (kFin zo Tryz.f90.results.toList none K))) := by kernel_rfl
theorem z1vp (R : Type) (kk : Nat) (t23 : Bool) (bt3 : Zt20) (bt4 : Zt18) (bt5 : Zt18) (K : Kf_ R) : ev zo (Tb145 R) kk (sub [1, 0, 1] zs) (z1am t23 bt3 bt4 bt5) (kSeq zo (Tb145 R) kk (sub [1, 1] zs) (kFin zo Tryz.f90.results.toList none K)) =
  zi6 t23 bt3 bt4 bt5 (fun a0 => K [.dat (.int .i64) a0 []] none) (fun a0 a1 a2 => joinK kk fun _ => ev zo (Tb145 R) kk (sub [1, 1] zs) (z17p a0 a1 a2) (kFin zo Tryz.f90.results.toList none K)) := by kernel_rfl
theorem z1u4 (R : Type) (kk : Nat) (bt3 : Zt20) (bt4 : Zt18) (bt5 : Zt18) (K : Kf_ R) : ev zo (Tb145 R) kk (sub [1, 1] zs) (z17p bt3 bt4 bt5) (kFin zo Tryz.f90.results.toList none K) =
  zbi bt3 bt4 bt5 (fun a0 a1 a2 a3 a4 a5 => joinK kk fun _ => ev zo (Tb145 R) kk (sub [1, 1, 1, 1, 0, 1] zs) (z1d4 a0 a1 a2 a3 a4 a5) (kSeq zo (Tb145 R) kk (sub [1, 1, 1, 1, 1] zs) (kFin zo Tryz.f90.results.toList none K))) := by kernel_rfl
theorem z1u9 (R : Type) (kk : Nat) (t7 : Int) (t8 : Int) (t48 : Bool) (bt3 : Zt20) (bt4 : Zt18) (bt5 : Zt18) (K : Kf_ R) : ev zo (Tb145 R) kk (sub [1, 1, 1, 1, 0, 1] zs) (z1d4 t7 t8 t48 bt3 bt4 bt5) (kSeq zo (Tb145 R) kk (sub [1, 1, 1, 1, 1] zs) (kFin zo Tryz.f90.results.toList none K)) =
  zii t7 t8 t48 bt3 bt4 bt5 (fun a0 => K [.dat (.int .i64) a0 []] none) (fun a0 a1 a2 a3 a4 => joinK kk fun _ => ev zo (Tb145 R) kk (sub [1, 1, 1, 1, 1] zs) (z1cd a0 a1 a2 a3 a4) (kFin zo Tryz.f90.results.toList none K)) := by kernel_rfl
theorem z1to (R : Type) (kk : Nat) (t7 : Int) (t8 : Int) (bt3 : Zt20) (bt4 : Zt18) (bt5 : Zt18) (K : Kf_ R) : ev zo (Tb145 R) kk (sub [1, 1, 1, 1, 1] zs) (z1cd t7 t8 bt3 bt4 bt5) (kFin zo Tryz.f90.results.toList none K) =
  za3 t7 t8 bt3 bt4 bt5 (fun a0 a1 a2 a3 a4 a5 => joinK kk fun _ => ev zo (Tb145 R) kk (sub [1, 1, 1, 1, 1, 0, 1] zs) (z16d a0 a1 a2 a3 a4 a5) (kSeq zo (Tb145 R) kk (sub [1, 1, 1, 1, 1, 1] zs) (kFin zo Tryz.f90.results.toList none K))) := by kernel_rfl
theorem z1ue (R : Type) (kk : Nat) (t7 : Int) (t8 : Int) (t65 : Bool) (bt3 : Zt20) (bt4 : Zt18) (bt5 : Zt18) (K : Kf_ R) : ev zo (Tb145 R) kk (sub [1, 1, 1, 1, 1, 0, 1] zs) (z16d t7 t8 t65 bt3 bt4 bt5) (kSeq zo (Tb145 R) kk (sub [1, 1, 1, 1, 1, 1] zs) (kFin zo Tryz.f90.results.toList none K)) =
  zhx t7 t8 t65 bt3 bt4 bt5 (fun a0 => K [.dat (.int .i64) a0 []] none) (fun a0 a1 a2 a3 a4 => joinK kk fun _ => ev zo (Tb145 R) kk (sub [1, 1, 1, 1, 1, 1] zs) (z1df a0 a1 a2 a3 a4) (kFin zo Tryz.f90.results.toList none K)) := by kernel_rfl
theorem z1vr (R : Type) (kk : Nat) (t7 : Int) (t8 : Int) (bt3 : Zt20) (bt4 : Zt18) (bt5 : Zt18) (K : Kf_ R) : ev zo (Tb145 R) kk (sub [1, 1, 1, 1, 1, 1] zs) (z1df t7 t8 bt3 bt4 bt5) (kFin zo Tryz.f90.results.toList none K) =
  zba t7 t8 bt3 bt4 bt5 (fun a0 a1 a2 a3 a4 a5 => joinK kk fun _ => ev zo (Tb145 R) kk (sub [1, 1, 1, 1, 1, 1, 0, 1] zs) (z1at a0 a1 a2 a3 a4 a5) (kSeq zo (Tb145 R) kk (sub [1, 1, 1, 1, 1, 1, 1] zs) (kFin zo Tryz.f90.results.toList none K))) := by kernel_rfl
theorem z1w0 (R : Type) (kk : Nat) (t7 : Int) (t8 : Int) (t84 : Bool) (bt3 : Zt20) (bt4 : Zt18) (bt5 : Zt18) (K : Kf_ R) : ev zo (Tb145 R) kk (sub [1, 1, 1, 1, 1, 1, 0, 1] zs) (z1at t7 t8 t84 bt3 bt4 bt5) (kSeq zo (Tb145 R) kk (sub [1, 1, 1, 1, 1, 1, 1] zs) (kFin zo Tryz.f90.results.toList none K)) =
  zfg t7 t8 t84 bt3 bt4 bt5 (fun a0 => K [.dat (.int .i64) a0 []] none) (fun a0 a1 a2 a3 a4 => joinK kk fun _ => ev zo (Tb145 R) kk (sub [1, 1, 1, 1, 1, 1, 1] zs) (z1d2 a0 a1 a2 a3 a4) (kFin zo Tryz.f90.results.toList none K)) := by kernel_rfl
theorem z1u3 (R : Type) (kk : Nat) (t7 : Int) (t8 : Int) (bt3 : Zt20) (bt4 : Zt18) (bt5 : Zt18) (K : Kf_ R) : ev zo (Tb145 R) kk (sub [1, 1, 1, 1, 1, 1, 1] zs) (z1d2 t7 t8 bt3 bt4 bt5) (kFin zo Tryz.f90.results.toList none K) =
  za7 t7 t8 bt3 bt4 bt5 (fun a0 => K [.dat (.int .i64) a0 []] none) (joinK kk fun _ => ev zo (Tb145 R) kk (sub [1, 1, 1, 1, 1, 1, 1, 1] zs) (zjs) (kFin zo Tryz.f90.results.toList none K)) (fun a0 => joinK kk fun _ => ev zo (Tb145 R) kk (sub [1, 1, 1, 1, 1, 1, 1, 0, 1, 0, 1, 1, 1, 1, 1, 0, 1, 1, 1] zs) (z1db a0) (zi 0 (kSeq zo (Tb145 R) kk (sub [1, 1, 1, 1, 1, 1, 1, 1] zs) (kFin zo Tryz.f90.results.toList none K)))) (fun a0 a1 a2 a3 a4 a5 => joinK kk fun _ => ev zo (Tb145 R) kk (sub [1, 1, 1, 1, 1, 1, 1, 0, 1, 0, 1, 1, 1, 1, 1, 1, 1, 0, 0, 1, 1] zs) (z142 a0 a1 a2 a3 a4 a5) (kSeq zo (Tb145 R) kk (sub [1, 1, 1, 1, 1, 1, 1, 0, 1, 0, 1, 1, 1, 1, 1, 1, 1, 0, 1] zs) (zi 0 (kSeq zo (Tb145 R) kk (sub [1, 1, 1, 1, 1, 1, 1, 1] zs) (kFin zo Tryz.f90.results.toList none K))))) := by kernel_rfl
theorem z1w7 (R : Type) (kk : Nat)  (K : Kf_ R) : ev zo (Tb145 R) kk (sub [1, 1, 1, 1, 1, 1, 1, 1] zs) (zjs) (kFin zo Tryz.f90.results.toList none K) =
  zgy (fun a0 => K [.dat (.int .i64) a0 []] none) := by kernel_rfl
theorem z1vx (R : Type) (kk : Nat) (t140 : Bool) (K : Kf_ R) : ev zo (Tb145 R) kk (sub [1, 1, 1, 1, 1, 1, 1, 0, 1, 0, 1, 1, 1, 1, 1, 0, 1, 1, 1] zs) (z1db t140) (zi 0 (kSeq zo (Tb145 R) kk (sub [1, 1, 1, 1, 1, 1, 1, 1] zs) (kFin zo Tryz.f90.results.toList none K))) =
  zcq t140 (fun a0 => K [.dat (.int .i64) a0 []] none) (joinK kk fun _ => ev zo (Tb145 R) kk (sub [1, 1, 1, 1, 1, 1, 1, 1] zs) (zjs) (kFin zo Tryz.f90.results.toList none K)) := by kernel_rfl
theorem z1iz (R : Type) (kk : Nat) (t7 : Int) (t8 : Int) (t156 : Bool) (bt3 : Zt20) (bt4 : Zt18) (bt5 : Zt18) (K : Kf_ R) : ev zo (Tb145 R) kk (sub [1, 1, 1, 1, 1, 1, 1, 0, 1, 0, 1, 1, 1, 1, 1, 1, 1, 0, 0, 1, 1] zs) (z142 t7 t8 t156 bt3 bt4 bt5) (kSeq zo (Tb145 R) kk (sub [1, 1, 1, 1, 1, 1, 1, 0, 1, 0, 1, 1, 1, 1, 1, 1, 1, 0, 1] zs) (zi 0 (kSeq zo (Tb145 R) kk (sub [1, 1, 1, 1, 1, 1, 1, 1] zs) (kFin zo Tryz.f90.results.toList none K)))) =
  zd3 t7 t8 t156 bt3 bt4 bt5 (fun a0 => K [.dat (.int .i64) a0 []] none) (fun a0 a1 a2 a3 a4 => joinK kk fun _ => ev zo (Tb145 R) kk (sub [1, 1, 1, 1, 1, 1, 1, 0, 1, 0, 1, 1, 1, 1, 1, 1, 1, 0, 1] zs) (z13v a0 a1 a2 a3 a4) (zi 0 (kSeq zo (Tb145 R) kk (sub [1, 1, 1, 1, 1, 1, 1, 1] zs) (kFin zo Tryz.f90.results.toList none K)))) := by kernel_rfl
theorem z1l8 (R : Type) (kk : Nat) (t7 : Int) (t8 : Int) (bt3 : Zt20) (bt4 : Zt18) (bt5 : Zt18) (K : Kf_ R) : ev zo (Tb145 R) kk (sub [1, 1, 1, 1, 1, 1, 1, 0, 1, 0, 1, 1, 1, 1, 1, 1, 1, 0, 1] zs) (z13v t7 t8 bt3 bt4 bt5) (zi 0 (kSeq zo (Tb145 R) kk (sub [1, 1, 1, 1, 1, 1, 1, 1] zs) (kFin zo Tryz.f90.results.toList none K))) =
  z82 t7 t8 bt3 bt4 bt5 (fun a0 a1 a2 a3 a4 a5 => loopR (ev zo (Tb145 R) kk (sub [1, 1, 1, 1, 1, 1, 1, 0, 1, 0, 1, 1, 1, 1, 1, 1, 1, 0, 1, 1, 0, 0] zs)) [3, 4, 5, 7, 8, 13] [6] kk (zw0 a0 a1 a2 a3 a4 a5) (zi 1 (zi 0 (kSeq zo (Tb145 R) kk (sub [1, 1, 1, 1, 1, 1, 1, 1] zs) (kFin zo Tryz.f90.results.toList none K))))) := by kernel_rfl
theorem z1zz (R : Type) (kk k : Nat) (t7 : Int) (t8 : Int) (t13 : Int) (bt3 : Zt20) (bt4 : Zt18) (bt5 : Zt18) (K : Kx_ R) : loopR (ev zo (Tb145 R) kk (sub [1, 1, 1, 1, 1, 1, 1, 0, 1, 0, 1, 1, 1, 1, 1, 1, 1, 0, 1, 1, 0, 0] zs)) [3, 4, 5, 7, 8, 13] [6] (k + 1) (zw0 t7 t8 t13 bt3 bt4 bt5) K =
  z5x t7 t8 t13 bt3 bt4 bt5 (fun a0 a1 a2 a3 a4 a5 => joinK kk fun _ => ev zo (Tb145 R) kk (sub [1, 1, 1, 1, 1, 1, 1, 0, 1, 0, 1, 1, 1, 1, 1, 1, 1, 0, 1, 1, 0, 0, 1] zs) (z157 a0 a1 a2 a3 a4 a5) (kLoop (ev zo (Tb145 R) kk (sub [1, 1, 1, 1, 1, 1, 1, 0, 1, 0, 1, 1, 1, 1, 1, 1, 1, 0, 1, 1, 0, 0] zs)) [3, 4, 5, 7, 8, 13] [6] k K)) (K (.exit 1) (zp7)) := by kernel_rfl
theorem z13d (R : Type) (kk k : Nat) (t7 : Int) (t8 : Int) (t13 : Int) (bt3 : Zt20) (bt4 : Zt18) (bt5 : Zt18) (K : Kx_ R) : ev zo (Tb145 R) kk (sub [1, 1, 1, 1, 1, 1, 1, 0, 1, 0, 1, 1, 1, 1, 1, 1, 1, 0, 1, 1, 0, 0, 1] zs) (z157 t7 t8 t13 bt3 bt4 bt5) (kLoop (ev zo (Tb145 R) kk (sub [1, 1, 1, 1, 1, 1, 1, 0, 1, 0, 1, 1, 1, 1, 1, 1, 1, 0, 1, 1, 0, 0] zs)) [3, 4, 5, 7, 8, 13] [6] k K) =
  z7o t7 t8 t13 bt3 bt4 bt5 (fun a0 => K .ret (zdn a0)) (fun a0 a1 a2 a3 a4 a5 => joinK kk fun _ => ev zo (Tb145 R) kk (sub [1, 1, 1, 1, 1, 1, 1, 0, 1, 0, 1, 1, 1, 1, 1, 1, 1, 0, 1, 1, 0, 0, 1, 0, 0, 1] zs) (z14r a0 a1 a2 a3 a4 a5) (zi 2 (kSeq zo (Tb145 R) kk (sub [1, 1, 1, 1, 1, 1, 1, 0, 1, 0, 1, 1, 1, 1, 1, 1, 1, 0, 1, 1, 0, 0, 1, 1] zs) (kLoop (ev zo (Tb145 R) kk (sub [1, 1, 1, 1, 1, 1, 1, 0, 1, 0, 1, 1, 1, 1, 1, 1, 1, 0, 1, 1, 0, 0] zs)) [3, 4, 5, 7, 8, 13] [6] k K)))) := by kernel_rfl
theorem z1jt (R : Type) (kk : Nat)  (K : Kf_ R) : (zi 1 (zi 0 (kSeq zo (Tb145 R) kk (sub [1, 1, 1, 1, 1, 1, 1, 1] zs) (kFin zo Tryz.f90.results.toList none K)))) (.exit 1) (zp7) =
  zc6 (joinK kk fun _ => ev zo (Tb145 R) kk (sub [1, 1, 1, 1, 1, 1, 1, 1] zs) (zjs) (kFin zo Tryz.f90.results.toList none K)) := by kernel_rfl
theorem z1sw (R : Type) (kk : Nat) (t6 : Int) (K : Kf_ R) : (zi 1 (zi 0 (kSeq zo (Tb145 R) kk (sub [1, 1, 1, 1, 1, 1, 1, 1] zs) (kFin zo Tryz.f90.results.toList none K)))) .ret (zdn t6) =
  zcl t6 (fun a0 => K [.dat (.int .i64) a0 []] none) := by kernel_rfl
theorem z15r (R : Type) (kk k : Nat) (t7 : Int) (t8 : Int) (t13 : Int) (bt3 : Zt20) (bt4 : Zt18) (bt5 : Zt18) (K : Kx_ R) : ev zo (Tb145 R) kk (sub [1, 1, 1, 1, 1, 1, 1, 0, 1, 0, 1, 1, 1, 1, 1, 1, 1, 0, 1, 1, 0, 0, 1, 0, 0, 1] zs) (z14r t7 t8 t13 bt3 bt4 bt5) (zi 2 (kSeq zo (Tb145 R) kk (sub [1, 1, 1, 1, 1, 1, 1, 0, 1, 0, 1, 1, 1, 1, 1, 1, 1, 0, 1, 1, 0, 0, 1, 1] zs) (kLoop (ev zo (Tb145 R) kk (sub [1, 1, 1, 1, 1, 1, 1, 0, 1, 0, 1, 1, 1, 1, 1, 1, 1, 0, 1, 1, 0, 0] zs)) [3, 4, 5, 7, 8, 13] [6] k K))) =
  z88 t7 t8 t13 bt3 bt4 bt5 (fun a0 => K .ret (zdn a0)) (fun a0 a1 a2 a3 a4 a5 => joinK kk fun _ => ev zo (Tb145 R) kk (sub [1, 1, 1, 1, 1, 1, 1, 0, 1, 0, 1, 1, 1, 1, 1, 1, 1, 0, 1, 1, 0, 0, 1, 1] zs) (z15m a0 a1 a2 a3 a4 a5) (kLoop (ev zo (Tb145 R) kk (sub [1, 1, 1, 1, 1, 1, 1, 0, 1, 0, 1, 1, 1, 1, 1, 1, 1, 0, 1, 1, 0, 0] zs)) [3, 4, 5, 7, 8, 13] [6] k K)) := by kernel_rfl
theorem z147 (R : Type) (kk k : Nat) (t7 : Int) (t8 : Int) (t13 : Int) (bt3 : Zt20) (bt4 : Zt18) (bt5 : Zt18) (K : Kx_ R) : ev zo (Tb145 R) kk (sub [1, 1, 1, 1, 1, 1, 1, 0, 1, 0, 1, 1, 1, 1, 1, 1, 1, 0, 1, 1, 0, 0, 1, 1] zs) (z15m t7 t8 t13 bt3 bt4 bt5) (kLoop (ev zo (Tb145 R) kk (sub [1, 1, 1, 1, 1, 1, 1, 0, 1, 0, 1, 1, 1, 1, 1, 1, 1, 0, 1, 1, 0, 0] zs)) [3, 4, 5, 7, 8, 13] [6] k K) =
  z8r t7 t8 t13 bt3 bt4 bt5 (fun a0 a1 a2 a3 a4 a5 => loopR (ev zo (Tb145 R) kk (sub [1, 1, 1, 1, 1, 1, 1, 0, 1, 0, 1, 1, 1, 1, 1, 1, 1, 0, 1, 1, 0, 0] zs)) [3, 4, 5, 7, 8, 13] [6] k (zw0 a0 a1 a2 a3 a4 a5) K) := by kernel_rfl
theorem z1u8 (R : Type) (k : Nat) (t7 : Int) (t8 : Int) (t13 : Int) (bt3 : Zt20) (bt4 : Zt18) (bt5 : Zt18) (K : Kx_ R) : loopR (ev zo (Tb145 R) FUEL (sub [1, 1, 1, 1, 1, 1, 1, 0, 1, 0, 1, 1, 1, 1, 1, 1, 1, 0, 1, 1, 0, 0] zs)) [3, 4, 5, 7, 8, 13] [6] k (zw0 t7 t8 t13 bt3 bt4 bt5) K = (z4a k t7 t8 t13 bt3 bt4 bt5).bind fun e => (Sum.elim (fun (we : Unit) => K (.exit 1) (zp7)) (fun (we : Int) => K .ret (zdn we)) e) := by
  induction k generalizing t7 t8 t13 bt3 bt4 bt5 with
  | zero => rfl
  | succ k ih =>
    rw [z1zz]
    simp only [z4a, zpz, ztf, zl4, zmf, znx, zon, zrb, zsm, zsi, zt1, zkk, zkg, zke, zkj, zkh, zkf, zkl, zkd, zkm, ih, z13d, z15r, z147, z10l, z8, z6, zd, z7, ze, zc, Sum.elim_inl, Sum.elim_inr]
theorem z1xl (R : Type) (r_0 : Zt20) (a_1 : Zt18) (b_2 : Zt18) (K : Kf_ R) : evFn zo (Tb145 R) FUEL Tryz.f90 zs [.dat y12 r_0 [], .dat y15 a_1 [], .dat y15 b_2 []] none K = (Q166 r_0 a_1 b_2).bind fun r => K [.dat (.int .i64) r []] none := by
  rw [z27k]
  simp only [Q166, zpz, ztf, zl4, zmf, znx, zon, zrb, zsm, zsi, zt1, zkk, zkg, zke, zkj, zkh, zkf, zkl, zkd, zkm, z1u8, z12i, zvy, z60, zhf, z12f, z8k, z124, zi8, ztx, z12r, zy8, zc3, z1vp, z1u4, z1u9, z1to, z1ue, z1vr, z1w0, z1u3, z1w7, z1vx, z1iz, z1l8, z13d, z1jt, z1sw, z15r, z147, z10l, z8, z6, zd, z7, ze, zc, Sum.elim_inl, Sum.elim_inr]
def z1ms : Pure := fun R l b K => noBox b (args3 y12 y15 y15 l (fun x0 x1 x2 => (Q166 x0 x1 x2).bind fun r => K [.dat (.int .i64) r []] none))
theorem z27i : z1ms.Nat := fun R S l b F G K h => zh (z17 fun _ _ _ => zg fun _ => h _ _)
def Tb146 : Funs := Tb145.add 90 [y12, y15, y15] z1ms
theorem z15h : Tb146.Nat := zl z15n z27i
theorem z1g7 : ∀ f, Owes Tryz.prog Tb146 f := zk (E := zo) ((Tab.env_ok zm _ _ _ _).join _) mixed z15n z1ft (fn := Tryz.f90) (code := zs) Tryz.func90 (by kernel_rfl) (by kernel_rfl) fun l b r b' h => by
  obtain ⟨rfl, h⟩ := zf h
  obtain ⟨x0, x1, x2, h1, h2⟩ := own3 (E := zo) rfl h
  exact ⟨FUEL, (h2 _ _ _ _ _ _).trans ((z1xl _ x0 x1 x2 _).trans h1)⟩
noncomputable abbrev z19i : Code := Tryz.f91.body.getD .skip
def z11h : Env := tab.env (fun _ => []) (fun _ => []) [] [y12, y12]
theorem z26n (R : Type) (kk : Nat) (a_0 : Zt20) (b_1 : Zt20) (K : Kf_ R) : evFn z11h (Tb146 R) kk Tryz.f91 z19i [.dat y12 a_0 [], .dat y12 b_1 []] none K =
  zbb a_0 b_1 (fun a0 => K [.dat .bool a0 []] none) := by kernel_rfl
theorem z203 (R : Type) (a_0 : Zt20) (b_1 : Zt20) (K : Kf_ R) : evFn z11h (Tb146 R) FUEL Tryz.f91 z19i [.dat y12 a_0 [], .dat y12 b_1 []] none K = (Q175 a_0 b_1).bind fun r => K [.dat .bool r []] none := by
  rw [z26n]
  simp only [Q175, z19z, z8, z6, zd, z7, ze, zc, Sum.elim_inl, Sum.elim_inr]
def z1ks : Pure := fun R l b K => noBox b (args2 y12 y12 l (fun x0 x1 => (Q175 x0 x1).bind fun r => K [.dat .bool r []] none))
theorem z26o : z1ks.Nat := fun R S l b F G K h => zh (zq fun _ _ => zg fun _ => h _ _)
def Tb147 : Funs := Tb146.add 91 [y12, y12] z1ks
theorem z158 : Tb147.Nat := zl z15h z26o
theorem z1hu : ∀ f, Owes Tryz.prog Tb147 f := zk (E := z11h) (Tab.env_ok zm _ _ _ _) mixed z15h z1g7 (fn := Tryz.f91) (code := z19i) Tryz.func91 (by kernel_rfl) (by kernel_rfl) fun l b r b' h => by
  obtain ⟨rfl, h⟩ := zf h
  obtain ⟨x0, x1, h1, h2⟩ := own2 (E := z11h) rfl h
  exact ⟨FUEL, (h2 _ _ _ _ _ _).trans ((z203 _ x0 x1 _).trans h1)⟩
noncomputable abbrev z1e : Code := Tryz.f35.body.getD .skip
def z14 : Env := tab.env (fun i => bif Nat.beq i 8 then [3, 4, 5, 9] else bif Nat.beq i 19 then [3, 4, 5, 13] else bif Nat.beq i 25 then [3, 4, 5, 13, 15] else []) (fun i => bif Nat.beq i 8 then [3, 4, 5, 6, 7, 8] else bif Nat.beq i 19 then [6, 7, 8] else bif Nat.beq i 25 then [3, 4, 5, 6, 7, 8, 13] else []) [] [y16, y15, y15]
def zuv (t9 : Int) (bt3 : Zt24) (bt4 : Zt18) (bt5 : Zt18) : State := ⟨uS 3 ([.ptr 4 y16 []]::[.ptr 5 y15 []]::[.ptr 6 y15 []]::(uS 3 ([.dat (.int .i64) t9 []]::(uS 104 ([]))))), nS 4 ((some ⟨y16, bt3, []⟩)::(some ⟨y15, bt4, []⟩)::(some ⟨y15, bt5, []⟩)::(nS 108 ([])))⟩
def zs7 (t6 : Int) (t7 : Int) (t8 : Int) (bt3 : Zt24) (bt4 : Zt18) (bt5 : Zt18) : State := ⟨uS 3 ([.ptr 4 y16 []]::[.ptr 5 y15 []]::[.ptr 6 y15 []]::[.dat (.int .i64) t6 []]::[.dat (.int .i64) t7 []]::[.dat (.int .i64) t8 []]::(uS 105 ([]))), nS 4 ((some ⟨y16, bt3, []⟩)::(some ⟨y15, bt4, []⟩)::(some ⟨y15, bt5, []⟩)::(nS 108 ([])))⟩
def zlk (bt3 : Zt24) (bt4 : Zt18) (bt5 : Zt18) : State := ⟨uS 3 ([.ptr 4 y16 []]::[.ptr 5 y15 []]::[.ptr 6 y15 []]::(uS 108 ([]))), nS 4 ((some ⟨y16, bt3, []⟩)::(some ⟨y15, bt4, []⟩)::(some ⟨y15, bt5, []⟩)::(nS 108 ([])))⟩
def zul (t13 : Int) (bt3 : Zt24) (bt4 : Zt18) (bt5 : Zt18) : State := ⟨uS 3 ([.ptr 4 y16 []]::[.ptr 5 y15 []]::[.ptr 6 y15 []]::(uS 7 ([.dat (.int .i64) t13 []]::(uS 100 ([]))))), nS 4 ((some ⟨y16, bt3, []⟩)::(some ⟨y15, bt4, []⟩)::(some ⟨y15, bt5, []⟩)::(nS 108 ([])))⟩
def zdg (t6 : Int) (t7 : Int) (t8 : Int) : State := ⟨uS 6 ([.dat (.int .i64) t6 []]::[.dat (.int .i64) t7 []]::[.dat (.int .i64) t8 []]::(uS 105 ([]))), nS 115 []⟩
def zsa  : State := ⟨uS 114 [], nS 115 []⟩
def zwf (t13 : Int) (t15 : Int) (bt3 : Zt24) (bt4 : Zt18) (bt5 : Zt18) : State := ⟨uS 3 ([.ptr 4 y16 []]::[.ptr 5 y15 []]::[.ptr 6 y15 []]::(uS 7 ([.dat (.int .i64) t13 []]::(uS 1 ([.dat (.int .i64) t15 []]::(uS 98 ([]))))))), nS 4 ((some ⟨y16, bt3, []⟩)::(some ⟨y15, bt4, []⟩)::(some ⟨y15, bt5, []⟩)::(nS 108 ([])))⟩
def zpe (t6 : Int) (t7 : Int) (t8 : Int) (t13 : Int) (bt3 : Zt24) (bt4 : Zt18) (bt5 : Zt18) : State := ⟨uS 3 ([.ptr 4 y16 []]::[.ptr 5 y15 []]::[.ptr 6 y15 []]::[.dat (.int .i64) t6 []]::[.dat (.int .i64) t7 []]::[.dat (.int .i64) t8 []]::(uS 4 ([.dat (.int .i64) t13 []]::(uS 100 ([]))))), nS 4 ((some ⟨y16, bt3, []⟩)::(some ⟨y15, bt4, []⟩)::(some ⟨y15, bt5, []⟩)::(nS 108 ([])))⟩
def zt3 (t13 : Int) (bt3 : Zt24) (bt4 : Zt18) (bt5 : Zt18) : State := ⟨uS 3 ([.ptr 4 y16 []]::[.ptr 5 y15 []]::[.ptr 6 y15 []]::(uS 7 ([.dat (.int .i64) t13 []]::(uS 100 ([]))))), nS 4 ((some ⟨y16, bt3, []⟩)::(some ⟨y15, bt4, []⟩)::(some ⟨y15, bt5, []⟩)::(nS 108 ([])))⟩
theorem z26h (R : Type) (kk : Nat) (m_0 : Zt24) (a_1 : Zt18) (b_2 : Zt18) (K : Kf_ R) : evFn z14 (Tb147 R) kk Tryz.f35 z1e [.dat y16 m_0 [], .dat y15 a_1 [], .dat y15 b_2 []] none K =
  z9j m_0 a_1 b_2 (fun a0 a1 a2 => K [.dat (.int .i64) a0 [], .dat (.int .i64) a1 [], .dat (.int .i64) a2 []] none) (fun a0 a1 a2 a3 => loopR (ev z14 (Tb147 R) kk (sub [1, 1, 1, 1, 0, 1, 0, 0] z1e)) [3, 4, 5, 9] [3, 4, 5, 6, 7, 8] kk (zuv a0 a1 a2 a3) (zi 0 (kSeq z14 (Tb147 R) kk (sub [1, 1, 1, 1, 1] z1e) (kFin z14 Tryz.f35.results.toList none K)))) := by kernel_rfl
theorem z223 (R : Type) (kk k : Nat) (t9 : Int) (bt3 : Zt24) (bt4 : Zt18) (bt5 : Zt18) (K : Kx_ R) : loopR (ev z14 (Tb147 R) kk (sub [1, 1, 1, 1, 0, 1, 0, 0] z1e)) [3, 4, 5, 9] [3, 4, 5, 6, 7, 8] (k + 1) (zuv t9 bt3 bt4 bt5) K =
  z8x t9 bt3 bt4 bt5 (fun a0 a1 a2 a3 a4 a5 => K .ret (zs7 a0 a1 a2 a3 a4 a5)) (fun a0 a1 a2 a3 => loopR (ev z14 (Tb147 R) kk (sub [1, 1, 1, 1, 0, 1, 0, 0] z1e)) [3, 4, 5, 9] [3, 4, 5, 6, 7, 8] k (zuv a0 a1 a2 a3) K) (fun a0 a1 a2 => K (.exit 0) (zlk a0 a1 a2)) := by kernel_rfl
theorem z1lx (R : Type) (kk : Nat) (t6 : Int) (t7 : Int) (t8 : Int) (bt3 : Zt24) (bt4 : Zt18) (bt5 : Zt18) (K : Kf_ R) : (zi 0 (kSeq z14 (Tb147 R) kk (sub [1, 1, 1, 1, 1] z1e) (kFin z14 Tryz.f35.results.toList none K))) .ret (zs7 t6 t7 t8 bt3 bt4 bt5) =
  zin t6 t7 t8 bt3 bt4 bt5 (fun a0 a1 a2 => K [.dat (.int .i64) a0 [], .dat (.int .i64) a1 [], .dat (.int .i64) a2 []] none) := by kernel_rfl
theorem z1ra (R : Type) (kk : Nat) (bt3 : Zt24) (bt4 : Zt18) (bt5 : Zt18) (K : Kf_ R) : (zi 0 (kSeq z14 (Tb147 R) kk (sub [1, 1, 1, 1, 1] z1e) (kFin z14 Tryz.f35.results.toList none K))) (.exit 0) (zlk bt3 bt4 bt5) =
  zbc bt3 bt4 bt5 (fun a0 a1 a2 => K [.dat (.int .i64) a0 [], .dat (.int .i64) a1 [], .dat (.int .i64) a2 []] none) (fun a0 a1 a2 a3 => loopR (ev z14 (Tb147 R) kk (sub [1, 1, 1, 1, 1, 1, 0, 1, 0, 0] z1e)) [3, 4, 5, 13] [6, 7, 8] kk (zul a0 a1 a2 a3) (zi 2 (kSeq z14 (Tb147 R) kk (sub [1, 1, 1, 1, 1, 1, 1] z1e) (kFin z14 Tryz.f35.results.toList none K)))) := by kernel_rfl
theorem z1x5 (R : Type) (kk k : Nat) (t13 : Int) (bt3 : Zt24) (bt4 : Zt18) (bt5 : Zt18) (K : Kx_ R) : loopR (ev z14 (Tb147 R) kk (sub [1, 1, 1, 1, 1, 1, 0, 1, 0, 0] z1e)) [3, 4, 5, 13] [6, 7, 8] (k + 1) (zul t13 bt3 bt4 bt5) K =
  z7s t13 bt3 bt4 bt5 (fun a0 a1 a2 => K .ret (zdg a0 a1 a2)) (fun a0 a1 a2 a3 a4 => loopR (ev z14 (Tb147 R) kk (sub [1, 1, 1, 1, 1, 1, 0, 1, 0, 0, 1, 0, 0, 1, 1, 0, 0] z1e)) [3, 4, 5, 13, 15] [3, 4, 5, 6, 7, 8, 13] kk (zwf a0 a1 a2 a3 a4) (zi 4 (zi 3 (kSeq z14 (Tb147 R) kk (sub [1, 1, 1, 1, 1, 1, 0, 1, 0, 0, 1, 1] z1e) (kLoop (ev z14 (Tb147 R) kk (sub [1, 1, 1, 1, 1, 1, 0, 1, 0, 0] z1e)) [3, 4, 5, 13] [6, 7, 8] k K))))) (K (.exit 2) (zsa)) := by kernel_rfl
theorem z1ig (R : Type) (kk : Nat) (t6 : Int) (t7 : Int) (t8 : Int) (K : Kf_ R) : (zi 2 (kSeq z14 (Tb147 R) kk (sub [1, 1, 1, 1, 1, 1, 1] z1e) (kFin z14 Tryz.f35.results.toList none K))) .ret (zdg t6 t7 t8) =
  zej t6 t7 t8 (fun a0 a1 a2 => K [.dat (.int .i64) a0 [], .dat (.int .i64) a1 [], .dat (.int .i64) a2 []] none) := by kernel_rfl
theorem z1q2 (R : Type) (kk : Nat)  (K : Kf_ R) : (zi 2 (kSeq z14 (Tb147 R) kk (sub [1, 1, 1, 1, 1, 1, 1] z1e) (kFin z14 Tryz.f35.results.toList none K))) (.exit 2) (zsa) =
  zi5 (fun a0 a1 a2 => K [.dat (.int .i64) a0 [], .dat (.int .i64) a1 [], .dat (.int .i64) a2 []] none) := by kernel_rfl
theorem z229 (R : Type) (kk k : Nat) (t13 : Int) (t15 : Int) (bt3 : Zt24) (bt4 : Zt18) (bt5 : Zt18) (K : Kx_ R) : loopR (ev z14 (Tb147 R) kk (sub [1, 1, 1, 1, 1, 1, 0, 1, 0, 0, 1, 0, 0, 1, 1, 0, 0] z1e)) [3, 4, 5, 13, 15] [3, 4, 5, 6, 7, 8, 13] (k + 1) (zwf t13 t15 bt3 bt4 bt5) K =
  z8s t13 t15 bt3 bt4 bt5 (fun a0 a1 a2 a3 a4 a5 a6 => K .ret (zpe a0 a1 a2 a3 a4 a5 a6)) (fun a0 a1 a2 a3 a4 => loopR (ev z14 (Tb147 R) kk (sub [1, 1, 1, 1, 1, 1, 0, 1, 0, 0, 1, 0, 0, 1, 1, 0, 0] z1e)) [3, 4, 5, 13, 15] [3, 4, 5, 6, 7, 8, 13] k (zwf a0 a1 a2 a3 a4) K) (fun a0 a1 a2 a3 => K (.exit 4) (zt3 a0 a1 a2 a3)) := by kernel_rfl
theorem z14n (R : Type) (kk k : Nat) (t6 : Int) (t7 : Int) (t8 : Int) (t13 : Int) (bt3 : Zt24) (bt4 : Zt18) (bt5 : Zt18) (K : Kx_ R) : (zi 4 (zi 3 (kSeq z14 (Tb147 R) kk (sub [1, 1, 1, 1, 1, 1, 0, 1, 0, 0, 1, 1] z1e) (kLoop (ev z14 (Tb147 R) kk (sub [1, 1, 1, 1, 1, 1, 0, 1, 0, 0] z1e)) [3, 4, 5, 13] [6, 7, 8] k K)))) .ret (zpe t6 t7 t8 t13 bt3 bt4 bt5) =
  zh5 t6 t7 t8 t13 bt3 bt4 bt5 (fun a0 a1 a2 => K .ret (zdg a0 a1 a2)) := by kernel_rfl
theorem z14u (R : Type) (kk k : Nat) (t13 : Int) (bt3 : Zt24) (bt4 : Zt18) (bt5 : Zt18) (K : Kx_ R) : (zi 4 (zi 3 (kSeq z14 (Tb147 R) kk (sub [1, 1, 1, 1, 1, 1, 0, 1, 0, 0, 1, 1] z1e) (kLoop (ev z14 (Tb147 R) kk (sub [1, 1, 1, 1, 1, 1, 0, 1, 0, 0] z1e)) [3, 4, 5, 13] [6, 7, 8] k K)))) (.exit 4) (zt3 t13 bt3 bt4 bt5) =
  zaj t13 bt3 bt4 bt5 (fun a0 a1 a2 a3 => loopR (ev z14 (Tb147 R) kk (sub [1, 1, 1, 1, 1, 1, 0, 1, 0, 0] z1e)) [3, 4, 5, 13] [6, 7, 8] k (zul a0 a1 a2 a3) K) := by kernel_rfl
theorem z1w5 (R : Type) (k : Nat) (t9 : Int) (bt3 : Zt24) (bt4 : Zt18) (bt5 : Zt18) (K : Kx_ R) : loopR (ev z14 (Tb147 R) FUEL (sub [1, 1, 1, 1, 0, 1, 0, 0] z1e)) [3, 4, 5, 9] [3, 4, 5, 6, 7, 8] k (zuv t9 bt3 bt4 bt5) K = (z7v k t9 bt3 bt4 bt5).bind fun e => (Sum.elim (fun (we : Zt30) => K .ret (zs7 we.1 we.2.1 we.2.2.1 we.2.2.2.1 we.2.2.2.2.1 we.2.2.2.2.2)) (fun (we : Zt28) => K (.exit 0) (zlk we.1 we.2.1 we.2.2)) e) := by
  induction k generalizing t9 bt3 bt4 bt5 with
  | zero => rfl
  | succ k ih =>
    rw [z223]
    simp only [z7v, z6f, z73, z7h, z6q, z6r, z6l, z7d, z6p, z7m, z7e, ih, z8, z6, zd, z7, ze, zc, Sum.elim_inl, Sum.elim_inr]
theorem z17z (R : Type) (k : Nat) (t13 : Int) (t15 : Int) (bt3 : Zt24) (bt4 : Zt18) (bt5 : Zt18) (K : Kx_ R) : loopR (ev z14 (Tb147 R) FUEL (sub [1, 1, 1, 1, 1, 1, 0, 1, 0, 0, 1, 0, 0, 1, 1, 0, 0] z1e)) [3, 4, 5, 13, 15] [3, 4, 5, 6, 7, 8, 13] k (zwf t13 t15 bt3 bt4 bt5) K = (z8g k t13 t15 bt3 bt4 bt5).bind fun e => (Sum.elim (fun (we : (Int × Int × Int × Int × Zt24 × Zt18 × Zt18)) => K .ret (zpe we.1 we.2.1 we.2.2.1 we.2.2.2.1 we.2.2.2.2.1 we.2.2.2.2.2.1 we.2.2.2.2.2.2)) (fun (we : (Int × Zt24 × Zt18 × Zt18)) => K (.exit 4) (zt3 we.1 we.2.1 we.2.2.1 we.2.2.2)) e) := by
  induction k generalizing t13 t15 bt3 bt4 bt5 with
  | zero => rfl
  | succ k ih =>
    rw [z229]
    simp only [z8g, z6f, z73, z7h, z6q, z6r, z6l, z7d, z6p, z7m, z7e, ih, z8, z6, zd, z7, ze, zc, Sum.elim_inl, Sum.elim_inr]
theorem z1tp (R : Type) (k : Nat) (t13 : Int) (bt3 : Zt24) (bt4 : Zt18) (bt5 : Zt18) (K : Kx_ R) : loopR (ev z14 (Tb147 R) FUEL (sub [1, 1, 1, 1, 1, 1, 0, 1, 0, 0] z1e)) [3, 4, 5, 13] [6, 7, 8] k (zul t13 bt3 bt4 bt5) K = (z8b k t13 bt3 bt4 bt5).bind fun e => (Sum.elim (fun (we : Zt1) => K .ret (zdg we.1 we.2.1 we.2.2)) (fun (we : Unit) => K (.exit 2) (zsa)) e) := by
  induction k generalizing t13 bt3 bt4 bt5 with
  | zero => rfl
  | succ k ih =>
    rw [z1x5]
    simp only [z8b, z6f, z73, z7h, z6q, z6r, z6l, z7d, z6p, z7m, z7e, ih, z17z, z14n, z14u, z8, z6, zd, z7, ze, zc, Sum.elim_inl, Sum.elim_inr]
theorem z1yr (R : Type) (m_0 : Zt24) (a_1 : Zt18) (b_2 : Zt18) (K : Kf_ R) : evFn z14 (Tb147 R) FUEL Tryz.f35 z1e [.dat y16 m_0 [], .dat y15 a_1 [], .dat y15 b_2 []] none K = (Q169 m_0 a_1 b_2).bind fun r => K [.dat (.int .i64) r.1 [], .dat (.int .i64) r.2.1 [], .dat (.int .i64) r.2.2 []] none := by
  rw [z26h]
  simp only [Q169, z6f, z73, z7h, z6q, z6r, z6l, z7d, z6p, z7m, z7e, z1w5, z1tp, z17z, z1lx, z1ra, z1ig, z1q2, z14n, z14u, z8, z6, zd, z7, ze, zc, Sum.elim_inl, Sum.elim_inr]
def z1oa : Pure := fun R l b K => noBox b (args3 y16 y15 y15 l (fun x0 x1 x2 => (Q169 x0 x1 x2).bind fun r => K [.dat (.int .i64) r.1 [], .dat (.int .i64) r.2.1 [], .dat (.int .i64) r.2.2 []] none))
theorem z29m : z1oa.Nat := fun R S l b F G K h => zh (z17 fun _ _ _ => zg fun _ => h _ _)
def Tb148 : Funs := Tb147.add 35 [y16, y15, y15] z1oa
theorem z141 : Tb148.Nat := zl z158 z29m
theorem z1fw : ∀ f, Owes Tryz.prog Tb148 f := zk (E := z14) (Tab.env_ok zm _ _ _ _) mixed z158 z1hu (fn := Tryz.f35) (code := z1e) Tryz.func35 (by kernel_rfl) (by kernel_rfl) fun l b r b' h => by
  obtain ⟨rfl, h⟩ := zf h
  obtain ⟨x0, x1, x2, h1, h2⟩ := own3 (E := z14) rfl h
  exact ⟨FUEL, (h2 _ _ _ _ _ _).trans ((z1yr _ x0 x1 x2 _).trans h1)⟩
noncomputable abbrev z5p : Code := Tryz.f13.body.getD .skip
def z2p : Env := tab.env (fun i => bif Nat.beq i 4 then [1, 5] else []) (fun i => bif Nat.beq i 4 then [2, 3, 4] else []) [] [y19]
def zub (t5 : Int) (bt1 : Zt29) : State := ⟨uS 1 ([.ptr 2 y19 []]::(uS 3 ([.dat (.int .i64) t5 []]::(uS 56 ([]))))), nS 2 ((some ⟨y19, bt1, []⟩)::(nS 60 ([])))⟩
def zog (t2 : Int) (t3 : Int) (t4 : Int) : State := ⟨uS 2 ([.dat (.int .i64) t2 []]::[.dat (.int .i64) t3 []]::[.dat (.int .i64) t4 []]::(uS 57 ([]))), nS 63 []⟩
def zp6  : State := ⟨uS 62 [], nS 63 []⟩
theorem z26q (R : Type) (kk : Nat) (c_0 : Zt29) (K : Kf_ R) : evFn z2p (Tb148 R) kk Tryz.f13 z5p [.dat y19 c_0 []] none K =
  za4 c_0 (fun a0 a1 a2 => K [.dat (.int .i64) a0 [], .dat (.int .i64) a1 [], .dat (.int .i64) a2 []] none) (fun a0 a1 => loopR (ev z2p (Tb148 R) kk (sub [1, 1, 0, 1, 0, 0] z5p)) [1, 5] [2, 3, 4] kk (zub a0 a1) (zi 0 (kSeq z2p (Tb148 R) kk (sub [1, 1, 1] z5p) (kFin z2p Tryz.f13.results.toList none K)))) := by kernel_rfl
theorem z21j (R : Type) (kk k : Nat) (t5 : Int) (bt1 : Zt29) (K : Kx_ R) : loopR (ev z2p (Tb148 R) kk (sub [1, 1, 0, 1, 0, 0] z5p)) [1, 5] [2, 3, 4] (k + 1) (zub t5 bt1) K =
  z61 t5 bt1 (fun a0 a1 a2 => K .ret (zog a0 a1 a2)) (fun a0 a1 => loopR (ev z2p (Tb148 R) kk (sub [1, 1, 0, 1, 0, 0] z5p)) [1, 5] [2, 3, 4] k (zub a0 a1) K) (K (.exit 0) (zp6)) := by kernel_rfl
theorem z1pj (R : Type) (kk : Nat) (t2 : Int) (t3 : Int) (t4 : Int) (K : Kf_ R) : (zi 0 (kSeq z2p (Tb148 R) kk (sub [1, 1, 1] z5p) (kFin z2p Tryz.f13.results.toList none K))) .ret (zog t2 t3 t4) =
  ziq t2 t3 t4 (fun a0 a1 a2 => K [.dat (.int .i64) a0 [], .dat (.int .i64) a1 [], .dat (.int .i64) a2 []] none) := by kernel_rfl
theorem z1pn (R : Type) (kk : Nat)  (K : Kf_ R) : (zi 0 (kSeq z2p (Tb148 R) kk (sub [1, 1, 1] z5p) (kFin z2p Tryz.f13.results.toList none K))) (.exit 0) (zp6) =
  zeh (fun a0 a1 a2 => K [.dat (.int .i64) a0 [], .dat (.int .i64) a1 [], .dat (.int .i64) a2 []] none) := by kernel_rfl
theorem z1tr (R : Type) (k : Nat) (t5 : Int) (bt1 : Zt29) (K : Kx_ R) : loopR (ev z2p (Tb148 R) FUEL (sub [1, 1, 0, 1, 0, 0] z5p)) [1, 5] [2, 3, 4] k (zub t5 bt1) K = (z8j k t5 bt1).bind fun e => (Sum.elim (fun (we : Zt1) => K .ret (zog we.1 we.2.1 we.2.2)) (fun (we : Unit) => K (.exit 0) (zp6)) e) := by
  induction k generalizing t5 bt1 with
  | zero => rfl
  | succ k ih =>
    rw [z21j]
    simp only [z8j, zln, zm2, zr3, zqu, ih, z8, z6, zd, z7, ze, zc, Sum.elim_inl, Sum.elim_inr]
theorem z1y2 (R : Type) (c_0 : Zt29) (K : Kf_ R) : evFn z2p (Tb148 R) FUEL Tryz.f13 z5p [.dat y19 c_0 []] none K = (Q187 c_0).bind fun r => K [.dat (.int .i64) r.1 [], .dat (.int .i64) r.2.1 [], .dat (.int .i64) r.2.2 []] none := by
  rw [z26q]
  simp only [Q187, zln, zm2, zr3, zqu, z1tr, z1pj, z1pn, z8, z6, zd, z7, ze, zc, Sum.elim_inl, Sum.elim_inr]
def z1pc : Pure := fun R l b K => noBox b (args1 y19 l (fun x0 => (Q187 x0).bind fun r => K [.dat (.int .i64) r.1 [], .dat (.int .i64) r.2.1 [], .dat (.int .i64) r.2.2 []] none))
theorem z254 : z1pc.Nat := fun R S l b F G K h => zh (zp fun _ => zg fun _ => h _ _)
def Tb149 : Funs := Tb148.add 13 [y19] z1pc
theorem z1lp : Tb149.Nat := zl z141 z254
theorem z1g5 : ∀ f, Owes Tryz.prog Tb149 f := zk (E := z2p) (Tab.env_ok zm _ _ _ _) mixed z141 z1fw (fn := Tryz.f13) (code := z5p) Tryz.func13 (by kernel_rfl) (by kernel_rfl) fun l b r b' h => by
  obtain ⟨rfl, h⟩ := zf h
  obtain ⟨x0, h1, h2⟩ := own1 (E := z2p) rfl h
  exact ⟨FUEL, (h2 _ _ _ _ _ _).trans ((z1y2 _ x0 _).trans h1)⟩
noncomputable abbrev Q92_c : Code := Tryz.f3.body.getD .skip
def Q92_E : Env := tab.env (fun _ => []) (fun _ => []) [] [y19]
theorem Q92_t (R : Type) (kk : Nat) (c_0 : Zt29) (K : Kf_ R) : evFn Q92_E (Tb149 R) kk Tryz.f3 Q92_c [.dat y19 c_0 []] none K =
  zim c_0 (fun a0 => K [.dat .bool a0 []] none) := by kernel_rfl
theorem z29p (R : Type) (c_0 : Zt29) (K : Kf_ R) : evFn Q92_E (Tb149 R) FUEL Tryz.f3 Q92_c [.dat y19 c_0 []] none K = (Q92 c_0).bind fun r => K [.dat .bool r []] none := by
  rw [Q92_t]
  simp only [Q92, z1dt, z8, z6, zd, z7, ze, zc, Sum.elim_inl, Sum.elim_inr]
def Q92_g : Pure := fun R l b K => noBox b (args1 y19 l (fun x0 => (Q92 x0).bind fun r => K [.dat .bool r []] none))
def Tb150 : Funs := Tb149.add 3 [y19] Q92_g
theorem z1h8 : ∀ f, Owes Tryz.prog Tb150 f := zk (E := Q92_E) (Tab.env_ok zm _ _ _ _) mixed z1lp z1g5 (fn := Tryz.f3) (code := Q92_c) Tryz.func3 (by kernel_rfl) (by kernel_rfl) fun l b r b' h => by
  obtain ⟨rfl, h⟩ := zf h
  obtain ⟨x0, h1, h2⟩ := own1 (E := Q92_E) rfl h
  exact ⟨FUEL, (h2 _ _ _ _ _ _).trans ((z29p _ x0 _).trans h1)⟩
end Go.Proofs.YtkgpjibbdpikcaaGreatDoor
