/- No condition. -/
import Derived.Test.YtkgpjibbdpikcaaGreatDoorK3
import Derived.Test.YtkgpjibbdpikcaaGreatDoorProg
set_option linter.unusedVariables false
set_option linter.unusedSimpArgs false
set_option maxRecDepth 100000
namespace Go.Proofs.YtkgpjibbdpikcaaGreatDoor
open Go Go.Ref Groat
abbrev Kf_ (R : Type) : Type := List Go.Ref.SV → Option Go.Ref.Box → Option R
abbrev Kx_ (R : Type) : Type := Go.Ref.Ex → Go.Ref.State → Option R
abbrev uS (n : Nat) (l : List (List Go.Ref.SV)) : List (List Go.Ref.SV) := Nat.rec (motive := fun _ => List (List Go.Ref.SV)) l (fun _ r => [.undef] :: r) n
abbrev nS (n : Nat) (l : List (Option Go.Ref.Box)) : List (Option Go.Ref.Box) := Nat.rec (motive := fun _ => List (Option Go.Ref.Box)) l (fun _ r => none :: r) n
abbrev y0 : Go.Ref.Ty := (.pair (.sl 116 (.pair .str (.pair .str .unit))) .unit)
abbrev y1 : Go.Ref.Ty := (.pair (.sl 96 (.pair (.int .i64) (.pair .str .unit))) .unit)
abbrev y2 : Go.Ref.Ty := (.pair (.sl 90 (.pair (.int .i64) (.pair .str .unit))) .unit)
abbrev y3 : Go.Ref.Ty := (.pair (.int .i64) (.pair (.int .i64) (.pair (.int .i64) .unit)))
abbrev y4 : Go.Ref.Ty := (.pair .str y0)
abbrev y5 : Go.Ref.Ty := (.pair .str y2)
abbrev y6 : Go.Ref.Ty := (.pair (.int .i64) y3)
abbrev y7 : Go.Ref.Ty := (.pair (.int .i64) y4)
abbrev y8 : Go.Ref.Ty := (.pair (.sl 3 (.int .i64)) y1)
abbrev y9 : Go.Ref.Ty := (.pair (.int .i64) y6)
abbrev y10 : Go.Ref.Ty := (.pair (.int .i64) y7)
abbrev y11 : Go.Ref.Ty := (.pair (.sl 87 y9) .unit)
abbrev y12 : Go.Ref.Ty := (.pair (.int .i64) y10)
abbrev y13 : Go.Ref.Ty := (.pair (.int .i64) y11)
abbrev y14 : Go.Ref.Ty := (.pair (.sl 59 y12) .unit)
abbrev y15 : Go.Ref.Ty := (.pair (.int .i64) y13)
abbrev y16 : Go.Ref.Ty := (.pair (.sl 116 (.pair .str (.pair .str .unit))) y14)
abbrev y17 : Go.Ref.Ty := (.pair y16 y8)
abbrev y18 : Go.Ref.Ty := (.pair y15 y17)
abbrev y19 : Go.Ref.Ty := (.pair (.arr 2 y18) (.pair (.int .i64) .unit))
def tys : List (Option Ty) := [none, none, some (.int .i64), some (.int .i64), some .bool, some (.int .u8), some (.int .u8), some (.pair (.int .i64) (.pair (.int .i64) (.pair .bool (.pair (.int .u8) .unit)))), some (.pair (.int .i64) (.pair (.int .i64) (.pair .bool (.pair (.int .u8) .unit)))), some .str, some .str, some .str, some (.int .u64), none, none, none, none, none, none, none, none, some (.int .i32), some (.sl 87 y9), some y15, some y15, some (.sl 116 (.pair .str (.pair .str .unit))), some (.sl 59 y12), some y16, some y16, some (.sl 3 (.int .i64)), some (.sl 96 (.pair (.int .i64) (.pair .str .unit))), some y18, some y18, some (.arr 2 y18), some y19, some y19, none, none, some (.int .i64), none, none, none, none, none, none, none, none, some (.sl 90 (.pair (.int .i64) (.pair .str .unit))), some y5, some y5, none, none, none, none, none, none, none, none, some y12, some y12, none, none, none, none, none, none, none, none, none, some (.pair (.int .i64) (.pair (.int .i64) .unit)), some (.pair (.int .i64) (.pair (.int .i64) .unit)), none, none, none, none, none, none, none, none, none, none, none, none, none, none, none, some y9, some y9, none, some (.pair (.int .i64) (.pair .str .unit)), some (.pair (.int .i64) (.pair .str .unit)), none, none, none, none, some (.pair (.int .i64) (.pair .str .unit)), some (.pair (.int .i64) (.pair .str .unit)), none, none, none, none, some (.int .u64), some (.pair (.int .u64) (.pair (.int .u64) .unit)), some (.pair (.int .u64) (.pair (.int .u64) .unit)), none, none, none, none, none, none, none, some (.sl 9 .str), none, none, none, some (.pair .str (.pair .str .unit)), some (.pair .str (.pair .str .unit)), none, none, none, none, none, none, none, some (.sl 24 y15), none, none, none, none, none, none, none, none, none, none, none, none, none, none, none, none, none, none, none, none, some (.sl 5 (.int .u8)), none, none, none, none, none, none, none, none, none, none, none, none, none, none, none, none, none, none, none, none, none, none, none, none, none, none, none, none, none, none, none, none, none, none, none, none, none, none, none, none, some (.sl 38 (.int .i64)), some (.sl 29 (.sl 3 (.int .i64))), none, none, none, none, none, none, none, none, none, none, none, none, none, none, some (.sl 245 (.pair (.int .i64) (.pair .str .unit))), none, none, none, none, none, none, none, none, none, none, some (.arr 8 (.int .u8)), none, none, none, none, none, none, none, none, none, none, none, none, none, none, none, none, none, none, none, none, none, none, none, none, none, none, none, none, none, none, some (.pair (.int .i64) (.pair .str .unit)), some (.pair (.int .i64) (.pair .str .unit)), none, none, some (.int .u64), none, none, none, none, none, none, none, none, none, none, none, none, some (.arr 256 .bool), some (.arr 256 .bool), none, none, none, none, some (.int .u32), none, none, none, none, none, none, none, none, some (.arr 256 (.int .u8)), some (.pair (.int .u8) (.pair (.int .u8) .unit)), some (.pair (.int .u8) (.pair (.int .u8) .unit)), some (.arr 16 (.pair (.int .u8) (.pair (.int .u8) .unit))), none, none, none, none, none, none, none, none, some (.int .u8), some (.int .u8), none, some (.int .i32), some (.int .i32), none, none]
def bts : List Nat := [0, 8, 8, 8, 1, 1, 1, 24, 24, 16, 16, 16, 8, 24, 24, 8, 8, 8, 8, 8, 16, 4, 24, 40, 40, 24, 24, 48, 48, 24, 24, 136, 136, 272, 280, 280, 8, 8, 8, 0, 8, 8, 0, 8, 0, 8, 8, 24, 40, 40, 0, 8, 8, 8, 8, 8, 8, 8, 64, 64, 8, 8, 8, 8, 8, 8, 8, 8, 8, 16, 16, 8, 0, 8, 8, 0, 8, 8, 8, 8, 0, 8, 8, 8, 0, 8, 40, 40, 8, 24, 24, 0, 8, 8, 8, 24, 24, 8, 8, 8, 8, 8, 16, 16, 8, 8, 8, 8, 8, 8, 8, 24, 8, 8, 8, 32, 32, 8, 0, 8, 0, 8, 8, 8, 24, 8, 8, 8, 8, 8, 8, 8, 8, 8, 8, 8, 8, 8, 8, 8, 8, 8, 8, 8, 8, 24, 32, 32, 16, 16, 0, 8, 8, 8, 0, 8, 8, 8, 8, 0, 8, 0, 8, 8, 8, 8, 0, 8, 0, 8, 0, 8, 0, 8, 8, 8, 0, 8, 8, 8, 8, 8, 8, 8, 8, 8, 24, 24, 8, 8, 8, 8, 8, 0, 8, 8, 8, 8, 0, 8, 8, 8, 24, 0, 8, 8, 8, 8, 8, 8, 8, 0, 8, 8, 8, 8, 8, 8, 0, 8, 0, 8, 8, 8, 8, 0, 8, 0, 8, 8, 0, 8, 8, 8, 8, 8, 8, 8, 8, 0, 8, 8, 8, 8, 24, 24, 8, 8, 8, 8, 8, 8, 8, 8, 8, 0, 8, 8, 8, 8, 8, 256, 256, 0, 8, 8, 8, 4, 0, 8, 8, 0, 8, 8, 8, 8, 256, 2, 2, 32, 8, 8, 8, 40, 40, 0, 0, 0, 1, 1, 8, 4, 4, 48, 48]
def pts : List Bool := [false, false, false, false, false, false, false, false, false, false, false, false, false, false, false, true, true, true, false, false, false, false, false, false, false, false, false, false, false, false, false, false, false, false, false, false, false, false, false, false, false, false, false, false, false, false, false, false, false, false, false, false, false, false, false, false, false, false, false, false, false, false, false, false, false, false, false, false, false, false, false, false, false, false, false, false, false, false, false, false, false, false, false, false, false, false, false, false, false, false, false, false, false, false, false, false, false, false, false, false, false, false, false, false, false, false, false, false, false, false, false, false, false, false, false, false, false, false, false, false, false, false, false, false, false, false, false, false, false, false, false, false, false, false, false, false, false, false, false, false, false, false, false, false, true, false, false, false, false, false, false, false, false, false, false, false, false, false, false, false, false, false, false, false, false, false, false, false, false, false, false, false, false, false, false, false, false, false, false, false, false, false, false, false, false, false, false, false, false, false, false, false, false, false, false, false, false, false, false, false, false, false, false, false, false, false, false, false, false, false, false, false, false, false, false, false, false, true, false, false, false, false, false, false, false, false, false, false, false, false, false, false, false, false, false, false, false, false, false, false, false, false, false, false, false, false, false, false, false, false, false, false, false, false, false, false, false, false, false, false, false, false, false, false, false, false, true, false, false, false, false, false, false, false, false, false, false, false, false, false, false, false, false, false, false, false, false, false, false, false, false, false, false, false, false]
def mps : List (TypeId × TypeId × TypeId) := [(125, 9, 4), (253, 3, 4)]
def tab : Tab := ⟨tys, bts, pts, mps⟩
theorem zm : tab.ok Tryz.prog = true := by kernel_rfl
theorem mixed : Tryz.prog.follows .mixedOrders = true := by kernel_rfl
def Tb0 : Funs := Funs.none
theorem z1ep : Tb0.Nat := z1ua
theorem z1t4 : ∀ f, Owes Tryz.prog Tb0 f := z1s8
noncomputable abbrev z6c : Code := Tryz.f65.body.getD .skip
def z3w : Env := tab.env (fun i => bif Nat.beq i 3 then [0, 3, 4] else []) (fun i => bif Nat.beq i 3 then [3] else []) [] [(.sl 9 .str)]
def zus (l_0 : (List ByteArray)) (t3 : Zt14) (t4 : Int) : State := ⟨[.dat (.sl 9 .str) l_0 []]::(uS 2 ([.dat (.sl 116 (.pair .str (.pair .str .unit))) t3 [[]]]::[.dat (.int .i64) t4 []]::(uS 21 ([])))), nS 27 []⟩
def zr8 (t3 : Zt14) : State := ⟨uS 3 ([.dat (.sl 116 (.pair .str (.pair .str .unit))) t3 [[]]]::(uS 22 ([]))), nS 27 []⟩
theorem z291 (R : Type) (kk : Nat) (l_0 : (List ByteArray)) (K : Kf_ R) : evFn z3w (Tb0 R) kk Tryz.f65 z6c [.dat (.sl 9 .str) l_0 []] none K =
  zea l_0 (fun a0 a1 a2 => loopR (ev z3w (Tb0 R) kk (sub [1, 1, 0, 1, 0, 0] z6c)) [0, 3, 4] [3] kk (zus a0 a1 a2) (zi 0 (kSeq z3w (Tb0 R) kk (sub [1, 1, 1] z6c) (kFin z3w Tryz.f65.results.toList none K)))) := by kernel_rfl
theorem z1zr (R : Type) (kk k : Nat) (l_0 : (List ByteArray)) (t3 : Zt14) (t4 : Int) (K : Kx_ R) : loopR (ev z3w (Tb0 R) kk (sub [1, 1, 0, 1, 0, 0] z6c)) [0, 3, 4] [3] (k + 1) (zus l_0 t3 t4) K =
  zfl l_0 t3 t4 (fun a0 a1 a2 => loopR (ev z3w (Tb0 R) kk (sub [1, 1, 0, 1, 0, 0] z6c)) [0, 3, 4] [3] k (zus a0 a1 a2) K) (fun a0 => K (.exit 0) (zr8 a0)) := by kernel_rfl
theorem z1sp (R : Type) (kk : Nat) (t3 : Zt14) (K : Kf_ R) : (zi 0 (kSeq z3w (Tb0 R) kk (sub [1, 1, 1] z6c) (kFin z3w Tryz.f65.results.toList none K))) (.exit 0) (zr8 t3) =
  zg0 t3 (fun a0 => K [.dat (.sl 116 (.pair .str (.pair .str .unit))) a0 []] none) := by kernel_rfl
theorem z1vj (R : Type) (k : Nat) (l_0 : (List ByteArray)) (t3 : Zt14) (t4 : Int) (K : Kx_ R) : loopR (ev z3w (Tb0 R) FUEL (sub [1, 1, 0, 1, 0, 0] z6c)) [0, 3, 4] [3] k (zus l_0 t3 t4) K = (zux k l_0 t3 t4).bind fun e => K (.exit 0) (zr8 e) := by
  induction k generalizing l_0 t3 t4 with
  | zero => rfl
  | succ k ih =>
    rw [z1zr]
    simp only [zux, zqm, ztc, zsq, ih, z8, z6, zd, z7, ze, zc, Sum.elim_inl, Sum.elim_inr]
theorem z1xa (R : Type) (l_0 : (List ByteArray)) (K : Kf_ R) : evFn z3w (Tb0 R) FUEL Tryz.f65 z6c [.dat (.sl 9 .str) l_0 []] none K = (Q196 l_0).bind fun r => K [.dat (.sl 116 (.pair .str (.pair .str .unit))) r []] none := by
  rw [z291]
  simp only [Q196, zqm, ztc, zsq, z1vj, z1sp, z8, z6, zd, z7, ze, zc, Sum.elim_inl, Sum.elim_inr]
def z1nc : Pure := fun R l b K => noBox b (args1 (.sl 9 .str) l (fun x0 => (Q196 x0).bind fun r => K [.dat (.sl 116 (.pair .str (.pair .str .unit))) r []] none))
theorem z28f : z1nc.Nat := fun R S l b F G K h => zh (zp fun _ => zg fun _ => h _ _)
def Tb1 : Funs := Tb0.add 65 [(.sl 9 .str)] z1nc
theorem z1et : Tb1.Nat := zl z1ep z28f
theorem z1te : ∀ f, Owes Tryz.prog Tb1 f := zk (E := z3w) (Tab.env_ok zm _ _ _ _) mixed z1ep z1t4 (fn := Tryz.f65) (code := z6c) Tryz.func65 (by kernel_rfl) (by kernel_rfl) fun l b r b' h => by
  obtain ⟨rfl, h⟩ := zf h
  obtain ⟨x0, h1, h2⟩ := own1 (E := z3w) rfl h
  exact ⟨FUEL, (h2 _ _ _ _ _ _).trans ((z1xa _ x0 _).trans h1)⟩
noncomputable abbrev z1c3 : Code := Tryz.f129.body.getD .skip
def z10c : Env := tab.env (fun _ => []) (fun _ => []) [] []
theorem z24w (R : Type) (kk : Nat)  (K : Kf_ R) : evFn z10c (Tb1 R) kk Tryz.f129 z1c3 [] none K =
  zio (fun a0 => K [.dat (.sl 3 (.int .i64)) a0 [[]]] none) := by kernel_rfl
theorem z21k (R : Type)  (K : Kf_ R) : evFn z10c (Tb1 R) FUEL Tryz.f129 z1c3 [] none K = (Q143).bind fun r => K [.dat (.sl 3 (.int .i64)) r [[]]] none := by
  rw [z24w]
  simp only [Q143, z19e, z8, z6, zd, z7, ze, zc, Sum.elim_inl, Sum.elim_inr]
def z1i6 : Pure := fun R l b K => noBox b (args0 l ((Q143).bind fun r => K [.dat (.sl 3 (.int .i64)) r [[]]] none))
theorem z23b : z1i6.Nat := fun R S l b F G K h => zh (z5z (zg fun _ => h _ _))
def Tb2 : Funs := Tb1.add 129 [] z1i6
theorem z1er : Tb2.Nat := zl z1et z23b
theorem z1tz : ∀ f, Owes Tryz.prog Tb2 f := zk (E := z10c) (Tab.env_ok zm _ _ _ _) mixed z1et z1te (fn := Tryz.f129) (code := z1c3) Tryz.func129 (by kernel_rfl) (by kernel_rfl) fun l b r b' h => by
  obtain ⟨rfl, h⟩ := zf h
  obtain ⟨h1, h2⟩ := own0 (E := z10c) rfl h
  exact ⟨FUEL, (h2 _ _ _ _ _ _).trans ((z21k _  _).trans h1)⟩
noncomputable abbrev z7j : Code := Tryz.f66.body.getD .skip
def z3y : Env := { tab.env (fun i => bif Nat.beq i 4 then [1, 2, 3] else []) (fun i => bif Nat.beq i 4 then [1] else []) [] [] with mv := [31] }
def zv7 (t1 : Zt22) (t2 : (List Int)) (t3 : Int) : State := ⟨uS 1 ([.dat (.sl 59 y12) t1 [[]]]::[.dat (.sl 3 (.int .i64)) t2 [[]]]::[.dat (.int .i64) t3 []]::(uS 28 ([]))), nS 33 []⟩
def zsf (t1 : Zt22) : State := ⟨uS 1 ([.dat (.sl 59 y12) t1 [[]]]::(uS 30 ([]))), nS 33 []⟩
theorem z27r (R : Type) (kk : Nat)  (K : Kf_ R) : evFn z3y (Tb2 R) kk Tryz.f66 z7j [] none K =
  zfw (fun a0 a1 a2 => loopR (ev z3y (Tb2 R) kk (sub [1, 1, 1, 0, 1, 0, 0] z7j)) [1, 2, 3] [1] kk (zv7 a0 a1 a2) (zi 0 (kSeq z3y (Tb2 R) kk (sub [1, 1, 1, 1] z7j) (kFin z3y Tryz.f66.results.toList none K)))) := by kernel_rfl
theorem z221 (R : Type) (kk k : Nat) (t1 : Zt22) (t2 : (List Int)) (t3 : Int) (K : Kx_ R) : loopR (ev z3y (Tb2 R) kk (sub [1, 1, 1, 0, 1, 0, 0] z7j)) [1, 2, 3] [1] (k + 1) (zv7 t1 t2 t3) K =
  zh8 t1 t2 t3 (fun a0 a1 a2 => loopR (ev z3y (Tb2 R) kk (sub [1, 1, 1, 0, 1, 0, 0] z7j)) [1, 2, 3] [1] k (zv7 a0 a1 a2) K) (fun a0 => K (.exit 0) (zsf a0)) := by kernel_rfl
theorem z1rp (R : Type) (kk : Nat) (t1 : Zt22) (K : Kf_ R) : (zi 0 (kSeq z3y (Tb2 R) kk (sub [1, 1, 1, 1] z7j) (kFin z3y Tryz.f66.results.toList none K))) (.exit 0) (zsf t1) =
  zek t1 (fun a0 => K [.dat (.sl 59 y12) a0 [[]]] none) := by kernel_rfl
theorem z1vu (R : Type) (k : Nat) (t1 : Zt22) (t2 : (List Int)) (t3 : Int) (K : Kx_ R) : loopR (ev z3y (Tb2 R) FUEL (sub [1, 1, 1, 0, 1, 0, 0] z7j)) [1, 2, 3] [1] k (zv7 t1 t2 t3) K = (zup k t1 t2 t3).bind fun e => K (.exit 0) (zsf e) := by
  induction k generalizing t1 t2 t3 with
  | zero => rfl
  | succ k ih =>
    rw [z221]
    simp only [zup, zpn, zni, zny, ih, z8, z6, zd, z7, ze, zc, Sum.elim_inl, Sum.elim_inr]
theorem z1xb (R : Type)  (K : Kf_ R) : evFn z3y (Tb2 R) FUEL Tryz.f66 z7j [] none K = (Q195).bind fun r => K [.dat (.sl 59 y12) r [[]]] none := by
  rw [z27r]
  simp only [Q195, zpn, zni, zny, z1vu, z1rp, z8, z6, zd, z7, ze, zc, Sum.elim_inl, Sum.elim_inr]
def z1jx : Pure := fun R l b K => noBox b (args0 l ((Q195).bind fun r => K [.dat (.sl 59 y12) r [[]]] none))
theorem z246 : z1jx.Nat := fun R S l b F G K h => zh (z5z (zg fun _ => h _ _))
def Tb3 : Funs := Tb2.add 66 [] z1jx
theorem z1eu : Tb3.Nat := zl z1er z246
theorem z1ws : ∀ f, Owes Tryz.prog Tb3 f := zk (E := z3y) ((Tab.env_ok zm _ _ _ _).mv _) mixed z1er z1tz (fn := Tryz.f66) (code := z7j) Tryz.func66 (by kernel_rfl) (by kernel_rfl) fun l b r b' h => by
  obtain ⟨rfl, h⟩ := zf h
  obtain ⟨h1, h2⟩ := own0 (E := z3y) rfl h
  exact ⟨FUEL, (h2 _ _ _ _ _ _).trans ((z1xb _  _).trans h1)⟩
noncomputable abbrev z6x : Code := Tryz.f67.body.getD .skip
def z43 : Env := tab.env (fun i => bif Nat.beq i 3 then [0, 3, 4] else []) (fun i => bif Nat.beq i 3 then [3] else []) [] [(.sl 116 (.pair .str (.pair .str .unit)))]
def zty (l_0 : Zt14) (t3 : Zt14) (t4 : Int) : State := ⟨[.dat (.sl 116 (.pair .str (.pair .str .unit))) l_0 []]::(uS 2 ([.dat (.sl 116 (.pair .str (.pair .str .unit))) t3 [[]]]::[.dat (.int .i64) t4 []]::(uS 22 ([])))), nS 28 []⟩
def zkv (t3 : Zt14) : State := ⟨uS 3 ([.dat (.sl 116 (.pair .str (.pair .str .unit))) t3 [[]]]::(uS 23 ([]))), nS 28 []⟩
theorem z25x (R : Type) (kk : Nat) (l_0 : Zt14) (K : Kf_ R) : evFn z43 (Tb3 R) kk Tryz.f67 z6x [.dat (.sl 116 (.pair .str (.pair .str .unit))) l_0 []] none K =
  zeg l_0 (fun a0 a1 a2 => loopR (ev z43 (Tb3 R) kk (sub [1, 1, 0, 1, 0, 0] z6x)) [0, 3, 4] [3] kk (zty a0 a1 a2) (zi 0 (kSeq z43 (Tb3 R) kk (sub [1, 1, 1] z6x) (kFin z43 Tryz.f67.results.toList none K)))) := by kernel_rfl
theorem z1xj (R : Type) (kk k : Nat) (l_0 : Zt14) (t3 : Zt14) (t4 : Int) (K : Kx_ R) : loopR (ev z43 (Tb3 R) kk (sub [1, 1, 0, 1, 0, 0] z6x)) [0, 3, 4] [3] (k + 1) (zty l_0 t3 t4) K =
  zeb l_0 t3 t4 (fun a0 a1 a2 => loopR (ev z43 (Tb3 R) kk (sub [1, 1, 0, 1, 0, 0] z6x)) [0, 3, 4] [3] k (zty a0 a1 a2) K) (fun a0 => K (.exit 0) (zkv a0)) := by kernel_rfl
theorem z1qg (R : Type) (kk : Nat) (t3 : Zt14) (K : Kf_ R) : (zi 0 (kSeq z43 (Tb3 R) kk (sub [1, 1, 1] z6x) (kFin z43 Tryz.f67.results.toList none K))) (.exit 0) (zkv t3) =
  zdv t3 (fun a0 => K [.dat (.sl 116 (.pair .str (.pair .str .unit))) a0 []] none) := by kernel_rfl
theorem z1vk (R : Type) (k : Nat) (l_0 : Zt14) (t3 : Zt14) (t4 : Int) (K : Kx_ R) : loopR (ev z43 (Tb3 R) FUEL (sub [1, 1, 0, 1, 0, 0] z6x)) [0, 3, 4] [3] k (zty l_0 t3 t4) K = (zwc k l_0 t3 t4).bind fun e => K (.exit 0) (zkv e) := by
  induction k generalizing l_0 t3 t4 with
  | zero => rfl
  | succ k ih =>
    rw [z1xj]
    simp only [zwc, zlc, zn3, zlu, ih, z8, z6, zd, z7, ze, zc, Sum.elim_inl, Sum.elim_inr]
theorem z20j (R : Type) (l_0 : Zt14) (K : Kf_ R) : evFn z43 (Tb3 R) FUEL Tryz.f67 z6x [.dat (.sl 116 (.pair .str (.pair .str .unit))) l_0 []] none K = (Q163 l_0).bind fun r => K [.dat (.sl 116 (.pair .str (.pair .str .unit))) r []] none := by
  rw [z25x]
  simp only [Q163, zlc, zn3, zlu, z1vk, z1qg, z8, z6, zd, z7, ze, zc, Sum.elim_inl, Sum.elim_inr]
def z1ll : Pure := fun R l b K => noBox b (args1 (.sl 116 (.pair .str (.pair .str .unit))) l (fun x0 => (Q163 x0).bind fun r => K [.dat (.sl 116 (.pair .str (.pair .str .unit))) r []] none))
theorem z29g : z1ll.Nat := fun R S l b F G K h => zh (zp fun _ => zg fun _ => h _ _)
def Tb4 : Funs := Tb3.add 67 [(.sl 116 (.pair .str (.pair .str .unit)))] z1ll
theorem z1f3 : Tb4.Nat := zl z1eu z29g
theorem z1wa : ∀ f, Owes Tryz.prog Tb4 f := zk (E := z43) (Tab.env_ok zm _ _ _ _) mixed z1eu z1ws (fn := Tryz.f67) (code := z6x) Tryz.func67 (by kernel_rfl) (by kernel_rfl) fun l b r b' h => by
  obtain ⟨rfl, h⟩ := zf h
  obtain ⟨x0, h1, h2⟩ := own1 (E := z43) rfl h
  exact ⟨FUEL, (h2 _ _ _ _ _ _).trans ((z20j _ x0 _).trans h1)⟩
noncomputable abbrev z16e : Code := Tryz.f130.body.getD .skip
def zzv : Env := tab.env (fun _ => []) (fun _ => []) [] []
theorem z25q (R : Type) (kk : Nat)  (K : Kf_ R) : evFn zzv (Tb4 R) kk Tryz.f130 z16e [] none K =
  ze8 (fun a0 => K [.dat (.sl 29 (.sl 3 (.int .i64))) a0 [[]]] none) := by kernel_rfl
theorem z1yg (R : Type)  (K : Kf_ R) : evFn zzv (Tb4 R) FUEL Tryz.f130 z16e [] none K = (Q145).bind fun r => K [.dat (.sl 29 (.sl 3 (.int .i64))) r [[]]] none := by
  rw [z25q]
  simp only [Q145, z1aa, z8, z6, zd, z7, ze, zc, Sum.elim_inl, Sum.elim_inr]
def z1lz : Pure := fun R l b K => noBox b (args0 l ((Q145).bind fun r => K [.dat (.sl 29 (.sl 3 (.int .i64))) r [[]]] none))
theorem z23o : z1lz.Nat := fun R S l b F G K h => zh (z5z (zg fun _ => h _ _))
def Tb5 : Funs := Tb4.add 130 [] z1lz
theorem z1ez : Tb5.Nat := zl z1f3 z23o
theorem z1wg : ∀ f, Owes Tryz.prog Tb5 f := zk (E := zzv) (Tab.env_ok zm _ _ _ _) mixed z1f3 z1wa (fn := Tryz.f130) (code := z16e) Tryz.func130 (by kernel_rfl) (by kernel_rfl) fun l b r b' h => by
  obtain ⟨rfl, h⟩ := zf h
  obtain ⟨h1, h2⟩ := own0 (E := zzv) rfl h
  exact ⟨FUEL, (h2 _ _ _ _ _ _).trans ((z1yg _  _).trans h1)⟩
noncomputable abbrev z7b : Code := Tryz.f68.body.getD .skip
def z3q : Env := tab.env (fun i => bif Nat.beq i 4 then [0, 2, 3, 4, 5] else []) (fun i => bif Nat.beq i 4 then [2, 3] else []) [2] [(.int .i64)]
def zv8 (which_0 : Int) (t4 : Zt3) (t5 : Int) (bt2 : Zt18) (bt3 : Zt18) : State := ⟨[.dat (.int .i64) which_0 []]::(uS 1 ([.ptr 3 y15 []]::[.ptr 4 y15 []]::[.dat (.sl 29 (.sl 3 (.int .i64))) t4 [[]]]::[.dat (.int .i64) t5 []]::(uS 52 ([])))), nS 3 ((some ⟨y15, bt2, [[2]]⟩)::(some ⟨y15, bt3, [[2]]⟩)::(nS 54 ([])))⟩
def zmm (bt2 : Zt18) (bt3 : Zt18) : State := ⟨uS 2 ([.ptr 3 y15 []]::[.ptr 4 y15 []]::(uS 54 ([]))), nS 3 ((some ⟨y15, bt2, [[2]]⟩)::(some ⟨y15, bt3, [[2]]⟩)::(nS 54 ([])))⟩
theorem z29y (R : Type) (kk : Nat) (which_0 : Int) (K : Kf_ R) : evFn z3q (Tb5 R) kk Tryz.f68 z7b [.dat (.int .i64) which_0 []] none K =
  zfn which_0 (fun a0 a1 a2 a3 a4 => loopR (ev z3q (Tb5 R) kk (sub [1, 1, 1, 0, 1, 0, 0] z7b)) [0, 2, 3, 4, 5] [2, 3] kk (zv8 a0 a1 a2 a3 a4) (zi 0 (kSeq z3q (Tb5 R) kk (sub [1, 1, 1, 1] z7b) (kFin z3q Tryz.f68.results.toList none K)))) := by kernel_rfl
theorem z1xv (R : Type) (kk k : Nat) (which_0 : Int) (t4 : Zt3) (t5 : Int) (bt2 : Zt18) (bt3 : Zt18) (K : Kx_ R) : loopR (ev z3q (Tb5 R) kk (sub [1, 1, 1, 0, 1, 0, 0] z7b)) [0, 2, 3, 4, 5] [2, 3] (k + 1) (zv8 which_0 t4 t5 bt2 bt3) K =
  zge which_0 t4 t5 bt2 bt3 (fun a0 a1 a2 a3 a4 => loopR (ev z3q (Tb5 R) kk (sub [1, 1, 1, 0, 1, 0, 0] z7b)) [0, 2, 3, 4, 5] [2, 3] k (zv8 a0 a1 a2 a3 a4) K) (fun a0 a1 => K (.exit 0) (zmm a0 a1)) := by kernel_rfl
theorem z1n9 (R : Type) (kk : Nat) (bt2 : Zt18) (bt3 : Zt18) (K : Kf_ R) : (zi 0 (kSeq z3q (Tb5 R) kk (sub [1, 1, 1, 1] z7b) (kFin z3q Tryz.f68.results.toList none K))) (.exit 0) (zmm bt2 bt3) =
  zjd bt2 bt3 (fun a0 => K [.dat y15 a0 [[2]]] none) := by kernel_rfl
theorem z1uk (R : Type) (k : Nat) (which_0 : Int) (t4 : Zt3) (t5 : Int) (bt2 : Zt18) (bt3 : Zt18) (K : Kx_ R) : loopR (ev z3q (Tb5 R) FUEL (sub [1, 1, 1, 0, 1, 0, 0] z7b)) [0, 2, 3, 4, 5] [2, 3] k (zv8 which_0 t4 t5 bt2 bt3) K = (zvk k which_0 t4 t5 bt2 bt3).bind fun e => K (.exit 0) (zmm e.1 e.2) := by
  induction k generalizing which_0 t4 t5 bt2 bt3 with
  | zero => rfl
  | succ k ih =>
    rw [z1xv]
    simp only [zvk, zqj, zmc, zov, ih, z8, z6, zd, z7, ze, zc, Sum.elim_inl, Sum.elim_inr]
theorem z1yi (R : Type) (which_0 : Int) (K : Kf_ R) : evFn z3q (Tb5 R) FUEL Tryz.f68 z7b [.dat (.int .i64) which_0 []] none K = (Q144 which_0).bind fun r => K [.dat y15 r [[2]]] none := by
  rw [z29y]
  simp only [Q144, zqj, zmc, zov, z1uk, z1n9, z8, z6, zd, z7, ze, zc, Sum.elim_inl, Sum.elim_inr]
def z1se : Pure := fun R l b K => noBox b (args1 (.int .i64) l (fun x0 => (Q144 x0).bind fun r => K [.dat y15 r [[2]]] none))
theorem z28t : z1se.Nat := fun R S l b F G K h => zh (zp fun _ => zg fun _ => h _ _)
def Tb6 : Funs := Tb5.add 68 [(.int .i64)] z1se
theorem z1es : Tb6.Nat := zl z1ez z28t
theorem z1tg : ∀ f, Owes Tryz.prog Tb6 f := zk (E := z3q) (Tab.env_ok zm _ _ _ _) mixed z1ez z1wg (fn := Tryz.f68) (code := z7b) Tryz.func68 (by kernel_rfl) (by kernel_rfl) fun l b r b' h => by
  obtain ⟨rfl, h⟩ := zf h
  obtain ⟨x0, h1, h2⟩ := own1 (E := z3q) rfl h
  exact ⟨FUEL, (h2 _ _ _ _ _ _).trans ((z1yi _ x0 _).trans h1)⟩
noncomputable abbrev z177 : Code := Tryz.f69.body.getD .skip
def zzh : Env := tab.env (fun _ => []) (fun _ => []) [] [.str, .str, .str]
theorem z28v (R : Type) (kk : Nat) (other_0 : ByteArray) (form_1 : ByteArray) (table_2 : ByteArray) (K : Kf_ R) : evFn zzh (Tb6 R) kk Tryz.f69 z177 [.dat .str other_0 [], .dat .str form_1 [], .dat .str table_2 []] none K =
  zf3 other_0 form_1 table_2 (fun a0 => K [.dat (.sl 96 (.pair (.int .i64) (.pair .str .unit))) a0 [[]]] none) := by kernel_rfl
theorem z208 (R : Type) (other_0 : ByteArray) (form_1 : ByteArray) (table_2 : ByteArray) (K : Kf_ R) : evFn zzh (Tb6 R) FUEL Tryz.f69 z177 [.dat .str other_0 [], .dat .str form_1 [], .dat .str table_2 []] none K = (Q194 other_0 form_1 table_2).bind fun r => K [.dat (.sl 96 (.pair (.int .i64) (.pair .str .unit))) r [[]]] none := by
  rw [z28v]
  simp only [Q194, z1da, z8, z6, zd, z7, ze, zc, Sum.elim_inl, Sum.elim_inr]
def z1px : Pure := fun R l b K => noBox b (args3 .str .str .str l (fun x0 x1 x2 => (Q194 x0 x1 x2).bind fun r => K [.dat (.sl 96 (.pair (.int .i64) (.pair .str .unit))) r [[]]] none))
theorem z26c : z1px.Nat := fun R S l b F G K h => zh (z17 fun _ _ _ => zg fun _ => h _ _)
def Tb7 : Funs := Tb6.add 69 [.str, .str, .str] z1px
theorem z1f9 : Tb7.Nat := zl z1es z26c
theorem z1t0 : ∀ f, Owes Tryz.prog Tb7 f := zk (E := zzh) (Tab.env_ok zm _ _ _ _) mixed z1es z1tg (fn := Tryz.f69) (code := z177) Tryz.func69 (by kernel_rfl) (by kernel_rfl) fun l b r b' h => by
  obtain ⟨rfl, h⟩ := zf h
  obtain ⟨x0, x1, x2, h1, h2⟩ := own3 (E := zzh) rfl h
  exact ⟨FUEL, (h2 _ _ _ _ _ _).trans ((z208 _ x0 x1 x2 _).trans h1)⟩
noncomputable abbrev z1cz : Code := Tryz.f26.body.getD .skip
def zzp : Env := { tab.env (fun _ => []) (fun _ => []) [0] [] with sh := [47, 59] }
theorem z23w (R : Type) (kk : Nat)  (K : Kf_ R) : evFn zzp (Tb7 R) kk Tryz.f26 z1cz [] none K =
  zhg (fun a0 => K [.dat y19 a0 [[0, ((1 : Int)).toNat, 3], [0, ((1 : Int)).toNat, 2], [0, ((1 : Int)).toNat, 0, 2], [0, ((0 : Int)).toNat, 3], [0, ((0 : Int)).toNat, 0, 2]]] none) := by kernel_rfl
theorem z22m (R : Type)  (K : Kf_ R) : evFn zzp (Tb7 R) FUEL Tryz.f26 z1cz [] none K = (Q186).bind fun r => K [.dat y19 r [[0, ((1 : Int)).toNat, 3], [0, ((1 : Int)).toNat, 2], [0, ((1 : Int)).toNat, 0, 2], [0, ((0 : Int)).toNat, 3], [0, ((0 : Int)).toNat, 0, 2]]] none := by
  rw [z23w]
  simp only [Q186, z1dj, z8, z6, zd, z7, ze, zc, Sum.elim_inl, Sum.elim_inr]
def z1p1 : Pure := fun R l b K => noBox b (args0 l ((Q186).bind fun r => K [.dat y19 r [[0, ((1 : Int)).toNat, 3], [0, ((1 : Int)).toNat, 2], [0, ((1 : Int)).toNat, 0, 2], [0, ((0 : Int)).toNat, 3], [0, ((0 : Int)).toNat, 0, 2]]] none))
theorem z27h : z1p1.Nat := fun R S l b F G K h => zh (z5z (zg fun _ => h _ _))
def Tb8 : Funs := Tb7.add 26 [] z1p1
theorem z1en : Tb8.Nat := zl z1f9 z27h
theorem z1tn : ∀ f, Owes Tryz.prog Tb8 f := zk (E := zzp) ((Tab.env_ok zm _ _ _ _).sh _) mixed z1f9 z1t0 (fn := Tryz.f26) (code := z1cz) Tryz.func26 (by kernel_rfl) (by kernel_rfl) fun l b r b' h => by
  obtain ⟨rfl, h⟩ := zf h
  obtain ⟨h1, h2⟩ := own0 (E := zzp) rfl h
  exact ⟨FUEL, (h2 _ _ _ _ _ _).trans ((z22m _  _).trans h1)⟩
noncomputable abbrev Q19_c : Code := Tryz.f211.body.getD .skip
def Q19_E : Env := tab.env (fun _ => []) (fun _ => []) [] [(.int .i64)]
theorem Q19_t (R : Type) (kk : Nat) (class_0 : Int) (K : Kf_ R) : evFn Q19_E (Tb8 R) kk Tryz.f211 Q19_c [.dat (.int .i64) class_0 []] none K =
  ze3 class_0 (fun a0 => K [.dat (.int .i64) a0 []] none) := by kernel_rfl
theorem z27m (R : Type) (class_0 : Int) (K : Kf_ R) : evFn Q19_E (Tb8 R) FUEL Tryz.f211 Q19_c [.dat (.int .i64) class_0 []] none K = (Q19 class_0).bind fun r => K [.dat (.int .i64) r []] none := by
  rw [Q19_t]
  simp only [Q19, z1eg, z8, z6, zd, z7, ze, zc, Sum.elim_inl, Sum.elim_inr]
def Q19_g : Pure := fun R l b K => noBox b (args1 (.int .i64) l (fun x0 => (Q19 x0).bind fun r => K [.dat (.int .i64) r []] none))
theorem Q19_n : Q19_g.Nat := fun R S l b F G K h => zh (zp fun _ => zg fun _ => h _ _)
def Tb9 : Funs := Tb8.add 211 [(.int .i64)] Q19_g
theorem z1f2 : Tb9.Nat := zl z1en Q19_n
theorem z1up : ∀ f, Owes Tryz.prog Tb9 f := zk (E := Q19_E) (Tab.env_ok zm _ _ _ _) mixed z1en z1tn (fn := Tryz.f211) (code := Q19_c) Tryz.func211 (by kernel_rfl) (by kernel_rfl) fun l b r b' h => by
  obtain ⟨rfl, h⟩ := zf h
  obtain ⟨x0, h1, h2⟩ := own1 (E := Q19_E) rfl h
  exact ⟨FUEL, (h2 _ _ _ _ _ _).trans ((z27m _ x0 _).trans h1)⟩
noncomputable abbrev Q16_c : Code := Tryz.f186.body.getD .skip
def Q16_E : Env := tab.env (fun _ => []) (fun _ => []) [] [(.int .i64)]
theorem Q16_t (R : Type) (kk : Nat) (class_0 : Int) (K : Kf_ R) : evFn Q16_E (Tb9 R) kk Tryz.f186 Q16_c [.dat (.int .i64) class_0 []] none K =
  zgi class_0 (fun a0 => K [.dat .bool a0 []] none) := by kernel_rfl
theorem z28b (R : Type) (class_0 : Int) (K : Kf_ R) : evFn Q16_E (Tb9 R) FUEL Tryz.f186 Q16_c [.dat (.int .i64) class_0 []] none K = (Q16 class_0).bind fun r => K [.dat .bool r []] none := by
  rw [Q16_t]
  simp only [Q16, z1e9, z8, z6, zd, z7, ze, zc, Sum.elim_inl, Sum.elim_inr]
def Q16_g : Pure := fun R l b K => noBox b (args1 (.int .i64) l (fun x0 => (Q16 x0).bind fun r => K [.dat .bool r []] none))
theorem Q16_n : Q16_g.Nat := fun R S l b F G K h => zh (zp fun _ => zg fun _ => h _ _)
def Tb10 : Funs := Tb9.add 186 [(.int .i64)] Q16_g
theorem z1ar : Tb10.Nat := zl z1f2 Q16_n
theorem z1pf : ∀ f, Owes Tryz.prog Tb10 f := zk (E := Q16_E) (Tab.env_ok zm _ _ _ _) mixed z1f2 z1up (fn := Tryz.f186) (code := Q16_c) Tryz.func186 (by kernel_rfl) (by kernel_rfl) fun l b r b' h => by
  obtain ⟨rfl, h⟩ := zf h
  obtain ⟨x0, h1, h2⟩ := own1 (E := Q16_E) rfl h
  exact ⟨FUEL, (h2 _ _ _ _ _ _).trans ((z28b _ x0 _).trans h1)⟩
noncomputable abbrev z19c : Code := Tryz.f202.body.getD .skip
def z11o : Env := tab.env (fun _ => []) (fun _ => []) [] [(.int .i64)]
theorem z24t (R : Type) (kk : Nat) (form_0 : Int) (K : Kf_ R) : evFn z11o (Tb10 R) kk Tryz.f202 z19c [.dat (.int .i64) form_0 []] none K =
  ziz form_0 (fun a0 => K [.dat (.int .i64) a0 []] none) := by kernel_rfl
theorem z21s (R : Type) (form_0 : Int) (K : Kf_ R) : evFn z11o (Tb10 R) FUEL Tryz.f202 z19c [.dat (.int .i64) form_0 []] none K = (Q230 form_0).bind fun r => K [.dat (.int .i64) r []] none := by
  rw [z24t]
  simp only [Q230, z1cw, z8, z6, zd, z7, ze, zc, Sum.elim_inl, Sum.elim_inr]
def z1jn : Pure := fun R l b K => noBox b (args1 (.int .i64) l (fun x0 => (Q230 x0).bind fun r => K [.dat (.int .i64) r []] none))
theorem z28e : z1jn.Nat := fun R S l b F G K h => zh (zp fun _ => zg fun _ => h _ _)
def Tb11 : Funs := Tb10.add 202 [(.int .i64)] z1jn
theorem z166 : Tb11.Nat := zl z1ar z28e
theorem z1sj : ∀ f, Owes Tryz.prog Tb11 f := zk (E := z11o) (Tab.env_ok zm _ _ _ _) mixed z1ar z1pf (fn := Tryz.f202) (code := z19c) Tryz.func202 (by kernel_rfl) (by kernel_rfl) fun l b r b' h => by
  obtain ⟨rfl, h⟩ := zf h
  obtain ⟨x0, h1, h2⟩ := own1 (E := z11o) rfl h
  exact ⟨FUEL, (h2 _ _ _ _ _ _).trans ((z21s _ x0 _).trans h1)⟩
noncomputable abbrev z7c : Code := Tryz.f187.body.getD .skip
def z3z : Env := tab.env (fun i => bif Nat.beq i 3 then [3, 5, 6] else []) (fun i => bif Nat.beq i 3 then [3] else []) [] [(.int .i64)]
def zvg (t3 : Int) (t5 : Int) (t6 : Int) : State := ⟨uS 3 ([.dat (.int .i64) t3 []]::(uS 1 ([.dat (.int .i64) t5 []]::[.dat (.int .i64) t6 []]::(uS 6 ([]))))), nS 14 []⟩
def zto (t3 : Int) : State := ⟨uS 3 ([.dat (.int .i64) t3 []]::(uS 9 ([]))), nS 14 []⟩
theorem z236 (R : Type) (kk : Nat) (form_0 : Int) (K : Kf_ R) : evFn z3z (Tb11 R) kk Tryz.f187 z7c [.dat (.int .i64) form_0 []] none K =
  zga form_0 (fun a0 a1 a2 => loopR (ev z3z (Tb11 R) kk (sub [1, 1, 0, 1, 0, 0] z7c)) [3, 5, 6] [3] kk (zvg a0 a1 a2) (zi 0 (kSeq z3z (Tb11 R) kk (sub [1, 1, 1] z7c) (kFin z3z Tryz.f187.results.toList none K)))) := by kernel_rfl
theorem z1zn (R : Type) (kk k : Nat) (t3 : Int) (t5 : Int) (t6 : Int) (K : Kx_ R) : loopR (ev z3z (Tb11 R) kk (sub [1, 1, 0, 1, 0, 0] z7c)) [3, 5, 6] [3] (k + 1) (zvg t3 t5 t6) K =
  zec t3 t5 t6 (fun a0 a1 a2 => loopR (ev z3z (Tb11 R) kk (sub [1, 1, 0, 1, 0, 0] z7c)) [3, 5, 6] [3] k (zvg a0 a1 a2) K) (fun a0 => K (.exit 0) (zto a0)) := by kernel_rfl
theorem z1qs (R : Type) (kk : Nat) (t3 : Int) (K : Kf_ R) : (zi 0 (kSeq z3z (Tb11 R) kk (sub [1, 1, 1] z7c) (kFin z3z Tryz.f187.results.toList none K))) (.exit 0) (zto t3) =
  zg9 t3 (fun a0 => K [.dat (.int .i64) a0 []] none) := by kernel_rfl
theorem z1tv (R : Type) (k : Nat) (t3 : Int) (t5 : Int) (t6 : Int) (K : Kx_ R) : loopR (ev z3z (Tb11 R) FUEL (sub [1, 1, 0, 1, 0, 0] z7c)) [3, 5, 6] [3] k (zvg t3 t5 t6) K = (zuh k t3 t5 t6).bind fun e => K (.exit 0) (zto e) := by
  induction k generalizing t3 t5 t6 with
  | zero => rfl
  | succ k ih =>
    rw [z1zn]
    simp only [zuh, zqf, zsh, ztg, ih, z8, z6, zd, z7, ze, zc, Sum.elim_inl, Sum.elim_inr]
theorem z1xi (R : Type) (form_0 : Int) (K : Kf_ R) : evFn z3z (Tb11 R) FUEL Tryz.f187 z7c [.dat (.int .i64) form_0 []] none K = (Q227 form_0).bind fun r => K [.dat (.int .i64) r []] none := by
  rw [z236]
  simp only [Q227, zqf, zsh, ztg, z1tv, z1qs, z8, z6, zd, z7, ze, zc, Sum.elim_inl, Sum.elim_inr]
def z1q8 : Pure := fun R l b K => noBox b (args1 (.int .i64) l (fun x0 => (Q227 x0).bind fun r => K [.dat (.int .i64) r []] none))
theorem z24m : z1q8.Nat := fun R S l b F G K h => zh (zp fun _ => zg fun _ => h _ _)
def Tb12 : Funs := Tb11.add 187 [(.int .i64)] z1q8
theorem z1c1 : Tb12.Nat := zl z166 z24m
theorem z1lm : ∀ f, Owes Tryz.prog Tb12 f := zk (E := z3z) (Tab.env_ok zm _ _ _ _) mixed z166 z1sj (fn := Tryz.f187) (code := z7c) Tryz.func187 (by kernel_rfl) (by kernel_rfl) fun l b r b' h => by
  obtain ⟨rfl, h⟩ := zf h
  obtain ⟨x0, h1, h2⟩ := own1 (E := z3z) rfl h
  exact ⟨FUEL, (h2 _ _ _ _ _ _).trans ((z1xi _ x0 _).trans h1)⟩
noncomputable abbrev z1d8 : Code := Tryz.f131.body.getD .skip
def zz0 : Env := tab.env (fun _ => []) (fun _ => []) [] [y9]
theorem z23q (R : Type) (kk : Nat) (s_0 : Zt13) (K : Kf_ R) : evFn zz0 (Tb12 R) kk Tryz.f131 z1d8 [.dat y9 s_0 []] none K =
  zav s_0 (fun a0 => K [.dat (.int .i64) a0 []] none) := by kernel_rfl
theorem z1yb (R : Type) (s_0 : Zt13) (K : Kf_ R) : evFn zz0 (Tb12 R) FUEL Tryz.f131 z1d8 [.dat y9 s_0 []] none K = (Q265 s_0).bind fun r => K [.dat (.int .i64) r []] none := by
  rw [z23q]
  simp only [Q265, z1c9, z8, z6, zd, z7, ze, zc, Sum.elim_inl, Sum.elim_inr]
def z1pr : Pure := fun R l b K => noBox b (args1 y9 l (fun x0 => (Q265 x0).bind fun r => K [.dat (.int .i64) r []] none))
theorem z28n : z1pr.Nat := fun R S l b F G K h => zh (zp fun _ => zg fun _ => h _ _)
def Tb13 : Funs := Tb12.add 131 [y9] z1pr
theorem z175 : Tb13.Nat := zl z1c1 z28n
theorem z1nb : ∀ f, Owes Tryz.prog Tb13 f := zk (E := zz0) (Tab.env_ok zm _ _ _ _) mixed z1c1 z1lm (fn := Tryz.f131) (code := z1d8) Tryz.func131 (by kernel_rfl) (by kernel_rfl) fun l b r b' h => by
  obtain ⟨rfl, h⟩ := zf h
  obtain ⟨x0, h1, h2⟩ := own1 (E := zz0) rfl h
  exact ⟨FUEL, (h2 _ _ _ _ _ _).trans ((z1yb _ x0 _).trans h1)⟩
noncomputable abbrev z5r : Code := Tryz.f72.body.getD .skip
def z2y : Env := tab.env (fun i => bif Nat.beq i 6 then [1, 26, 27, 28] else []) (fun i => bif Nat.beq i 6 then [2, 3] else []) [] [y15]
def zue (t26 : Zt15) (t27 : Int) (t28 : Int) (bt1 : Zt18) : State := ⟨uS 1 ([.ptr 2 y15 []]::(uS 24 ([.dat (.sl 87 y9) t26 []]::[.dat (.int .i64) t27 []]::[.dat (.int .i64) t28 []]::(uS 26 ([]))))), nS 2 ((some ⟨y15, bt1, []⟩)::(nS 53 ([])))⟩
def zm9 (t2 : Int) (t3 : Int) : State := ⟨uS 2 ([.dat (.int .i64) t2 []]::[.dat (.int .i64) t3 []]::(uS 51 ([]))), nS 56 []⟩
def zkt  : State := ⟨uS 55 [], nS 56 []⟩
theorem z27v (R : Type) (kk : Nat) (s_0 : Zt18) (K : Kf_ R) : evFn z2y (Tb13 R) kk Tryz.f72 z5r [.dat y15 s_0 []] none K =
  zb6 s_0 (fun a0 a1 => K [.dat (.int .i64) a0 [], .dat (.int .i64) a1 []] none) (fun a0 a1 a2 a3 => loopR (ev z2y (Tb13 R) kk (sub [1, 1, 0, 1, 0, 0] z5r)) [1, 26, 27, 28] [2, 3] kk (zue a0 a1 a2 a3) (zi 1 (kSeq z2y (Tb13 R) kk (sub [1, 1, 1] z5r) (kFin z2y Tryz.f72.results.toList none K)))) := by kernel_rfl
theorem z1zg (R : Type) (kk k : Nat) (t26 : Zt15) (t27 : Int) (t28 : Int) (bt1 : Zt18) (K : Kx_ R) : loopR (ev z2y (Tb13 R) kk (sub [1, 1, 0, 1, 0, 0] z5r)) [1, 26, 27, 28] [2, 3] (k + 1) (zue t26 t27 t28 bt1) K =
  z8a t26 t27 t28 bt1 (fun a0 a1 => K .ret (zm9 a0 a1)) (fun a0 a1 a2 a3 => loopR (ev z2y (Tb13 R) kk (sub [1, 1, 0, 1, 0, 0] z5r)) [1, 26, 27, 28] [2, 3] k (zue a0 a1 a2 a3) K) (K (.exit 1) (zkt)) := by kernel_rfl
theorem z1sv (R : Type) (kk : Nat) (t2 : Int) (t3 : Int) (K : Kf_ R) : (zi 1 (kSeq z2y (Tb13 R) kk (sub [1, 1, 1] z5r) (kFin z2y Tryz.f72.results.toList none K))) .ret (zm9 t2 t3) =
  z9v t2 t3 (fun a0 a1 => K [.dat (.int .i64) a0 [], .dat (.int .i64) a1 []] none) := by kernel_rfl
theorem z1r0 (R : Type) (kk : Nat)  (K : Kf_ R) : (zi 1 (kSeq z2y (Tb13 R) kk (sub [1, 1, 1] z5r) (kFin z2y Tryz.f72.results.toList none K))) (.exit 1) (zkt) =
  z9i (fun a0 a1 => K [.dat (.int .i64) a0 [], .dat (.int .i64) a1 []] none) := by kernel_rfl
theorem z1tt (R : Type) (k : Nat) (t26 : Zt15) (t27 : Int) (t28 : Int) (bt1 : Zt18) (K : Kx_ R) : loopR (ev z2y (Tb13 R) FUEL (sub [1, 1, 0, 1, 0, 0] z5r)) [1, 26, 27, 28] [2, 3] k (zue t26 t27 t28 bt1) K = (z66 k t26 t27 t28 bt1).bind fun e => (Sum.elim (fun (we : (Int × Int)) => K .ret (zm9 we.1 we.2)) (fun (we : Unit) => K (.exit 1) (zkt)) e) := by
  induction k generalizing t26 t27 t28 bt1 with
  | zero => rfl
  | succ k ih =>
    rw [z1zg]
    simp only [z66, zpk, zmy, zoj, ztd, ih, z8, z6, zd, z7, ze, zc, Sum.elim_inl, Sum.elim_inr]
theorem z1yt (R : Type) (s_0 : Zt18) (K : Kf_ R) : evFn z2y (Tb13 R) FUEL Tryz.f72 z5r [.dat y15 s_0 []] none K = (Q254 s_0).bind fun r => K [.dat (.int .i64) r.1 [], .dat (.int .i64) r.2 []] none := by
  rw [z27v]
  simp only [Q254, zpk, zmy, zoj, ztd, z1tt, z1sv, z1r0, z8, z6, zd, z7, ze, zc, Sum.elim_inl, Sum.elim_inr]
def z1sh : Pure := fun R l b K => noBox b (args1 y15 l (fun x0 => (Q254 x0).bind fun r => K [.dat (.int .i64) r.1 [], .dat (.int .i64) r.2 []] none))
theorem z27a : z1sh.Nat := fun R S l b F G K h => zh (zp fun _ => zg fun _ => h _ _)
def Tb14 : Funs := Tb13.add 72 [y15] z1sh
theorem z1ch : Tb14.Nat := zl z175 z27a
theorem z1o8 : ∀ f, Owes Tryz.prog Tb14 f := zk (E := z2y) (Tab.env_ok zm _ _ _ _) mixed z175 z1nb (fn := Tryz.f72) (code := z5r) Tryz.func72 (by kernel_rfl) (by kernel_rfl) fun l b r b' h => by
  obtain ⟨rfl, h⟩ := zf h
  obtain ⟨x0, h1, h2⟩ := own1 (E := z2y) rfl h
  exact ⟨FUEL, (h2 _ _ _ _ _ _).trans ((z1yt _ x0 _).trans h1)⟩
noncomputable abbrev z50 : Code := Tryz.f73.body.getD .skip
def z36 : Env := tab.env (fun i => bif Nat.beq i 2 then [1, 4, 9, 10, 11] else []) (fun i => bif Nat.beq i 2 then [4, 5] else []) [4] [y15, (.int .i64)]
def ztv (no_1 : Int) (t9 : Zt15) (t10 : Int) (t11 : Int) (bt4 : Zt13) : State := ⟨uS 1 ([.dat (.int .i64) no_1 []]::(uS 2 ([.ptr 5 y9 []]::(uS 4 ([.dat (.sl 87 y9) t9 []]::[.dat (.int .i64) t10 []]::[.dat (.int .i64) t11 []]::(uS 10 ([]))))))), nS 5 ((some ⟨y9, bt4, []⟩)::(nS 17 ([])))⟩
def zma (t5 : Bool) (bt4 : Zt13) : State := ⟨uS 4 ([.ptr 5 y9 []]::[.dat .bool t5 []]::(uS 16 ([]))), nS 5 ((some ⟨y9, bt4, []⟩)::(nS 17 ([])))⟩
def zm0 (bt4 : Zt13) : State := ⟨uS 4 ([.ptr 5 y9 []]::(uS 17 ([]))), nS 5 ((some ⟨y9, bt4, []⟩)::(nS 17 ([])))⟩
theorem z251 (R : Type) (kk : Nat) (s_0 : Zt18) (no_1 : Int) (K : Kf_ R) : evFn z36 (Tb14 R) kk Tryz.f73 z50 [.dat y15 s_0 [], .dat (.int .i64) no_1 []] none K =
  z9l s_0 no_1 (fun a0 a1 a2 a3 a4 => loopR (ev z36 (Tb14 R) kk (sub [1, 0, 1, 0, 0] z50)) [1, 4, 9, 10, 11] [4, 5] kk (ztv a0 a1 a2 a3 a4) (zi 0 (kSeq z36 (Tb14 R) kk (sub [1, 1] z50) (kFin z36 Tryz.f73.results.toList none K)))) := by kernel_rfl
theorem z1zk (R : Type) (kk k : Nat) (no_1 : Int) (t9 : Zt15) (t10 : Int) (t11 : Int) (bt4 : Zt13) (K : Kx_ R) : loopR (ev z36 (Tb14 R) kk (sub [1, 0, 1, 0, 0] z50)) [1, 4, 9, 10, 11] [4, 5] (k + 1) (ztv no_1 t9 t10 t11 bt4) K =
  zgo no_1 t9 t10 t11 bt4 (fun a0 a1 => K .ret (zma a0 a1)) (fun a0 a1 a2 a3 a4 => loopR (ev z36 (Tb14 R) kk (sub [1, 0, 1, 0, 0] z50)) [1, 4, 9, 10, 11] [4, 5] k (ztv a0 a1 a2 a3 a4) K) (fun a0 => K (.exit 0) (zm0 a0)) := by kernel_rfl
theorem z1rz (R : Type) (kk : Nat) (t5 : Bool) (bt4 : Zt13) (K : Kf_ R) : (zi 0 (kSeq z36 (Tb14 R) kk (sub [1, 1] z50) (kFin z36 Tryz.f73.results.toList none K))) .ret (zma t5 bt4) =
  zhw t5 bt4 (fun a0 a1 => K [.dat y9 a0 [], .dat .bool a1 []] none) := by kernel_rfl
theorem z1l0 (R : Type) (kk : Nat) (bt4 : Zt13) (K : Kf_ R) : (zi 0 (kSeq z36 (Tb14 R) kk (sub [1, 1] z50) (kFin z36 Tryz.f73.results.toList none K))) (.exit 0) (zm0 bt4) =
  zjb bt4 (fun a0 a1 => K [.dat y9 a0 [], .dat .bool a1 []] none) := by kernel_rfl
theorem z1vo (R : Type) (k : Nat) (no_1 : Int) (t9 : Zt15) (t10 : Int) (t11 : Int) (bt4 : Zt13) (K : Kx_ R) : loopR (ev z36 (Tb14 R) FUEL (sub [1, 0, 1, 0, 0] z50)) [1, 4, 9, 10, 11] [4, 5] k (ztv no_1 t9 t10 t11 bt4) K = (zhy k no_1 t9 t10 t11 bt4).bind fun e => (Sum.elim (fun (we : (Bool × Zt13)) => K .ret (zma we.1 we.2)) (fun (we : Zt13) => K (.exit 0) (zm0 we)) e) := by
  induction k generalizing no_1 t9 t10 t11 bt4 with
  | zero => rfl
  | succ k ih =>
    rw [z1zk]
    simp only [zhy, znz, zpp, zso, zr7, ih, z8, z6, zd, z7, ze, zc, Sum.elim_inl, Sum.elim_inr]
theorem z1z1 (R : Type) (s_0 : Zt18) (no_1 : Int) (K : Kf_ R) : evFn z36 (Tb14 R) FUEL Tryz.f73 z50 [.dat y15 s_0 [], .dat (.int .i64) no_1 []] none K = (Q255 s_0 no_1).bind fun r => K [.dat y9 r.1 [], .dat .bool r.2 []] none := by
  rw [z251]
  simp only [Q255, znz, zpp, zso, zr7, z1vo, z1rz, z1l0, z8, z6, zd, z7, ze, zc, Sum.elim_inl, Sum.elim_inr]
def z1kg : Pure := fun R l b K => noBox b (args2 y15 (.int .i64) l (fun x0 x1 => (Q255 x0 x1).bind fun r => K [.dat y9 r.1 [], .dat .bool r.2 []] none))
theorem z28q : z1kg.Nat := fun R S l b F G K h => zh (zq fun _ _ => zg fun _ => h _ _)
def Tb15 : Funs := Tb14.add 73 [y15, (.int .i64)] z1kg
theorem z1aj : Tb15.Nat := zl z1ch z28q
theorem z1mw : ∀ f, Owes Tryz.prog Tb15 f := zk (E := z36) (Tab.env_ok zm _ _ _ _) mixed z1ch z1o8 (fn := Tryz.f73) (code := z50) Tryz.func73 (by kernel_rfl) (by kernel_rfl) fun l b r b' h => by
  obtain ⟨rfl, h⟩ := zf h
  obtain ⟨x0, x1, h1, h2⟩ := own2 (E := z36) rfl h
  exact ⟨FUEL, (h2 _ _ _ _ _ _).trans ((z1z1 _ x0 x1 _).trans h1)⟩
noncomputable abbrev z55 : Code := Tryz.f188.body.getD .skip
def z2n : Env := tab.env (fun i => bif Nat.beq i 2 then [0, 1, 7, 8] else []) (fun i => bif Nat.beq i 2 then [4] else []) [] [(.sl 3 (.int .i64)), (.int .i64)]
def zvm (a_0 : (List Int)) (a_1 : Int) (t7 : Int) (t8 : Int) : State := ⟨[.dat (.sl 3 (.int .i64)) a_0 []]::[.dat (.int .i64) a_1 []]::(uS 5 ([.dat (.int .i64) t7 []]::[.dat (.int .i64) t8 []]::(uS 10 ([])))), nS 20 []⟩
def zst (t4 : Int) : State := ⟨uS 4 ([.dat (.int .i64) t4 []]::(uS 14 ([]))), nS 20 []⟩
def zrl  : State := ⟨uS 19 [], nS 20 []⟩
theorem z238 (R : Type) (kk : Nat) (a_0 : (List Int)) (a_1 : Int) (K : Kf_ R) : evFn z2n (Tb15 R) kk Tryz.f188 z55 [.dat (.sl 3 (.int .i64)) a_0 [], .dat (.int .i64) a_1 []] none K =
  zac a_0 a_1 (fun a0 a1 a2 a3 => loopR (ev z2n (Tb15 R) kk (sub [1, 0, 1, 0, 0] z55)) [0, 1, 7, 8] [4] kk (zvm a0 a1 a2 a3) (zi 0 (kSeq z2n (Tb15 R) kk (sub [1, 1] z55) (kFin z2n Tryz.f188.results.toList none K)))) := by kernel_rfl
theorem z21n (R : Type) (kk k : Nat) (a_0 : (List Int)) (a_1 : Int) (t7 : Int) (t8 : Int) (K : Kx_ R) : loopR (ev z2n (Tb15 R) kk (sub [1, 0, 1, 0, 0] z55)) [0, 1, 7, 8] [4] (k + 1) (zvm a_0 a_1 t7 t8) K =
  zi7 a_0 a_1 t7 t8 (fun a0 => K .ret (zst a0)) (fun a0 a1 a2 a3 => loopR (ev z2n (Tb15 R) kk (sub [1, 0, 1, 0, 0] z55)) [0, 1, 7, 8] [4] k (zvm a0 a1 a2 a3) K) (K (.exit 0) (zrl)) := by kernel_rfl
theorem z1sq (R : Type) (kk : Nat) (t4 : Int) (K : Kf_ R) : (zi 0 (kSeq z2n (Tb15 R) kk (sub [1, 1] z55) (kFin z2n Tryz.f188.results.toList none K))) .ret (zst t4) =
  zen t4 (fun a0 => K [.dat (.int .i64) a0 []] none) := by kernel_rfl
theorem z1qq (R : Type) (kk : Nat)  (K : Kf_ R) : (zi 0 (kSeq z2n (Tb15 R) kk (sub [1, 1] z55) (kFin z2n Tryz.f188.results.toList none K))) (.exit 0) (zrl) =
  zfq (fun a0 => K [.dat (.int .i64) a0 []] none) := by kernel_rfl
theorem z1tj (R : Type) (k : Nat) (a_0 : (List Int)) (a_1 : Int) (t7 : Int) (t8 : Int) (K : Kx_ R) : loopR (ev z2n (Tb15 R) FUEL (sub [1, 0, 1, 0, 0] z55)) [0, 1, 7, 8] [4] k (zvm a_0 a_1 t7 t8) K = (zj0 k a_0 a_1 t7 t8).bind fun e => (Sum.elim (fun (we : Int) => K .ret (zst we)) (fun (we : Unit) => K (.exit 0) (zrl)) e) := by
  induction k generalizing a_0 a_1 t7 t8 with
  | zero => rfl
  | succ k ih =>
    rw [z21n]
    simp only [zj0, znv, zr1, zl7, zs8, ih, z8, z6, zd, z7, ze, zc, Sum.elim_inl, Sum.elim_inr]
theorem z20z (R : Type) (a_0 : (List Int)) (a_1 : Int) (K : Kf_ R) : evFn z2n (Tb15 R) FUEL Tryz.f188 z55 [.dat (.sl 3 (.int .i64)) a_0 [], .dat (.int .i64) a_1 []] none K = (Q264 a_0 a_1).bind fun r => K [.dat (.int .i64) r []] none := by
  rw [z238]
  simp only [Q264, znv, zr1, zl7, zs8, z1tj, z1sq, z1qq, z8, z6, zd, z7, ze, zc, Sum.elim_inl, Sum.elim_inr]
def z1in : Pure := fun R l b K => noBox b (args2 (.sl 3 (.int .i64)) (.int .i64) l (fun x0 x1 => (Q264 x0 x1).bind fun r => K [.dat (.int .i64) r []] none))
theorem z25l : z1in.Nat := fun R S l b F G K h => zh (zq fun _ _ => zg fun _ => h _ _)
def Tb16 : Funs := Tb15.add 188 [(.sl 3 (.int .i64)), (.int .i64)] z1in
theorem z1a4 : Tb16.Nat := zl z1aj z25l
theorem z1m3 : ∀ f, Owes Tryz.prog Tb16 f := zk (E := z2n) (Tab.env_ok zm _ _ _ _) mixed z1aj z1mw (fn := Tryz.f188) (code := z55) Tryz.func188 (by kernel_rfl) (by kernel_rfl) fun l b r b' h => by
  obtain ⟨rfl, h⟩ := zf h
  obtain ⟨x0, x1, h1, h2⟩ := own2 (E := z2n) rfl h
  exact ⟨FUEL, (h2 _ _ _ _ _ _).trans ((z20z _ x0 x1 _).trans h1)⟩
noncomputable abbrev z1bq : Code := Tryz.f132.body.getD .skip
def z107 : Env := tab.env (fun _ => []) (fun _ => []) [] [(.sl 3 (.int .i64)), (.int .i64)]
theorem z22v (R : Type) (kk : Nat) (a_0 : (List Int)) (a_1 : Int) (K : Kf_ R) : evFn z107 (Tb16 R) kk Tryz.f132 z1bq [.dat (.sl 3 (.int .i64)) a_0 [], .dat (.int .i64) a_1 []] none K =
  zag a_0 a_1 (fun a0 => K [.dat .bool a0 []] none) := by kernel_rfl
theorem z1y7 (R : Type) (a_0 : (List Int)) (a_1 : Int) (K : Kf_ R) : evFn z107 (Tb16 R) FUEL Tryz.f132 z1bq [.dat (.sl 3 (.int .i64)) a_0 [], .dat (.int .i64) a_1 []] none K = (Q260 a_0 a_1).bind fun r => K [.dat .bool r []] none := by
  rw [z22v]
  simp only [Q260, z19r, z8, z6, zd, z7, ze, zc, Sum.elim_inl, Sum.elim_inr]
def z1ja : Pure := fun R l b K => noBox b (args2 (.sl 3 (.int .i64)) (.int .i64) l (fun x0 x1 => (Q260 x0 x1).bind fun r => K [.dat .bool r []] none))
theorem z25y : z1ja.Nat := fun R S l b F G K h => zh (zq fun _ _ => zg fun _ => h _ _)
def Tb17 : Funs := Tb16.add 132 [(.sl 3 (.int .i64)), (.int .i64)] z1ja
theorem z182 : Tb17.Nat := zl z1a4 z25y
theorem z1p9 : ∀ f, Owes Tryz.prog Tb17 f := zk (E := z107) (Tab.env_ok zm _ _ _ _) mixed z1a4 z1m3 (fn := Tryz.f132) (code := z1bq) Tryz.func132 (by kernel_rfl) (by kernel_rfl) fun l b r b' h => by
  obtain ⟨rfl, h⟩ := zf h
  obtain ⟨x0, x1, h1, h2⟩ := own2 (E := z107) rfl h
  exact ⟨FUEL, (h2 _ _ _ _ _ _).trans ((z1y7 _ x0 x1 _).trans h1)⟩
noncomputable abbrev z1b0 : Code := Tryz.f74.body.getD .skip
def zzn : Env := tab.env (fun _ => []) (fun _ => []) [] [y18, (.int .i64)]
theorem z268 (R : Type) (kk : Nat) (s_0 : Zt26) (i_1 : Int) (K : Kf_ R) : evFn zzn (Tb17 R) kk Tryz.f74 z1b0 [.dat y18 s_0 [], .dat (.int .i64) i_1 []] none K =
  z9g s_0 i_1 (fun a0 => K [.dat (.int .i64) a0 []] none) := by kernel_rfl
theorem z1za (R : Type) (s_0 : Zt26) (i_1 : Int) (K : Kf_ R) : evFn zzn (Tb17 R) FUEL Tryz.f74 z1b0 [.dat y18 s_0 [], .dat (.int .i64) i_1 []] none K = (Q236 s_0 i_1).bind fun r => K [.dat (.int .i64) r []] none := by
  rw [z268]
  simp only [Q236, z16c, z8, z6, zd, z7, ze, zc, Sum.elim_inl, Sum.elim_inr]
def z1i1 : Pure := fun R l b K => noBox b (args2 y18 (.int .i64) l (fun x0 x1 => (Q236 x0 x1).bind fun r => K [.dat (.int .i64) r []] none))
theorem z29w : z1i1.Nat := fun R S l b F G K h => zh (zq fun _ _ => zg fun _ => h _ _)
def Tb18 : Funs := Tb17.add 74 [y18, (.int .i64)] z1i1
theorem z1c5 : Tb18.Nat := zl z182 z29w
theorem z1iy : ∀ f, Owes Tryz.prog Tb18 f := zk (E := zzn) (Tab.env_ok zm _ _ _ _) mixed z182 z1p9 (fn := Tryz.f74) (code := z1b0) Tryz.func74 (by kernel_rfl) (by kernel_rfl) fun l b r b' h => by
  obtain ⟨rfl, h⟩ := zf h
  obtain ⟨x0, x1, h1, h2⟩ := own2 (E := zzn) rfl h
  exact ⟨FUEL, (h2 _ _ _ _ _ _).trans ((z1za _ x0 x1 _).trans h1)⟩
noncomputable abbrev z1di : Code := Tryz.f134.body.getD .skip
def z111 : Env := tab.env (fun _ => []) (fun _ => []) [] [(.pair (.int .i64) (.pair .str .unit)), .unit]
theorem z24h (R : Type) (kk : Nat) (x_0 : Zt8) (free_1 : Zt8) (K : Kf_ R) : evFn z111 (Tb18 R) kk Tryz.f134 z1di [.dat (.pair (.int .i64) (.pair .str .unit)) x_0 [], .ptr 0 (.pair (.int .i64) (.pair .str .unit)) []] (some ⟨(.pair (.int .i64) (.pair .str .unit)), free_1, []⟩) K =
  zax x_0 free_1 (fun a0 a1 => K [.dat .bool a0 []] (some ⟨(.pair (.int .i64) (.pair .str .unit)), a1, []⟩)) := by kernel_rfl
theorem z22s (R : Type) (x_0 : Zt8) (free_1 : Zt8) (K : Kf_ R) : evFn z111 (Tb18 R) FUEL Tryz.f134 z1di [.dat (.pair (.int .i64) (.pair .str .unit)) x_0 [], .ptr 0 (.pair (.int .i64) (.pair .str .unit)) []] (some ⟨(.pair (.int .i64) (.pair .str .unit)), free_1, []⟩) K = (Q235 x_0 free_1).bind fun r => K [.dat .bool r.1 []] (some ⟨(.pair (.int .i64) (.pair .str .unit)), r.2, []⟩) := by
  rw [z24h]
  simp only [Q235, z18o, z8, z6, zd, z7, ze, zc, Sum.elim_inl, Sum.elim_inr]
def z1oo : Pure := fun R l b K => argZ1 (.pair (.int .i64) (.pair .str .unit)) (.pair (.int .i64) (.pair .str .unit)) (.pair (.int .i64) (.pair .str .unit)) [] l b fun x0 x => (Q235 x0 x).bind fun r => K [.dat .bool r.1 []] (some ⟨(.pair (.int .i64) (.pair .str .unit)), r.2, []⟩)
theorem z248 : z1oo.Nat := fun R S l b F G K h => z5y fun _ _ => zg fun _ => h _ _
def Tb19 : Funs := Tb18.add 134 [(.pair (.int .i64) (.pair .str .unit)), .unit] z1oo
theorem z16o : Tb19.Nat := zl z1c5 z248
theorem z1ij : ∀ f, Owes Tryz.prog Tb19 f := zk (E := z111) (Tab.env_ok zm _ _ _ _) mixed z1c5 z1iy (fn := Tryz.f134) (code := z1di) Tryz.func134 (by kernel_rfl) (by kernel_rfl) fun l b r b' h => by
  obtain ⟨x0, x, rfl, h1, h2⟩ := ownZ1 (E := z111) rfl h
  exact ⟨FUEL, (h2 _ _ _ _ _ _).trans ((z22s _ x0 x _).trans h1)⟩
noncomputable abbrev z5g : Code := Tryz.f189.body.getD .skip
def z2x : Env := tab.env (fun i => bif Nat.beq i 2 then [0, 1, 7, 8] else []) (fun i => bif Nat.beq i 2 then [4] else []) [] [(.sl 96 (.pair (.int .i64) (.pair .str .unit))), .unit]
def zu6 (a_0 : Zt11) (t7 : Int) (t8 : Int) (recv : Zt8) : State := ⟨[.dat (.sl 96 (.pair (.int .i64) (.pair .str .unit))) a_0 []]::[.ptr 0 (.spc (.clo 134) (.pair (.int .i64) (.pair .str .unit)) .unit) []]::(uS 5 ([.dat (.int .i64) t7 []]::[.dat (.int .i64) t8 []]::(uS 10 ([])))), (some ⟨(.pair (.int .i64) (.pair .str .unit)), recv, []⟩)::(nS 19 ([]))⟩
def znw (t4 : Int) (recv : Zt8) : State := ⟨uS 4 ([.dat (.int .i64) t4 []]::(uS 14 ([]))), (some ⟨(.pair (.int .i64) (.pair .str .unit)), recv, []⟩)::(nS 19 ([]))⟩
def zsn (recv : Zt8) : State := ⟨uS 19 [], (some ⟨(.pair (.int .i64) (.pair .str .unit)), recv, []⟩)::(nS 19 ([]))⟩
theorem z24b (R : Type) (kk : Nat) (a_0 : Zt11) (a_1 : Zt8) (K : Kf_ R) : evFn z2x (Tb19 R) kk Tryz.f189 z5g [.dat (.sl 96 (.pair (.int .i64) (.pair .str .unit))) a_0 [], .ptr 0 (.spc (.clo 134) (.pair (.int .i64) (.pair .str .unit)) .unit) []] (some ⟨(.pair (.int .i64) (.pair .str .unit)), a_1, []⟩) K =
  zbk a_0 a_1 (fun a0 a1 a2 a3 => loopR (ev z2x (Tb19 R) kk (sub [1, 0, 1, 0, 0] z5g)) [0, 1, 7, 8] [4] kk (zu6 a0 a1 a2 a3) (zi 0 (kSeq z2x (Tb19 R) kk (sub [1, 1] z5g) (kFin z2x Tryz.f189.results.toList (some ⟨(.pair (.int .i64) (.pair .str .unit)), a_1, []⟩) K)))) := by kernel_rfl
theorem z1zm (R : Type) (kk k : Nat) (a_0 : Zt11) (t7 : Int) (t8 : Int) (recv : Zt8) (K : Kx_ R) : loopR (ev z2x (Tb19 R) kk (sub [1, 0, 1, 0, 0] z5g)) [0, 1, 7, 8] [4] (k + 1) (zu6 a_0 t7 t8 recv) K =
  zj2 a_0 t7 t8 recv (fun a0 a1 => K .ret (znw a0 a1)) (fun a0 a1 a2 a3 => loopR (ev z2x (Tb19 R) kk (sub [1, 0, 1, 0, 0] z5g)) [0, 1, 7, 8] [4] k (zu6 a0 a1 a2 a3) K) (fun a0 => K (.exit 0) (zsn a0)) := by kernel_rfl
theorem z1si (R : Type) (kk : Nat) (x0 : Zt8) (t4 : Int) (recv : Zt8) (K : Kf_ R) : (zi 0 (kSeq z2x (Tb19 R) kk (sub [1, 1] z5g) (kFin z2x Tryz.f189.results.toList (some ⟨(.pair (.int .i64) (.pair .str .unit)), x0, []⟩) K))) .ret (znw t4 recv) =
  zjn t4 recv (fun a0 a1 => K [.dat (.int .i64) a0 []] (some ⟨(.pair (.int .i64) (.pair .str .unit)), a1, []⟩)) := by kernel_rfl
theorem z1jz (R : Type) (kk : Nat) (x0 : Zt8) (recv : Zt8) (K : Kf_ R) : (zi 0 (kSeq z2x (Tb19 R) kk (sub [1, 1] z5g) (kFin z2x Tryz.f189.results.toList (some ⟨(.pair (.int .i64) (.pair .str .unit)), x0, []⟩) K))) (.exit 0) (zsn recv) =
  ze6 recv (fun a0 a1 => K [.dat (.int .i64) a0 []] (some ⟨(.pair (.int .i64) (.pair .str .unit)), a1, []⟩)) := by kernel_rfl
theorem z1tf (R : Type) (k : Nat) (a_0 : Zt11) (t7 : Int) (t8 : Int) (recv : Zt8) (K : Kx_ R) : loopR (ev z2x (Tb19 R) FUEL (sub [1, 0, 1, 0, 0] z5g)) [0, 1, 7, 8] [4] k (zu6 a_0 t7 t8 recv) K = (zjh k a_0 t7 t8 recv).bind fun e => (Sum.elim (fun (we : (Int × Zt8)) => K .ret (znw we.1 we.2)) (fun (we : Zt8) => K (.exit 0) (zsn we)) e) := by
  induction k generalizing a_0 t7 t8 recv with
  | zero => rfl
  | succ k ih =>
    rw [z1zm]
    simp only [zjh, zly, ztt, zrg, zre, ih, z8, z6, zd, z7, ze, zc, Sum.elim_inl, Sum.elim_inr]
theorem z20b (R : Type) (a_0 : Zt11) (a_1 : Zt8) (K : Kf_ R) : evFn z2x (Tb19 R) FUEL Tryz.f189 z5g [.dat (.sl 96 (.pair (.int .i64) (.pair .str .unit))) a_0 [], .ptr 0 (.spc (.clo 134) (.pair (.int .i64) (.pair .str .unit)) .unit) []] (some ⟨(.pair (.int .i64) (.pair .str .unit)), a_1, []⟩) K = (Q262 a_0 a_1).bind fun r => K [.dat (.int .i64) r.1 []] (some ⟨(.pair (.int .i64) (.pair .str .unit)), r.2, []⟩) := by
  rw [z24b]
  simp only [Q262, zly, ztt, zrg, zre, z1tf, z1si, z1jz, z8, z6, zd, z7, ze, zc, Sum.elim_inl, Sum.elim_inr]
def z1ol : Pure := fun R l b K => argZ1 (.sl 96 (.pair (.int .i64) (.pair .str .unit))) (.spc (.clo 134) (.pair (.int .i64) (.pair .str .unit)) .unit) (.pair (.int .i64) (.pair .str .unit)) [] l b fun x0 x => (Q262 x0 x).bind fun r => K [.dat (.int .i64) r.1 []] (some ⟨(.pair (.int .i64) (.pair .str .unit)), r.2, []⟩)
theorem z237 : z1ol.Nat := fun R S l b F G K h => z5y fun _ _ => zg fun _ => h _ _
def Tb20 : Funs := Tb19.add 189 [(.sl 96 (.pair (.int .i64) (.pair .str .unit))), .unit] z1ol
theorem z17m : Tb20.Nat := zl z16o z237
theorem z1iw : ∀ f, Owes Tryz.prog Tb20 f := zk (E := z2x) (Tab.env_ok zm _ _ _ _) mixed z16o z1ij (fn := Tryz.f189) (code := z5g) Tryz.func189 (by kernel_rfl) (by kernel_rfl) fun l b r b' h => by
  obtain ⟨x0, x, rfl, h1, h2⟩ := ownZ1 (E := z2x) rfl h
  exact ⟨FUEL, (h2 _ _ _ _ _ _).trans ((z20b _ x0 x _).trans h1)⟩
noncomputable abbrev z19w : Code := Tryz.f133.body.getD .skip
def zzf : Env := tab.env (fun _ => []) (fun _ => []) [] [(.sl 96 (.pair (.int .i64) (.pair .str .unit))), .unit]
theorem z24a (R : Type) (kk : Nat) (a_0 : Zt11) (a_1 : Zt8) (K : Kf_ R) : evFn zzf (Tb20 R) kk Tryz.f133 z19w [.dat (.sl 96 (.pair (.int .i64) (.pair .str .unit))) a_0 [], .ptr 0 (.spc (.clo 134) (.pair (.int .i64) (.pair .str .unit)) .unit) []] (some ⟨(.pair (.int .i64) (.pair .str .unit)), a_1, []⟩) K =
  zal a_0 a_1 (fun a0 a1 => K [.dat .bool a0 []] (some ⟨(.pair (.int .i64) (.pair .str .unit)), a1, []⟩)) := by kernel_rfl
theorem z219 (R : Type) (a_0 : Zt11) (a_1 : Zt8) (K : Kf_ R) : evFn zzf (Tb20 R) FUEL Tryz.f133 z19w [.dat (.sl 96 (.pair (.int .i64) (.pair .str .unit))) a_0 [], .ptr 0 (.spc (.clo 134) (.pair (.int .i64) (.pair .str .unit)) .unit) []] (some ⟨(.pair (.int .i64) (.pair .str .unit)), a_1, []⟩) K = (Q259 a_0 a_1).bind fun r => K [.dat .bool r.1 []] (some ⟨(.pair (.int .i64) (.pair .str .unit)), r.2, []⟩) := by
  rw [z24a]
  simp only [Q259, z19q, z8, z6, zd, z7, ze, zc, Sum.elim_inl, Sum.elim_inr]
def z1ix : Pure := fun R l b K => argZ1 (.sl 96 (.pair (.int .i64) (.pair .str .unit))) (.spc (.clo 134) (.pair (.int .i64) (.pair .str .unit)) .unit) (.pair (.int .i64) (.pair .str .unit)) [] l b fun x0 x => (Q259 x0 x).bind fun r => K [.dat .bool r.1 []] (some ⟨(.pair (.int .i64) (.pair .str .unit)), r.2, []⟩)
theorem z242 : z1ix.Nat := fun R S l b F G K h => z5y fun _ _ => zg fun _ => h _ _
def Tb21 : Funs := Tb20.add 133 [(.sl 96 (.pair (.int .i64) (.pair .str .unit))), .unit] z1ix
theorem z194 : Tb21.Nat := zl z17m z242
theorem z1k5 : ∀ f, Owes Tryz.prog Tb21 f := zk (E := zzf) (Tab.env_ok zm _ _ _ _) mixed z17m z1iw (fn := Tryz.f133) (code := z19w) Tryz.func133 (by kernel_rfl) (by kernel_rfl) fun l b r b' h => by
  obtain ⟨x0, x, rfl, h1, h2⟩ := ownZ1 (E := zzf) rfl h
  exact ⟨FUEL, (h2 _ _ _ _ _ _).trans ((z219 _ x0 x _).trans h1)⟩
noncomputable abbrev Q18_c : Code := Tryz.f212.body.getD .skip
def Q18_E : Env := tab.env (fun _ => []) (fun _ => []) [] [(.int .u8)]
theorem Q18_t (R : Type) (kk : Nat) (b_0 : Int) (K : Kf_ R) : evFn Q18_E (Tb21 R) kk Tryz.f212 Q18_c [.dat (.int .u8) b_0 []] none K =
  zrp b_0 (fun a0 => K [.dat (.int .i64) a0 []] none) := by kernel_rfl
theorem z265 (R : Type) (b_0 : Int) (K : Kf_ R) : evFn Q18_E (Tb21 R) FUEL Tryz.f212 Q18_c [.dat (.int .u8) b_0 []] none K = (Q18 b_0).bind fun r => K [.dat (.int .i64) r []] none := by
  rw [Q18_t]
  simp only [Q18, z1ei, z8, z6, zd, z7, ze, zc, Sum.elim_inl, Sum.elim_inr]
def Q18_g : Pure := fun R l b K => noBox b (args1 (.int .u8) l (fun x0 => (Q18 x0).bind fun r => K [.dat (.int .i64) r []] none))
theorem Q18_n : Q18_g.Nat := fun R S l b F G K h => zh (zp fun _ => zg fun _ => h _ _)
def Tb22 : Funs := Tb21.add 212 [(.int .u8)] Q18_g
theorem z1an : Tb22.Nat := zl z194 Q18_n
theorem z1qk : ∀ f, Owes Tryz.prog Tb22 f := zk (E := Q18_E) (Tab.env_ok zm _ _ _ _) mixed z194 z1k5 (fn := Tryz.f212) (code := Q18_c) Tryz.func212 (by kernel_rfl) (by kernel_rfl) fun l b r b' h => by
  obtain ⟨rfl, h⟩ := zf h
  obtain ⟨x0, h1, h2⟩ := own1 (E := Q18_E) rfl h
  exact ⟨FUEL, (h2 _ _ _ _ _ _).trans ((z265 _ x0 _).trans h1)⟩
noncomputable abbrev Q15_c : Code := Tryz.f190.body.getD .skip
def Q15_E : Env := tab.env (fun i => bif Nat.beq i 3 then [1, 5, 6] else []) (fun i => bif Nat.beq i 3 then [4] else []) [] [(.int .i64), .str]
def zzw (s_1 : ByteArray) (t5 : Int) (t6 : Int) : State := ⟨uS 1 ([.dat .str s_1 []]::(uS 3 ([.dat (.int .i64) t5 []]::[.dat (.int .i64) t6 []]::(uS 16 ([]))))), nS 24 []⟩
def zy9 (t4 : Int) : State := ⟨uS 4 ([.dat (.int .i64) t4 []]::(uS 18 ([]))), nS 24 []⟩
def zye  : State := ⟨uS 23 [], nS 24 []⟩
theorem Q15_t (R : Type) (kk : Nat) (class_0 : Int) (s_1 : ByteArray) (K : Kf_ R) : evFn Q15_E (Tb22 R) kk Tryz.f190 Q15_c [.dat (.int .i64) class_0 [], .dat .str s_1 []] none K =
  ze4 class_0 s_1 (fun a0 a1 a2 => loopR (ev Q15_E (Tb22 R) kk (sub [1, 1, 0, 1, 0, 0] Q15_c)) [1, 5, 6] [4] kk (zzw a0 a1 a2) (zi 0 (kSeq Q15_E (Tb22 R) kk (sub [1, 1, 1] Q15_c) (kFin Q15_E Tryz.f190.results.toList none K)))) := by kernel_rfl
theorem z289 (R : Type) (kk k : Nat) (s_1 : ByteArray) (t5 : Int) (t6 : Int) (K : Kx_ R) : loopR (ev Q15_E (Tb22 R) kk (sub [1, 1, 0, 1, 0, 0] Q15_c)) [1, 5, 6] [4] (k + 1) (zzw s_1 t5 t6) K =
  zco s_1 t5 t6 (fun a0 => K .ret (zy9 a0)) (fun a0 a1 a2 => loopR (ev Q15_E (Tb22 R) kk (sub [1, 1, 0, 1, 0, 0] Q15_c)) [1, 5, 6] [4] k (zzw a0 a1 a2) K) (K (.exit 0) (zye)) := by kernel_rfl
theorem z1tc (R : Type) (kk : Nat) (t4 : Int) (K : Kf_ R) : (zi 0 (kSeq Q15_E (Tb22 R) kk (sub [1, 1, 1] Q15_c) (kFin Q15_E Tryz.f190.results.toList none K))) .ret (zy9 t4) =
  zsv t4 (fun a0 => K [.dat (.int .i64) a0 []] none) := by kernel_rfl
theorem z1vw (R : Type) (kk : Nat)  (K : Kf_ R) : (zi 0 (kSeq Q15_E (Tb22 R) kk (sub [1, 1, 1] Q15_c) (kFin Q15_E Tryz.f190.results.toList none K))) (.exit 0) (zye) =
  zle (fun a0 => K [.dat (.int .i64) a0 []] none) := by kernel_rfl
theorem z22h (R : Type) (k : Nat) (s_1 : ByteArray) (t5 : Int) (t6 : Int) (K : Kx_ R) : loopR (ev Q15_E (Tb22 R) FUEL (sub [1, 1, 0, 1, 0, 0] Q15_c)) [1, 5, 6] [4] k (zzw s_1 t5 t6) K = (zcd k s_1 t5 t6).bind fun e => (Sum.elim (fun (we : Int) => K .ret (zy9 we)) (fun (we : Unit) => K (.exit 0) (zye)) e) := by
  induction k generalizing s_1 t5 t6 with
  | zero => rfl
  | succ k ih =>
    rw [z289]
    simp only [zcd, zx5, zwz, zwj, zx2, ih, z8, z6, zd, z7, ze, zc, Sum.elim_inl, Sum.elim_inr]
theorem z25p (R : Type) (class_0 : Int) (s_1 : ByteArray) (K : Kf_ R) : evFn Q15_E (Tb22 R) FUEL Tryz.f190 Q15_c [.dat (.int .i64) class_0 [], .dat .str s_1 []] none K = (Q15 class_0 s_1).bind fun r => K [.dat (.int .i64) r []] none := by
  rw [Q15_t]
  simp only [Q15, zx5, zwz, zwj, zx2, z22h, z1tc, z1vw, z8, z6, zd, z7, ze, zc, Sum.elim_inl, Sum.elim_inr]
def Q15_g : Pure := fun R l b K => noBox b (args2 (.int .i64) .str l (fun x0 x1 => (Q15 x0 x1).bind fun r => K [.dat (.int .i64) r []] none))
theorem Q15_n : Q15_g.Nat := fun R S l b F G K h => zh (zq fun _ _ => zg fun _ => h _ _)
def Tb23 : Funs := Tb22.add 190 [(.int .i64), .str] Q15_g
theorem z16i : Tb23.Nat := zl z1an Q15_n
theorem z1l1 : ∀ f, Owes Tryz.prog Tb23 f := zk (E := Q15_E) (Tab.env_ok zm _ _ _ _) mixed z1an z1qk (fn := Tryz.f190) (code := Q15_c) Tryz.func190 (by kernel_rfl) (by kernel_rfl) fun l b r b' h => by
  obtain ⟨rfl, h⟩ := zf h
  obtain ⟨x0, x1, h1, h2⟩ := own2 (E := Q15_E) rfl h
  exact ⟨FUEL, (h2 _ _ _ _ _ _).trans ((z25p _ x0 x1 _).trans h1)⟩
noncomputable abbrev z16l : Code := Tryz.f227.body.getD .skip
def zza : Env := tab.env (fun _ => []) (fun _ => []) [] [(.int .i64)]
theorem z28p (R : Type) (kk : Nat) (b_0 : Int) (K : Kf_ R) : evFn zza (Tb23 R) kk Tryz.f227 z16l [.dat (.int .i64) b_0 []] none K =
  zfa b_0 (fun a0 => K [.dat .bool a0 []] none) := by kernel_rfl
theorem z21y (R : Type) (b_0 : Int) (K : Kf_ R) : evFn zza (Tb23 R) FUEL Tryz.f227 z16l [.dat (.int .i64) b_0 []] none K = (Q278 b_0).bind fun r => K [.dat .bool r []] none := by
  rw [z28p]
  simp only [Q278, z17h, z8, z6, zd, z7, ze, zc, Sum.elim_inl, Sum.elim_inr]
def z1p5 : Pure := fun R l b K => noBox b (args1 (.int .i64) l (fun x0 => (Q278 x0).bind fun r => K [.dat .bool r []] none))
theorem z27c : z1p5.Nat := fun R S l b F G K h => zh (zp fun _ => zg fun _ => h _ _)
def Tb24 : Funs := Tb23.add 227 [(.int .i64)] z1p5
theorem z1c6 : Tb24.Nat := zl z16i z27c
theorem z1im : ∀ f, Owes Tryz.prog Tb24 f := zk (E := zza) (Tab.env_ok zm _ _ _ _) mixed z16i z1l1 (fn := Tryz.f227) (code := z16l) Tryz.func227 (by kernel_rfl) (by kernel_rfl) fun l b r b' h => by
  obtain ⟨rfl, h⟩ := zf h
  obtain ⟨x0, h1, h2⟩ := own1 (E := zza) rfl h
  exact ⟨FUEL, (h2 _ _ _ _ _ _).trans ((z21y _ x0 _).trans h1)⟩
noncomputable abbrev z19d : Code := Tryz.f228.body.getD .skip
def z10d : Env := tab.env (fun _ => []) (fun _ => []) [] [(.int .i64)]
theorem z26x (R : Type) (kk : Nat) (tag_0 : Int) (K : Kf_ R) : evFn z10d (Tb24 R) kk Tryz.f228 z19d [.dat (.int .i64) tag_0 []] none K =
  z9y tag_0 (fun a0 => K [.dat .bool a0 []] none) := by kernel_rfl
theorem z22k (R : Type) (tag_0 : Int) (K : Kf_ R) : evFn z10d (Tb24 R) FUEL Tryz.f228 z19d [.dat (.int .i64) tag_0 []] none K = (Q277 tag_0).bind fun r => K [.dat .bool r []] none := by
  rw [z26x]
  simp only [Q277, z1ad, z8, z6, zd, z7, ze, zc, Sum.elim_inl, Sum.elim_inr]
def z1ju : Pure := fun R l b K => noBox b (args1 (.int .i64) l (fun x0 => (Q277 x0).bind fun r => K [.dat .bool r []] none))
theorem z28j : z1ju.Nat := fun R S l b F G K h => zh (zp fun _ => zg fun _ => h _ _)
def Tb25 : Funs := Tb24.add 228 [(.int .i64)] z1ju
theorem z1c2 : Tb25.Nat := zl z1c6 z28j
theorem z1pm : ∀ f, Owes Tryz.prog Tb25 f := zk (E := z10d) (Tab.env_ok zm _ _ _ _) mixed z1c6 z1im (fn := Tryz.f228) (code := z19d) Tryz.func228 (by kernel_rfl) (by kernel_rfl) fun l b r b' h => by
  obtain ⟨rfl, h⟩ := zf h
  obtain ⟨x0, h1, h2⟩ := own1 (E := z10d) rfl h
  exact ⟨FUEL, (h2 _ _ _ _ _ _).trans ((z22k _ x0 _).trans h1)⟩
noncomputable abbrev z19v : Code := Tryz.f213.body.getD .skip
def z108 : Env := tab.env (fun _ => []) (fun _ => []) [] [.str, (.int .i64)]
theorem z297 (R : Type) (kk : Nat) (b_0 : ByteArray) (at_1 : Int) (K : Kf_ R) : evFn z108 (Tb25 R) kk Tryz.f213 z19v [.dat .str b_0 [], .dat (.int .i64) at_1 []] none K =
  zbq b_0 at_1 (fun a0 a1 a2 => K [.dat (.int .i64) a0 [], .dat (.int .i64) a1 [], .dat (.int .i64) a2 []] none) := by kernel_rfl
theorem z1y4 (R : Type) (b_0 : ByteArray) (at_1 : Int) (K : Kf_ R) : evFn z108 (Tb25 R) FUEL Tryz.f213 z19v [.dat .str b_0 [], .dat (.int .i64) at_1 []] none K = (Q276 b_0 at_1).bind fun r => K [.dat (.int .i64) r.1 [], .dat (.int .i64) r.2.1 [], .dat (.int .i64) r.2.2 []] none := by
  rw [z297]
  simp only [Q276, z1cy, z8, z6, zd, z7, ze, zc, Sum.elim_inl, Sum.elim_inr]
def z1p3 : Pure := fun R l b K => noBox b (args2 .str (.int .i64) l (fun x0 x1 => (Q276 x0 x1).bind fun r => K [.dat (.int .i64) r.1 [], .dat (.int .i64) r.2.1 [], .dat (.int .i64) r.2.2 []] none))
theorem z26s : z1p3.Nat := fun R S l b F G K h => zh (zq fun _ _ => zg fun _ => h _ _)
def Tb26 : Funs := Tb25.add 213 [.str, (.int .i64)] z1p3
theorem z16n : Tb26.Nat := zl z1c2 z26s
theorem z1n5 : ∀ f, Owes Tryz.prog Tb26 f := zk (E := z108) (Tab.env_ok zm _ _ _ _) mixed z1c2 z1pm (fn := Tryz.f213) (code := z19v) Tryz.func213 (by kernel_rfl) (by kernel_rfl) fun l b r b' h => by
  obtain ⟨rfl, h⟩ := zf h
  obtain ⟨x0, x1, h1, h2⟩ := own2 (E := z108) rfl h
  exact ⟨FUEL, (h2 _ _ _ _ _ _).trans ((z1y4 _ x0 x1 _).trans h1)⟩
noncomputable abbrev Q4_c : Code := Tryz.f229.body.getD .skip
def Q4_E : Env := tab.env (fun _ => []) (fun _ => []) [] [(.int .i64)]
theorem Q4_t (R : Type) (kk : Nat) (n_0 : Int) (K : Kf_ R) : evFn Q4_E (Tb26 R) kk Tryz.f229 Q4_c [.dat (.int .i64) n_0 []] none K =
  Q4_s0 n_0 (fun a0 => K [.dat (.int .i64) a0 []] none) := by kernel_rfl
theorem Q4_eq (R : Type) (n_0 : Int) (K : Kf_ R) : evFn Q4_E (Tb26 R) FUEL Tryz.f229 Q4_c [.dat (.int .i64) n_0 []] none K = (Q4 n_0).bind fun r => K [.dat (.int .i64) r []] none := by
  rw [Q4_t]
  simp only [Q4, z1gu, z8, z6, zd, z7, ze, zc, Sum.elim_inl, Sum.elim_inr]
def Q4_g : Pure := fun R l b K => noBox b (args1 (.int .i64) l (fun x0 => (Q4 x0).bind fun r => K [.dat (.int .i64) r []] none))
theorem Q4_n : Q4_g.Nat := fun R S l b F G K h => zh (zp fun _ => zg fun _ => h _ _)
def Tb27 : Funs := Tb26.add 229 [(.int .i64)] Q4_g
theorem z18r : Tb27.Nat := zl z16n Q4_n
theorem z1qu : ∀ f, Owes Tryz.prog Tb27 f := zk (E := Q4_E) (Tab.env_ok zm _ _ _ _) mixed z16n z1n5 (fn := Tryz.f229) (code := Q4_c) Tryz.func229 (by kernel_rfl) (by kernel_rfl) fun l b r b' h => by
  obtain ⟨rfl, h⟩ := zf h
  obtain ⟨x0, h1, h2⟩ := own1 (E := Q4_E) rfl h
  exact ⟨FUEL, (h2 _ _ _ _ _ _).trans ((Q4_eq _ x0 _).trans h1)⟩
noncomputable abbrev Q3_c : Code := Tryz.f214.body.getD .skip
def Q3_E : Env := tab.env (fun i => bif Nat.beq i 14 then [0, 1, 7, 8, 44, 45] else []) (fun i => bif Nat.beq i 14 then [1, 7, 8] else []) [] [.str, (.int .i64)]
def Q3_h0 (b_0 : ByteArray) (at_1 : Int) (t7 : Int) (t8 : Int) (t44 : Int) (t45 : Int) : State := ⟨[.dat .str b_0 []]::[.dat (.int .i64) at_1 []]::(uS 5 ([.dat (.int .i64) t7 []]::[.dat (.int .i64) t8 []]::(uS 35 ([.dat (.int .i64) t44 []]::[.dat (.int .i64) t45 []]::(uS 21 ([])))))), nS 68 []⟩
def z12g (at_1 : Int) (t7 : Int) (t8 : Int) : State := ⟨uS 1 ([.dat (.int .i64) at_1 []]::(uS 5 ([.dat (.int .i64) t7 []]::[.dat (.int .i64) t8 []]::(uS 58 ([]))))), nS 68 []⟩
theorem Q3_t (R : Type) (kk : Nat) (b_0 : ByteArray) (at_1 : Int) (K : Kf_ R) : evFn Q3_E (Tb27 R) kk Tryz.f214 Q3_c [.dat .str b_0 [], .dat (.int .i64) at_1 []] none K =
  Q3_s0 b_0 at_1 (fun a0 a1 a2 => K [.dat (.int .i64) a0 [], .dat (.int .i64) a1 [], .dat (.int .i64) a2 []] none) (fun a0 a1 a2 a3 a4 a5 => loopR (ev Q3_E (Tb27 R) kk (sub [1, 1, 1, 1, 1, 1, 1, 0, 1, 0, 0] Q3_c)) [0, 1, 7, 8, 44, 45] [1, 7, 8] kk (Q3_h0 a0 a1 a2 a3 a4 a5) (zi 0 (kSeq Q3_E (Tb27 R) kk (sub [1, 1, 1, 1, 1, 1, 1, 1] Q3_c) (kFin Q3_E Tryz.f214.results.toList none K)))) := by kernel_rfl
theorem Q3_d0 (R : Type) (kk k : Nat) (b_0 : ByteArray) (at_1 : Int) (t7 : Int) (t8 : Int) (t44 : Int) (t45 : Int) (K : Kx_ R) : loopR (ev Q3_E (Tb27 R) kk (sub [1, 1, 1, 1, 1, 1, 1, 0, 1, 0, 0] Q3_c)) [0, 1, 7, 8, 44, 45] [1, 7, 8] (k + 1) (Q3_h0 b_0 at_1 t7 t8 t44 t45) K =
  Q3_s1 b_0 at_1 t7 t8 t44 t45 (fun a0 a1 a2 a3 a4 a5 => loopR (ev Q3_E (Tb27 R) kk (sub [1, 1, 1, 1, 1, 1, 1, 0, 1, 0, 0] Q3_c)) [0, 1, 7, 8, 44, 45] [1, 7, 8] k (Q3_h0 a0 a1 a2 a3 a4 a5) K) (fun a0 a1 a2 => K (.exit 0) (z12g a0 a1 a2)) := by kernel_rfl
theorem z22q (R : Type) (kk : Nat) (at_1 : Int) (t7 : Int) (t8 : Int) (K : Kf_ R) : (zi 0 (kSeq Q3_E (Tb27 R) kk (sub [1, 1, 1, 1, 1, 1, 1, 1] Q3_c) (kFin Q3_E Tryz.f214.results.toList none K))) (.exit 0) (z12g at_1 t7 t8) =
  Q3_s2 at_1 t7 t8 (fun a0 a1 a2 => K [.dat (.int .i64) a0 [], .dat (.int .i64) a1 [], .dat (.int .i64) a2 []] none) := by kernel_rfl
theorem z26e (R : Type) (k : Nat) (b_0 : ByteArray) (at_1 : Int) (t7 : Int) (t8 : Int) (t44 : Int) (t45 : Int) (K : Kx_ R) : loopR (ev Q3_E (Tb27 R) FUEL (sub [1, 1, 1, 1, 1, 1, 1, 0, 1, 0, 0] Q3_c)) [0, 1, 7, 8, 44, 45] [1, 7, 8] k (Q3_h0 b_0 at_1 t7 t8 t44 t45) K = (Q3_l0 k b_0 at_1 t7 t8 t44 t45).bind fun e => K (.exit 0) (z12g e.1 e.2.1 e.2.2) := by
  induction k generalizing b_0 at_1 t7 t8 t44 t45 with
  | zero => rfl
  | succ k ih =>
    rw [Q3_d0]
    simp only [Q3_l0, z118, z11x, z104, ih, z8, z6, zd, z7, ze, zc, Sum.elim_inl, Sum.elim_inr]
theorem Q3_eq (R : Type) (b_0 : ByteArray) (at_1 : Int) (K : Kf_ R) : evFn Q3_E (Tb27 R) FUEL Tryz.f214 Q3_c [.dat .str b_0 [], .dat (.int .i64) at_1 []] none K = (Q3 b_0 at_1).bind fun r => K [.dat (.int .i64) r.1 [], .dat (.int .i64) r.2.1 [], .dat (.int .i64) r.2.2 []] none := by
  rw [Q3_t]
  simp only [Q3, z118, z11x, z104, z26e, z22q, z8, z6, zd, z7, ze, zc, Sum.elim_inl, Sum.elim_inr]
def Q3_g : Pure := fun R l b K => noBox b (args2 .str (.int .i64) l (fun x0 x1 => (Q3 x0 x1).bind fun r => K [.dat (.int .i64) r.1 [], .dat (.int .i64) r.2.1 [], .dat (.int .i64) r.2.2 []] none))
theorem Q3_n : Q3_g.Nat := fun R S l b F G K h => zh (zq fun _ _ => zg fun _ => h _ _)
def Tb28 : Funs := Tb27.add 214 [.str, (.int .i64)] Q3_g
theorem z17c : Tb28.Nat := zl z18r Q3_n
theorem z1oi : ∀ f, Owes Tryz.prog Tb28 f := zk (E := Q3_E) (Tab.env_ok zm _ _ _ _) mixed z18r z1qu (fn := Tryz.f214) (code := Q3_c) Tryz.func214 (by kernel_rfl) (by kernel_rfl) fun l b r b' h => by
  obtain ⟨rfl, h⟩ := zf h
  obtain ⟨x0, x1, h1, h2⟩ := own2 (E := Q3_E) rfl h
  exact ⟨FUEL, (h2 _ _ _ _ _ _).trans ((Q3_eq _ x0 x1 _).trans h1)⟩
noncomputable abbrev z4z : Code := Tryz.f191.body.getD .skip
def z2w : Env := tab.env (fun i => bif Nat.beq i 4 then [0, 5, 6, 7, 13] else []) (fun i => bif Nat.beq i 4 then [2, 3, 4, 5] else []) [] [.str]
def zud (b_0 : ByteArray) (t5 : Zt11) (t7 : Int) (bt6 : Zt6) : State := ⟨[.dat .str b_0 []]::(uS 4 ([.dat (.sl 245 (.pair (.int .i64) (.pair .str .unit))) t5 [[]]]::[.ptr 14 (.spc .mp (.int .i64) .bool) []]::[.dat (.int .i64) t7 []]::(uS 5 ([.ptr 14 (.spc .mp (.int .i64) .bool) []]::(uS 58 ([])))))), nS 14 ((some ⟨(.spc .mp (.int .i64) .bool), bt6, []⟩)::(nS 58 ([])))⟩
def zod (t2 : Zt11) (t3 : Int) (t4 : Int) (t5 : Zt11) : State := ⟨uS 2 ([.dat (.sl 245 (.pair (.int .i64) (.pair .str .unit))) t2 [[]]]::[.dat (.int .i64) t3 []]::[.dat (.int .i64) t4 []]::[.dat (.sl 245 (.pair (.int .i64) (.pair .str .unit))) t5 [[]]]::(uS 66 ([]))), nS 73 []⟩
def zlo (t5 : Zt11) : State := ⟨uS 5 ([.dat (.sl 245 (.pair (.int .i64) (.pair .str .unit))) t5 [[]]]::(uS 66 ([]))), nS 73 []⟩
theorem z27f (R : Type) (kk : Nat) (b_0 : ByteArray) (K : Kf_ R) : evFn z2w (Tb28 R) kk Tryz.f191 z4z [.dat .str b_0 []] none K =
  zap b_0 (fun a0 a1 a2 a3 => loopR (ev z2w (Tb28 R) kk (sub [1, 1, 1, 0, 1, 0, 0] z4z)) [0, 5, 6, 7, 13] [2, 3, 4, 5] kk (zud a0 a1 a2 a3) (zi 0 (kSeq z2w (Tb28 R) kk (sub [1, 1, 1, 1] z4z) (kFin z2w Tryz.f191.results.toList none K)))) := by kernel_rfl
theorem z1zc (R : Type) (kk k : Nat) (b_0 : ByteArray) (t5 : Zt11) (t7 : Int) (bt6 : Zt6) (K : Kx_ R) : loopR (ev z2w (Tb28 R) kk (sub [1, 1, 1, 0, 1, 0, 0] z4z)) [0, 5, 6, 7, 13] [2, 3, 4, 5] (k + 1) (zud b_0 t5 t7 bt6) K =
  z9s b_0 t5 t7 bt6 (fun a0 a1 a2 a3 => K .ret (zod a0 a1 a2 a3)) (fun a0 a1 a2 a3 => loopR (ev z2w (Tb28 R) kk (sub [1, 1, 1, 0, 1, 0, 0] z4z)) [0, 5, 6, 7, 13] [2, 3, 4, 5] k (zud a0 a1 a2 a3) K) (fun a0 => K (.exit 0) (zlo a0)) := by kernel_rfl
theorem z1nz (R : Type) (kk : Nat) (t2 : Zt11) (t3 : Int) (t4 : Int) (t5 : Zt11) (K : Kf_ R) : (zi 0 (kSeq z2w (Tb28 R) kk (sub [1, 1, 1, 1] z4z) (kFin z2w Tryz.f191.results.toList none K))) .ret (zod t2 t3 t4 t5) =
  zdz t2 t3 t4 t5 (fun a0 a1 a2 => K [.dat (.sl 245 (.pair (.int .i64) (.pair .str .unit))) a0 [[]], .dat (.int .i64) a1 [], .dat (.int .i64) a2 []] none) := by kernel_rfl
theorem z1k7 (R : Type) (kk : Nat) (t5 : Zt11) (K : Kf_ R) : (zi 0 (kSeq z2w (Tb28 R) kk (sub [1, 1, 1, 1] z4z) (kFin z2w Tryz.f191.results.toList none K))) (.exit 0) (zlo t5) =
  zi2 t5 (fun a0 a1 a2 => K [.dat (.sl 245 (.pair (.int .i64) (.pair .str .unit))) a0 [], .dat (.int .i64) a1 [], .dat (.int .i64) a2 []] none) := by kernel_rfl
theorem z1vg (R : Type) (k : Nat) (b_0 : ByteArray) (t5 : Zt11) (t7 : Int) (bt6 : Zt6) (K : Kx_ R) : loopR (ev z2w (Tb28 R) FUEL (sub [1, 1, 1, 0, 1, 0, 0] z4z)) [0, 5, 6, 7, 13] [2, 3, 4, 5] k (zud b_0 t5 t7 bt6) K = (zbp k b_0 t5 t7 bt6).bind fun e => (Sum.elim (fun (we : Zt21) => K .ret (zod we.1 we.2.1 we.2.2.1 we.2.2.2)) (fun (we : Zt11) => K (.exit 0) (zlo we)) e) := by
  induction k generalizing b_0 t5 t7 bt6 with
  | zero => rfl
  | succ k ih =>
    rw [z1zc]
    simp only [zbp, zqz, zmu, zrh, zmp, ih, z8, z6, zd, z7, ze, zc, Sum.elim_inl, Sum.elim_inr]
theorem z1ze (R : Type) (b_0 : ByteArray) (K : Kf_ R) : evFn z2w (Tb28 R) FUEL Tryz.f191 z4z [.dat .str b_0 []] none K = (Q279 b_0).bind fun r => (Sum.elim (fun (wr : Zt16) => K [.dat (.sl 245 (.pair (.int .i64) (.pair .str .unit))) wr.1 [[]], .dat (.int .i64) wr.2.1 [], .dat (.int .i64) wr.2.2 []] none) (fun (wr : Zt16) => K [.dat (.sl 245 (.pair (.int .i64) (.pair .str .unit))) wr.1 [], .dat (.int .i64) wr.2.1 [], .dat (.int .i64) wr.2.2 []] none) r) := by
  rw [z27f]
  simp only [Q279, zqz, zmu, zrh, zmp, z1vg, z1nz, z1k7, z8, z6, zd, z7, ze, zc, Sum.elim_inl, Sum.elim_inr]
def z1r6 : Pure := fun R l b K => noBox b (args1 .str l (fun x0 => (Q279 x0).bind fun r => (Sum.elim (fun (wr : Zt16) => K [.dat (.sl 245 (.pair (.int .i64) (.pair .str .unit))) wr.1 [[]], .dat (.int .i64) wr.2.1 [], .dat (.int .i64) wr.2.2 []] none) (fun (wr : Zt16) => K [.dat (.sl 245 (.pair (.int .i64) (.pair .str .unit))) wr.1 [], .dat (.int .i64) wr.2.1 [], .dat (.int .i64) wr.2.2 []] none) r)))
theorem z25z : z1r6.Nat := fun R S l b F G K h => zh (zp fun _ => zg fun _ => z1f0 (fun _ => h _ _) (fun _ => h _ _))
def Tb29 : Funs := Tb28.add 191 [.str] z1r6
theorem z19a : Tb29.Nat := zl z17c z25z
theorem z1mr : ∀ f, Owes Tryz.prog Tb29 f := zk (E := z2w) (Tab.env_ok zm _ _ _ _) mixed z17c z1oi (fn := Tryz.f191) (code := z4z) Tryz.func191 (by kernel_rfl) (by kernel_rfl) fun l b r b' h => by
  obtain ⟨rfl, h⟩ := zf h
  obtain ⟨x0, h1, h2⟩ := own1 (E := z2w) rfl h
  exact ⟨FUEL, (h2 _ _ _ _ _ _).trans ((z1ze _ x0 _).trans h1)⟩
noncomputable abbrev z1dn : Code := Tryz.f135.body.getD .skip
def zz9 : Env := tab.env (fun _ => []) (fun _ => []) [] [y9, .str]
theorem z280 (R : Type) (kk : Nat) (s_0 : Zt13) (text_1 : ByteArray) (K : Kf_ R) : evFn zz9 (Tb29 R) kk Tryz.f135 z1dn [.dat y9 s_0 [], .dat .str text_1 []] none K =
  z9h s_0 text_1 (fun a0 => K [.dat (.int .i64) a0 []] none) := by kernel_rfl
theorem z21g (R : Type) (s_0 : Zt13) (text_1 : ByteArray) (K : Kf_ R) : evFn zz9 (Tb29 R) FUEL Tryz.f135 z1dn [.dat y9 s_0 [], .dat .str text_1 []] none K = (Q266 s_0 text_1).bind fun r => K [.dat (.int .i64) r []] none := by
  rw [z280]
  simp only [Q266, z1a1, z8, z6, zd, z7, ze, zc, Sum.elim_inl, Sum.elim_inr]
def z1or : Pure := fun R l b K => noBox b (args2 y9 .str l (fun x0 x1 => (Q266 x0 x1).bind fun r => K [.dat (.int .i64) r []] none))
theorem z23g : z1or.Nat := fun R S l b F G K h => zh (zq fun _ _ => zg fun _ => h _ _)
def Tb30 : Funs := Tb29.add 135 [y9, .str] z1or
theorem z1ab : Tb30.Nat := zl z19a z23g
theorem z1jf : ∀ f, Owes Tryz.prog Tb30 f := zk (E := zz9) (Tab.env_ok zm _ _ _ _) mixed z19a z1mr (fn := Tryz.f135) (code := z1dn) Tryz.func135 (by kernel_rfl) (by kernel_rfl) fun l b r b' h => by
  obtain ⟨rfl, h⟩ := zf h
  obtain ⟨x0, x1, h1, h2⟩ := own2 (E := zz9) rfl h
  exact ⟨FUEL, (h2 _ _ _ _ _ _).trans ((z21g _ x0 x1 _).trans h1)⟩
noncomputable abbrev z18p : Code := Tryz.f75.body.getD .skip
def z10h : Env := tab.env (fun _ => []) (fun _ => []) [] [y18, (.int .i64), y9]
theorem z24l (R : Type) (kk : Nat) (s_0 : Zt26) (i_1 : Int) (action_2 : Zt13) (K : Kf_ R) : evFn z10h (Tb30 R) kk Tryz.f75 z18p [.dat y18 s_0 [], .dat (.int .i64) i_1 [], .dat y9 action_2 []] none K =
  zb9 s_0 i_1 action_2 (fun a0 => K [.dat (.int .i64) a0 []] none) := by kernel_rfl
theorem z22j (R : Type) (s_0 : Zt26) (i_1 : Int) (action_2 : Zt13) (K : Kf_ R) : evFn z10h (Tb30 R) FUEL Tryz.f75 z18p [.dat y18 s_0 [], .dat (.int .i64) i_1 [], .dat y9 action_2 []] none K = (Q234 s_0 i_1 action_2).bind fun r => K [.dat (.int .i64) r []] none := by
  rw [z24l]
  simp only [Q234, z16j, z8, z6, zd, z7, ze, zc, Sum.elim_inl, Sum.elim_inr]
def z1lk : Pure := fun R l b K => noBox b (args3 y18 (.int .i64) y9 l (fun x0 x1 x2 => (Q234 x0 x1 x2).bind fun r => K [.dat (.int .i64) r []] none))
theorem z29f : z1lk.Nat := fun R S l b F G K h => zh (z17 fun _ _ _ => zg fun _ => h _ _)
def Tb31 : Funs := Tb30.add 75 [y18, (.int .i64), y9] z1lk
theorem z17b : Tb31.Nat := zl z1ab z29f
theorem z1id : ∀ f, Owes Tryz.prog Tb31 f := zk (E := z10h) (Tab.env_ok zm _ _ _ _) mixed z1ab z1jf (fn := Tryz.f75) (code := z18p) Tryz.func75 (by kernel_rfl) (by kernel_rfl) fun l b r b' h => by
  obtain ⟨rfl, h⟩ := zf h
  obtain ⟨x0, x1, x2, h1, h2⟩ := own3 (E := z10h) rfl h
  exact ⟨FUEL, (h2 _ _ _ _ _ _).trans ((z22j _ x0 x1 x2 _).trans h1)⟩
noncomputable abbrev z28 : Code := Tryz.f30.body.getD .skip
def z1m : Env := tab.env (fun i => bif Nat.beq i 8 then [1, 7, 33, 34] else bif Nat.beq i 16 then [1, 7, 11, 46, 47, 48] else []) (fun i => bif Nat.beq i 8 then [1, 2, 3, 4, 7] else bif Nat.beq i 16 then [1, 2, 3, 4, 11] else []) [] [y18]
def zuc (t33 : Int) (t34 : Int) (bt1 : Zt26) (bt7 : Zt13) : State := ⟨uS 1 ([.ptr 2 y18 []]::(uS 5 ([.ptr 8 y9 []]::(uS 25 ([.dat (.int .i64) t33 []]::[.dat (.int .i64) t34 []]::(uS 38 ([]))))))), nS 2 ((some ⟨y18, bt1, []⟩)::(nS 5 ((some ⟨y9, bt7, []⟩)::(nS 65 ([])))))⟩
def zse (t2 : Int) (t3 : Int) (t4 : Int) (bt1 : Zt26) (bt7 : Zt13) : State := ⟨uS 1 ([.ptr 2 y18 []]::[.dat (.int .i64) t2 []]::[.dat (.int .i64) t3 []]::[.dat (.int .i64) t4 []]::(uS 2 ([.ptr 8 y9 []]::(uS 65 ([]))))), nS 2 ((some ⟨y18, bt1, []⟩)::(nS 5 ((some ⟨y9, bt7, []⟩)::(nS 65 ([])))))⟩
def zli (bt1 : Zt26) (bt7 : Zt13) : State := ⟨uS 1 ([.ptr 2 y18 []]::(uS 5 ([.ptr 8 y9 []]::(uS 65 ([]))))), nS 2 ((some ⟨y18, bt1, []⟩)::(nS 5 ((some ⟨y9, bt7, []⟩)::(nS 65 ([])))))⟩
def zu2 (t11 : Bool) (t46 : Zt11) (t47 : Int) (t48 : Int) (bt1 : Zt26) (bt7 : Zt13) : State := ⟨uS 1 ([.ptr 2 y18 []]::(uS 5 ([.ptr 8 y9 []]::(uS 3 ([.dat .bool t11 []]::(uS 34 ([.dat (.sl 96 (.pair (.int .i64) (.pair .str .unit))) t46 []]::[.dat (.int .i64) t47 []]::[.dat (.int .i64) t48 []]::(uS 24 ([]))))))))), nS 2 ((some ⟨y18, bt1, []⟩)::(nS 5 ((some ⟨y9, bt7, []⟩)::(nS 65 ([])))))⟩
def zm3 (t2 : Int) (t3 : Int) (t4 : Int) (t11 : Bool) (bt1 : Zt26) : State := ⟨uS 1 ([.ptr 2 y18 []]::[.dat (.int .i64) t2 []]::[.dat (.int .i64) t3 []]::[.dat (.int .i64) t4 []]::(uS 6 ([.dat .bool t11 []]::(uS 61 ([]))))), nS 2 ((some ⟨y18, bt1, []⟩)::(nS 71 ([])))⟩
def zql (t11 : Bool) (bt1 : Zt26) : State := ⟨uS 1 ([.ptr 2 y18 []]::(uS 9 ([.dat .bool t11 []]::(uS 61 ([]))))), nS 2 ((some ⟨y18, bt1, []⟩)::(nS 71 ([])))⟩
theorem z29q (R : Type) (kk : Nat) (s_0 : Zt26) (K : Kf_ R) : evFn z1m (Tb31 R) kk Tryz.f30 z28 [.dat y18 s_0 []] none K =
  zbw s_0 (fun a0 a1 a2 => K [.dat (.int .i64) a0 [], .dat (.int .i64) a1 [], .dat (.int .i64) a2 []] none) (fun a0 a1 a2 a3 => loopR (ev z1m (Tb31 R) kk (sub [1, 1, 1, 1, 0, 1, 0, 0] z28)) [1, 7, 33, 34] [1, 2, 3, 4, 7] kk (zuc a0 a1 a2 a3) (zi 0 (kSeq z1m (Tb31 R) kk (sub [1, 1, 1, 1, 1] z28) (kFin z1m Tryz.f30.results.toList none K)))) := by kernel_rfl
theorem z201 (R : Type) (kk k : Nat) (t33 : Int) (t34 : Int) (bt1 : Zt26) (bt7 : Zt13) (K : Kx_ R) : loopR (ev z1m (Tb31 R) kk (sub [1, 1, 1, 1, 0, 1, 0, 0] z28)) [1, 7, 33, 34] [1, 2, 3, 4, 7] (k + 1) (zuc t33 t34 bt1 bt7) K =
  z7z t33 t34 bt1 bt7 (fun a0 a1 a2 a3 a4 => K .ret (zse a0 a1 a2 a3 a4)) (fun a0 a1 a2 a3 => loopR (ev z1m (Tb31 R) kk (sub [1, 1, 1, 1, 0, 1, 0, 0] z28)) [1, 7, 33, 34] [1, 2, 3, 4, 7] k (zuc a0 a1 a2 a3) K) (fun a0 a1 => K (.exit 0) (zli a0 a1)) := by kernel_rfl
theorem z1ns (R : Type) (kk : Nat) (t2 : Int) (t3 : Int) (t4 : Int) (bt1 : Zt26) (bt7 : Zt13) (K : Kf_ R) : (zi 0 (kSeq z1m (Tb31 R) kk (sub [1, 1, 1, 1, 1] z28) (kFin z1m Tryz.f30.results.toList none K))) .ret (zse t2 t3 t4 bt1 bt7) =
  zj5 t2 t3 t4 bt1 bt7 (fun a0 a1 a2 => K [.dat (.int .i64) a0 [], .dat (.int .i64) a1 [], .dat (.int .i64) a2 []] none) := by kernel_rfl
theorem z1na (R : Type) (kk : Nat) (bt1 : Zt26) (bt7 : Zt13) (K : Kf_ R) : (zi 0 (kSeq z1m (Tb31 R) kk (sub [1, 1, 1, 1, 1] z28) (kFin z1m Tryz.f30.results.toList none K))) (.exit 0) (zli bt1 bt7) =
  zby bt1 bt7 (fun a0 a1 a2 a3 a4 a5 => loopR (ev z1m (Tb31 R) kk (sub [1, 1, 1, 1, 1, 1, 0, 1, 0, 0] z28)) [1, 7, 11, 46, 47, 48] [1, 2, 3, 4, 11] kk (zu2 a0 a1 a2 a3 a4 a5) (zi 2 (kSeq z1m (Tb31 R) kk (sub [1, 1, 1, 1, 1, 1, 1] z28) (kFin z1m Tryz.f30.results.toList none K)))) := by kernel_rfl
theorem z1y0 (R : Type) (kk k : Nat) (t11 : Bool) (t46 : Zt11) (t47 : Int) (t48 : Int) (bt1 : Zt26) (bt7 : Zt13) (K : Kx_ R) : loopR (ev z1m (Tb31 R) kk (sub [1, 1, 1, 1, 1, 1, 0, 1, 0, 0] z28)) [1, 7, 11, 46, 47, 48] [1, 2, 3, 4, 11] (k + 1) (zu2 t11 t46 t47 t48 bt1 bt7) K =
  z8q t11 t46 t47 t48 bt1 bt7 (fun a0 a1 a2 a3 a4 => K .ret (zm3 a0 a1 a2 a3 a4)) (fun a0 a1 a2 a3 a4 a5 => loopR (ev z1m (Tb31 R) kk (sub [1, 1, 1, 1, 1, 1, 0, 1, 0, 0] z28)) [1, 7, 11, 46, 47, 48] [1, 2, 3, 4, 11] k (zu2 a0 a1 a2 a3 a4 a5) K) (fun a0 a1 => K (.exit 2) (zql a0 a1)) := by kernel_rfl
theorem z1qi (R : Type) (kk : Nat) (t2 : Int) (t3 : Int) (t4 : Int) (t11 : Bool) (bt1 : Zt26) (K : Kf_ R) : (zi 2 (kSeq z1m (Tb31 R) kk (sub [1, 1, 1, 1, 1, 1, 1] z28) (kFin z1m Tryz.f30.results.toList none K))) .ret (zm3 t2 t3 t4 t11 bt1) =
  zi0 t2 t3 t4 t11 bt1 (fun a0 a1 a2 => K [.dat (.int .i64) a0 [], .dat (.int .i64) a1 [], .dat (.int .i64) a2 []] none) := by kernel_rfl
theorem z1os (R : Type) (kk : Nat) (t11 : Bool) (bt1 : Zt26) (K : Kf_ R) : (zi 2 (kSeq z1m (Tb31 R) kk (sub [1, 1, 1, 1, 1, 1, 1] z28) (kFin z1m Tryz.f30.results.toList none K))) (.exit 2) (zql t11 bt1) =
  zb1 t11 bt1 (fun a0 a1 a2 => K [.dat (.int .i64) a0 [], .dat (.int .i64) a1 [], .dat (.int .i64) a2 []] none) := by kernel_rfl
theorem z1v8 (R : Type) (k : Nat) (t33 : Int) (t34 : Int) (bt1 : Zt26) (bt7 : Zt13) (K : Kx_ R) : loopR (ev z1m (Tb31 R) FUEL (sub [1, 1, 1, 1, 0, 1, 0, 0] z28)) [1, 7, 33, 34] [1, 2, 3, 4, 7] k (zuc t33 t34 bt1 bt7) K = (z8e k t33 t34 bt1 bt7).bind fun e => (Sum.elim (fun (we : (Int × Int × Int × Zt26 × Zt13)) => K .ret (zse we.1 we.2.1 we.2.2.1 we.2.2.2.1 we.2.2.2.2)) (fun (we : (Zt26 × Zt13)) => K (.exit 0) (zli we.1 we.2)) e) := by
  induction k generalizing t33 t34 bt1 bt7 with
  | zero => rfl
  | succ k ih =>
    rw [z201]
    simp only [z8e, zc5, zdc, zcg, zc2, zd8, zc8, zch, ih, z8, z6, zd, z7, ze, zc, Sum.elim_inl, Sum.elim_inr]
theorem z1w2 (R : Type) (k : Nat) (t11 : Bool) (t46 : Zt11) (t47 : Int) (t48 : Int) (bt1 : Zt26) (bt7 : Zt13) (K : Kx_ R) : loopR (ev z1m (Tb31 R) FUEL (sub [1, 1, 1, 1, 1, 1, 0, 1, 0, 0] z28)) [1, 7, 11, 46, 47, 48] [1, 2, 3, 4, 11] k (zu2 t11 t46 t47 t48 bt1 bt7) K = (z8w k t11 t46 t47 t48 bt1 bt7).bind fun e => (Sum.elim (fun (we : (Int × Int × Int × Bool × Zt26)) => K .ret (zm3 we.1 we.2.1 we.2.2.1 we.2.2.2.1 we.2.2.2.2)) (fun (we : (Bool × Zt26)) => K (.exit 2) (zql we.1 we.2)) e) := by
  induction k generalizing t11 t46 t47 t48 bt1 bt7 with
  | zero => rfl
  | succ k ih =>
    rw [z1y0]
    simp only [z8w, zc5, zdc, zcg, zc2, zd8, zc8, zch, ih, z8, z6, zd, z7, ze, zc, Sum.elim_inl, Sum.elim_inr]
theorem z206 (R : Type) (s_0 : Zt26) (K : Kf_ R) : evFn z1m (Tb31 R) FUEL Tryz.f30 z28 [.dat y18 s_0 []] none K = (Q232 s_0).bind fun r => K [.dat (.int .i64) r.1 [], .dat (.int .i64) r.2.1 [], .dat (.int .i64) r.2.2 []] none := by
  rw [z29q]
  simp only [Q232, zc5, zdc, zcg, zc2, zd8, zc8, zch, z1v8, z1w2, z1ns, z1na, z1qi, z1os, z8, z6, zd, z7, ze, zc, Sum.elim_inl, Sum.elim_inr]
def z1lc : Pure := fun R l b K => noBox b (args1 y18 l (fun x0 => (Q232 x0).bind fun r => K [.dat (.int .i64) r.1 [], .dat (.int .i64) r.2.1 [], .dat (.int .i64) r.2.2 []] none))
theorem z24p : z1lc.Nat := fun R S l b F G K h => zh (zp fun _ => zg fun _ => h _ _)
def Tb32 : Funs := Tb31.add 30 [y18] z1lc
theorem z18w : Tb32.Nat := zl z17b z24p
theorem z1ny : ∀ f, Owes Tryz.prog Tb32 f := zk (E := z1m) (Tab.env_ok zm _ _ _ _) mixed z17b z1id (fn := Tryz.f30) (code := z28) Tryz.func30 (by kernel_rfl) (by kernel_rfl) fun l b r b' h => by
  obtain ⟨rfl, h⟩ := zf h
  obtain ⟨x0, h1, h2⟩ := own1 (E := z1m) rfl h
  exact ⟨FUEL, (h2 _ _ _ _ _ _).trans ((z206 _ x0 _).trans h1)⟩
noncomputable abbrev Q28_c : Code := Tryz.f199.body.getD .skip
def Q28_E : Env := tab.env (fun i => bif Nat.beq i 2 then [6] else []) (fun i => bif Nat.beq i 2 then [2] else []) [] [.str]
def zz7 (bt6 : Zt0) : State := ⟨uS 6 ([.ptr 7 (.spc .iter .unit .unit) []]::(uS 9 ([]))), nS 7 ((some ⟨(.spc .iter .unit .unit), bt6, []⟩)::(nS 9 ([])))⟩
def zy2 (t2 : Bool) : State := ⟨uS 2 ([.dat .bool t2 []]::(uS 13 ([]))), nS 17 []⟩
def zxo  : State := ⟨uS 16 [], nS 17 []⟩
theorem Q28_t (R : Type) (kk : Nat) (s_0 : ByteArray) (K : Kf_ R) : evFn Q28_E (Tb32 R) kk Tryz.f199 Q28_c [.dat .str s_0 []] none K =
  zeu s_0 (fun a0 => loopR (ev Q28_E (Tb32 R) kk (sub [1, 0, 1, 0, 0] Q28_c)) [6] [2] kk (zz7 a0) (zi 0 (kSeq Q28_E (Tb32 R) kk (sub [1, 1] Q28_c) (kFin Q28_E Tryz.f199.results.toList none K)))) := by kernel_rfl
theorem z29u (R : Type) (kk k : Nat) (bt6 : Zt0) (K : Kx_ R) : loopR (ev Q28_E (Tb32 R) kk (sub [1, 0, 1, 0, 0] Q28_c)) [6] [2] (k + 1) (zz7 bt6) K =
  zfo bt6 (fun a0 => K .ret (zy2 a0)) (fun a0 => loopR (ev Q28_E (Tb32 R) kk (sub [1, 0, 1, 0, 0] Q28_c)) [6] [2] k (zz7 a0) K) (K (.exit 0) (zxo)) := by kernel_rfl
theorem z1ub (R : Type) (kk : Nat) (t2 : Bool) (K : Kf_ R) : (zi 0 (kSeq Q28_E (Tb32 R) kk (sub [1, 1] Q28_c) (kFin Q28_E Tryz.f199.results.toList none K))) .ret (zy2 t2) =
  zl6 t2 (fun a0 => K [.dat .bool a0 []] none) := by kernel_rfl
theorem z1tm (R : Type) (kk : Nat)  (K : Kf_ R) : (zi 0 (kSeq Q28_E (Tb32 R) kk (sub [1, 1] Q28_c) (kFin Q28_E Tryz.f199.results.toList none K))) (.exit 0) (zxo) =
  zs5 (fun a0 => K [.dat .bool a0 []] none) := by kernel_rfl
theorem z1zl (R : Type) (k : Nat) (bt6 : Zt0) (K : Kx_ R) : loopR (ev Q28_E (Tb32 R) FUEL (sub [1, 0, 1, 0, 0] Q28_c)) [6] [2] k (zz7 bt6) K = (zg3 k bt6).bind fun e => (Sum.elim (fun (we : Bool) => K .ret (zy2 we)) (fun (we : Unit) => K (.exit 0) (zxo)) e) := by
  induction k generalizing bt6 with
  | zero => rfl
  | succ k ih =>
    rw [z29u]
    simp only [zg3, zxb, zwh, zxd, zxn, ih, z8, z6, zd, z7, ze, zc, Sum.elim_inl, Sum.elim_inr]
theorem z23v (R : Type) (s_0 : ByteArray) (K : Kf_ R) : evFn Q28_E (Tb32 R) FUEL Tryz.f199 Q28_c [.dat .str s_0 []] none K = (Q28 s_0).bind fun r => K [.dat .bool r []] none := by
  rw [Q28_t]
  simp only [Q28, zxb, zwh, zxd, zxn, z1zl, z1ub, z1tm, z8, z6, zd, z7, ze, zc, Sum.elim_inl, Sum.elim_inr]
def Q28_g : Pure := fun R l b K => noBox b (args1 .str l (fun x0 => (Q28 x0).bind fun r => K [.dat .bool r []] none))
theorem Q28_n : Q28_g.Nat := fun R S l b F G K h => zh (zp fun _ => zg fun _ => h _ _)
def Tb33 : Funs := Tb32.add 199 [.str] Q28_g
theorem z1az : Tb33.Nat := zl z18w Q28_n
theorem z1ko : ∀ f, Owes Tryz.prog Tb33 f := zk (E := Q28_E) (Tab.env_ok zm _ _ _ _) mixed z18w z1ny (fn := Tryz.f199) (code := Q28_c) Tryz.func199 (by kernel_rfl) (by kernel_rfl) fun l b r b' h => by
  obtain ⟨rfl, h⟩ := zf h
  obtain ⟨x0, h1, h2⟩ := own1 (E := Q28_E) rfl h
  exact ⟨FUEL, (h2 _ _ _ _ _ _).trans ((z23v _ x0 _).trans h1)⟩
noncomputable abbrev z19p : Code := Tryz.f153.body.getD .skip
def zyk : Env := tab.env (fun _ => []) (fun _ => []) [] [.str]
theorem z241 (R : Type) (kk : Nat) (m_0 : ByteArray) (K : Kf_ R) : evFn zyk (Tb33 R) kk Tryz.f153 z19p [.dat .str m_0 []] none K =
  zaz m_0 (fun a0 => K [.dat .bool a0 []] none) := by kernel_rfl
theorem z1xd (R : Type) (m_0 : ByteArray) (K : Kf_ R) : evFn zyk (Tb33 R) FUEL Tryz.f153 z19p [.dat .str m_0 []] none K = (Q224 m_0).bind fun r => K [.dat .bool r []] none := by
  rw [z241]
  simp only [Q224, z1bx, z8, z6, zd, z7, ze, zc, Sum.elim_inl, Sum.elim_inr]
def z1n7 : Pure := fun R l b K => noBox b (args1 .str l (fun x0 => (Q224 x0).bind fun r => K [.dat .bool r []] none))
theorem z25m : z1n7.Nat := fun R S l b F G K h => zh (zp fun _ => zg fun _ => h _ _)
def Tb34 : Funs := Tb33.add 153 [.str] z1n7
theorem z17i : Tb34.Nat := zl z1az z25m
theorem z1ou : ∀ f, Owes Tryz.prog Tb34 f := zk (E := zyk) (Tab.env_ok zm _ _ _ _) mixed z1az z1ko (fn := Tryz.f153) (code := z19p) Tryz.func153 (by kernel_rfl) (by kernel_rfl) fun l b r b' h => by
  obtain ⟨rfl, h⟩ := zf h
  obtain ⟨x0, h1, h2⟩ := own1 (E := zyk) rfl h
  exact ⟨FUEL, (h2 _ _ _ _ _ _).trans ((z1xd _ x0 _).trans h1)⟩
noncomputable abbrev z1a8 : Code := Tryz.f136.body.getD .skip
def zz6 : Env := tab.env (fun _ => []) (fun _ => []) [] [.str]
theorem z253 (R : Type) (kk : Nat) (m_0 : ByteArray) (K : Kf_ R) : evFn zz6 (Tb34 R) kk Tryz.f136 z1a8 [.dat .str m_0 []] none K =
  zbt m_0 (fun a0 a1 => K [.dat (.int .i64) a0 [], .dat .bool a1 []] none) := by kernel_rfl
theorem z1y5 (R : Type) (m_0 : ByteArray) (K : Kf_ R) : evFn zz6 (Tb34 R) FUEL Tryz.f136 z1a8 [.dat .str m_0 []] none K = (Q225 m_0).bind fun r => K [.dat (.int .i64) r.1 [], .dat .bool r.2 []] none := by
  rw [z253]
  simp only [Q225, z19f, z8, z6, zd, z7, ze, zc, Sum.elim_inl, Sum.elim_inr]
def z1l5 : Pure := fun R l b K => noBox b (args1 .str l (fun x0 => (Q225 x0).bind fun r => K [.dat (.int .i64) r.1 [], .dat .bool r.2 []] none))
theorem z23n : z1l5.Nat := fun R S l b F G K h => zh (zp fun _ => zg fun _ => h _ _)
def Tb35 : Funs := Tb34.add 136 [.str] z1l5
theorem z17f : Tb35.Nat := zl z17i z23n
theorem z1rb : ∀ f, Owes Tryz.prog Tb35 f := zk (E := zz6) (Tab.env_ok zm _ _ _ _) mixed z17i z1ou (fn := Tryz.f136) (code := z1a8) Tryz.func136 (by kernel_rfl) (by kernel_rfl) fun l b r b' h => by
  obtain ⟨rfl, h⟩ := zf h
  obtain ⟨x0, h1, h2⟩ := own1 (E := zz6) rfl h
  exact ⟨FUEL, (h2 _ _ _ _ _ _).trans ((z1y5 _ x0 _).trans h1)⟩
noncomputable abbrev z16k : Code := Tryz.f137.body.getD .skip
def zyx : Env := tab.env (fun _ => []) (fun _ => []) [] [.str]
theorem z296 (R : Type) (kk : Nat) (m_0 : ByteArray) (K : Kf_ R) : evFn zyx (Tb35 R) kk Tryz.f137 z16k [.dat .str m_0 []] none K =
  zan m_0 (fun a0 => K [.dat .bool a0 []] none) := by kernel_rfl
theorem z1xx (R : Type) (m_0 : ByteArray) (K : Kf_ R) : evFn zyx (Tb35 R) FUEL Tryz.f137 z16k [.dat .str m_0 []] none K = (Q222 m_0).bind fun r => K [.dat .bool r []] none := by
  rw [z296]
  simp only [Q222, z170, z8, z6, zd, z7, ze, zc, Sum.elim_inl, Sum.elim_inr]
def z1pv : Pure := fun R l b K => noBox b (args1 .str l (fun x0 => (Q222 x0).bind fun r => K [.dat .bool r []] none))
theorem z287 : z1pv.Nat := fun R S l b F G K h => zh (zp fun _ => zg fun _ => h _ _)
def Tb36 : Funs := Tb35.add 137 [.str] z1pv
theorem z1dh : Tb36.Nat := zl z17f z287
theorem z1j4 : ∀ f, Owes Tryz.prog Tb36 f := zk (E := zyx) (Tab.env_ok zm _ _ _ _) mixed z17f z1rb (fn := Tryz.f137) (code := z16k) Tryz.func137 (by kernel_rfl) (by kernel_rfl) fun l b r b' h => by
  obtain ⟨rfl, h⟩ := zf h
  obtain ⟨x0, h1, h2⟩ := own1 (E := zyx) rfl h
  exact ⟨FUEL, (h2 _ _ _ _ _ _).trans ((z1xx _ x0 _).trans h1)⟩
noncomputable abbrev z17x : Code := Tryz.f76.body.getD .skip
def z116 : Env := tab.env (fun _ => []) (fun _ => []) [] [(.pair .str (.pair .str .unit)), y15, y15]
theorem z28u (R : Type) (kk : Nat) (p_0 : Zt10) (a_1 : Zt18) (b_2 : Zt18) (K : Kf_ R) : evFn z116 (Tb36 R) kk Tryz.f76 z17x [.dat (.pair .str (.pair .str .unit)) p_0 [], .dat y15 a_1 [], .dat y15 b_2 []] none K =
  z9r p_0 a_1 b_2 (fun a0 => K [.dat .bool a0 []] none) := by kernel_rfl
theorem z21p (R : Type) (p_0 : Zt10) (a_1 : Zt18) (b_2 : Zt18) (K : Kf_ R) : evFn z116 (Tb36 R) FUEL Tryz.f76 z17x [.dat (.pair .str (.pair .str .unit)) p_0 [], .dat y15 a_1 [], .dat y15 b_2 []] none K = (Q292 p_0 a_1 b_2).bind fun r => K [.dat .bool r []] none := by
  rw [z28u]
  simp only [Q292, z1a0, z8, z6, zd, z7, ze, zc, Sum.elim_inl, Sum.elim_inr]
def z1lh : Pure := fun R l b K => noBox b (args3 (.pair .str (.pair .str .unit)) y15 y15 l (fun x0 x1 x2 => (Q292 x0 x1 x2).bind fun r => K [.dat .bool r []] none))
theorem z250 : z1lh.Nat := fun R S l b F G K h => zh (z17 fun _ _ _ => zg fun _ => h _ _)
def Tb37 : Funs := Tb36.add 76 [(.pair .str (.pair .str .unit)), y15, y15] z1lh
theorem z17g : Tb37.Nat := zl z1dh z250
theorem z1pq : ∀ f, Owes Tryz.prog Tb37 f := zk (E := z116) (Tab.env_ok zm _ _ _ _) mixed z1dh z1j4 (fn := Tryz.f76) (code := z17x) Tryz.func76 (by kernel_rfl) (by kernel_rfl) fun l b r b' h => by
  obtain ⟨rfl, h⟩ := zf h
  obtain ⟨x0, x1, x2, h1, h2⟩ := own3 (E := z116) rfl h
  exact ⟨FUEL, (h2 _ _ _ _ _ _).trans ((z21p _ x0 x1 x2 _).trans h1)⟩
noncomputable abbrev z1aw : Code := Tryz.f138.body.getD .skip
def z113 : Env := tab.env (fun _ => []) (fun _ => []) [6, 7] [y12, y15, y15]
theorem z243 (R : Type) (kk : Nat) (r_0 : Zt20) (a_1 : Zt18) (b_2 : Zt18) (K : Kf_ R) : evFn z113 (Tb37 R) kk Tryz.f138 z1aw [.dat y12 r_0 [], .dat y15 a_1 [], .dat y15 b_2 []] none K =
  za8 r_0 a_1 b_2 (fun a0 a1 a2 => K [.dat y9 a0 [], .dat y9 a1 [], .dat (.int .i64) a2 []] none) := by kernel_rfl
theorem z1zf (R : Type) (r_0 : Zt20) (a_1 : Zt18) (b_2 : Zt18) (K : Kf_ R) : evFn z113 (Tb37 R) FUEL Tryz.f138 z1aw [.dat y12 r_0 [], .dat y15 a_1 [], .dat y15 b_2 []] none K = (Q251 r_0 a_1 b_2).bind fun r => K [.dat y9 r.1 [], .dat y9 r.2.1 [], .dat (.int .i64) r.2.2 []] none := by
  rw [z243]
  simp only [Q251, z17e, z8, z6, zd, z7, ze, zc, Sum.elim_inl, Sum.elim_inr]
def z1s4 : Pure := fun R l b K => noBox b (args3 y12 y15 y15 l (fun x0 x1 x2 => (Q251 x0 x1 x2).bind fun r => K [.dat y9 r.1 [], .dat y9 r.2.1 [], .dat (.int .i64) r.2.2 []] none))
theorem z26v : z1s4.Nat := fun R S l b F G K h => zh (z17 fun _ _ _ => zg fun _ => h _ _)
def Tb38 : Funs := Tb37.add 138 [y12, y15, y15] z1s4
theorem z172 : Tb38.Nat := zl z17g z26v
theorem z1j5 : ∀ f, Owes Tryz.prog Tb38 f := zk (E := z113) (Tab.env_ok zm _ _ _ _) mixed z17g z1pq (fn := Tryz.f138) (code := z1aw) Tryz.func138 (by kernel_rfl) (by kernel_rfl) fun l b r b' h => by
  obtain ⟨rfl, h⟩ := zf h
  obtain ⟨x0, x1, x2, h1, h2⟩ := own3 (E := z113) rfl h
  exact ⟨FUEL, (h2 _ _ _ _ _ _).trans ((z1zf _ x0 x1 x2 _).trans h1)⟩
noncomputable abbrev Q17_c : Code := Tryz.f210.body.getD .skip
def Q17_E : Env := tab.env (fun _ => []) (fun _ => []) [] [(.int .i64), (.int .i64)]
theorem Q17_t (R : Type) (kk : Nat) (a_0 : Int) (b_1 : Int) (K : Kf_ R) : evFn Q17_E (Tb38 R) kk Tryz.f210 Q17_c [.dat (.int .i64) a_0 [], .dat (.int .i64) b_1 []] none K =
  zeo a_0 b_1 (fun a0 => K [.dat .bool a0 []] none) := by kernel_rfl
theorem z298 (R : Type) (a_0 : Int) (b_1 : Int) (K : Kf_ R) : evFn Q17_E (Tb38 R) FUEL Tryz.f210 Q17_c [.dat (.int .i64) a_0 [], .dat (.int .i64) b_1 []] none K = (Q17 a_0 b_1).bind fun r => K [.dat .bool r []] none := by
  rw [Q17_t]
  simp only [Q17, z1dr, z8, z6, zd, z7, ze, zc, Sum.elim_inl, Sum.elim_inr]
def Q17_g : Pure := fun R l b K => noBox b (args2 (.int .i64) (.int .i64) l (fun x0 x1 => (Q17 x0 x1).bind fun r => K [.dat .bool r []] none))
theorem Q17_n : Q17_g.Nat := fun R S l b F G K h => zh (zq fun _ _ => zg fun _ => h _ _)
def Tb39 : Funs := Tb38.add 210 [(.int .i64), (.int .i64)] Q17_g
theorem z18c : Tb39.Nat := zl z172 Q17_n
theorem z1rj : ∀ f, Owes Tryz.prog Tb39 f := zk (E := Q17_E) (Tab.env_ok zm _ _ _ _) mixed z172 z1j5 (fn := Tryz.f210) (code := Q17_c) Tryz.func210 (by kernel_rfl) (by kernel_rfl) fun l b r b' h => by
  obtain ⟨rfl, h⟩ := zf h
  obtain ⟨x0, x1, h1, h2⟩ := own2 (E := Q17_E) rfl h
  exact ⟨FUEL, (h2 _ _ _ _ _ _).trans ((z298 _ x0 x1 _).trans h1)⟩
noncomputable abbrev z1ct : Code := Tryz.f185.body.getD .skip
def zz5 : Env := tab.env (fun _ => []) (fun _ => []) [] [(.int .i64), (.int .i64)]
theorem z23c (R : Type) (kk : Nat) (a_0 : Int) (b_1 : Int) (K : Kf_ R) : evFn zz5 (Tb39 R) kk Tryz.f185 z1ct [.dat (.int .i64) a_0 [], .dat (.int .i64) b_1 []] none K =
  z9k a_0 b_1 (fun a0 => K [.dat .bool a0 []] none) := by kernel_rfl
theorem z1zp (R : Type) (a_0 : Int) (b_1 : Int) (K : Kf_ R) : evFn zz5 (Tb39 R) FUEL Tryz.f185 z1ct [.dat (.int .i64) a_0 [], .dat (.int .i64) b_1 []] none K = (Q268 a_0 b_1).bind fun r => K [.dat .bool r []] none := by
  rw [z23c]
  simp only [Q268, z1d0, z8, z6, zd, z7, ze, zc, Sum.elim_inl, Sum.elim_inr]
def z1lq : Pure := fun R l b K => noBox b (args2 (.int .i64) (.int .i64) l (fun x0 x1 => (Q268 x0 x1).bind fun r => K [.dat .bool r []] none))
theorem z23m : z1lq.Nat := fun R S l b F G K h => zh (zq fun _ _ => zg fun _ => h _ _)
def Tb40 : Funs := Tb39.add 185 [(.int .i64), (.int .i64)] z1lq
theorem z1al : Tb40.Nat := zl z18c z23m
theorem z1lb : ∀ f, Owes Tryz.prog Tb40 f := zk (E := zz5) (Tab.env_ok zm _ _ _ _) mixed z18c z1rj (fn := Tryz.f185) (code := z1ct) Tryz.func185 (by kernel_rfl) (by kernel_rfl) fun l b r b' h => by
  obtain ⟨rfl, h⟩ := zf h
  obtain ⟨x0, x1, h1, h2⟩ := own2 (E := zz5) rfl h
  exact ⟨FUEL, (h2 _ _ _ _ _ _).trans ((z1zp _ x0 x1 _).trans h1)⟩
noncomputable abbrev z1de : Code := Tryz.f127.body.getD .skip
def zze : Env := tab.env (fun _ => []) (fun _ => []) [] [y9, y9]
theorem z245 (R : Type) (kk : Nat) (a_0 : Zt13) (b_1 : Zt13) (K : Kf_ R) : evFn zze (Tb40 R) kk Tryz.f127 z1de [.dat y9 a_0 [], .dat y9 b_1 []] none K =
  z9q a_0 b_1 (fun a0 => K [.dat .bool a0 []] none) := by kernel_rfl
theorem z1x1 (R : Type) (a_0 : Zt13) (b_1 : Zt13) (K : Kf_ R) : evFn zze (Tb40 R) FUEL Tryz.f127 z1de [.dat y9 a_0 [], .dat y9 b_1 []] none K = (Q267 a_0 b_1).bind fun r => K [.dat .bool r []] none := by
  rw [z245]
  simp only [Q267, z1aq, z8, z6, zd, z7, ze, zc, Sum.elim_inl, Sum.elim_inr]
def z1kz : Pure := fun R l b K => noBox b (args2 y9 y9 l (fun x0 x1 => (Q267 x0 x1).bind fun r => K [.dat .bool r []] none))
theorem z247 : z1kz.Nat := fun R S l b F G K h => zh (zq fun _ _ => zg fun _ => h _ _)
def Tb41 : Funs := Tb40.add 127 [y9, y9] z1kz
theorem z1ay : Tb41.Nat := zl z1al z247
theorem z1q7 : ∀ f, Owes Tryz.prog Tb41 f := zk (E := zze) (Tab.env_ok zm _ _ _ _) mixed z1al z1lb (fn := Tryz.f127) (code := z1de) Tryz.func127 (by kernel_rfl) (by kernel_rfl) fun l b r b' h => by
  obtain ⟨rfl, h⟩ := zf h
  obtain ⟨x0, x1, h1, h2⟩ := own2 (E := zze) rfl h
  exact ⟨FUEL, (h2 _ _ _ _ _ _).trans ((z1x1 _ x0 x1 _).trans h1)⟩
noncomputable abbrev z16h : Code := Tryz.f139.body.getD .skip
def z10z : Env := tab.env (fun _ => []) (fun _ => []) [] [y9]
theorem z233 (R : Type) (kk : Nat) (s_0 : Zt13) (K : Kf_ R) : evFn z10z (Tb41 R) kk Tryz.f139 z16h [.dat y9 s_0 []] none K =
  zar s_0 (fun a0 => K [.dat .bool a0 []] none) := by kernel_rfl
theorem z21h (R : Type) (s_0 : Zt13) (K : Kf_ R) : evFn z10z (Tb41 R) FUEL Tryz.f139 z16h [.dat y9 s_0 []] none K = (Q252 s_0).bind fun r => K [.dat .bool r []] none := by
  rw [z233]
  simp only [Q252, z1as, z8, z6, zd, z7, ze, zc, Sum.elim_inl, Sum.elim_inr]
def z1j1 : Pure := fun R l b K => noBox b (args1 y9 l (fun x0 => (Q252 x0).bind fun r => K [.dat .bool r []] none))
theorem z26u : z1j1.Nat := fun R S l b F G K h => zh (zp fun _ => zg fun _ => h _ _)
def Tb42 : Funs := Tb41.add 139 [y9] z1j1
theorem z17s : Tb42.Nat := zl z1ay z26u
theorem z1mt : ∀ f, Owes Tryz.prog Tb42 f := zk (E := z10z) (Tab.env_ok zm _ _ _ _) mixed z1ay z1q7 (fn := Tryz.f139) (code := z16h) Tryz.func139 (by kernel_rfl) (by kernel_rfl) fun l b r b' h => by
  obtain ⟨rfl, h⟩ := zf h
  obtain ⟨x0, h1, h2⟩ := own1 (E := z10z) rfl h
  exact ⟨FUEL, (h2 _ _ _ _ _ _).trans ((z21h _ x0 _).trans h1)⟩
noncomputable abbrev Q22_c : Code := Tryz.f126.body.getD .skip
def Q22_E : Env := tab.env (fun i => bif Nat.beq i 5 then [4, 10, 11, 12, 13] else []) (fun i => bif Nat.beq i 5 then [2, 3] else []) [] [(.sl 116 (.pair .str (.pair .str .unit)))]
def z10w (t11 : Zt14) (t12 : Int) (t13 : Int) (bt4 : Zt9) : State := ⟨uS 4 ([.ptr 11 (.spc .mp .str .bool) []]::(uS 5 ([.ptr 11 (.spc .mp .str .bool) []]::[.dat (.sl 116 (.pair .str (.pair .str .unit))) t11 []]::[.dat (.int .i64) t12 []]::[.dat (.int .i64) t13 []]::(uS 13 ([]))))), nS 11 ((some ⟨(.spc .mp .str .bool), bt4, []⟩)::(nS 16 ([])))⟩
def zxq (t2 : Int) (t3 : Int) : State := ⟨uS 2 ([.dat (.int .i64) t2 []]::[.dat (.int .i64) t3 []]::(uS 23 ([]))), nS 28 []⟩
def zxx  : State := ⟨uS 27 [], nS 28 []⟩
theorem Q22_t (R : Type) (kk : Nat) (l_0 : Zt14) (K : Kf_ R) : evFn Q22_E (Tb42 R) kk Tryz.f126 Q22_c [.dat (.sl 116 (.pair .str (.pair .str .unit))) l_0 []] none K =
  ze9 l_0 (fun a0 a1 => K [.dat (.int .i64) a0 [], .dat (.int .i64) a1 []] none) (fun a0 a1 a2 a3 => loopR (ev Q22_E (Tb42 R) kk (sub [1, 1, 1, 0, 1, 0, 0] Q22_c)) [4, 10, 11, 12, 13] [2, 3] kk (z10w a0 a1 a2 a3) (zi 0 (kSeq Q22_E (Tb42 R) kk (sub [1, 1, 1, 1] Q22_c) (kFin Q22_E Tryz.f126.results.toList none K)))) := by kernel_rfl
theorem z24j (R : Type) (kk k : Nat) (t11 : Zt14) (t12 : Int) (t13 : Int) (bt4 : Zt9) (K : Kx_ R) : loopR (ev Q22_E (Tb42 R) kk (sub [1, 1, 1, 0, 1, 0, 0] Q22_c)) [4, 10, 11, 12, 13] [2, 3] (k + 1) (z10w t11 t12 t13 bt4) K =
  zo0 t11 t12 t13 bt4 (fun a0 a1 => K .ret (zxq a0 a1)) (fun a0 a1 a2 a3 => loopR (ev Q22_E (Tb42 R) kk (sub [1, 1, 1, 0, 1, 0, 0] Q22_c)) [4, 10, 11, 12, 13] [2, 3] k (z10w a0 a1 a2 a3) K) (K (.exit 0) (zxx)) := by kernel_rfl
theorem z1wn (R : Type) (kk : Nat) (t2 : Int) (t3 : Int) (K : Kf_ R) : (zi 0 (kSeq Q22_E (Tb42 R) kk (sub [1, 1, 1, 1] Q22_c) (kFin Q22_E Tryz.f126.results.toList none K))) .ret (zxq t2 t3) =
  zkr t2 t3 (fun a0 a1 => K [.dat (.int .i64) a0 [], .dat (.int .i64) a1 []] none) := by kernel_rfl
theorem z1um (R : Type) (kk : Nat)  (K : Kf_ R) : (zi 0 (kSeq Q22_E (Tb42 R) kk (sub [1, 1, 1, 1] Q22_c) (kFin Q22_E Tryz.f126.results.toList none K))) (.exit 0) (zxx) =
  zq8 (fun a0 a1 => K [.dat (.int .i64) a0 [], .dat (.int .i64) a1 []] none) := by kernel_rfl
theorem z1ys (R : Type) (k : Nat) (t11 : Zt14) (t12 : Int) (t13 : Int) (bt4 : Zt9) (K : Kx_ R) : loopR (ev Q22_E (Tb42 R) FUEL (sub [1, 1, 1, 0, 1, 0, 0] Q22_c)) [4, 10, 11, 12, 13] [2, 3] k (z10w t11 t12 t13 bt4) K = (zp8 k t11 t12 t13 bt4).bind fun e => (Sum.elim (fun (we : (Int × Int)) => K .ret (zxq we.1 we.2)) (fun (we : Unit) => K (.exit 0) (zxx)) e) := by
  induction k generalizing t11 t12 t13 bt4 with
  | zero => rfl
  | succ k ih =>
    rw [z24j]
    simp only [zp8, zwt, zwu, zxe, zxf, ih, z8, z6, zd, z7, ze, zc, Sum.elim_inl, Sum.elim_inr]
theorem z28y (R : Type) (l_0 : Zt14) (K : Kf_ R) : evFn Q22_E (Tb42 R) FUEL Tryz.f126 Q22_c [.dat (.sl 116 (.pair .str (.pair .str .unit))) l_0 []] none K = (Q22 l_0).bind fun r => K [.dat (.int .i64) r.1 [], .dat (.int .i64) r.2 []] none := by
  rw [Q22_t]
  simp only [Q22, zwt, zwu, zxe, zxf, z1ys, z1wn, z1um, z8, z6, zd, z7, ze, zc, Sum.elim_inl, Sum.elim_inr]
def Q22_g : Pure := fun R l b K => noBox b (args1 (.sl 116 (.pair .str (.pair .str .unit))) l (fun x0 => (Q22 x0).bind fun r => K [.dat (.int .i64) r.1 [], .dat (.int .i64) r.2 []] none))
theorem Q22_n : Q22_g.Nat := fun R S l b F G K h => zh (zp fun _ => zg fun _ => h _ _)
def Tb43 : Funs := Tb42.add 126 [(.sl 116 (.pair .str (.pair .str .unit)))] Q22_g
theorem z1bz : Tb43.Nat := zl z17s Q22_n
theorem z1mo : ∀ f, Owes Tryz.prog Tb43 f := zk (E := Q22_E) (Tab.env_ok zm _ _ _ _) mixed z17s z1mt (fn := Tryz.f126) (code := Q22_c) Tryz.func126 (by kernel_rfl) (by kernel_rfl) fun l b r b' h => by
  obtain ⟨rfl, h⟩ := zf h
  obtain ⟨x0, h1, h2⟩ := own1 (E := Q22_E) rfl h
  exact ⟨FUEL, (h2 _ _ _ _ _ _).trans ((z28y _ x0 _).trans h1)⟩
noncomputable abbrev z54 : Code := Tryz.f140.body.getD .skip
def z39 : Env := tab.env (fun i => bif Nat.beq i 5 then [4, 5, 25, 26, 27] else []) (fun i => bif Nat.beq i 5 then [6] else []) [] [(.sl 116 (.pair .str (.pair .str .unit))), y9, y9]
def zvz (t25 : Zt14) (t26 : Int) (t27 : Int) (bt4 : Zt13) (bt5 : Zt13) : State := ⟨uS 4 ([.ptr 5 y9 []]::[.ptr 6 y9 []]::(uS 19 ([.dat (.sl 116 (.pair .str (.pair .str .unit))) t25 []]::[.dat (.int .i64) t26 []]::[.dat (.int .i64) t27 []]::(uS 18 ([]))))), nS 5 ((some ⟨y9, bt4, []⟩)::(some ⟨y9, bt5, []⟩)::(nS 40 ([])))⟩
def zl8 (t6 : Int) : State := ⟨uS 6 ([.dat (.int .i64) t6 []]::(uS 39 ([]))), nS 47 []⟩
def zrv  : State := ⟨uS 46 [], nS 47 []⟩
theorem z295 (R : Type) (kk : Nat) (l_0 : Zt14) (from_1 : Zt13) (to_2 : Zt13) (K : Kf_ R) : evFn z39 (Tb43 R) kk Tryz.f140 z54 [.dat (.sl 116 (.pair .str (.pair .str .unit))) l_0 [], .dat y9 from_1 [], .dat y9 to_2 []] none K =
  zb8 l_0 from_1 to_2 (fun a0 => K [.dat (.int .i64) a0 []] none) (fun a0 a1 a2 a3 a4 => loopR (ev z39 (Tb43 R) kk (sub [1, 1, 0, 1, 0, 0] z54)) [4, 5, 25, 26, 27] [6] kk (zvz a0 a1 a2 a3 a4) (zi 0 (kSeq z39 (Tb43 R) kk (sub [1, 1, 1] z54) (kFin z39 Tryz.f140.results.toList none K)))) := by kernel_rfl
theorem z207 (R : Type) (kk k : Nat) (t25 : Zt14) (t26 : Int) (t27 : Int) (bt4 : Zt13) (bt5 : Zt13) (K : Kx_ R) : loopR (ev z39 (Tb43 R) kk (sub [1, 1, 0, 1, 0, 0] z54)) [4, 5, 25, 26, 27] [6] (k + 1) (zvz t25 t26 t27 bt4 bt5) K =
  zh0 t25 t26 t27 bt4 bt5 (fun a0 => K .ret (zl8 a0)) (fun a0 a1 a2 a3 a4 => loopR (ev z39 (Tb43 R) kk (sub [1, 1, 0, 1, 0, 0] z54)) [4, 5, 25, 26, 27] [6] k (zvz a0 a1 a2 a3 a4) K) (K (.exit 0) (zrv)) := by kernel_rfl
theorem z1qj (R : Type) (kk : Nat) (t6 : Int) (K : Kf_ R) : (zi 0 (kSeq z39 (Tb43 R) kk (sub [1, 1, 1] z54) (kFin z39 Tryz.f140.results.toList none K))) .ret (zl8 t6) =
  zgk t6 (fun a0 => K [.dat (.int .i64) a0 []] none) := by kernel_rfl
theorem z1md (R : Type) (kk : Nat)  (K : Kf_ R) : (zi 0 (kSeq z39 (Tb43 R) kk (sub [1, 1, 1] z54) (kFin z39 Tryz.f140.results.toList none K))) (.exit 0) (zrv) =
  zj3 (fun a0 => K [.dat (.int .i64) a0 []] none) := by kernel_rfl
theorem z1tu (R : Type) (k : Nat) (t25 : Zt14) (t26 : Int) (t27 : Int) (bt4 : Zt13) (bt5 : Zt13) (K : Kx_ R) : loopR (ev z39 (Tb43 R) FUEL (sub [1, 1, 0, 1, 0, 0] z54)) [4, 5, 25, 26, 27] [6] k (zvz t25 t26 t27 bt4 bt5) K = (zid k t25 t26 t27 bt4 bt5).bind fun e => (Sum.elim (fun (we : Int) => K .ret (zl8 we)) (fun (we : Unit) => K (.exit 0) (zrv)) e) := by
  induction k generalizing t25 t26 t27 bt4 bt5 with
  | zero => rfl
  | succ k ih =>
    rw [z207]
    simp only [zid, zm8, zmo, zlg, zpu, ih, z8, z6, zd, z7, ze, zc, Sum.elim_inl, Sum.elim_inr]
theorem z226 (R : Type) (l_0 : Zt14) (from_1 : Zt13) (to_2 : Zt13) (K : Kf_ R) : evFn z39 (Tb43 R) FUEL Tryz.f140 z54 [.dat (.sl 116 (.pair .str (.pair .str .unit))) l_0 [], .dat y9 from_1 [], .dat y9 to_2 []] none K = (Q253 l_0 from_1 to_2).bind fun r => K [.dat (.int .i64) r []] none := by
  rw [z295]
  simp only [Q253, zm8, zmo, zlg, zpu, z1tu, z1qj, z1md, z8, z6, zd, z7, ze, zc, Sum.elim_inl, Sum.elim_inr]
def z1ir : Pure := fun R l b K => noBox b (args3 (.sl 116 (.pair .str (.pair .str .unit))) y9 y9 l (fun x0 x1 x2 => (Q253 x0 x1 x2).bind fun r => K [.dat (.int .i64) r []] none))
theorem z2a5 : z1ir.Nat := fun R S l b F G K h => zh (z17 fun _ _ _ => zg fun _ => h _ _)
def Tb44 : Funs := Tb43.add 140 [(.sl 116 (.pair .str (.pair .str .unit))), y9, y9] z1ir
theorem z18y : Tb44.Nat := zl z1bz z2a5
theorem z1rs : ∀ f, Owes Tryz.prog Tb44 f := zk (E := z39) (Tab.env_ok zm _ _ _ _) mixed z1bz z1mo (fn := Tryz.f140) (code := z54) Tryz.func140 (by kernel_rfl) (by kernel_rfl) fun l b r b' h => by
  obtain ⟨rfl, h⟩ := zf h
  obtain ⟨x0, x1, x2, h1, h2⟩ := own3 (E := z39) rfl h
  exact ⟨FUEL, (h2 _ _ _ _ _ _).trans ((z226 _ x0 x1 x2 _).trans h1)⟩
noncomputable abbrev z168 : Code := Tryz.f77.body.getD .skip
def z115 : Env := tab.env (fun _ => []) (fun _ => []) [] [y12, y15, y15]
theorem z29k (R : Type) (kk : Nat) (r_0 : Zt20) (a_1 : Zt18) (b_2 : Zt18) (K : Kf_ R) : evFn z115 (Tb44 R) kk Tryz.f77 z168 [.dat y12 r_0 [], .dat y15 a_1 [], .dat y15 b_2 []] none K =
  zbd r_0 a_1 b_2 (fun a0 => K [.dat (.int .i64) a0 []] none) := by kernel_rfl
theorem z200 (R : Type) (r_0 : Zt20) (a_1 : Zt18) (b_2 : Zt18) (K : Kf_ R) : evFn z115 (Tb44 R) FUEL Tryz.f77 z168 [.dat y12 r_0 [], .dat y15 a_1 [], .dat y15 b_2 []] none K = (Q250 r_0 a_1 b_2).bind fun r => K [.dat (.int .i64) r []] none := by
  rw [z29k]
  simp only [Q250, z163, z8, z6, zd, z7, ze, zc, Sum.elim_inl, Sum.elim_inr]
def z1ph : Pure := fun R l b K => noBox b (args3 y12 y15 y15 l (fun x0 x1 x2 => (Q250 x0 x1 x2).bind fun r => K [.dat (.int .i64) r []] none))
theorem z26y : z1ph.Nat := fun R S l b F G K h => zh (z17 fun _ _ _ => zg fun _ => h _ _)
def Tb45 : Funs := Tb44.add 77 [y12, y15, y15] z1ph
theorem z1b4 : Tb45.Nat := zl z18y z26y
theorem z1if : ∀ f, Owes Tryz.prog Tb45 f := zk (E := z115) (Tab.env_ok zm _ _ _ _) mixed z18y z1rs (fn := Tryz.f77) (code := z168) Tryz.func77 (by kernel_rfl) (by kernel_rfl) fun l b r b' h => by
  obtain ⟨rfl, h⟩ := zf h
  obtain ⟨x0, x1, x2, h1, h2⟩ := own3 (E := z115) rfl h
  exact ⟨FUEL, (h2 _ _ _ _ _ _).trans ((z200 _ x0 x1 x2 _).trans h1)⟩
noncomputable abbrev Q42_c : Code := Tryz.f192.body.getD .skip
def Q42_E : Env := tab.env (fun _ => []) (fun _ => []) [2] [(.int .i64)]
theorem Q42_t (R : Type) (kk : Nat) (n_0 : Int) (K : Kf_ R) : evFn Q42_E (Tb45 R) kk Tryz.f192 Q42_c [.dat (.int .i64) n_0 []] none K =
  zfi n_0 (fun a0 => K [.dat (.pair (.int .u64) (.pair (.int .u64) .unit)) a0 []] none) := by kernel_rfl
theorem z28s (R : Type) (n_0 : Int) (K : Kf_ R) : evFn Q42_E (Tb45 R) FUEL Tryz.f192 Q42_c [.dat (.int .i64) n_0 []] none K = (Q42 n_0).bind fun r => K [.dat (.pair (.int .u64) (.pair (.int .u64) .unit)) r []] none := by
  rw [Q42_t]
  simp only [Q42, z1dz, z8, z6, zd, z7, ze, zc, Sum.elim_inl, Sum.elim_inr]
def Q42_g : Pure := fun R l b K => noBox b (args1 (.int .i64) l (fun x0 => (Q42 x0).bind fun r => K [.dat (.pair (.int .u64) (.pair (.int .u64) .unit)) r []] none))
theorem Q42_n : Q42_g.Nat := fun R S l b F G K h => zh (zp fun _ => zg fun _ => h _ _)
def Tb46 : Funs := Tb45.add 192 [(.int .i64)] Q42_g
theorem z1bl : Tb46.Nat := zl z1b4 Q42_n
theorem z1i2 : ∀ f, Owes Tryz.prog Tb46 f := zk (E := Q42_E) (Tab.env_ok zm _ _ _ _) mixed z1b4 z1if (fn := Tryz.f192) (code := Q42_c) Tryz.func192 (by kernel_rfl) (by kernel_rfl) fun l b r b' h => by
  obtain ⟨rfl, h⟩ := zf h
  obtain ⟨x0, h1, h2⟩ := own1 (E := Q42_E) rfl h
  exact ⟨FUEL, (h2 _ _ _ _ _ _).trans ((z28s _ x0 _).trans h1)⟩
noncomputable abbrev Q35_c : Code := Tryz.f80.body.getD .skip
def Q35_E : Env := tab.env (fun _ => []) (fun _ => []) [4] [(.pair (.int .u64) (.pair (.int .u64) .unit)), (.pair (.int .u64) (.pair (.int .u64) .unit))]
theorem Q35_t (R : Type) (kk : Nat) (s_0 : Zt5) (t_1 : Zt5) (K : Kf_ R) : evFn Q35_E (Tb46 R) kk Tryz.f80 Q35_c [.dat (.pair (.int .u64) (.pair (.int .u64) .unit)) s_0 [], .dat (.pair (.int .u64) (.pair (.int .u64) .unit)) t_1 []] none K =
  zh2 s_0 t_1 (fun a0 => K [.dat (.pair (.int .u64) (.pair (.int .u64) .unit)) a0 []] none) := by kernel_rfl
theorem z293 (R : Type) (s_0 : Zt5) (t_1 : Zt5) (K : Kf_ R) : evFn Q35_E (Tb46 R) FUEL Tryz.f80 Q35_c [.dat (.pair (.int .u64) (.pair (.int .u64) .unit)) s_0 [], .dat (.pair (.int .u64) (.pair (.int .u64) .unit)) t_1 []] none K = (Q35 s_0 t_1).bind fun r => K [.dat (.pair (.int .u64) (.pair (.int .u64) .unit)) r []] none := by
  rw [Q35_t]
  simp only [Q35, z1ea, z8, z6, zd, z7, ze, zc, Sum.elim_inl, Sum.elim_inr]
def Q35_g : Pure := fun R l b K => noBox b (args2 (.pair (.int .u64) (.pair (.int .u64) .unit)) (.pair (.int .u64) (.pair (.int .u64) .unit)) l (fun x0 x1 => (Q35 x0 x1).bind fun r => K [.dat (.pair (.int .u64) (.pair (.int .u64) .unit)) r []] none))
theorem Q35_n : Q35_g.Nat := fun R S l b F G K h => zh (zq fun _ _ => zg fun _ => h _ _)
def Tb47 : Funs := Tb46.add 80 [(.pair (.int .u64) (.pair (.int .u64) .unit)), (.pair (.int .u64) (.pair (.int .u64) .unit))] Q35_g
theorem z1cs : Tb47.Nat := zl z1bl Q35_n
theorem z1ie : ∀ f, Owes Tryz.prog Tb47 f := zk (E := Q35_E) (Tab.env_ok zm _ _ _ _) mixed z1bl z1i2 (fn := Tryz.f80) (code := Q35_c) Tryz.func80 (by kernel_rfl) (by kernel_rfl) fun l b r b' h => by
  obtain ⟨rfl, h⟩ := zf h
  obtain ⟨x0, x1, h1, h2⟩ := own2 (E := Q35_E) rfl h
  exact ⟨FUEL, (h2 _ _ _ _ _ _).trans ((z293 _ x0 x1 _).trans h1)⟩
noncomputable abbrev Q40_c : Code := Tryz.f141.body.getD .skip
def Q40_E : Env := tab.env (fun _ => []) (fun _ => []) [4] [(.pair (.int .u64) (.pair (.int .u64) .unit)), (.int .i64)]
theorem Q40_t (R : Type) (kk : Nat) (s_0 : Zt5) (n_1 : Int) (K : Kf_ R) : evFn Q40_E (Tb47 R) kk Tryz.f141 Q40_c [.dat (.pair (.int .u64) (.pair (.int .u64) .unit)) s_0 [], .dat (.int .i64) n_1 []] none K =
  zf6 s_0 n_1 (fun a0 => K [.dat (.pair (.int .u64) (.pair (.int .u64) .unit)) a0 []] none) := by kernel_rfl
theorem z25s (R : Type) (s_0 : Zt5) (n_1 : Int) (K : Kf_ R) : evFn Q40_E (Tb47 R) FUEL Tryz.f141 Q40_c [.dat (.pair (.int .u64) (.pair (.int .u64) .unit)) s_0 [], .dat (.int .i64) n_1 []] none K = (Q40 s_0 n_1).bind fun r => K [.dat (.pair (.int .u64) (.pair (.int .u64) .unit)) r []] none := by
  rw [Q40_t]
  simp only [Q40, z1dv, z8, z6, zd, z7, ze, zc, Sum.elim_inl, Sum.elim_inr]
def Q40_g : Pure := fun R l b K => noBox b (args2 (.pair (.int .u64) (.pair (.int .u64) .unit)) (.int .i64) l (fun x0 x1 => (Q40 x0 x1).bind fun r => K [.dat (.pair (.int .u64) (.pair (.int .u64) .unit)) r []] none))
theorem Q40_n : Q40_g.Nat := fun R S l b F G K h => zh (zq fun _ _ => zg fun _ => h _ _)
def Tb48 : Funs := Tb47.add 141 [(.pair (.int .u64) (.pair (.int .u64) .unit)), (.int .i64)] Q40_g
theorem z181 : Tb48.Nat := zl z1cs Q40_n
theorem z1ov : ∀ f, Owes Tryz.prog Tb48 f := zk (E := Q40_E) (Tab.env_ok zm _ _ _ _) mixed z1cs z1ie (fn := Tryz.f141) (code := Q40_c) Tryz.func141 (by kernel_rfl) (by kernel_rfl) fun l b r b' h => by
  obtain ⟨rfl, h⟩ := zf h
  obtain ⟨x0, x1, h1, h2⟩ := own2 (E := Q40_E) rfl h
  exact ⟨FUEL, (h2 _ _ _ _ _ _).trans ((z25s _ x0 x1 _).trans h1)⟩
noncomputable abbrev Q33_c : Code := Tryz.f78.body.getD .skip
def Q33_E : Env := tab.env (fun i => bif Nat.beq i 3 then [2, 3, 6, 7, 8] else []) (fun i => bif Nat.beq i 3 then [2, 3] else []) [2] [(.sl 3 (.int .i64))]
def z10o (t6 : (List Int)) (t7 : Int) (t8 : Int) (bt2 : Zt5) (bt3 : Zt5) : State := ⟨uS 2 ([.ptr 3 (.pair (.int .u64) (.pair (.int .u64) .unit)) []]::[.ptr 4 (.pair (.int .u64) (.pair (.int .u64) .unit)) []]::(uS 2 ([.dat (.sl 3 (.int .i64)) t6 []]::[.dat (.int .i64) t7 []]::[.dat (.int .i64) t8 []]::(uS 8 ([]))))), nS 3 ((some ⟨(.pair (.int .u64) (.pair (.int .u64) .unit)), bt2, []⟩)::(some ⟨(.pair (.int .u64) (.pair (.int .u64) .unit)), bt3, []⟩)::(nS 13 ([])))⟩
def zxs (bt2 : Zt5) (bt3 : Zt5) : State := ⟨uS 2 ([.ptr 3 (.pair (.int .u64) (.pair (.int .u64) .unit)) []]::[.ptr 4 (.pair (.int .u64) (.pair (.int .u64) .unit)) []]::(uS 13 ([]))), nS 3 ((some ⟨(.pair (.int .u64) (.pair (.int .u64) .unit)), bt2, []⟩)::(some ⟨(.pair (.int .u64) (.pair (.int .u64) .unit)), bt3, []⟩)::(nS 13 ([])))⟩
theorem Q33_t (R : Type) (kk : Nat) (n_0 : (List Int)) (K : Kf_ R) : evFn Q33_E (Tb48 R) kk Tryz.f78 Q33_c [.dat (.sl 3 (.int .i64)) n_0 []] none K =
  zf8 n_0 (fun a0 a1 a2 a3 a4 => loopR (ev Q33_E (Tb48 R) kk (sub [1, 1, 0, 1, 0, 0] Q33_c)) [2, 3, 6, 7, 8] [2, 3] kk (z10o a0 a1 a2 a3 a4) (zi 0 (kSeq Q33_E (Tb48 R) kk (sub [1, 1, 1] Q33_c) (kFin Q33_E Tryz.f78.results.toList none K)))) := by kernel_rfl
theorem z28c (R : Type) (kk k : Nat) (t6 : (List Int)) (t7 : Int) (t8 : Int) (bt2 : Zt5) (bt3 : Zt5) (K : Kx_ R) : loopR (ev Q33_E (Tb48 R) kk (sub [1, 1, 0, 1, 0, 0] Q33_c)) [2, 3, 6, 7, 8] [2, 3] (k + 1) (z10o t6 t7 t8 bt2 bt3) K =
  zcx t6 t7 t8 bt2 bt3 (fun a0 a1 a2 a3 a4 => loopR (ev Q33_E (Tb48 R) kk (sub [1, 1, 0, 1, 0, 0] Q33_c)) [2, 3, 6, 7, 8] [2, 3] k (z10o a0 a1 a2 a3 a4) K) (fun a0 a1 => K (.exit 0) (zxs a0 a1)) := by kernel_rfl
theorem z1wu (R : Type) (kk : Nat) (bt2 : Zt5) (bt3 : Zt5) (K : Kf_ R) : (zi 0 (kSeq Q33_E (Tb48 R) kk (sub [1, 1, 1] Q33_c) (kFin Q33_E Tryz.f78.results.toList none K))) (.exit 0) (zxs bt2 bt3) =
  zie bt2 bt3 (fun a0 => K [.dat (.pair (.int .u64) (.pair (.int .u64) .unit)) a0 []] none) := by kernel_rfl
theorem z1x7 (R : Type) (k : Nat) (t6 : (List Int)) (t7 : Int) (t8 : Int) (bt2 : Zt5) (bt3 : Zt5) (K : Kx_ R) : loopR (ev Q33_E (Tb48 R) FUEL (sub [1, 1, 0, 1, 0, 0] Q33_c)) [2, 3, 6, 7, 8] [2, 3] k (z10o t6 t7 t8 bt2 bt3) K = (z96 k t6 t7 t8 bt2 bt3).bind fun e => K (.exit 0) (zxs e.1 e.2) := by
  induction k generalizing t6 t7 t8 bt2 bt3 with
  | zero => rfl
  | succ k ih =>
    rw [z28c]
    simp only [z96, zx0, zwy, zxj, ih, z8, z6, zd, z7, ze, zc, Sum.elim_inl, Sum.elim_inr]
theorem z23z (R : Type) (n_0 : (List Int)) (K : Kf_ R) : evFn Q33_E (Tb48 R) FUEL Tryz.f78 Q33_c [.dat (.sl 3 (.int .i64)) n_0 []] none K = (Q33 n_0).bind fun r => K [.dat (.pair (.int .u64) (.pair (.int .u64) .unit)) r []] none := by
  rw [Q33_t]
  simp only [Q33, zx0, zwy, zxj, z1x7, z1wu, z8, z6, zd, z7, ze, zc, Sum.elim_inl, Sum.elim_inr]
def Q33_g : Pure := fun R l b K => noBox b (args1 (.sl 3 (.int .i64)) l (fun x0 => (Q33 x0).bind fun r => K [.dat (.pair (.int .u64) (.pair (.int .u64) .unit)) r []] none))
theorem Q33_n : Q33_g.Nat := fun R S l b F G K h => zh (zp fun _ => zg fun _ => h _ _)
def Tb49 : Funs := Tb48.add 78 [(.sl 3 (.int .i64))] Q33_g
theorem z1bi : Tb49.Nat := zl z181 Q33_n
theorem z1l7 : ∀ f, Owes Tryz.prog Tb49 f := zk (E := Q33_E) (Tab.env_ok zm _ _ _ _) mixed z181 z1ov (fn := Tryz.f78) (code := Q33_c) Tryz.func78 (by kernel_rfl) (by kernel_rfl) fun l b r b' h => by
  obtain ⟨rfl, h⟩ := zf h
  obtain ⟨x0, h1, h2⟩ := own1 (E := Q33_E) rfl h
  exact ⟨FUEL, (h2 _ _ _ _ _ _).trans ((z23z _ x0 _).trans h1)⟩
noncomputable abbrev Q34_c : Code := Tryz.f79.body.getD .skip
def Q34_E : Env := tab.env (fun _ => []) (fun _ => []) [4] [(.pair (.int .u64) (.pair (.int .u64) .unit)), (.pair (.int .u64) (.pair (.int .u64) .unit))]
theorem Q34_t (R : Type) (kk : Nat) (s_0 : Zt5) (t_1 : Zt5) (K : Kf_ R) : evFn Q34_E (Tb49 R) kk Tryz.f79 Q34_c [.dat (.pair (.int .u64) (.pair (.int .u64) .unit)) s_0 [], .dat (.pair (.int .u64) (.pair (.int .u64) .unit)) t_1 []] none K =
  zjg s_0 t_1 (fun a0 => K [.dat (.pair (.int .u64) (.pair (.int .u64) .unit)) a0 []] none) := by kernel_rfl
theorem z2ab (R : Type) (s_0 : Zt5) (t_1 : Zt5) (K : Kf_ R) : evFn Q34_E (Tb49 R) FUEL Tryz.f79 Q34_c [.dat (.pair (.int .u64) (.pair (.int .u64) .unit)) s_0 [], .dat (.pair (.int .u64) (.pair (.int .u64) .unit)) t_1 []] none K = (Q34 s_0 t_1).bind fun r => K [.dat (.pair (.int .u64) (.pair (.int .u64) .unit)) r []] none := by
  rw [Q34_t]
  simp only [Q34, z1dw, z8, z6, zd, z7, ze, zc, Sum.elim_inl, Sum.elim_inr]
def Q34_g : Pure := fun R l b K => noBox b (args2 (.pair (.int .u64) (.pair (.int .u64) .unit)) (.pair (.int .u64) (.pair (.int .u64) .unit)) l (fun x0 x1 => (Q34 x0 x1).bind fun r => K [.dat (.pair (.int .u64) (.pair (.int .u64) .unit)) r []] none))
theorem Q34_n : Q34_g.Nat := fun R S l b F G K h => zh (zq fun _ _ => zg fun _ => h _ _)
def Tb50 : Funs := Tb49.add 79 [(.pair (.int .u64) (.pair (.int .u64) .unit)), (.pair (.int .u64) (.pair (.int .u64) .unit))] Q34_g
theorem z18u : Tb50.Nat := zl z1bi Q34_n
theorem z1qz : ∀ f, Owes Tryz.prog Tb50 f := zk (E := Q34_E) (Tab.env_ok zm _ _ _ _) mixed z1bi z1l7 (fn := Tryz.f79) (code := Q34_c) Tryz.func79 (by kernel_rfl) (by kernel_rfl) fun l b r b' h => by
  obtain ⟨rfl, h⟩ := zf h
  obtain ⟨x0, x1, h1, h2⟩ := own2 (E := Q34_E) rfl h
  exact ⟨FUEL, (h2 _ _ _ _ _ _).trans ((z2ab _ x0 x1 _).trans h1)⟩
noncomputable abbrev z1l : Code := Tryz.f31.body.getD .skip
def z13 : Env := tab.env (fun i => bif Nat.beq i 2 then [3, 4, 5, 26, 27, 28] else bif Nat.beq i 12 then [3, 4, 5, 13, 46, 48, 49, 50] else bif Nat.beq i 24 then [4, 5, 16, 17, 77, 78, 79] else []) (fun i => bif Nat.beq i 2 then [3, 4, 5, 6, 7, 8] else bif Nat.beq i 12 then [3, 4, 5, 6, 7, 8] else bif Nat.beq i 24 then [6, 7, 8] else []) [] [y16, y15, y15]
def zu9 (t26 : Zt19) (t27 : Int) (t28 : Int) (bt3 : Zt24) (bt4 : Zt18) (bt5 : Zt18) : State := ⟨uS 3 ([.ptr 4 y16 []]::[.ptr 5 y15 []]::[.ptr 6 y15 []]::(uS 20 ([.dat (.sl 24 y15) t26 [[]]]::[.dat (.int .i64) t27 []]::[.dat (.int .i64) t28 []]::(uS 92 ([]))))), nS 4 ((some ⟨y16, bt3, []⟩)::(some ⟨y15, bt4, []⟩)::(some ⟨y15, bt5, []⟩)::(nS 115 ([])))⟩
def zrc (t6 : Int) (t7 : Int) (t8 : Int) (bt3 : Zt24) (bt4 : Zt18) (bt5 : Zt18) : State := ⟨uS 3 ([.ptr 4 y16 []]::[.ptr 5 y15 []]::[.ptr 6 y15 []]::[.dat (.int .i64) t6 []]::[.dat (.int .i64) t7 []]::[.dat (.int .i64) t8 []]::(uS 112 ([]))), nS 4 ((some ⟨y16, bt3, []⟩)::(some ⟨y15, bt4, []⟩)::(some ⟨y15, bt5, []⟩)::(nS 115 ([])))⟩
def zps (bt3 : Zt24) (bt4 : Zt18) (bt5 : Zt18) : State := ⟨uS 3 ([.ptr 4 y16 []]::[.ptr 5 y15 []]::[.ptr 6 y15 []]::(uS 115 ([]))), nS 4 ((some ⟨y16, bt3, []⟩)::(some ⟨y15, bt4, []⟩)::(some ⟨y15, bt5, []⟩)::(nS 115 ([])))⟩
def ztw (t48 : Zt14) (t49 : Int) (t50 : Int) (bt3 : Zt24) (bt4 : Zt18) (bt5 : Zt18) (bt13 : Zt9) : State := ⟨uS 3 ([.ptr 4 y16 []]::[.ptr 5 y15 []]::[.ptr 6 y15 []]::(uS 7 ([.ptr 47 (.spc .mp .str .bool) []]::(uS 32 ([.ptr 47 (.spc .mp .str .bool) []]::(uS 1 ([.dat (.sl 116 (.pair .str (.pair .str .unit))) t48 []]::[.dat (.int .i64) t49 []]::[.dat (.int .i64) t50 []]::(uS 70 ([]))))))))), nS 4 ((some ⟨y16, bt3, []⟩)::(some ⟨y15, bt4, []⟩)::(some ⟨y15, bt5, []⟩)::(nS 40 ((some ⟨(.spc .mp .str .bool), bt13, []⟩)::(nS 74 ([])))))⟩
def zp5 (t6 : Int) (t7 : Int) (t8 : Int) (bt3 : Zt24) (bt4 : Zt18) (bt5 : Zt18) : State := ⟨uS 3 ([.ptr 4 y16 []]::[.ptr 5 y15 []]::[.ptr 6 y15 []]::[.dat (.int .i64) t6 []]::[.dat (.int .i64) t7 []]::[.dat (.int .i64) t8 []]::(uS 112 ([]))), nS 4 ((some ⟨y16, bt3, []⟩)::(some ⟨y15, bt4, []⟩)::(some ⟨y15, bt5, []⟩)::(nS 115 ([])))⟩
def znd (bt3 : Zt24) (bt4 : Zt18) (bt5 : Zt18) : State := ⟨uS 3 ([.ptr 4 y16 []]::[.ptr 5 y15 []]::[.ptr 6 y15 []]::(uS 115 ([]))), nS 4 ((some ⟨y16, bt3, []⟩)::(some ⟨y15, bt4, []⟩)::(some ⟨y15, bt5, []⟩)::(nS 115 ([])))⟩
def zuz (t77 : Zt22) (t78 : Int) (t79 : Int) (bt4 : Zt18) (bt5 : Zt18) (bt16 : Zt5) (bt17 : Zt5) : State := ⟨uS 4 ([.ptr 5 y15 []]::[.ptr 6 y15 []]::(uS 10 ([.ptr 17 (.pair (.int .u64) (.pair (.int .u64) .unit)) []]::[.ptr 18 (.pair (.int .u64) (.pair (.int .u64) .unit)) []]::(uS 59 ([.dat (.sl 59 y12) t77 []]::[.dat (.int .i64) t78 []]::[.dat (.int .i64) t79 []]::(uS 41 ([]))))))), nS 5 ((some ⟨y15, bt4, []⟩)::(some ⟨y15, bt5, []⟩)::(nS 10 ((some ⟨(.pair (.int .u64) (.pair (.int .u64) .unit)), bt16, []⟩)::(some ⟨(.pair (.int .u64) (.pair (.int .u64) .unit)), bt17, []⟩)::(nS 103 ([])))))⟩
def zsu (t6 : Int) (t7 : Int) (t8 : Int) : State := ⟨uS 6 ([.dat (.int .i64) t6 []]::[.dat (.int .i64) t7 []]::[.dat (.int .i64) t8 []]::(uS 112 ([]))), nS 122 []⟩
def zlr  : State := ⟨uS 121 [], nS 122 []⟩
theorem z2ad (R : Type) (kk : Nat) (m_0 : Zt24) (a_1 : Zt18) (b_2 : Zt18) (K : Kf_ R) : evFn z13 (Tb50 R) kk Tryz.f31 z1l [.dat y16 m_0 [], .dat y15 a_1 [], .dat y15 b_2 []] none K =
  z9u m_0 a_1 b_2 (fun a0 a1 a2 a3 a4 a5 => loopR (ev z13 (Tb50 R) kk (sub [1, 0, 1, 0, 0] z1l)) [3, 4, 5, 26, 27, 28] [3, 4, 5, 6, 7, 8] kk (zu9 a0 a1 a2 a3 a4 a5) (zi 0 (kSeq z13 (Tb50 R) kk (sub [1, 1] z1l) (kFin z13 Tryz.f31.results.toList none K)))) := by kernel_rfl
theorem z1yp (R : Type) (kk k : Nat) (t26 : Zt19) (t27 : Int) (t28 : Int) (bt3 : Zt24) (bt4 : Zt18) (bt5 : Zt18) (K : Kx_ R) : loopR (ev z13 (Tb50 R) kk (sub [1, 0, 1, 0, 0] z1l)) [3, 4, 5, 26, 27, 28] [3, 4, 5, 6, 7, 8] (k + 1) (zu9 t26 t27 t28 bt3 bt4 bt5) K =
  zbo t26 t27 t28 bt3 bt4 bt5 (fun a0 a1 a2 a3 a4 a5 => K .ret (zrc a0 a1 a2 a3 a4 a5)) (fun a0 a1 a2 a3 a4 a5 => loopR (ev z13 (Tb50 R) kk (sub [1, 0, 1, 0, 0] z1l)) [3, 4, 5, 26, 27, 28] [3, 4, 5, 6, 7, 8] k (zu9 a0 a1 a2 a3 a4 a5) K) (fun a0 a1 a2 => K (.exit 0) (zps a0 a1 a2)) := by kernel_rfl
theorem z1op (R : Type) (kk : Nat) (t6 : Int) (t7 : Int) (t8 : Int) (bt3 : Zt24) (bt4 : Zt18) (bt5 : Zt18) (K : Kf_ R) : (zi 0 (kSeq z13 (Tb50 R) kk (sub [1, 1] z1l) (kFin z13 Tryz.f31.results.toList none K))) .ret (zrc t6 t7 t8 bt3 bt4 bt5) =
  zgu t6 t7 t8 bt3 bt4 bt5 (fun a0 a1 a2 => K [.dat (.int .i64) a0 [], .dat (.int .i64) a1 [], .dat (.int .i64) a2 []] none) := by kernel_rfl
theorem z1rh (R : Type) (kk : Nat) (bt3 : Zt24) (bt4 : Zt18) (bt5 : Zt18) (K : Kf_ R) : (zi 0 (kSeq z13 (Tb50 R) kk (sub [1, 1] z1l) (kFin z13 Tryz.f31.results.toList none K))) (.exit 0) (zps bt3 bt4 bt5) =
  zb3 bt3 bt4 bt5 (fun a0 a1 a2 => K [.dat (.int .i64) a0 [], .dat (.int .i64) a1 [], .dat (.int .i64) a2 []] none) (fun a0 a1 a2 a3 a4 a5 a6 => loopR (ev z13 (Tb50 R) kk (sub [1, 1, 1, 1, 0, 1, 0, 0] z1l)) [3, 4, 5, 13, 46, 48, 49, 50] [3, 4, 5, 6, 7, 8] kk (ztw a0 a1 a2 a3 a4 a5 a6) (zi 2 (kSeq z13 (Tb50 R) kk (sub [1, 1, 1, 1, 1] z1l) (kFin z13 Tryz.f31.results.toList none K)))) := by kernel_rfl
theorem z1yq (R : Type) (kk k : Nat) (t48 : Zt14) (t49 : Int) (t50 : Int) (bt3 : Zt24) (bt4 : Zt18) (bt5 : Zt18) (bt13 : Zt9) (K : Kx_ R) : loopR (ev z13 (Tb50 R) kk (sub [1, 1, 1, 1, 0, 1, 0, 0] z1l)) [3, 4, 5, 13, 46, 48, 49, 50] [3, 4, 5, 6, 7, 8] (k + 1) (ztw t48 t49 t50 bt3 bt4 bt5 bt13) K =
  zhh t48 t49 t50 bt3 bt4 bt5 bt13 (fun a0 a1 a2 a3 a4 a5 => K .ret (zp5 a0 a1 a2 a3 a4 a5)) (fun a0 a1 a2 a3 a4 a5 a6 => loopR (ev z13 (Tb50 R) kk (sub [1, 1, 1, 1, 0, 1, 0, 0] z1l)) [3, 4, 5, 13, 46, 48, 49, 50] [3, 4, 5, 6, 7, 8] k (ztw a0 a1 a2 a3 a4 a5 a6) K) (fun a0 a1 a2 => K (.exit 2) (znd a0 a1 a2)) := by kernel_rfl
theorem z1od (R : Type) (kk : Nat) (t6 : Int) (t7 : Int) (t8 : Int) (bt3 : Zt24) (bt4 : Zt18) (bt5 : Zt18) (K : Kf_ R) : (zi 2 (kSeq z13 (Tb50 R) kk (sub [1, 1, 1, 1, 1] z1l) (kFin z13 Tryz.f31.results.toList none K))) .ret (zp5 t6 t7 t8 bt3 bt4 bt5) =
  zh4 t6 t7 t8 bt3 bt4 bt5 (fun a0 a1 a2 => K [.dat (.int .i64) a0 [], .dat (.int .i64) a1 [], .dat (.int .i64) a2 []] none) := by kernel_rfl
theorem z1m5 (R : Type) (kk : Nat) (bt3 : Zt24) (bt4 : Zt18) (bt5 : Zt18) (K : Kf_ R) : (zi 2 (kSeq z13 (Tb50 R) kk (sub [1, 1, 1, 1, 1] z1l) (kFin z13 Tryz.f31.results.toList none K))) (.exit 2) (znd bt3 bt4 bt5) =
  za5 bt3 bt4 bt5 (fun a0 a1 a2 => K [.dat (.int .i64) a0 [], .dat (.int .i64) a1 [], .dat (.int .i64) a2 []] none) (fun a0 a1 a2 a3 a4 a5 a6 => loopR (ev z13 (Tb50 R) kk (sub [1, 1, 1, 1, 1, 1, 1, 0, 1, 0, 0] z1l)) [4, 5, 16, 17, 77, 78, 79] [6, 7, 8] kk (zuz a0 a1 a2 a3 a4 a5 a6) (zi 5 (kSeq z13 (Tb50 R) kk (sub [1, 1, 1, 1, 1, 1, 1, 1] z1l) (kFin z13 Tryz.f31.results.toList none K)))) := by kernel_rfl
theorem z20f (R : Type) (kk k : Nat) (t77 : Zt22) (t78 : Int) (t79 : Int) (bt4 : Zt18) (bt5 : Zt18) (bt16 : Zt5) (bt17 : Zt5) (K : Kx_ R) : loopR (ev z13 (Tb50 R) kk (sub [1, 1, 1, 1, 1, 1, 1, 0, 1, 0, 0] z1l)) [4, 5, 16, 17, 77, 78, 79] [6, 7, 8] (k + 1) (zuz t77 t78 t79 bt4 bt5 bt16 bt17) K =
  zil t77 t78 t79 bt4 bt5 bt16 bt17 (fun a0 a1 a2 => K .ret (zsu a0 a1 a2)) (fun a0 a1 a2 a3 a4 a5 a6 => loopR (ev z13 (Tb50 R) kk (sub [1, 1, 1, 1, 1, 1, 1, 0, 1, 0, 0] z1l)) [4, 5, 16, 17, 77, 78, 79] [6, 7, 8] k (zuz a0 a1 a2 a3 a4 a5 a6) K) (K (.exit 5) (zlr)) := by kernel_rfl
theorem z1nr (R : Type) (kk : Nat) (t6 : Int) (t7 : Int) (t8 : Int) (K : Kf_ R) : (zi 5 (kSeq z13 (Tb50 R) kk (sub [1, 1, 1, 1, 1, 1, 1, 1] z1l) (kFin z13 Tryz.f31.results.toList none K))) .ret (zsu t6 t7 t8) =
  zhv t6 t7 t8 (fun a0 a1 a2 => K [.dat (.int .i64) a0 [], .dat (.int .i64) a1 [], .dat (.int .i64) a2 []] none) := by kernel_rfl
theorem z1mn (R : Type) (kk : Nat)  (K : Kf_ R) : (zi 5 (kSeq z13 (Tb50 R) kk (sub [1, 1, 1, 1, 1, 1, 1, 1] z1l) (kFin z13 Tryz.f31.results.toList none K))) (.exit 5) (zlr) =
  zg6 (fun a0 a1 a2 => K [.dat (.int .i64) a0 [], .dat (.int .i64) a1 [], .dat (.int .i64) a2 []] none) := by kernel_rfl
theorem z1tl (R : Type) (k : Nat) (t26 : Zt19) (t27 : Int) (t28 : Int) (bt3 : Zt24) (bt4 : Zt18) (bt5 : Zt18) (K : Kx_ R) : loopR (ev z13 (Tb50 R) FUEL (sub [1, 0, 1, 0, 0] z1l)) [3, 4, 5, 26, 27, 28] [3, 4, 5, 6, 7, 8] k (zu9 t26 t27 t28 bt3 bt4 bt5) K = (zae k t26 t27 t28 bt3 bt4 bt5).bind fun e => (Sum.elim (fun (we : Zt30) => K .ret (zrc we.1 we.2.1 we.2.2.1 we.2.2.2.1 we.2.2.2.2.1 we.2.2.2.2.2)) (fun (we : Zt28) => K (.exit 0) (zps we.1 we.2.1 we.2.2)) e) := by
  induction k generalizing t26 t27 t28 bt3 bt4 bt5 with
  | zero => rfl
  | succ k ih =>
    rw [z1yp]
    simp only [zae, z7f, z7l, z6k, z6n, z6o, z6e, z6t, z6m, z6u, z6g, ih, z8, z6, zd, z7, ze, zc, Sum.elim_inl, Sum.elim_inr]
theorem z1u7 (R : Type) (k : Nat) (t48 : Zt14) (t49 : Int) (t50 : Int) (bt3 : Zt24) (bt4 : Zt18) (bt5 : Zt18) (bt13 : Zt9) (K : Kx_ R) : loopR (ev z13 (Tb50 R) FUEL (sub [1, 1, 1, 1, 0, 1, 0, 0] z1l)) [3, 4, 5, 13, 46, 48, 49, 50] [3, 4, 5, 6, 7, 8] k (ztw t48 t49 t50 bt3 bt4 bt5 bt13) K = (zb0 k t48 t49 t50 bt3 bt4 bt5 bt13).bind fun e => (Sum.elim (fun (we : Zt30) => K .ret (zp5 we.1 we.2.1 we.2.2.1 we.2.2.2.1 we.2.2.2.2.1 we.2.2.2.2.2)) (fun (we : Zt28) => K (.exit 2) (znd we.1 we.2.1 we.2.2)) e) := by
  induction k generalizing t48 t49 t50 bt3 bt4 bt5 bt13 with
  | zero => rfl
  | succ k ih =>
    rw [z1yq]
    simp only [zb0, z7f, z7l, z6k, z6n, z6o, z6e, z6t, z6m, z6u, z6g, ih, z8, z6, zd, z7, ze, zc, Sum.elim_inl, Sum.elim_inr]
theorem z1u5 (R : Type) (k : Nat) (t77 : Zt22) (t78 : Int) (t79 : Int) (bt4 : Zt18) (bt5 : Zt18) (bt16 : Zt5) (bt17 : Zt5) (K : Kx_ R) : loopR (ev z13 (Tb50 R) FUEL (sub [1, 1, 1, 1, 1, 1, 1, 0, 1, 0, 0] z1l)) [4, 5, 16, 17, 77, 78, 79] [6, 7, 8] k (zuz t77 t78 t79 bt4 bt5 bt16 bt17) K = (zi4 k t77 t78 t79 bt4 bt5 bt16 bt17).bind fun e => (Sum.elim (fun (we : Zt1) => K .ret (zsu we.1 we.2.1 we.2.2)) (fun (we : Unit) => K (.exit 5) (zlr)) e) := by
  induction k generalizing t77 t78 t79 bt4 bt5 bt16 bt17 with
  | zero => rfl
  | succ k ih =>
    rw [z20f]
    simp only [zi4, z7f, z7l, z6k, z6n, z6o, z6e, z6t, z6m, z6u, z6g, ih, z8, z6, zd, z7, ze, zc, Sum.elim_inl, Sum.elim_inr]
theorem z1xe (R : Type) (m_0 : Zt24) (a_1 : Zt18) (b_2 : Zt18) (K : Kf_ R) : evFn z13 (Tb50 R) FUEL Tryz.f31 z1l [.dat y16 m_0 [], .dat y15 a_1 [], .dat y15 b_2 []] none K = (Q288 m_0 a_1 b_2).bind fun r => K [.dat (.int .i64) r.1 [], .dat (.int .i64) r.2.1 [], .dat (.int .i64) r.2.2 []] none := by
  rw [z2ad]
  simp only [Q288, z7f, z7l, z6k, z6n, z6o, z6e, z6t, z6m, z6u, z6g, z1tl, z1u7, z1u5, z1op, z1rh, z1od, z1m5, z1nr, z1mn, z8, z6, zd, z7, ze, zc, Sum.elim_inl, Sum.elim_inr]
def z1n6 : Pure := fun R l b K => noBox b (args3 y16 y15 y15 l (fun x0 x1 x2 => (Q288 x0 x1 x2).bind fun r => K [.dat (.int .i64) r.1 [], .dat (.int .i64) r.2.1 [], .dat (.int .i64) r.2.2 []] none))
theorem z29d : z1n6.Nat := fun R S l b F G K h => zh (z17 fun _ _ _ => zg fun _ => h _ _)
def Tb51 : Funs := Tb50.add 31 [y16, y15, y15] z1n6
theorem z1bv : Tb51.Nat := zl z18u z29d
theorem z1qf : ∀ f, Owes Tryz.prog Tb51 f := zk (E := z13) (Tab.env_ok zm _ _ _ _) mixed z18u z1qz (fn := Tryz.f31) (code := z1l) Tryz.func31 (by kernel_rfl) (by kernel_rfl) fun l b r b' h => by
  obtain ⟨rfl, h⟩ := zf h
  obtain ⟨x0, x1, x2, h1, h2⟩ := own3 (E := z13) rfl h
  exact ⟨FUEL, (h2 _ _ _ _ _ _).trans ((z1xe _ x0 x1 x2 _).trans h1)⟩
noncomputable abbrev z5t : Code := Tryz.f11.body.getD .skip
def z2r : Env := tab.env (fun i => bif Nat.beq i 4 then [1, 22, 23] else []) (fun i => bif Nat.beq i 4 then [2, 3, 4] else []) [] [y19]
end Go.Proofs.YtkgpjibbdpikcaaGreatDoor
namespace Go.Proofs.YtkgpjibbdpikcaaGreatDoor
open Go Go.Ref Groat
def zv3 (t22 : Zt27) (t23 : Int) (bt1 : Zt29) : State := ⟨uS 1 ([.ptr 2 y19 []]::(uS 20 ([.dat (.arr 2 y18) t22 []]::[.dat (.int .i64) t23 []]::(uS 33 ([]))))), nS 2 ((some ⟨y19, bt1, []⟩)::(nS 55 ([])))⟩
def znb (t2 : Int) (t3 : Int) (t4 : Int) : State := ⟨uS 2 ([.dat (.int .i64) t2 []]::[.dat (.int .i64) t3 []]::[.dat (.int .i64) t4 []]::(uS 52 ([]))), nS 58 []⟩
def zpa  : State := ⟨uS 57 [], nS 58 []⟩
theorem z24s (R : Type) (kk : Nat) (c_0 : Zt29) (K : Kf_ R) : evFn z2r (Tb51 R) kk Tryz.f11 z5t [.dat y19 c_0 []] none K =
  za1 c_0 (fun a0 a1 a2 => K [.dat (.int .i64) a0 [], .dat (.int .i64) a1 [], .dat (.int .i64) a2 []] none) (fun a0 a1 a2 => loopR (ev z2r (Tb51 R) kk (sub [1, 1, 0, 1, 0, 0] z5t)) [1, 22, 23] [2, 3, 4] kk (zv3 a0 a1 a2) (zi 0 (kSeq z2r (Tb51 R) kk (sub [1, 1, 1] z5t) (kFin z2r Tryz.f11.results.toList none K)))) := by kernel_rfl
theorem z1yy (R : Type) (kk k : Nat) (t22 : Zt27) (t23 : Int) (bt1 : Zt29) (K : Kx_ R) : loopR (ev z2r (Tb51 R) kk (sub [1, 1, 0, 1, 0, 0] z5t)) [1, 22, 23] [2, 3, 4] (k + 1) (zv3 t22 t23 bt1) K =
  z62 t22 t23 bt1 (fun a0 a1 a2 => K .ret (znb a0 a1 a2)) (fun a0 a1 a2 => loopR (ev z2r (Tb51 R) kk (sub [1, 1, 0, 1, 0, 0] z5t)) [1, 22, 23] [2, 3, 4] k (zv3 a0 a1 a2) K) (K (.exit 0) (zpa)) := by kernel_rfl
theorem z1qp (R : Type) (kk : Nat) (t2 : Int) (t3 : Int) (t4 : Int) (K : Kf_ R) : (zi 0 (kSeq z2r (Tb51 R) kk (sub [1, 1, 1] z5t) (kFin z2r Tryz.f11.results.toList none K))) .ret (znb t2 t3 t4) =
  zgm t2 t3 t4 (fun a0 a1 a2 => K [.dat (.int .i64) a0 [], .dat (.int .i64) a1 [], .dat (.int .i64) a2 []] none) := by kernel_rfl
theorem z1q4 (R : Type) (kk : Nat)  (K : Kf_ R) : (zi 0 (kSeq z2r (Tb51 R) kk (sub [1, 1, 1] z5t) (kFin z2r Tryz.f11.results.toList none K))) (.exit 0) (zpa) =
  zfx (fun a0 a1 a2 => K [.dat (.int .i64) a0 [], .dat (.int .i64) a1 [], .dat (.int .i64) a2 []] none) := by kernel_rfl
theorem z1us (R : Type) (k : Nat) (t22 : Zt27) (t23 : Int) (bt1 : Zt29) (K : Kx_ R) : loopR (ev z2r (Tb51 R) FUEL (sub [1, 1, 0, 1, 0, 0] z5t)) [1, 22, 23] [2, 3, 4] k (zv3 t22 t23 bt1) K = (z84 k t22 t23 bt1).bind fun e => (Sum.elim (fun (we : Zt1) => K .ret (znb we.1 we.2.1 we.2.2)) (fun (we : Unit) => K (.exit 0) (zpa)) e) := by
  induction k generalizing t22 t23 bt1 with
  | zero => rfl
  | succ k ih =>
    rw [z1yy]
    simp only [z84, zmk, zla, zn1, zls, ih, z8, z6, zd, z7, ze, zc, Sum.elim_inl, Sum.elim_inr]
theorem z1z6 (R : Type) (c_0 : Zt29) (K : Kf_ R) : evFn z2r (Tb51 R) FUEL Tryz.f11 z5t [.dat y19 c_0 []] none K = (Q238 c_0).bind fun r => K [.dat (.int .i64) r.1 [], .dat (.int .i64) r.2.1 [], .dat (.int .i64) r.2.2 []] none := by
  rw [z24s]
  simp only [Q238, zmk, zla, zn1, zls, z1us, z1qp, z1q4, z8, z6, zd, z7, ze, zc, Sum.elim_inl, Sum.elim_inr]
def z1ne : Pure := fun R l b K => noBox b (args1 y19 l (fun x0 => (Q238 x0).bind fun r => K [.dat (.int .i64) r.1 [], .dat (.int .i64) r.2.1 [], .dat (.int .i64) r.2.2 []] none))
theorem z22x : z1ne.Nat := fun R S l b F G K h => zh (zp fun _ => zg fun _ => h _ _)
def Tb52 : Funs := Tb51.add 11 [y19] z1ne
theorem z191 : Tb52.Nat := zl z1bv z22x
theorem z1qc : ∀ f, Owes Tryz.prog Tb52 f := zk (E := z2r) (Tab.env_ok zm _ _ _ _) mixed z1bv z1qf (fn := Tryz.f11) (code := z5t) Tryz.func11 (by kernel_rfl) (by kernel_rfl) fun l b r b' h => by
  obtain ⟨rfl, h⟩ := zf h
  obtain ⟨x0, h1, h2⟩ := own1 (E := z2r) rfl h
  exact ⟨FUEL, (h2 _ _ _ _ _ _).trans ((z1z6 _ x0 _).trans h1)⟩
noncomputable abbrev Q2_c : Code := Tryz.f163.body.getD .skip
def Q2_E : Env := tab.env (fun _ => []) (fun _ => []) [] [(.int .i64)]
theorem Q2_t (R : Type) (kk : Nat) (n_0 : Int) (K : Kf_ R) : evFn Q2_E (Tb52 R) kk Tryz.f163 Q2_c [.dat (.int .i64) n_0 []] none K =
  Q2_s0 n_0 (fun a0 => K [.dat (.int .i64) a0 []] none) := by kernel_rfl
theorem Q2_eq (R : Type) (n_0 : Int) (K : Kf_ R) : evFn Q2_E (Tb52 R) FUEL Tryz.f163 Q2_c [.dat (.int .i64) n_0 []] none K = (Q2 n_0).bind fun r => K [.dat (.int .i64) r []] none := by
  rw [Q2_t]
  simp only [Q2, z1gx, z8, z6, zd, z7, ze, zc, Sum.elim_inl, Sum.elim_inr]
def Q2_g : Pure := fun R l b K => noBox b (args1 (.int .i64) l (fun x0 => (Q2 x0).bind fun r => K [.dat (.int .i64) r []] none))
theorem Q2_n : Q2_g.Nat := fun R S l b F G K h => zh (zp fun _ => zg fun _ => h _ _)
def Tb53 : Funs := Tb52.add 163 [(.int .i64)] Q2_g
theorem z18h : Tb53.Nat := zl z191 Q2_n
theorem z1rv : ∀ f, Owes Tryz.prog Tb53 f := zk (E := Q2_E) (Tab.env_ok zm _ _ _ _) mixed z191 z1qc (fn := Tryz.f163) (code := Q2_c) Tryz.func163 (by kernel_rfl) (by kernel_rfl) fun l b r b' h => by
  obtain ⟨rfl, h⟩ := zf h
  obtain ⟨x0, h1, h2⟩ := own1 (E := Q2_E) rfl h
  exact ⟨FUEL, (h2 _ _ _ _ _ _).trans ((Q2_eq _ x0 _).trans h1)⟩
noncomputable abbrev Q0_c : Code := Tryz.f164.body.getD .skip
def Q0_E : Env := tab.env (fun i => bif Nat.beq i 7 then [0, 1, 7, 30, 31] else []) (fun i => bif Nat.beq i 7 then [1, 4, 5, 6, 7] else []) [] [.str, (.int .i64)]
def Q0_h0 (b_0 : ByteArray) (n_1 : Int) (t7 : (List Int)) (t30 : Int) (t31 : Int) : State := ⟨[.dat .str b_0 []]::[.dat (.int .i64) n_1 []]::(uS 5 ([.dat (.sl 5 (.int .u8)) t7 [[]]]::(uS 22 ([.dat (.int .i64) t30 []]::[.dat (.int .i64) t31 []]::(uS 43 ([])))))), nS 76 []⟩
def z12p (n_1 : Int) (t4 : ByteArray) (t5 : Int) (t6 : Int) (t7 : (List Int)) : State := ⟨uS 1 ([.dat (.int .i64) n_1 []]::(uS 2 ([.dat .str t4 []]::[.dat (.int .i64) t5 []]::[.dat (.int .i64) t6 []]::[.dat (.sl 5 (.int .u8)) t7 [[]]]::(uS 67 ([]))))), nS 76 []⟩
def z125 (n_1 : Int) (t7 : (List Int)) : State := ⟨uS 1 ([.dat (.int .i64) n_1 []]::(uS 5 ([.dat (.sl 5 (.int .u8)) t7 [[]]]::(uS 67 ([]))))), nS 76 []⟩
theorem Q0_t (R : Type) (kk : Nat) (b_0 : ByteArray) (n_1 : Int) (K : Kf_ R) : evFn Q0_E (Tb53 R) kk Tryz.f164 Q0_c [.dat .str b_0 [], .dat (.int .i64) n_1 []] none K =
  Q0_s0 b_0 n_1 (fun a0 a1 a2 => K [.dat .str a0 [], .dat (.int .i64) a1 [], .dat (.int .i64) a2 []] none) (fun a0 a1 a2 a3 a4 => loopR (ev Q0_E (Tb53 R) kk (sub [1, 1, 1, 0, 1, 0, 0] Q0_c)) [0, 1, 7, 30, 31] [1, 4, 5, 6, 7] kk (Q0_h0 a0 a1 a2 a3 a4) (zi 1 (kSeq Q0_E (Tb53 R) kk (sub [1, 1, 1, 1] Q0_c) (kFin Q0_E Tryz.f164.results.toList none K)))) := by kernel_rfl
theorem Q0_d0 (R : Type) (kk k : Nat) (b_0 : ByteArray) (n_1 : Int) (t7 : (List Int)) (t30 : Int) (t31 : Int) (K : Kx_ R) : loopR (ev Q0_E (Tb53 R) kk (sub [1, 1, 1, 0, 1, 0, 0] Q0_c)) [0, 1, 7, 30, 31] [1, 4, 5, 6, 7] (k + 1) (Q0_h0 b_0 n_1 t7 t30 t31) K =
  Q0_s1 b_0 n_1 t7 t30 t31 (fun a0 a1 a2 a3 a4 => K .ret (z12p a0 a1 a2 a3 a4)) (fun a0 a1 a2 a3 a4 => loopR (ev Q0_E (Tb53 R) kk (sub [1, 1, 1, 0, 1, 0, 0] Q0_c)) [0, 1, 7, 30, 31] [1, 4, 5, 6, 7] k (Q0_h0 a0 a1 a2 a3 a4) K) (fun a0 a1 => K (.exit 1) (z125 a0 a1)) := by kernel_rfl
theorem z1zs (R : Type) (kk : Nat) (n_1 : Int) (t4 : ByteArray) (t5 : Int) (t6 : Int) (t7 : (List Int)) (K : Kf_ R) : (zi 1 (kSeq Q0_E (Tb53 R) kk (sub [1, 1, 1, 1] Q0_c) (kFin Q0_E Tryz.f164.results.toList none K))) .ret (z12p n_1 t4 t5 t6 t7) =
  Q0_s2 n_1 t4 t5 t6 t7 (fun a0 a1 a2 => K [.dat .str a0 [], .dat (.int .i64) a1 [], .dat (.int .i64) a2 []] none) := by kernel_rfl
theorem z1x6 (R : Type) (kk : Nat) (n_1 : Int) (t7 : (List Int)) (K : Kf_ R) : (zi 1 (kSeq Q0_E (Tb53 R) kk (sub [1, 1, 1, 1] Q0_c) (kFin Q0_E Tryz.f164.results.toList none K))) (.exit 1) (z125 n_1 t7) =
  Q0_s3 n_1 t7 (fun a0 a1 a2 => K [.dat .str a0 [], .dat (.int .i64) a1 [], .dat (.int .i64) a2 []] none) := by kernel_rfl
theorem z23t (R : Type) (k : Nat) (b_0 : ByteArray) (n_1 : Int) (t7 : (List Int)) (t30 : Int) (t31 : Int) (K : Kx_ R) : loopR (ev Q0_E (Tb53 R) FUEL (sub [1, 1, 1, 0, 1, 0, 0] Q0_c)) [0, 1, 7, 30, 31] [1, 4, 5, 6, 7] k (Q0_h0 b_0 n_1 t7 t30 t31) K = (Q0_l0 k b_0 n_1 t7 t30 t31).bind fun e => (Sum.elim (fun (we : (Int × ByteArray × Int × Int × (List Int))) => K .ret (z12p we.1 we.2.1 we.2.2.1 we.2.2.2.1 we.2.2.2.2)) (fun (we : (Int × (List Int))) => K (.exit 1) (z125 we.1 we.2)) e) := by
  induction k generalizing b_0 n_1 t7 t30 t31 with
  | zero => rfl
  | succ k ih =>
    rw [Q0_d0]
    simp only [Q0_l0, zzr, z11r, z119, zz3, ih, z8, z6, zd, z7, ze, zc, Sum.elim_inl, Sum.elim_inr]
theorem Q0_eq (R : Type) (b_0 : ByteArray) (n_1 : Int) (K : Kf_ R) : evFn Q0_E (Tb53 R) FUEL Tryz.f164 Q0_c [.dat .str b_0 [], .dat (.int .i64) n_1 []] none K = (Q0 b_0 n_1).bind fun r => K [.dat .str r.1 [], .dat (.int .i64) r.2.1 [], .dat (.int .i64) r.2.2 []] none := by
  rw [Q0_t]
  simp only [Q0, zzr, z11r, z119, zz3, z23t, z1zs, z1x6, z8, z6, zd, z7, ze, zc, Sum.elim_inl, Sum.elim_inr]
def Q0_g : Pure := fun R l b K => noBox b (args2 .str (.int .i64) l (fun x0 x1 => (Q0 x0 x1).bind fun r => K [.dat .str r.1 [], .dat (.int .i64) r.2.1 [], .dat (.int .i64) r.2.2 []] none))
theorem Q0_n : Q0_g.Nat := fun R S l b F G K h => zh (zq fun _ _ => zg fun _ => h _ _)
def Tb54 : Funs := Tb53.add 164 [.str, (.int .i64)] Q0_g
theorem z169 : Tb54.Nat := zl z18h Q0_n
theorem z1oz : ∀ f, Owes Tryz.prog Tb54 f := zk (E := Q0_E) (Tab.env_ok zm _ _ _ _) mixed z18h z1rv (fn := Tryz.f164) (code := Q0_c) Tryz.func164 (by kernel_rfl) (by kernel_rfl) fun l b r b' h => by
  obtain ⟨rfl, h⟩ := zf h
  obtain ⟨x0, x1, h1, h2⟩ := own2 (E := Q0_E) rfl h
  exact ⟨FUEL, (h2 _ _ _ _ _ _).trans ((Q0_eq _ x0 x1 _).trans h1)⟩
noncomputable abbrev z183 : Code := Tryz.f104.body.getD .skip
def zzt : Env := tab.env (fun _ => []) (fun _ => []) [] [y15, .str]
theorem z276 (R : Type) (kk : Nat) (s_0 : Zt18) (b_1 : ByteArray) (K : Kf_ R) : evFn zzt (Tb54 R) kk Tryz.f104 z183 [.dat y15 s_0 [], .dat .str b_1 []] none K =
  ze7 s_0 b_1 (fun a0 a1 a2 => K [.dat .str a0 [], .dat (.int .i64) a1 [], .dat (.int .i64) a2 []] none) := by kernel_rfl
theorem z21a (R : Type) (s_0 : Zt18) (b_1 : ByteArray) (K : Kf_ R) : evFn zzt (Tb54 R) FUEL Tryz.f104 z183 [.dat y15 s_0 [], .dat .str b_1 []] none K = (Q270 s_0 b_1).bind fun r => K [.dat .str r.1 [], .dat (.int .i64) r.2.1 [], .dat (.int .i64) r.2.2 []] none := by
  rw [z276]
  simp only [Q270, z1bn, z8, z6, zd, z7, ze, zc, Sum.elim_inl, Sum.elim_inr]
def z1q9 : Pure := fun R l b K => noBox b (args2 y15 .str l (fun x0 x1 => (Q270 x0 x1).bind fun r => K [.dat .str r.1 [], .dat (.int .i64) r.2.1 [], .dat (.int .i64) r.2.2 []] none))
theorem z26f : z1q9.Nat := fun R S l b F G K h => zh (zq fun _ _ => zg fun _ => h _ _)
def Tb55 : Funs := Tb54.add 104 [y15, .str] z1q9
theorem z18x : Tb55.Nat := zl z169 z26f
theorem z1ld : ∀ f, Owes Tryz.prog Tb55 f := zk (E := zzt) (Tab.env_ok zm _ _ _ _) mixed z169 z1oz (fn := Tryz.f104) (code := z183) Tryz.func104 (by kernel_rfl) (by kernel_rfl) fun l b r b' h => by
  obtain ⟨rfl, h⟩ := zf h
  obtain ⟨x0, x1, h1, h2⟩ := own2 (E := zzt) rfl h
  exact ⟨FUEL, (h2 _ _ _ _ _ _).trans ((z21a _ x0 x1 _).trans h1)⟩
noncomputable abbrev Q9_c : Code := Tryz.f155.body.getD .skip
def Q9_E : Env := tab.env (fun _ => []) (fun _ => []) [] [(.int .i64)]
theorem Q9_t (R : Type) (kk : Nat) (style_0 : Int) (K : Kf_ R) : evFn Q9_E (Tb55 R) kk Tryz.f155 Q9_c [.dat (.int .i64) style_0 []] none K =
  Q9_s0 style_0 (fun a0 => K [.dat .bool a0 []] none) := by kernel_rfl
theorem Q9_eq (R : Type) (style_0 : Int) (K : Kf_ R) : evFn Q9_E (Tb55 R) FUEL Tryz.f155 Q9_c [.dat (.int .i64) style_0 []] none K = (Q9 style_0).bind fun r => K [.dat .bool r []] none := by
  rw [Q9_t]
  simp only [Q9, z1fe, z8, z6, zd, z7, ze, zc, Sum.elim_inl, Sum.elim_inr]
def Q9_g : Pure := fun R l b K => noBox b (args1 (.int .i64) l (fun x0 => (Q9 x0).bind fun r => K [.dat .bool r []] none))
theorem Q9_n : Q9_g.Nat := fun R S l b F G K h => zh (zp fun _ => zg fun _ => h _ _)
def Tb56 : Funs := Tb55.add 155 [(.int .i64)] Q9_g
theorem z1bg : Tb56.Nat := zl z18x Q9_n
theorem z1mj : ∀ f, Owes Tryz.prog Tb56 f := zk (E := Q9_E) (Tab.env_ok zm _ _ _ _) mixed z18x z1ld (fn := Tryz.f155) (code := Q9_c) Tryz.func155 (by kernel_rfl) (by kernel_rfl) fun l b r b' h => by
  obtain ⟨rfl, h⟩ := zf h
  obtain ⟨x0, h1, h2⟩ := own1 (E := Q9_E) rfl h
  exact ⟨FUEL, (h2 _ _ _ _ _ _).trans ((Q9_eq _ x0 _).trans h1)⟩
noncomputable abbrev z19x : Code := Tryz.f205.body.getD .skip
def z10r : Env := tab.env (fun _ => []) (fun _ => []) [] [(.int .u8)]
theorem z29x (R : Type) (kk : Nat) (b_0 : Int) (K : Kf_ R) : evFn z10r (Tb56 R) kk Tryz.f205 z19x [.dat (.int .u8) b_0 []] none K =
  zed b_0 (fun a0 a1 => K [.dat (.int .i64) a0 [], .dat .bool a1 []] none) := by kernel_rfl
theorem z20h (R : Type) (b_0 : Int) (K : Kf_ R) : evFn z10r (Tb56 R) FUEL Tryz.f205 z19x [.dat (.int .u8) b_0 []] none K = (Q202 b_0).bind fun r => K [.dat (.int .i64) r.1 [], .dat .bool r.2 []] none := by
  rw [z29x]
  simp only [Q202, z1cl, z8, z6, zd, z7, ze, zc, Sum.elim_inl, Sum.elim_inr]
def z1ni : Pure := fun R l b K => noBox b (args1 (.int .u8) l (fun x0 => (Q202 x0).bind fun r => K [.dat (.int .i64) r.1 [], .dat .bool r.2 []] none))
theorem z279 : z1ni.Nat := fun R S l b F G K h => zh (zp fun _ => zg fun _ => h _ _)
def Tb57 : Funs := Tb56.add 205 [(.int .u8)] z1ni
theorem z1bb : Tb57.Nat := zl z1bg z279
theorem z1sx : ∀ f, Owes Tryz.prog Tb57 f := zk (E := z10r) (Tab.env_ok zm _ _ _ _) mixed z1bg z1mj (fn := Tryz.f205) (code := z19x) Tryz.func205 (by kernel_rfl) (by kernel_rfl) fun l b r b' h => by
  obtain ⟨rfl, h⟩ := zf h
  obtain ⟨x0, h1, h2⟩ := own1 (E := z10r) rfl h
  exact ⟨FUEL, (h2 _ _ _ _ _ _).trans ((z20h _ x0 _).trans h1)⟩
noncomputable abbrev z57 : Code := Tryz.f170.body.getD .skip
def z38 : Env := tab.env (fun i => bif Nat.beq i 4 then [0, 5, 6, 7] else []) (fun i => bif Nat.beq i 4 then [0, 2, 3, 4, 5] else []) [] [.str]
def zv6 (s_0 : ByteArray) (t5 : (List Int)) (t6 : Int) (t7 : Int) : State := ⟨[.dat .str s_0 []]::(uS 4 ([.dat (.sl 5 (.int .u8)) t5 [[]]]::[.dat (.int .i64) t6 []]::[.dat (.int .i64) t7 []]::(uS 44 ([])))), nS 53 []⟩
def zr2 (s_0 : ByteArray) (t2 : ByteArray) (t3 : Int) (t4 : Bool) (t5 : (List Int)) : State := ⟨[.dat .str s_0 []]::(uS 1 ([.dat .str t2 []]::[.dat (.int .i64) t3 []]::[.dat .bool t4 []]::[.dat (.sl 5 (.int .u8)) t5 [[]]]::(uS 46 ([])))), nS 53 []⟩
def znk (s_0 : ByteArray) (t5 : (List Int)) : State := ⟨[.dat .str s_0 []]::(uS 4 ([.dat (.sl 5 (.int .u8)) t5 [[]]]::(uS 46 ([])))), nS 53 []⟩
theorem z24r (R : Type) (kk : Nat) (s_0 : ByteArray) (K : Kf_ R) : evFn z38 (Tb57 R) kk Tryz.f170 z57 [.dat .str s_0 []] none K =
  zje s_0 (fun a0 a1 a2 a3 => loopR (ev z38 (Tb57 R) kk (sub [1, 1, 1, 0, 1, 0, 0] z57)) [0, 5, 6, 7] [0, 2, 3, 4, 5] kk (zv6 a0 a1 a2 a3) (zi 0 (kSeq z38 (Tb57 R) kk (sub [1, 1, 1, 1] z57) (kFin z38 Tryz.f170.results.toList none K)))) := by kernel_rfl
theorem z209 (R : Type) (kk k : Nat) (s_0 : ByteArray) (t5 : (List Int)) (t6 : Int) (t7 : Int) (K : Kx_ R) : loopR (ev z38 (Tb57 R) kk (sub [1, 1, 1, 0, 1, 0, 0] z57)) [0, 5, 6, 7] [0, 2, 3, 4, 5] (k + 1) (zv6 s_0 t5 t6 t7) K =
  zf5 s_0 t5 t6 t7 (fun a0 a1 a2 a3 a4 => K .ret (zr2 a0 a1 a2 a3 a4)) (fun a0 a1 a2 a3 => loopR (ev z38 (Tb57 R) kk (sub [1, 1, 1, 0, 1, 0, 0] z57)) [0, 5, 6, 7] [0, 2, 3, 4, 5] k (zv6 a0 a1 a2 a3) K) (fun a0 a1 => K (.exit 0) (znk a0 a1)) := by kernel_rfl
theorem z1pt (R : Type) (kk : Nat) (s_0 : ByteArray) (t2 : ByteArray) (t3 : Int) (t4 : Bool) (t5 : (List Int)) (K : Kf_ R) : (zi 0 (kSeq z38 (Tb57 R) kk (sub [1, 1, 1, 1] z57) (kFin z38 Tryz.f170.results.toList none K))) .ret (zr2 s_0 t2 t3 t4 t5) =
  zgd s_0 t2 t3 t4 t5 (fun a0 a1 a2 => K [.dat .str a0 [], .dat (.int .i64) a1 [], .dat .bool a2 []] none) := by kernel_rfl
theorem z1ik (R : Type) (kk : Nat) (s_0 : ByteArray) (t5 : (List Int)) (K : Kf_ R) : (zi 0 (kSeq z38 (Tb57 R) kk (sub [1, 1, 1, 1] z57) (kFin z38 Tryz.f170.results.toList none K))) (.exit 0) (znk s_0 t5) =
  zhp s_0 t5 (fun a0 a1 a2 => K [.dat .str a0 [], .dat (.int .i64) a1 [], .dat .bool a2 []] none) := by kernel_rfl
theorem z1td (R : Type) (k : Nat) (s_0 : ByteArray) (t5 : (List Int)) (t6 : Int) (t7 : Int) (K : Kx_ R) : loopR (ev z38 (Tb57 R) FUEL (sub [1, 1, 1, 0, 1, 0, 0] z57)) [0, 5, 6, 7] [0, 2, 3, 4, 5] k (zv6 s_0 t5 t6 t7) K = (zwa k s_0 t5 t6 t7).bind fun e => (Sum.elim (fun (we : (ByteArray × ByteArray × Int × Bool × (List Int))) => K .ret (zr2 we.1 we.2.1 we.2.2.1 we.2.2.2.1 we.2.2.2.2)) (fun (we : (ByteArray × (List Int))) => K (.exit 0) (znk we.1 we.2)) e) := by
  induction k generalizing s_0 t5 t6 t7 with
  | zero => rfl
  | succ k ih =>
    rw [z209]
    simp only [zwa, zrx, zl9, zqe, zmv, ih, z8, z6, zd, z7, ze, zc, Sum.elim_inl, Sum.elim_inr]
theorem z215 (R : Type) (s_0 : ByteArray) (K : Kf_ R) : evFn z38 (Tb57 R) FUEL Tryz.f170 z57 [.dat .str s_0 []] none K = (Q203 s_0).bind fun r => K [.dat .str r.1 [], .dat (.int .i64) r.2.1 [], .dat .bool r.2.2 []] none := by
  rw [z24r]
  simp only [Q203, zrx, zl9, zqe, zmv, z1td, z1pt, z1ik, z8, z6, zd, z7, ze, zc, Sum.elim_inl, Sum.elim_inr]
def z1p2 : Pure := fun R l b K => noBox b (args1 .str l (fun x0 => (Q203 x0).bind fun r => K [.dat .str r.1 [], .dat (.int .i64) r.2.1 [], .dat .bool r.2.2 []] none))
theorem z272 : z1p2.Nat := fun R S l b F G K h => zh (zp fun _ => zg fun _ => h _ _)
def Tb58 : Funs := Tb57.add 170 [.str] z1p2
theorem z1b6 : Tb58.Nat := zl z1bb z272
theorem z1s3 : ∀ f, Owes Tryz.prog Tb58 f := zk (E := z38) (Tab.env_ok zm _ _ _ _) mixed z1bb z1sx (fn := Tryz.f170) (code := z57) Tryz.func170 (by kernel_rfl) (by kernel_rfl) fun l b r b' h => by
  obtain ⟨rfl, h⟩ := zf h
  obtain ⟨x0, h1, h2⟩ := own1 (E := z38) rfl h
  exact ⟨FUEL, (h2 _ _ _ _ _ _).trans ((z215 _ x0 _).trans h1)⟩
noncomputable abbrev Q10_c : Code := Tryz.f165.body.getD .skip
def Q10_E : Env := tab.env (fun _ => []) (fun _ => []) [6] [(.int .i64), .str, (.int .i64)]
theorem Q10_t (R : Type) (kk : Nat) (style_0 : Int) (b_1 : ByteArray) (at_2 : Int) (K : Kf_ R) : evFn Q10_E (Tb58 R) kk Tryz.f165 Q10_c [.dat (.int .i64) style_0 [], .dat .str b_1 [], .dat (.int .i64) at_2 []] none K =
  zt8 style_0 b_1 at_2 (fun a0 a1 a2 => K [.dat (.arr 8 (.int .u8)) a0 [], .dat (.int .i64) a1 [], .dat (.int .i64) a2 []] none) := by kernel_rfl
theorem z277 (R : Type) (style_0 : Int) (b_1 : ByteArray) (at_2 : Int) (K : Kf_ R) : evFn Q10_E (Tb58 R) FUEL Tryz.f165 Q10_c [.dat (.int .i64) style_0 [], .dat .str b_1 [], .dat (.int .i64) at_2 []] none K = (Q10 style_0 b_1 at_2).bind fun r => K [.dat (.arr 8 (.int .u8)) r.1 [], .dat (.int .i64) r.2.1 [], .dat (.int .i64) r.2.2 []] none := by
  rw [Q10_t]
  simp only [Q10, z1du, z8, z6, zd, z7, ze, zc, Sum.elim_inl, Sum.elim_inr]
def Q10_g : Pure := fun R l b K => noBox b (args3 (.int .i64) .str (.int .i64) l (fun x0 x1 x2 => (Q10 x0 x1 x2).bind fun r => K [.dat (.arr 8 (.int .u8)) r.1 [], .dat (.int .i64) r.2.1 [], .dat (.int .i64) r.2.2 []] none))
theorem Q10_n : Q10_g.Nat := fun R S l b F G K h => zh (z17 fun _ _ _ => zg fun _ => h _ _)
def Tb59 : Funs := Tb58.add 165 [(.int .i64), .str, (.int .i64)] Q10_g
theorem z18t : Tb59.Nat := zl z1b6 Q10_n
theorem z1jm : ∀ f, Owes Tryz.prog Tb59 f := zk (E := Q10_E) (Tab.env_ok zm _ _ _ _) mixed z1b6 z1s3 (fn := Tryz.f165) (code := Q10_c) Tryz.func165 (by kernel_rfl) (by kernel_rfl) fun l b r b' h => by
  obtain ⟨rfl, h⟩ := zf h
  obtain ⟨x0, x1, x2, h1, h2⟩ := own3 (E := Q10_E) rfl h
  exact ⟨FUEL, (h2 _ _ _ _ _ _).trans ((z277 _ x0 x1 x2 _).trans h1)⟩
noncomputable abbrev Q7_c : Code := Tryz.f166.body.getD .skip
def Q7_E : Env := tab.env (fun i => bif Nat.beq i 3 then [3, 6, 7] else []) (fun i => bif Nat.beq i 3 then [3] else []) [] [(.arr 8 (.int .u8))]
def Q7_h0 (t3 : Int) (t6 : (List Int)) (t7 : Int) : State := ⟨uS 3 ([.dat (.int .u64) t3 []]::(uS 2 ([.dat (.arr 8 (.int .u8)) t6 []]::[.dat (.int .i64) t7 []]::(uS 9 ([]))))), nS 18 []⟩
def z128 (t3 : Int) : State := ⟨uS 3 ([.dat (.int .u64) t3 []]::(uS 13 ([]))), nS 18 []⟩
theorem Q7_t (R : Type) (kk : Nat) (b_0 : (List Int)) (K : Kf_ R) : evFn Q7_E (Tb59 R) kk Tryz.f166 Q7_c [.dat (.arr 8 (.int .u8)) b_0 []] none K =
  Q7_s0 b_0 (fun a0 a1 a2 => loopR (ev Q7_E (Tb59 R) kk (sub [1, 1, 0, 1, 0, 0] Q7_c)) [3, 6, 7] [3] kk (Q7_h0 a0 a1 a2) (zi 0 (kSeq Q7_E (Tb59 R) kk (sub [1, 1, 1] Q7_c) (kFin Q7_E Tryz.f166.results.toList none K)))) := by kernel_rfl
theorem Q7_d0 (R : Type) (kk k : Nat) (t3 : Int) (t6 : (List Int)) (t7 : Int) (K : Kx_ R) : loopR (ev Q7_E (Tb59 R) kk (sub [1, 1, 0, 1, 0, 0] Q7_c)) [3, 6, 7] [3] (k + 1) (Q7_h0 t3 t6 t7) K =
  Q7_s1 t3 t6 t7 (fun a0 a1 a2 => loopR (ev Q7_E (Tb59 R) kk (sub [1, 1, 0, 1, 0, 0] Q7_c)) [3, 6, 7] [3] k (Q7_h0 a0 a1 a2) K) (fun a0 => K (.exit 0) (z128 a0)) := by kernel_rfl
theorem z21i (R : Type) (kk : Nat) (t3 : Int) (K : Kf_ R) : (zi 0 (kSeq Q7_E (Tb59 R) kk (sub [1, 1, 1] Q7_c) (kFin Q7_E Tryz.f166.results.toList none K))) (.exit 0) (z128 t3) =
  Q7_s2 t3 (fun a0 => K [.dat (.int .u64) a0 []] none) := by kernel_rfl
theorem z2a3 (R : Type) (k : Nat) (t3 : Int) (t6 : (List Int)) (t7 : Int) (K : Kx_ R) : loopR (ev Q7_E (Tb59 R) FUEL (sub [1, 1, 0, 1, 0, 0] Q7_c)) [3, 6, 7] [3] k (Q7_h0 t3 t6 t7) K = (Q7_l0 k t3 t6 t7).bind fun e => K (.exit 0) (z128 e) := by
  induction k generalizing t3 t6 t7 with
  | zero => rfl
  | succ k ih =>
    rw [Q7_d0]
    simp only [Q7_l0, zym, z11y, z112, ih, z8, z6, zd, z7, ze, zc, Sum.elim_inl, Sum.elim_inr]
theorem Q7_eq (R : Type) (b_0 : (List Int)) (K : Kf_ R) : evFn Q7_E (Tb59 R) FUEL Tryz.f166 Q7_c [.dat (.arr 8 (.int .u8)) b_0 []] none K = (Q7 b_0).bind fun r => K [.dat (.int .u64) r []] none := by
  rw [Q7_t]
  simp only [Q7, zym, z11y, z112, z2a3, z21i, z8, z6, zd, z7, ze, zc, Sum.elim_inl, Sum.elim_inr]
def Q7_g : Pure := fun R l b K => noBox b (args1 (.arr 8 (.int .u8)) l (fun x0 => (Q7 x0).bind fun r => K [.dat (.int .u64) r []] none))
theorem Q7_n : Q7_g.Nat := fun R S l b F G K h => zh (zp fun _ => zg fun _ => h _ _)
def Tb60 : Funs := Tb59.add 166 [(.arr 8 (.int .u8))] Q7_g
theorem z1b3 : Tb60.Nat := zl z18t Q7_n
theorem z1m9 : ∀ f, Owes Tryz.prog Tb60 f := zk (E := Q7_E) (Tab.env_ok zm _ _ _ _) mixed z18t z1jm (fn := Tryz.f166) (code := Q7_c) Tryz.func166 (by kernel_rfl) (by kernel_rfl) fun l b r b' h => by
  obtain ⟨rfl, h⟩ := zf h
  obtain ⟨x0, h1, h2⟩ := own1 (E := Q7_E) rfl h
  exact ⟨FUEL, (h2 _ _ _ _ _ _).trans ((Q7_eq _ x0 _).trans h1)⟩
noncomputable abbrev Q32_c : Code := Tryz.f167.body.getD .skip
def Q32_E : Env := tab.env (fun _ => []) (fun _ => []) [4] [(.int .u64), (.int .u64)]
theorem Q32_t (R : Type) (kk : Nat) (high_0 : Int) (low_1 : Int) (K : Kf_ R) : evFn Q32_E (Tb60 R) kk Tryz.f167 Q32_c [.dat (.int .u64) high_0 [], .dat (.int .u64) low_1 []] none K =
  ztl high_0 low_1 (fun a0 => K [.dat (.pair (.int .u64) (.pair (.int .u64) .unit)) a0 []] none) := by kernel_rfl
theorem z258 (R : Type) (high_0 : Int) (low_1 : Int) (K : Kf_ R) : evFn Q32_E (Tb60 R) FUEL Tryz.f167 Q32_c [.dat (.int .u64) high_0 [], .dat (.int .u64) low_1 []] none K = (Q32 high_0 low_1).bind fun r => K [.dat (.pair (.int .u64) (.pair (.int .u64) .unit)) r []] none := by
  rw [Q32_t]
  simp only [Q32, z1e4, z8, z6, zd, z7, ze, zc, Sum.elim_inl, Sum.elim_inr]
def Q32_g : Pure := fun R l b K => noBox b (args2 (.int .u64) (.int .u64) l (fun x0 x1 => (Q32 x0 x1).bind fun r => K [.dat (.pair (.int .u64) (.pair (.int .u64) .unit)) r []] none))
theorem Q32_n : Q32_g.Nat := fun R S l b F G K h => zh (zq fun _ _ => zg fun _ => h _ _)
def Tb61 : Funs := Tb60.add 167 [(.int .u64), (.int .u64)] Q32_g
theorem z17r : Tb61.Nat := zl z1b3 Q32_n
theorem z1o6 : ∀ f, Owes Tryz.prog Tb61 f := zk (E := Q32_E) (Tab.env_ok zm _ _ _ _) mixed z1b3 z1m9 (fn := Tryz.f167) (code := Q32_c) Tryz.func167 (by kernel_rfl) (by kernel_rfl) fun l b r b' h => by
  obtain ⟨rfl, h⟩ := zf h
  obtain ⟨x0, x1, h1, h2⟩ := own2 (E := Q32_E) rfl h
  exact ⟨FUEL, (h2 _ _ _ _ _ _).trans ((z258 _ x0 x1 _).trans h1)⟩
noncomputable abbrev Q5_c : Code := Tryz.f105.body.getD .skip
def Q5_E : Env := tab.env (fun _ => []) (fun _ => []) [6] [(.int .i64), .str, (.int .i64)]
theorem Q5_t (R : Type) (kk : Nat) (style_0 : Int) (b_1 : ByteArray) (at_2 : Int) (K : Kf_ R) : evFn Q5_E (Tb61 R) kk Tryz.f105 Q5_c [.dat (.int .i64) style_0 [], .dat .str b_1 [], .dat (.int .i64) at_2 []] none K =
  Q5_s0 style_0 b_1 at_2 (fun a0 a1 a2 => K [.dat (.pair (.int .u64) (.pair (.int .u64) .unit)) a0 [], .dat (.int .i64) a1 [], .dat (.int .i64) a2 []] none) := by kernel_rfl
theorem Q5_eq (R : Type) (style_0 : Int) (b_1 : ByteArray) (at_2 : Int) (K : Kf_ R) : evFn Q5_E (Tb61 R) FUEL Tryz.f105 Q5_c [.dat (.int .i64) style_0 [], .dat .str b_1 [], .dat (.int .i64) at_2 []] none K = (Q5 style_0 b_1 at_2).bind fun r => K [.dat (.pair (.int .u64) (.pair (.int .u64) .unit)) r.1 [], .dat (.int .i64) r.2.1 [], .dat (.int .i64) r.2.2 []] none := by
  rw [Q5_t]
  simp only [Q5, z1gz, z8, z6, zd, z7, ze, zc, Sum.elim_inl, Sum.elim_inr]
def Q5_g : Pure := fun R l b K => noBox b (args3 (.int .i64) .str (.int .i64) l (fun x0 x1 x2 => (Q5 x0 x1 x2).bind fun r => K [.dat (.pair (.int .u64) (.pair (.int .u64) .unit)) r.1 [], .dat (.int .i64) r.2.1 [], .dat (.int .i64) r.2.2 []] none))
theorem Q5_n : Q5_g.Nat := fun R S l b F G K h => zh (z17 fun _ _ _ => zg fun _ => h _ _)
def Tb62 : Funs := Tb61.add 105 [(.int .i64), .str, (.int .i64)] Q5_g
theorem z192 : Tb62.Nat := zl z17r Q5_n
theorem z1p8 : ∀ f, Owes Tryz.prog Tb62 f := zk (E := Q5_E) (Tab.env_ok zm _ _ _ _) mixed z17r z1o6 (fn := Tryz.f105) (code := Q5_c) Tryz.func105 (by kernel_rfl) (by kernel_rfl) fun l b r b' h => by
  obtain ⟨rfl, h⟩ := zf h
  obtain ⟨x0, x1, x2, h1, h2⟩ := own3 (E := Q5_E) rfl h
  exact ⟨FUEL, (h2 _ _ _ _ _ _).trans ((Q5_eq _ x0 x1 x2 _).trans h1)⟩
noncomputable abbrev z1cq : Code := Tryz.f203.body.getD .skip
def zyu : Env := tab.env (fun _ => []) (fun _ => []) [] [(.int .u64)]
theorem z261 (R : Type) (kk : Nat) (x_0 : Int) (K : Kf_ R) : evFn zyu (Tb62 R) kk Tryz.f203 z1cq [.dat (.int .u64) x_0 []] none K =
  zft x_0 (fun a0 => K [.dat (.int .i64) a0 []] none) := by kernel_rfl
theorem z1zi (R : Type) (x_0 : Int) (K : Kf_ R) : evFn zyu (Tb62 R) FUEL Tryz.f203 z1cq [.dat (.int .u64) x_0 []] none K = (Q211 x_0).bind fun r => K [.dat (.int .i64) r []] none := by
  rw [z261]
  simp only [Q211, z188, z8, z6, zd, z7, ze, zc, Sum.elim_inl, Sum.elim_inr]
def z1r9 : Pure := fun R l b K => noBox b (args1 (.int .u64) l (fun x0 => (Q211 x0).bind fun r => K [.dat (.int .i64) r []] none))
theorem z25d : z1r9.Nat := fun R S l b F G K h => zh (zp fun _ => zg fun _ => h _ _)
def Tb63 : Funs := Tb62.add 203 [(.int .u64)] z1r9
theorem z1ao : Tb63.Nat := zl z192 z25d
theorem z1mu : ∀ f, Owes Tryz.prog Tb63 f := zk (E := zyu) (Tab.env_ok zm _ _ _ _) mixed z192 z1p8 (fn := Tryz.f203) (code := z1cq) Tryz.func203 (by kernel_rfl) (by kernel_rfl) fun l b r b' h => by
  obtain ⟨rfl, h⟩ := zf h
  obtain ⟨x0, h1, h2⟩ := own1 (E := zyu) rfl h
  exact ⟨FUEL, (h2 _ _ _ _ _ _).trans ((z1zi _ x0 _).trans h1)⟩
noncomputable abbrev z18s : Code := Tryz.f168.body.getD .skip
def zyy : Env := tab.env (fun _ => []) (fun _ => []) [] [(.int .u64)]
theorem z24z (R : Type) (kk : Nat) (x_0 : Int) (K : Kf_ R) : evFn zyy (Tb63 R) kk Tryz.f168 z18s [.dat (.int .u64) x_0 []] none K =
  zgv x_0 (fun a0 => K [.dat (.int .i64) a0 []] none) := by kernel_rfl
theorem z1z9 (R : Type) (x_0 : Int) (K : Kf_ R) : evFn zyy (Tb63 R) FUEL Tryz.f168 z18s [.dat (.int .u64) x_0 []] none K = (Q210 x_0).bind fun r => K [.dat (.int .i64) r []] none := by
  rw [z24z]
  simp only [Q210, z1cx, z8, z6, zd, z7, ze, zc, Sum.elim_inl, Sum.elim_inr]
def z1sg : Pure := fun R l b K => noBox b (args1 (.int .u64) l (fun x0 => (Q210 x0).bind fun r => K [.dat (.int .i64) r []] none))
theorem z29r : z1sg.Nat := fun R S l b F G K h => zh (zp fun _ => zg fun _ => h _ _)
def Tb64 : Funs := Tb63.add 168 [(.int .u64)] z1sg
theorem z1a3 : Tb64.Nat := zl z1ao z29r
theorem z1j7 : ∀ f, Owes Tryz.prog Tb64 f := zk (E := zyy) (Tab.env_ok zm _ _ _ _) mixed z1ao z1mu (fn := Tryz.f168) (code := z18s) Tryz.func168 (by kernel_rfl) (by kernel_rfl) fun l b r b' h => by
  obtain ⟨rfl, h⟩ := zf h
  obtain ⟨x0, h1, h2⟩ := own1 (E := zyy) rfl h
  exact ⟨FUEL, (h2 _ _ _ _ _ _).trans ((z1z9 _ x0 _).trans h1)⟩
noncomputable abbrev Q39_c : Code := Tryz.f106.body.getD .skip
def Q39_E : Env := tab.env (fun _ => []) (fun _ => []) [] [(.pair (.int .u64) (.pair (.int .u64) .unit)), (.int .i64)]
theorem Q39_t (R : Type) (kk : Nat) (s_0 : Zt5) (n_1 : Int) (K : Kf_ R) : evFn Q39_E (Tb64 R) kk Tryz.f106 Q39_c [.dat (.pair (.int .u64) (.pair (.int .u64) .unit)) s_0 [], .dat (.int .i64) n_1 []] none K =
  zpw s_0 n_1 (fun a0 => K [.dat (.int .i64) a0 []] none) := by kernel_rfl
theorem z27l (R : Type) (s_0 : Zt5) (n_1 : Int) (K : Kf_ R) : evFn Q39_E (Tb64 R) FUEL Tryz.f106 Q39_c [.dat (.pair (.int .u64) (.pair (.int .u64) .unit)) s_0 [], .dat (.int .i64) n_1 []] none K = (Q39 s_0 n_1).bind fun r => K [.dat (.int .i64) r []] none := by
  rw [Q39_t]
  simp only [Q39, z1ed, z8, z6, zd, z7, ze, zc, Sum.elim_inl, Sum.elim_inr]
def Q39_g : Pure := fun R l b K => noBox b (args2 (.pair (.int .u64) (.pair (.int .u64) .unit)) (.int .i64) l (fun x0 x1 => (Q39 x0 x1).bind fun r => K [.dat (.int .i64) r []] none))
theorem Q39_n : Q39_g.Nat := fun R S l b F G K h => zh (zq fun _ _ => zg fun _ => h _ _)
def Tb65 : Funs := Tb64.add 106 [(.pair (.int .u64) (.pair (.int .u64) .unit)), (.int .i64)] Q39_g
theorem z17y : Tb65.Nat := zl z1a3 Q39_n
theorem z1lr : ∀ f, Owes Tryz.prog Tb65 f := zk (E := Q39_E) (Tab.env_ok zm _ _ _ _) mixed z1a3 z1j7 (fn := Tryz.f106) (code := Q39_c) Tryz.func106 (by kernel_rfl) (by kernel_rfl) fun l b r b' h => by
  obtain ⟨rfl, h⟩ := zf h
  obtain ⟨x0, x1, h1, h2⟩ := own2 (E := Q39_E) rfl h
  exact ⟨FUEL, (h2 _ _ _ _ _ _).trans ((z27l _ x0 x1 _).trans h1)⟩
noncomputable abbrev Q14_c : Code := Tryz.f160.body.getD .skip
def Q14_E : Env := tab.env (fun _ => []) (fun _ => []) [] [(.int .i64)]
theorem Q14_t (R : Type) (kk : Nat) (style_0 : Int) (K : Kf_ R) : evFn Q14_E (Tb65 R) kk Tryz.f160 Q14_c [.dat (.int .i64) style_0 []] none K =
  znr style_0 (fun a0 => K [.dat .bool a0 []] none) := by kernel_rfl
theorem z240 (R : Type) (style_0 : Int) (K : Kf_ R) : evFn Q14_E (Tb65 R) FUEL Tryz.f160 Q14_c [.dat (.int .i64) style_0 []] none K = (Q14 style_0).bind fun r => K [.dat .bool r []] none := by
  rw [Q14_t]
  simp only [Q14, z1ek, z8, z6, zd, z7, ze, zc, Sum.elim_inl, Sum.elim_inr]
def Q14_g : Pure := fun R l b K => noBox b (args1 (.int .i64) l (fun x0 => (Q14 x0).bind fun r => K [.dat .bool r []] none))
theorem Q14_n : Q14_g.Nat := fun R S l b F G K h => zh (zp fun _ => zg fun _ => h _ _)
def Tb66 : Funs := Tb65.add 160 [(.int .i64)] Q14_g
theorem z16v : Tb66.Nat := zl z17y Q14_n
theorem z1pl : ∀ f, Owes Tryz.prog Tb66 f := zk (E := Q14_E) (Tab.env_ok zm _ _ _ _) mixed z17y z1lr (fn := Tryz.f160) (code := Q14_c) Tryz.func160 (by kernel_rfl) (by kernel_rfl) fun l b r b' h => by
  obtain ⟨rfl, h⟩ := zf h
  obtain ⟨x0, h1, h2⟩ := own1 (E := Q14_E) rfl h
  exact ⟨FUEL, (h2 _ _ _ _ _ _).trans ((z240 _ x0 _).trans h1)⟩
noncomputable abbrev z1c4 : Code := Tryz.f200.body.getD .skip
def zz1 : Env := tab.env (fun _ => []) (fun _ => []) [] [(.int .i64), (.int .i64)]
theorem z292 (R : Type) (kk : Nat) (style_0 : Int) (form_1 : Int) (K : Kf_ R) : evFn zz1 (Tb66 R) kk Tryz.f200 z1c4 [.dat (.int .i64) style_0 [], .dat (.int .i64) form_1 []] none K =
  zib style_0 form_1 (fun a0 => K [.dat .bool a0 []] none) := by kernel_rfl
theorem z1xy (R : Type) (style_0 : Int) (form_1 : Int) (K : Kf_ R) : evFn zz1 (Tb66 R) FUEL Tryz.f200 z1c4 [.dat (.int .i64) style_0 [], .dat (.int .i64) form_1 []] none K = (Q229 style_0 form_1).bind fun r => K [.dat .bool r []] none := by
  rw [z292]
  simp only [Q229, z1ck, z8, z6, zd, z7, ze, zc, Sum.elim_inl, Sum.elim_inr]
def z1ib : Pure := fun R l b K => noBox b (args2 (.int .i64) (.int .i64) l (fun x0 x1 => (Q229 x0 x1).bind fun r => K [.dat .bool r []] none))
theorem z24f : z1ib.Nat := fun R S l b F G K h => zh (zq fun _ _ => zg fun _ => h _ _)
def Tb67 : Funs := Tb66.add 200 [(.int .i64), (.int .i64)] z1ib
theorem z1cg : Tb67.Nat := zl z16v z24f
theorem z1p6 : ∀ f, Owes Tryz.prog Tb67 f := zk (E := zz1) (Tab.env_ok zm _ _ _ _) mixed z16v z1pl (fn := Tryz.f200) (code := z1c4) Tryz.func200 (by kernel_rfl) (by kernel_rfl) fun l b r b' h => by
  obtain ⟨rfl, h⟩ := zf h
  obtain ⟨x0, x1, h1, h2⟩ := own2 (E := zz1) rfl h
  exact ⟨FUEL, (h2 _ _ _ _ _ _).trans ((z1xy _ x0 x1 _).trans h1)⟩
noncomputable abbrev Q29_c : Code := Tryz.f204.body.getD .skip
def Q29_E : Env := tab.env (fun i => bif Nat.beq i 5 then [4, 20] else []) (fun i => bif Nat.beq i 5 then [4] else []) [] [.str]
def zzd (t4 : Int) (bt20 : Zt0) : State := ⟨uS 4 ([.dat (.int .i64) t4 []]::(uS 15 ([.ptr 21 (.spc .iter .unit .unit) []]::(uS 10 ([]))))), nS 21 ((some ⟨(.spc .iter .unit .unit), bt20, []⟩)::(nS 10 ([])))⟩
def zxp (t4 : Int) : State := ⟨uS 4 ([.dat (.int .i64) t4 []]::(uS 26 ([]))), nS 32 []⟩
theorem Q29_t (R : Type) (kk : Nat) (s_0 : ByteArray) (K : Kf_ R) : evFn Q29_E (Tb67 R) kk Tryz.f204 Q29_c [.dat .str s_0 []] none K =
  zm6 s_0 (fun a0 a1 => K [.dat (.int .i64) a0 [], .dat .bool a1 []] none) (fun a0 a1 => loopR (ev Q29_E (Tb67 R) kk (sub [1, 1, 1, 0, 1, 0, 0] Q29_c)) [4, 20] [4] kk (zzd a0 a1) (zi 0 (kSeq Q29_E (Tb67 R) kk (sub [1, 1, 1, 1] Q29_c) (kFin Q29_E Tryz.f204.results.toList none K)))) := by kernel_rfl
theorem z282 (R : Type) (kk k : Nat) (t4 : Int) (bt20 : Zt0) (K : Kx_ R) : loopR (ev Q29_E (Tb67 R) kk (sub [1, 1, 1, 0, 1, 0, 0] Q29_c)) [4, 20] [4] (k + 1) (zzd t4 bt20) K =
  zs2 t4 bt20 (fun a0 a1 => loopR (ev Q29_E (Tb67 R) kk (sub [1, 1, 1, 0, 1, 0, 0] Q29_c)) [4, 20] [4] k (zzd a0 a1) K) (fun a0 => K (.exit 0) (zxp a0)) := by kernel_rfl
theorem z1ur (R : Type) (kk : Nat) (t4 : Int) (K : Kf_ R) : (zi 0 (kSeq Q29_E (Tb67 R) kk (sub [1, 1, 1, 1] Q29_c) (kFin Q29_E Tryz.f204.results.toList none K))) (.exit 0) (zxp t4) =
  zp4 t4 (fun a0 a1 => K [.dat (.int .i64) a0 [], .dat .bool a1 []] none) := by kernel_rfl
theorem z1zh (R : Type) (k : Nat) (t4 : Int) (bt20 : Zt0) (K : Kx_ R) : loopR (ev Q29_E (Tb67 R) FUEL (sub [1, 1, 1, 0, 1, 0, 0] Q29_c)) [4, 20] [4] k (zzd t4 bt20) K = (z101 k t4 bt20).bind fun e => K (.exit 0) (zxp e) := by
  induction k generalizing t4 bt20 with
  | zero => rfl
  | succ k ih =>
    rw [z282]
    simp only [z101, zxh, zx1, zxc, ih, z8, z6, zd, z7, ze, zc, Sum.elim_inl, Sum.elim_inr]
theorem z29l (R : Type) (s_0 : ByteArray) (K : Kf_ R) : evFn Q29_E (Tb67 R) FUEL Tryz.f204 Q29_c [.dat .str s_0 []] none K = (Q29 s_0).bind fun r => K [.dat (.int .i64) r.1 [], .dat .bool r.2 []] none := by
  rw [Q29_t]
  simp only [Q29, zxh, zx1, zxc, z1zh, z1ur, z8, z6, zd, z7, ze, zc, Sum.elim_inl, Sum.elim_inr]
def Q29_g : Pure := fun R l b K => noBox b (args1 .str l (fun x0 => (Q29 x0).bind fun r => K [.dat (.int .i64) r.1 [], .dat .bool r.2 []] none))
theorem Q29_n : Q29_g.Nat := fun R S l b F G K h => zh (zp fun _ => zg fun _ => h _ _)
def Tb68 : Funs := Tb67.add 204 [.str] Q29_g
theorem z167 : Tb68.Nat := zl z1cg Q29_n
theorem z1mg : ∀ f, Owes Tryz.prog Tb68 f := zk (E := Q29_E) (Tab.env_ok zm _ _ _ _) mixed z1cg z1p6 (fn := Tryz.f204) (code := Q29_c) Tryz.func204 (by kernel_rfl) (by kernel_rfl) fun l b r b' h => by
  obtain ⟨rfl, h⟩ := zf h
  obtain ⟨x0, h1, h2⟩ := own1 (E := Q29_E) rfl h
  exact ⟨FUEL, (h2 _ _ _ _ _ _).trans ((z29l _ x0 _).trans h1)⟩
noncomputable abbrev z1bc : Code := Tryz.f169.body.getD .skip
def z10e : Env := tab.env (fun _ => []) (fun _ => []) [] [(.int .i64), (.int .i64), .str, (.int .i64)]
theorem z24q (R : Type) (kk : Nat) (style_0 : Int) (form_1 : Int) (b_2 : ByteArray) (at_3 : Int) (K : Kf_ R) : evFn z10e (Tb68 R) kk Tryz.f169 z1bc [.dat (.int .i64) style_0 [], .dat (.int .i64) form_1 [], .dat .str b_2 [], .dat (.int .i64) at_3 []] none K =
  zg5 style_0 form_1 b_2 at_3 (fun a0 a1 a2 => K [.dat (.int .i64) a0 [], .dat (.int .i64) a1 [], .dat (.int .i64) a2 []] none) := by kernel_rfl
theorem z1y3 (R : Type) (style_0 : Int) (form_1 : Int) (b_2 : ByteArray) (at_3 : Int) (K : Kf_ R) : evFn z10e (Tb68 R) FUEL Tryz.f169 z1bc [.dat (.int .i64) style_0 [], .dat (.int .i64) form_1 [], .dat .str b_2 [], .dat (.int .i64) at_3 []] none K = (Q226 style_0 form_1 b_2 at_3).bind fun r => K [.dat (.int .i64) r.1 [], .dat (.int .i64) r.2.1 [], .dat (.int .i64) r.2.2 []] none := by
  rw [z24q]
  simp only [Q226, z1cp, z8, z6, zd, z7, ze, zc, Sum.elim_inl, Sum.elim_inr]
def z1m4 : Pure := fun R l b K => noBox b (args4 (.int .i64) (.int .i64) .str (.int .i64) l (fun x0 x1 x2 x3 => (Q226 x0 x1 x2 x3).bind fun r => K [.dat (.int .i64) r.1 [], .dat (.int .i64) r.2.1 [], .dat (.int .i64) r.2.2 []] none))
theorem z285 : z1m4.Nat := fun R S l b F G K h => zh (zrw fun _ _ _ _ => zg fun _ => h _ _)
def Tb69 : Funs := Tb68.add 169 [(.int .i64), (.int .i64), .str, (.int .i64)] z1m4
theorem z1a5 : Tb69.Nat := zl z167 z285
theorem z1jq : ∀ f, Owes Tryz.prog Tb69 f := zk (E := z10e) (Tab.env_ok zm _ _ _ _) mixed z167 z1mg (fn := Tryz.f169) (code := z1bc) Tryz.func169 (by kernel_rfl) (by kernel_rfl) fun l b r b' h => by
  obtain ⟨rfl, h⟩ := zf h
  obtain ⟨x0, x1, x2, x3, h1, h2⟩ := own4 (E := z10e) rfl h
  exact ⟨FUEL, (h2 _ _ _ _ _ _).trans ((z1y3 _ x0 x1 x2 x3 _).trans h1)⟩
noncomputable abbrev Q13_c : Code := Tryz.f162.body.getD .skip
def Q13_E : Env := tab.env (fun _ => []) (fun _ => []) [] [(.int .i64), (.int .i64)]
theorem Q13_t (R : Type) (kk : Nat) (style_0 : Int) (class_1 : Int) (K : Kf_ R) : evFn Q13_E (Tb69 R) kk Tryz.f162 Q13_c [.dat (.int .i64) style_0 [], .dat (.int .i64) class_1 []] none K =
  zmd style_0 class_1 (fun a0 => K [.dat (.int .i64) a0 []] none) := by kernel_rfl
theorem z29s (R : Type) (style_0 : Int) (class_1 : Int) (K : Kf_ R) : evFn Q13_E (Tb69 R) FUEL Tryz.f162 Q13_c [.dat (.int .i64) style_0 [], .dat (.int .i64) class_1 []] none K = (Q13 style_0 class_1).bind fun r => K [.dat (.int .i64) r []] none := by
  rw [Q13_t]
  simp only [Q13, z1e7, z8, z6, zd, z7, ze, zc, Sum.elim_inl, Sum.elim_inr]
def Q13_g : Pure := fun R l b K => noBox b (args2 (.int .i64) (.int .i64) l (fun x0 x1 => (Q13 x0 x1).bind fun r => K [.dat (.int .i64) r []] none))
theorem Q13_n : Q13_g.Nat := fun R S l b F G K h => zh (zq fun _ _ => zg fun _ => h _ _)
def Tb70 : Funs := Tb69.add 162 [(.int .i64), (.int .i64)] Q13_g
theorem z171 : Tb70.Nat := zl z1a5 Q13_n
theorem z1ok : ∀ f, Owes Tryz.prog Tb70 f := zk (E := Q13_E) (Tab.env_ok zm _ _ _ _) mixed z1a5 z1jq (fn := Tryz.f162) (code := Q13_c) Tryz.func162 (by kernel_rfl) (by kernel_rfl) fun l b r b' h => by
  obtain ⟨rfl, h⟩ := zf h
  obtain ⟨x0, x1, h1, h2⟩ := own2 (E := Q13_E) rfl h
  exact ⟨FUEL, (h2 _ _ _ _ _ _).trans ((z29s _ x0 x1 _).trans h1)⟩
noncomputable abbrev Q11_c : Code := Tryz.f107.body.getD .skip
def Q11_E : Env := tab.env (fun _ => []) (fun _ => []) [] [(.int .i64), y9, .str, (.int .i64)]
theorem Q11_t (R : Type) (kk : Nat) (style_0 : Int) (s_1 : Zt13) (b_2 : ByteArray) (at_3 : Int) (K : Kf_ R) : evFn Q11_E (Tb70 R) kk Tryz.f107 Q11_c [.dat (.int .i64) style_0 [], .dat y9 s_1 [], .dat .str b_2 [], .dat (.int .i64) at_3 []] none K =
  zrn style_0 s_1 b_2 at_3 (fun a0 a1 a2 => K [.dat .str a0 [], .dat (.int .i64) a1 [], .dat (.int .i64) a2 []] none) := by kernel_rfl
theorem z27d (R : Type) (style_0 : Int) (s_1 : Zt13) (b_2 : ByteArray) (at_3 : Int) (K : Kf_ R) : evFn Q11_E (Tb70 R) FUEL Tryz.f107 Q11_c [.dat (.int .i64) style_0 [], .dat y9 s_1 [], .dat .str b_2 [], .dat (.int .i64) at_3 []] none K = (Q11 style_0 s_1 b_2 at_3).bind fun r => K [.dat .str r.1 [], .dat (.int .i64) r.2.1 [], .dat (.int .i64) r.2.2 []] none := by
  rw [Q11_t]
  simp only [Q11, z1e1, z8, z6, zd, z7, ze, zc, Sum.elim_inl, Sum.elim_inr]
def Q11_g : Pure := fun R l b K => noBox b (args4 (.int .i64) y9 .str (.int .i64) l (fun x0 x1 x2 x3 => (Q11 x0 x1 x2 x3).bind fun r => K [.dat .str r.1 [], .dat (.int .i64) r.2.1 [], .dat (.int .i64) r.2.2 []] none))
theorem Q11_n : Q11_g.Nat := fun R S l b F G K h => zh (zrw fun _ _ _ _ => zg fun _ => h _ _)
def Tb71 : Funs := Tb70.add 107 [(.int .i64), y9, .str, (.int .i64)] Q11_g
theorem z173 : Tb71.Nat := zl z171 Q11_n
theorem z1nn : ∀ f, Owes Tryz.prog Tb71 f := zk (E := Q11_E) (Tab.env_ok zm _ _ _ _) mixed z171 z1ok (fn := Tryz.f107) (code := Q11_c) Tryz.func107 (by kernel_rfl) (by kernel_rfl) fun l b r b' h => by
  obtain ⟨rfl, h⟩ := zf h
  obtain ⟨x0, x1, x2, x3, h1, h2⟩ := own4 (E := Q11_E) rfl h
  exact ⟨FUEL, (h2 _ _ _ _ _ _).trans ((z27d _ x0 x1 x2 x3 _).trans h1)⟩
noncomputable abbrev z5l : Code := Tryz.f39.body.getD .skip
def z33 : Env := tab.env (fun i => bif Nat.beq i 13 then [1, 2, 4, 5, 6, 10, 12, 13] else []) (fun i => bif Nat.beq i 13 then [1, 4, 5, 6, 10] else []) [4, 5] [y15, .str]
def zu1 (b_1 : ByteArray) (t10 : Int) (t13 : Int) (bt2 : Zt18) (bt4 : Zt17) (bt5 : Zt5) (bt6 : Zt17) (bt12 : Zt5) : State := ⟨uS 1 ([.dat .str b_1 []]::[.ptr 3 y15 []]::(uS 1 ([.ptr 5 y5 []]::[.ptr 6 (.pair (.int .i64) (.pair (.int .i64) .unit)) []]::[.ptr 7 y5 []]::(uS 3 ([.dat (.int .i64) t10 []]::(uS 1 ([.ptr 13 (.pair (.int .u64) (.pair (.int .u64) .unit)) []]::[.dat (.int .i64) t13 []]::(uS 93 ([]))))))))), nS 3 ((some ⟨y15, bt2, []⟩)::(nS 1 ((some ⟨y5, bt4, [[1]]⟩)::(some ⟨(.pair (.int .i64) (.pair (.int .i64) .unit)), bt5, []⟩)::(some ⟨y5, bt6, [[1]]⟩)::(nS 5 ((some ⟨(.pair (.int .u64) (.pair (.int .u64) .unit)), bt12, []⟩)::(nS 94 ([])))))))⟩
def zkz (b_1 : ByteArray) (t10 : Int) (bt4 : Zt17) (bt5 : Zt5) (bt6 : Zt17) : State := ⟨uS 1 ([.dat .str b_1 []]::(uS 2 ([.ptr 5 y5 []]::[.ptr 6 (.pair (.int .i64) (.pair (.int .i64) .unit)) []]::[.ptr 7 y5 []]::(uS 3 ([.dat (.int .i64) t10 []]::(uS 96 ([]))))))), nS 5 ((some ⟨y5, bt4, [[1]]⟩)::(some ⟨(.pair (.int .i64) (.pair (.int .i64) .unit)), bt5, []⟩)::(some ⟨y5, bt6, []⟩)::(nS 100 ([])))⟩
def zt6 (b_1 : ByteArray) (t10 : Int) (bt4 : Zt17) (bt5 : Zt5) (bt6 : Zt17) : State := ⟨uS 1 ([.dat .str b_1 []]::(uS 2 ([.ptr 5 y5 []]::[.ptr 6 (.pair (.int .i64) (.pair (.int .i64) .unit)) []]::[.ptr 7 y5 []]::(uS 3 ([.dat (.int .i64) t10 []]::(uS 96 ([]))))))), nS 5 ((some ⟨y5, bt4, [[1]]⟩)::(some ⟨(.pair (.int .i64) (.pair (.int .i64) .unit)), bt5, []⟩)::(some ⟨y5, bt6, [[1]]⟩)::(nS 100 ([])))⟩
theorem z270 (R : Type) (kk : Nat) (s_0 : Zt18) (b_1 : ByteArray) (K : Kf_ R) : evFn z33 (Tb71 R) kk Tryz.f39 z5l [.dat y15 s_0 [], .dat .str b_1 []] none K =
  zgp s_0 b_1 (fun a0 a1 => K [.dat y5 a0 [[1]], .dat (.pair (.int .i64) (.pair (.int .i64) .unit)) a1 []] none) (fun a0 a1 a2 a3 a4 a5 a6 a7 => loopR (ev z33 (Tb71 R) kk (sub [1, 1, 1, 1, 1, 1, 1, 1, 0, 1, 0, 0] z5l)) [1, 2, 4, 5, 6, 10, 12, 13] [1, 4, 5, 6, 10] kk (zu1 a0 a1 a2 a3 a4 a5 a6 a7) (zi 0 (kSeq z33 (Tb71 R) kk (sub [1, 1, 1, 1, 1, 1, 1, 1, 1] z5l) (kFin z33 Tryz.f39.results.toList none K)))) := by kernel_rfl
theorem z22g (R : Type) (kk k : Nat) (b_1 : ByteArray) (t10 : Int) (t13 : Int) (bt2 : Zt18) (bt4 : Zt17) (bt5 : Zt5) (bt6 : Zt17) (bt12 : Zt5) (K : Kx_ R) : loopR (ev z33 (Tb71 R) kk (sub [1, 1, 1, 1, 1, 1, 1, 1, 0, 1, 0, 0] z5l)) [1, 2, 4, 5, 6, 10, 12, 13] [1, 4, 5, 6, 10] (k + 1) (zu1 b_1 t10 t13 bt2 bt4 bt5 bt6 bt12) K =
  zix b_1 t10 t13 bt2 bt4 bt5 bt6 bt12 (fun a0 a1 a2 a3 a4 => K .ret (zkz a0 a1 a2 a3 a4)) (fun a0 a1 a2 a3 a4 a5 a6 a7 => loopR (ev z33 (Tb71 R) kk (sub [1, 1, 1, 1, 1, 1, 1, 1, 0, 1, 0, 0] z5l)) [1, 2, 4, 5, 6, 10, 12, 13] [1, 4, 5, 6, 10] k (zu1 a0 a1 a2 a3 a4 a5 a6 a7) K) (fun a0 a1 a2 a3 a4 => K (.exit 0) (zt6 a0 a1 a2 a3 a4)) := by kernel_rfl
theorem z1on (R : Type) (kk : Nat) (b_1 : ByteArray) (t10 : Int) (bt4 : Zt17) (bt5 : Zt5) (bt6 : Zt17) (K : Kf_ R) : (zi 0 (kSeq z33 (Tb71 R) kk (sub [1, 1, 1, 1, 1, 1, 1, 1, 1] z5l) (kFin z33 Tryz.f39.results.toList none K))) .ret (zkz b_1 t10 bt4 bt5 bt6) =
  zei b_1 t10 bt4 bt5 bt6 (fun a0 a1 => K [.dat y5 a0 [[1]], .dat (.pair (.int .i64) (.pair (.int .i64) .unit)) a1 []] none) := by kernel_rfl
theorem z1mi (R : Type) (kk : Nat) (b_1 : ByteArray) (t10 : Int) (bt4 : Zt17) (bt5 : Zt5) (bt6 : Zt17) (K : Kf_ R) : (zi 0 (kSeq z33 (Tb71 R) kk (sub [1, 1, 1, 1, 1, 1, 1, 1, 1] z5l) (kFin z33 Tryz.f39.results.toList none K))) (.exit 0) (zt6 b_1 t10 bt4 bt5 bt6) =
  zj4 b_1 t10 bt4 bt5 bt6 (fun a0 a1 => K [.dat y5 a0 [[1]], .dat (.pair (.int .i64) (.pair (.int .i64) .unit)) a1 []] none) := by kernel_rfl
theorem z1wy (R : Type) (k : Nat) (b_1 : ByteArray) (t10 : Int) (t13 : Int) (bt2 : Zt18) (bt4 : Zt17) (bt5 : Zt5) (bt6 : Zt17) (bt12 : Zt5) (K : Kx_ R) : loopR (ev z33 (Tb71 R) FUEL (sub [1, 1, 1, 1, 1, 1, 1, 1, 0, 1, 0, 0] z5l)) [1, 2, 4, 5, 6, 10, 12, 13] [1, 4, 5, 6, 10] k (zu1 b_1 t10 t13 bt2 bt4 bt5 bt6 bt12) K = (zuq k b_1 t10 t13 bt2 bt4 bt5 bt6 bt12).bind fun e => (Sum.elim (fun (we : Zt25) => K .ret (zkz we.1 we.2.1 we.2.2.1 we.2.2.2.1 we.2.2.2.2)) (fun (we : Zt25) => K (.exit 0) (zt6 we.1 we.2.1 we.2.2.1 we.2.2.2.1 we.2.2.2.2)) e) := by
  induction k generalizing b_1 t10 t13 bt2 bt4 bt5 bt6 bt12 with
  | zero => rfl
  | succ k ih =>
    rw [z22g]
    simp only [zuq, zoz, ztm, ztr, zpy, ih, z8, z6, zd, z7, ze, zc, Sum.elim_inl, Sum.elim_inr]
theorem z1z0 (R : Type) (s_0 : Zt18) (b_1 : ByteArray) (K : Kf_ R) : evFn z33 (Tb71 R) FUEL Tryz.f39 z5l [.dat y15 s_0 [], .dat .str b_1 []] none K = (Q269 s_0 b_1).bind fun r => K [.dat y5 r.1 [[1]], .dat (.pair (.int .i64) (.pair (.int .i64) .unit)) r.2 []] none := by
  rw [z270]
  simp only [Q269, zoz, ztm, ztr, zpy, z1wy, z1on, z1mi, z8, z6, zd, z7, ze, zc, Sum.elim_inl, Sum.elim_inr]
def z1r3 : Pure := fun R l b K => noBox b (args2 y15 .str l (fun x0 x1 => (Q269 x0 x1).bind fun r => K [.dat y5 r.1 [[1]], .dat (.pair (.int .i64) (.pair (.int .i64) .unit)) r.2 []] none))
theorem z24k : z1r3.Nat := fun R S l b F G K h => zh (zq fun _ _ => zg fun _ => h _ _)
def Tb72 : Funs := Tb71.add 39 [y15, .str] z1r3
theorem z184 : Tb72.Nat := zl z173 z24k
theorem z1n2 : ∀ f, Owes Tryz.prog Tb72 f := zk (E := z33) (Tab.env_ok zm _ _ _ _) mixed z173 z1nn (fn := Tryz.f39) (code := z5l) Tryz.func39 (by kernel_rfl) (by kernel_rfl) fun l b r b' h => by
  obtain ⟨rfl, h⟩ := zf h
  obtain ⟨x0, x1, h1, h2⟩ := own2 (E := z33) rfl h
  exact ⟨FUEL, (h2 _ _ _ _ _ _).trans ((z1z0 _ x0 x1 _).trans h1)⟩
noncomputable abbrev z1cv : Code := Tryz.f92.body.getD .skip
def zz2 : Env := tab.env (fun _ => []) (fun _ => []) [] [.str]
theorem z25j (R : Type) (kk : Nat) (m_0 : ByteArray) (K : Kf_ R) : evFn zz2 (Tb72 R) kk Tryz.f92 z1cv [.dat .str m_0 []] none K =
  zfs m_0 (fun a0 a1 => K [.dat .str a0 [], .dat .bool a1 []] none) := by kernel_rfl
theorem z1xp (R : Type) (m_0 : ByteArray) (K : Kf_ R) : evFn zz2 (Tb72 R) FUEL Tryz.f92 z1cv [.dat .str m_0 []] none K = (Q223 m_0).bind fun r => K [.dat .str r.1 [], .dat .bool r.2 []] none := by
  rw [z25j]
  simp only [Q223, z1b7, z8, z6, zd, z7, ze, zc, Sum.elim_inl, Sum.elim_inr]
def z1sm : Pure := fun R l b K => noBox b (args1 .str l (fun x0 => (Q223 x0).bind fun r => K [.dat .str r.1 [], .dat .bool r.2 []] none))
theorem z26j : z1sm.Nat := fun R S l b F G K h => zh (zp fun _ => zg fun _ => h _ _)
def Tb73 : Funs := Tb72.add 92 [.str] z1sm
theorem z1by : Tb73.Nat := zl z184 z26j
theorem z1qv : ∀ f, Owes Tryz.prog Tb73 f := zk (E := zz2) (Tab.env_ok zm _ _ _ _) mixed z184 z1n2 (fn := Tryz.f92) (code := z1cv) Tryz.func92 (by kernel_rfl) (by kernel_rfl) fun l b r b' h => by
  obtain ⟨rfl, h⟩ := zf h
  obtain ⟨x0, h1, h2⟩ := own1 (E := zz2) rfl h
  exact ⟨FUEL, (h2 _ _ _ _ _ _).trans ((z1xp _ x0 _).trans h1)⟩
noncomputable abbrev z5h : Code := Tryz.f93.body.getD .skip
def z2k : Env := tab.env (fun i => bif Nat.beq i 2 then [1, 9, 10, 11] else []) (fun i => bif Nat.beq i 2 then [4, 5] else []) [] [y5, (.int .i64)]
def zv4 (no_1 : Int) (t9 : Zt11) (t10 : Int) (t11 : Int) : State := ⟨uS 1 ([.dat (.int .i64) no_1 []]::(uS 7 ([.dat (.sl 90 (.pair (.int .i64) (.pair .str .unit))) t9 []]::[.dat (.int .i64) t10 []]::[.dat (.int .i64) t11 []]::(uS 10 ([]))))), nS 23 []⟩
def zom (t4 : ByteArray) (t5 : Bool) : State := ⟨uS 4 ([.dat .str t4 []]::[.dat .bool t5 []]::(uS 16 ([]))), nS 23 []⟩
def zmg  : State := ⟨uS 22 [], nS 23 []⟩
theorem z25n (R : Type) (kk : Nat) (m_0 : Zt17) (no_1 : Int) (K : Kf_ R) : evFn z2k (Tb73 R) kk Tryz.f93 z5h [.dat y5 m_0 [], .dat (.int .i64) no_1 []] none K =
  zi3 m_0 no_1 (fun a0 a1 a2 a3 => loopR (ev z2k (Tb73 R) kk (sub [1, 0, 1, 0, 0] z5h)) [1, 9, 10, 11] [4, 5] kk (zv4 a0 a1 a2 a3) (zi 0 (kSeq z2k (Tb73 R) kk (sub [1, 1] z5h) (kFin z2k Tryz.f93.results.toList none K)))) := by kernel_rfl
theorem z22f (R : Type) (kk k : Nat) (no_1 : Int) (t9 : Zt11) (t10 : Int) (t11 : Int) (K : Kx_ R) : loopR (ev z2k (Tb73 R) kk (sub [1, 0, 1, 0, 0] z5h)) [1, 9, 10, 11] [4, 5] (k + 1) (zv4 no_1 t9 t10 t11) K =
  zee no_1 t9 t10 t11 (fun a0 a1 => K .ret (zom a0 a1)) (fun a0 a1 a2 a3 => loopR (ev z2k (Tb73 R) kk (sub [1, 0, 1, 0, 0] z5h)) [1, 9, 10, 11] [4, 5] k (zv4 a0 a1 a2 a3) K) (K (.exit 0) (zmg)) := by kernel_rfl
theorem z1lu (R : Type) (kk : Nat) (t4 : ByteArray) (t5 : Bool) (K : Kf_ R) : (zi 0 (kSeq z2k (Tb73 R) kk (sub [1, 1] z5h) (kFin z2k Tryz.f93.results.toList none K))) .ret (zom t4 t5) =
  zif t4 t5 (fun a0 a1 => K [.dat .str a0 [], .dat .bool a1 []] none) := by kernel_rfl
theorem z1lg (R : Type) (kk : Nat)  (K : Kf_ R) : (zi 0 (kSeq z2k (Tb73 R) kk (sub [1, 1] z5h) (kFin z2k Tryz.f93.results.toList none K))) (.exit 0) (zmg) =
  zj6 (fun a0 a1 => K [.dat .str a0 [], .dat .bool a1 []] none) := by kernel_rfl
theorem z1v1 (R : Type) (k : Nat) (no_1 : Int) (t9 : Zt11) (t10 : Int) (t11 : Int) (K : Kx_ R) : loopR (ev z2k (Tb73 R) FUEL (sub [1, 0, 1, 0, 0] z5h)) [1, 9, 10, 11] [4, 5] k (zv4 no_1 t9 t10 t11) K = (zuu k no_1 t9 t10 t11).bind fun e => (Sum.elim (fun (we : Zt4) => K .ret (zom we.1 we.2)) (fun (we : Unit) => K (.exit 0) (zmg)) e) := by
  induction k generalizing no_1 t9 t10 t11 with
  | zero => rfl
  | succ k ih =>
    rw [z22f]
    simp only [zuu, zsw, zn0, zku, zn6, ih, z8, z6, zd, z7, ze, zc, Sum.elim_inl, Sum.elim_inr]
theorem z20n (R : Type) (m_0 : Zt17) (no_1 : Int) (K : Kf_ R) : evFn z2k (Tb73 R) FUEL Tryz.f93 z5h [.dat y5 m_0 [], .dat (.int .i64) no_1 []] none K = (Q217 m_0 no_1).bind fun r => K [.dat .str r.1 [], .dat .bool r.2 []] none := by
  rw [z25n]
  simp only [Q217, zsw, zn0, zku, zn6, z1v1, z1lu, z1lg, z8, z6, zd, z7, ze, zc, Sum.elim_inl, Sum.elim_inr]
def z1p7 : Pure := fun R l b K => noBox b (args2 y5 (.int .i64) l (fun x0 x1 => (Q217 x0 x1).bind fun r => K [.dat .str r.1 [], .dat .bool r.2 []] none))
theorem z29z : z1p7.Nat := fun R S l b F G K h => zh (zq fun _ _ => zg fun _ => h _ _)
def Tb74 : Funs := Tb73.add 93 [y5, (.int .i64)] z1p7
theorem z19l : Tb74.Nat := zl z1by z29z
theorem z1jp : ∀ f, Owes Tryz.prog Tb74 f := zk (E := z2k) (Tab.env_ok zm _ _ _ _) mixed z1by z1qv (fn := Tryz.f93) (code := z5h) Tryz.func93 (by kernel_rfl) (by kernel_rfl) fun l b r b' h => by
  obtain ⟨rfl, h⟩ := zf h
  obtain ⟨x0, x1, h1, h2⟩ := own2 (E := z2k) rfl h
  exact ⟨FUEL, (h2 _ _ _ _ _ _).trans ((z20n _ x0 x1 _).trans h1)⟩
noncomputable abbrev z79 : Code := Tryz.f149.body.getD .skip
def z40 : Env := tab.env (fun i => bif Nat.beq i 3 then [1, 4, 5, 12, 13, 14] else []) (fun i => bif Nat.beq i 3 then [4, 5] else []) [4] [y5, (.int .i64)]
def zvx (no_1 : Int) (t12 : Zt11) (t13 : Int) (t14 : Int) (bt4 : Zt17) (bt5 : Zt17) : State := ⟨uS 1 ([.dat (.int .i64) no_1 []]::(uS 2 ([.ptr 5 y5 []]::[.ptr 6 y5 []]::(uS 6 ([.dat (.sl 90 (.pair (.int .i64) (.pair .str .unit))) t12 []]::[.dat (.int .i64) t13 []]::[.dat (.int .i64) t14 []]::(uS 15 ([]))))))), nS 5 ((some ⟨y5, bt4, [[1]]⟩)::(some ⟨y5, bt5, [[1]]⟩)::(nS 24 ([])))⟩
def zoe (bt4 : Zt17) (bt5 : Zt17) : State := ⟨uS 4 ([.ptr 5 y5 []]::[.ptr 6 y5 []]::(uS 24 ([]))), nS 5 ((some ⟨y5, bt4, [[1]]⟩)::(some ⟨y5, bt5, [[1]]⟩)::(nS 24 ([])))⟩
theorem z252 (R : Type) (kk : Nat) (m_0 : Zt17) (no_1 : Int) (K : Kf_ R) : evFn z40 (Tb74 R) kk Tryz.f149 z79 [.dat y5 m_0 [], .dat (.int .i64) no_1 []] none K =
  zhs m_0 no_1 (fun a0 a1 a2 a3 a4 a5 => loopR (ev z40 (Tb74 R) kk (sub [1, 1, 0, 1, 0, 0] z79)) [1, 4, 5, 12, 13, 14] [4, 5] kk (zvx a0 a1 a2 a3 a4 a5) (zi 0 (kSeq z40 (Tb74 R) kk (sub [1, 1, 1] z79) (kFin z40 Tryz.f149.results.toList none K)))) := by kernel_rfl
theorem z210 (R : Type) (kk k : Nat) (no_1 : Int) (t12 : Zt11) (t13 : Int) (t14 : Int) (bt4 : Zt17) (bt5 : Zt17) (K : Kx_ R) : loopR (ev z40 (Tb74 R) kk (sub [1, 1, 0, 1, 0, 0] z79)) [1, 4, 5, 12, 13, 14] [4, 5] (k + 1) (zvx no_1 t12 t13 t14 bt4 bt5) K =
  ze5 no_1 t12 t13 t14 bt4 bt5 (fun a0 a1 a2 a3 a4 a5 => loopR (ev z40 (Tb74 R) kk (sub [1, 1, 0, 1, 0, 0] z79)) [1, 4, 5, 12, 13, 14] [4, 5] k (zvx a0 a1 a2 a3 a4 a5) K) (fun a0 a1 => K (.exit 0) (zoe a0 a1)) := by kernel_rfl
theorem z1mq (R : Type) (kk : Nat) (bt4 : Zt17) (bt5 : Zt17) (K : Kf_ R) : (zi 0 (kSeq z40 (Tb74 R) kk (sub [1, 1, 1] z79) (kFin z40 Tryz.f149.results.toList none K))) (.exit 0) (zoe bt4 bt5) =
  zj8 bt4 bt5 (fun a0 => K [.dat y5 a0 [[1]]] none) := by kernel_rfl
theorem z1u2 (R : Type) (k : Nat) (no_1 : Int) (t12 : Zt11) (t13 : Int) (t14 : Int) (bt4 : Zt17) (bt5 : Zt17) (K : Kx_ R) : loopR (ev z40 (Tb74 R) FUEL (sub [1, 1, 0, 1, 0, 0] z79)) [1, 4, 5, 12, 13, 14] [4, 5] k (zvx no_1 t12 t13 t14 bt4 bt5) K = (zv2 k no_1 t12 t13 t14 bt4 bt5).bind fun e => K (.exit 0) (zoe e.1 e.2) := by
  induction k generalizing no_1 t12 t13 t14 bt4 bt5 with
  | zero => rfl
  | succ k ih =>
    rw [z210]
    simp only [zv2, zlt, zs3, zqa, ih, z8, z6, zd, z7, ze, zc, Sum.elim_inl, Sum.elim_inr]
theorem z22a (R : Type) (m_0 : Zt17) (no_1 : Int) (K : Kf_ R) : evFn z40 (Tb74 R) FUEL Tryz.f149 z79 [.dat y5 m_0 [], .dat (.int .i64) no_1 []] none K = (Q221 m_0 no_1).bind fun r => K [.dat y5 r [[1]]] none := by
  rw [z252]
  simp only [Q221, zlt, zs3, zqa, z1u2, z1mq, z8, z6, zd, z7, ze, zc, Sum.elim_inl, Sum.elim_inr]
def z1j2 : Pure := fun R l b K => noBox b (args2 y5 (.int .i64) l (fun x0 x1 => (Q221 x0 x1).bind fun r => K [.dat y5 r [[1]]] none))
theorem z23s : z1j2.Nat := fun R S l b F G K h => zh (zq fun _ _ => zg fun _ => h _ _)
def Tb75 : Funs := Tb74.add 149 [y5, (.int .i64)] z1j2
theorem z16u : Tb75.Nat := zl z19l z23s
theorem z1nf : ∀ f, Owes Tryz.prog Tb75 f := zk (E := z40) (Tab.env_ok zm _ _ _ _) mixed z19l z1jp (fn := Tryz.f149) (code := z79) Tryz.func149 (by kernel_rfl) (by kernel_rfl) fun l b r b' h => by
  obtain ⟨rfl, h⟩ := zf h
  obtain ⟨x0, x1, h1, h2⟩ := own2 (E := z40) rfl h
  exact ⟨FUEL, (h2 _ _ _ _ _ _).trans ((z22a _ x0 x1 _).trans h1)⟩
noncomputable abbrev z190 : Code := Tryz.f151.body.getD .skip
def zyp : Env := tab.env (fun _ => []) (fun _ => []) [] [(.pair (.int .i64) (.pair .str .unit)), .unit]
theorem z24y (R : Type) (kk : Nat) (x_0 : Zt8) (free_1 : Int) (K : Kf_ R) : evFn zyp (Tb75 R) kk Tryz.f151 z190 [.dat (.pair (.int .i64) (.pair .str .unit)) x_0 [], .ptr 0 (.int .i64) []] (some ⟨(.int .i64), free_1, []⟩) K =
  ziy x_0 free_1 (fun a0 a1 => K [.dat .bool a0 []] (some ⟨(.int .i64), a1, []⟩)) := by kernel_rfl
theorem z1yj (R : Type) (x_0 : Zt8) (free_1 : Int) (K : Kf_ R) : evFn zyp (Tb75 R) FUEL Tryz.f151 z190 [.dat (.pair (.int .i64) (.pair .str .unit)) x_0 [], .ptr 0 (.int .i64) []] (some ⟨(.int .i64), free_1, []⟩) K = (Q220 x_0 free_1).bind fun r => K [.dat .bool r.1 []] (some ⟨(.int .i64), r.2, []⟩) := by
  rw [z24y]
  simp only [Q220, z1d9, z8, z6, zd, z7, ze, zc, Sum.elim_inl, Sum.elim_inr]
def z1mc : Pure := fun R l b K => argZ1 (.pair (.int .i64) (.pair .str .unit)) (.int .i64) (.int .i64) [] l b fun x0 x => (Q220 x0 x).bind fun r => K [.dat .bool r.1 []] (some ⟨(.int .i64), r.2, []⟩)
theorem z27z : z1mc.Nat := fun R S l b F G K h => z5y fun _ _ => zg fun _ => h _ _
def Tb76 : Funs := Tb75.add 151 [(.pair (.int .i64) (.pair .str .unit)), .unit] z1mc
theorem z16f : Tb76.Nat := zl z16u z27z
theorem z1s5 : ∀ f, Owes Tryz.prog Tb76 f := zk (E := zyp) (Tab.env_ok zm _ _ _ _) mixed z16u z1nf (fn := Tryz.f151) (code := z190) Tryz.func151 (by kernel_rfl) (by kernel_rfl) fun l b r b' h => by
  obtain ⟨x0, x, rfl, h1, h2⟩ := ownZ1 (E := zyp) rfl h
  exact ⟨FUEL, (h2 _ _ _ _ _ _).trans ((z1yj _ x0 x _).trans h1)⟩
noncomputable abbrev z58 : Code := Tryz.f150.body.getD .skip
def z31 : Env := tab.env (fun i => bif Nat.beq i 2 then [0, 1, 7, 8] else []) (fun i => bif Nat.beq i 2 then [4] else []) [] [(.sl 90 (.pair (.int .i64) (.pair .str .unit))), .unit]
def zvo (a_0 : Zt11) (t7 : Int) (t8 : Int) (recv : Int) : State := ⟨[.dat (.sl 90 (.pair (.int .i64) (.pair .str .unit))) a_0 []]::[.ptr 0 (.spc (.clo 151) (.int .i64) .unit) []]::(uS 5 ([.dat (.int .i64) t7 []]::[.dat (.int .i64) t8 []]::(uS 10 ([])))), (some ⟨(.int .i64), recv, []⟩)::(nS 19 ([]))⟩
def zky (t4 : Int) (recv : Int) : State := ⟨uS 4 ([.dat (.int .i64) t4 []]::(uS 14 ([]))), (some ⟨(.int .i64), recv, []⟩)::(nS 19 ([]))⟩
def zmi (recv : Int) : State := ⟨uS 19 [], (some ⟨(.int .i64), recv, []⟩)::(nS 19 ([]))⟩
theorem z27o (R : Type) (kk : Nat) (a_0 : Zt11) (a_1 : Int) (K : Kf_ R) : evFn z31 (Tb76 R) kk Tryz.f150 z58 [.dat (.sl 90 (.pair (.int .i64) (.pair .str .unit))) a_0 [], .ptr 0 (.spc (.clo 151) (.int .i64) .unit) []] (some ⟨(.int .i64), a_1, []⟩) K =
  ziu a_0 a_1 (fun a0 a1 a2 a3 => loopR (ev z31 (Tb76 R) kk (sub [1, 0, 1, 0, 0] z58)) [0, 1, 7, 8] [4] kk (zvo a0 a1 a2 a3) (zi 0 (kSeq z31 (Tb76 R) kk (sub [1, 1] z58) (kFin z31 Tryz.f150.results.toList (some ⟨(.int .i64), a_1, []⟩) K)))) := by kernel_rfl
theorem z212 (R : Type) (kk k : Nat) (a_0 : Zt11) (t7 : Int) (t8 : Int) (recv : Int) (K : Kx_ R) : loopR (ev z31 (Tb76 R) kk (sub [1, 0, 1, 0, 0] z58)) [0, 1, 7, 8] [4] (k + 1) (zvo a_0 t7 t8 recv) K =
  zit a_0 t7 t8 recv (fun a0 a1 => K .ret (zky a0 a1)) (fun a0 a1 a2 a3 => loopR (ev z31 (Tb76 R) kk (sub [1, 0, 1, 0, 0] z58)) [0, 1, 7, 8] [4] k (zvo a0 a1 a2 a3) K) (fun a0 => K (.exit 0) (zmi a0)) := by kernel_rfl
theorem z1j6 (R : Type) (kk : Nat) (x0 : Int) (t4 : Int) (recv : Int) (K : Kf_ R) : (zi 0 (kSeq z31 (Tb76 R) kk (sub [1, 1] z58) (kFin z31 Tryz.f150.results.toList (some ⟨(.int .i64), x0, []⟩) K))) .ret (zky t4 recv) =
  zgj t4 recv (fun a0 a1 => K [.dat (.int .i64) a0 []] (some ⟨(.int .i64), a1, []⟩)) := by kernel_rfl
theorem z1og (R : Type) (kk : Nat) (x0 : Int) (recv : Int) (K : Kf_ R) : (zi 0 (kSeq z31 (Tb76 R) kk (sub [1, 1] z58) (kFin z31 Tryz.f150.results.toList (some ⟨(.int .i64), x0, []⟩) K))) (.exit 0) (zmi recv) =
  zgc recv (fun a0 a1 => K [.dat (.int .i64) a0 []] (some ⟨(.int .i64), a1, []⟩)) := by kernel_rfl
theorem z1wf (R : Type) (k : Nat) (a_0 : Zt11) (t7 : Int) (t8 : Int) (recv : Int) (K : Kx_ R) : loopR (ev z31 (Tb76 R) FUEL (sub [1, 0, 1, 0, 0] z58)) [0, 1, 7, 8] [4] k (zvo a_0 t7 t8 recv) K = (zuk k a_0 t7 t8 recv).bind fun e => (Sum.elim (fun (we : (Int × Int)) => K .ret (zky we.1 we.2)) (fun (we : Int) => K (.exit 0) (zmi we)) e) := by
  induction k generalizing a_0 t7 t8 recv with
  | zero => rfl
  | succ k ih =>
    rw [z212]
    simp only [zuk, zlh, zrm, zkq, ztj, ih, z8, z6, zd, z7, ze, zc, Sum.elim_inl, Sum.elim_inr]
theorem z1yc (R : Type) (a_0 : Zt11) (a_1 : Int) (K : Kf_ R) : evFn z31 (Tb76 R) FUEL Tryz.f150 z58 [.dat (.sl 90 (.pair (.int .i64) (.pair .str .unit))) a_0 [], .ptr 0 (.spc (.clo 151) (.int .i64) .unit) []] (some ⟨(.int .i64), a_1, []⟩) K = (Q263 a_0 a_1).bind fun r => K [.dat (.int .i64) r.1 []] (some ⟨(.int .i64), r.2, []⟩) := by
  rw [z27o]
  simp only [Q263, zlh, zrm, zkq, ztj, z1wf, z1j6, z1og, z8, z6, zd, z7, ze, zc, Sum.elim_inl, Sum.elim_inr]
def z1pi : Pure := fun R l b K => argZ1 (.sl 90 (.pair (.int .i64) (.pair .str .unit))) (.spc (.clo 151) (.int .i64) .unit) (.int .i64) [] l b fun x0 x => (Q263 x0 x).bind fun r => K [.dat (.int .i64) r.1 []] (some ⟨(.int .i64), r.2, []⟩)
theorem z28x : z1pi.Nat := fun R S l b F G K h => z5y fun _ _ => zg fun _ => h _ _
def Tb77 : Funs := Tb76.add 150 [(.sl 90 (.pair (.int .i64) (.pair .str .unit))), .unit] z1pi
theorem z199 : Tb77.Nat := zl z16f z28x
theorem z1k4 : ∀ f, Owes Tryz.prog Tb77 f := zk (E := z31) (Tab.env_ok zm _ _ _ _) mixed z16f z1s5 (fn := Tryz.f150) (code := z58) Tryz.func150 (by kernel_rfl) (by kernel_rfl) fun l b r b' h => by
  obtain ⟨x0, x, rfl, h1, h2⟩ := ownZ1 (E := z31) rfl h
  exact ⟨FUEL, (h2 _ _ _ _ _ _).trans ((z1yc _ x0 x _).trans h1)⟩
noncomputable abbrev z1cr : Code := Tryz.f94.body.getD .skip
def z10m : Env := { tab.env (fun _ => []) (fun _ => []) [6] [y5, (.int .i64), .str] with fz := fun i => bif Nat.beq i 9 then some (9, 47) else none }
theorem z26k (R : Type) (kk : Nat) (m_0 : Zt17) (no_1 : Int) (text_2 : ByteArray) (K : Kf_ R) : evFn z10m (Tb77 R) kk Tryz.f94 z1cr [.dat y5 m_0 [], .dat (.int .i64) no_1 [], .dat .str text_2 []] none K =
  zfj m_0 no_1 text_2 (fun a0 => K [.dat y5 a0 []] none) := by kernel_rfl
theorem z1yn (R : Type) (m_0 : Zt17) (no_1 : Int) (text_2 : ByteArray) (K : Kf_ R) : evFn z10m (Tb77 R) FUEL Tryz.f94 z1cr [.dat y5 m_0 [], .dat (.int .i64) no_1 [], .dat .str text_2 []] none K = (Q219 m_0 no_1 text_2).bind fun r => K [.dat y5 r []] none := by
  rw [z26k]
  simp only [Q219, z1au, z8, z6, zd, z7, ze, zc, Sum.elim_inl, Sum.elim_inr]
def z1me : Pure := fun R l b K => noBox b (args3 y5 (.int .i64) .str l (fun x0 x1 x2 => (Q219 x0 x1 x2).bind fun r => K [.dat y5 r []] none))
theorem z25t : z1me.Nat := fun R S l b F G K h => zh (z17 fun _ _ _ => zg fun _ => h _ _)
def Tb78 : Funs := Tb77.add 94 [y5, (.int .i64), .str] z1me
theorem z162 : Tb78.Nat := zl z199 z25t
theorem z1ru : ∀ f, Owes Tryz.prog Tb78 f := zk (E := z10m) ((Tab.env_ok zm _ _ _ _).fz _) mixed z199 z1k4 (fn := Tryz.f94) (code := z1cr) Tryz.func94 (by kernel_rfl) (by kernel_rfl) fun l b r b' h => by
  obtain ⟨rfl, h⟩ := zf h
  obtain ⟨x0, x1, x2, h1, h2⟩ := own3 (E := z10m) rfl h
  exact ⟨FUEL, (h2 _ _ _ _ _ _).trans ((z1yn _ x0 x1 x2 _).trans h1)⟩
noncomputable abbrev z1z : Code := Tryz.f95.body.getD .skip
def z1o : Env := tab.env (fun i => bif Nat.beq i 2 then [2, 10, 11, 12] else bif Nat.beq i 5 then [2, 6, 10, 11, 12, 17, 18, 19] else []) (fun i => bif Nat.beq i 2 then [4] else bif Nat.beq i 5 then [2, 4, 10, 11, 12] else []) [] [y18, (.int .i64)]
def zw6 (t10 : (List Int)) (t11 : Int) (t12 : Int) (bt2 : Zt26) : State := ⟨uS 2 ([.ptr 3 y18 []]::(uS 7 ([.dat (.sl 38 (.int .i64)) t10 [[]]]::[.dat (.int .i64) t11 []]::[.dat (.int .i64) t12 []]::(uS 18 ([]))))), nS 3 ((some ⟨y18, bt2, []⟩)::(nS 28 ([])))⟩
def zo4  : State := ⟨uS 31 [], nS 32 []⟩
def zl3 (t4 : ByteArray) : State := ⟨uS 4 ([.dat .str t4 []]::(uS 26 ([]))), nS 32 []⟩
def zwe (t6 : Int) (t10 : (List Int)) (t11 : Int) (t12 : Int) (t17 : Zt11) (t18 : Int) (t19 : Int) (bt2 : Zt26) : State := ⟨uS 2 ([.ptr 3 y18 []]::(uS 3 ([.dat (.int .i64) t6 []]::(uS 3 ([.dat (.sl 38 (.int .i64)) t10 [[]]]::[.dat (.int .i64) t11 []]::[.dat (.int .i64) t12 []]::(uS 4 ([.dat (.sl 96 (.pair (.int .i64) (.pair .str .unit))) t17 []]::[.dat (.int .i64) t18 []]::[.dat (.int .i64) t19 []]::(uS 11 ([]))))))))), nS 3 ((some ⟨y18, bt2, []⟩)::(nS 28 ([])))⟩
def zrz (t4 : ByteArray) (t10 : (List Int)) (t11 : Int) (t12 : Int) (bt2 : Zt26) : State := ⟨uS 2 ([.ptr 3 y18 []]::(uS 1 ([.dat .str t4 []]::(uS 5 ([.dat (.sl 38 (.int .i64)) t10 [[]]]::[.dat (.int .i64) t11 []]::[.dat (.int .i64) t12 []]::(uS 18 ([]))))))), nS 3 ((some ⟨y18, bt2, []⟩)::(nS 28 ([])))⟩
def znm (t10 : (List Int)) (t11 : Int) (t12 : Int) (bt2 : Zt26) : State := ⟨uS 2 ([.ptr 3 y18 []]::(uS 7 ([.dat (.sl 38 (.int .i64)) t10 [[]]]::[.dat (.int .i64) t11 []]::[.dat (.int .i64) t12 []]::(uS 18 ([]))))), nS 3 ((some ⟨y18, bt2, []⟩)::(nS 28 ([])))⟩
theorem z23r (R : Type) (kk : Nat) (s_0 : Zt26) (e_1 : Int) (K : Kf_ R) : evFn z1o (Tb78 R) kk Tryz.f95 z1z [.dat y18 s_0 [], .dat (.int .i64) e_1 []] none K =
  zhe s_0 e_1 (fun a0 a1 a2 a3 => loopR (ev z1o (Tb78 R) kk (sub [1, 0, 1, 0, 0] z1z)) [2, 10, 11, 12] [4] kk (zw6 a0 a1 a2 a3) (zi 0 (kSeq z1o (Tb78 R) kk (sub [1, 1] z1z) (kFin z1o Tryz.f95.results.toList none K)))) := by kernel_rfl
theorem z202 (R : Type) (kk k : Nat) (t10 : (List Int)) (t11 : Int) (t12 : Int) (bt2 : Zt26) (K : Kx_ R) : loopR (ev z1o (Tb78 R) kk (sub [1, 0, 1, 0, 0] z1z)) [2, 10, 11, 12] [4] (k + 1) (zw6 t10 t11 t12 bt2) K =
  zg8 t10 t11 t12 bt2 (fun a0 a1 a2 a3 a4 a5 a6 a7 => loopR (ev z1o (Tb78 R) kk (sub [1, 0, 1, 0, 0, 1, 1, 0, 0, 1, 1, 0, 0] z1z)) [2, 6, 10, 11, 12, 17, 18, 19] [2, 4, 10, 11, 12] kk (zwe a0 a1 a2 a3 a4 a5 a6 a7) (zi 2 (zi 1 (kSeq z1o (Tb78 R) kk (sub [1, 0, 1, 0, 0, 1, 1, 1] z1z) (kLoop (ev z1o (Tb78 R) kk (sub [1, 0, 1, 0, 0] z1z)) [2, 10, 11, 12] [4] k K))))) (K (.exit 0) (zo4)) := by kernel_rfl
theorem z1ml (R : Type) (kk : Nat)  (K : Kf_ R) : (zi 0 (kSeq z1o (Tb78 R) kk (sub [1, 1] z1z) (kFin z1o Tryz.f95.results.toList none K))) (.exit 0) (zo4) =
  zi9 (fun a0 => K [.dat .str a0 []] none) := by kernel_rfl
theorem z20c (R : Type) (kk k : Nat) (t6 : Int) (t10 : (List Int)) (t11 : Int) (t12 : Int) (t17 : Zt11) (t18 : Int) (t19 : Int) (bt2 : Zt26) (K : Kx_ R) : loopR (ev z1o (Tb78 R) kk (sub [1, 0, 1, 0, 0, 1, 1, 0, 0, 1, 1, 0, 0] z1z)) [2, 6, 10, 11, 12, 17, 18, 19] [2, 4, 10, 11, 12] (k + 1) (zwe t6 t10 t11 t12 t17 t18 t19 bt2) K =
  zir t6 t10 t11 t12 t17 t18 t19 bt2 (fun a0 a1 a2 a3 a4 => K .ret (zrz a0 a1 a2 a3 a4)) (fun a0 a1 a2 a3 a4 a5 a6 a7 => loopR (ev z1o (Tb78 R) kk (sub [1, 0, 1, 0, 0, 1, 1, 0, 0, 1, 1, 0, 0] z1z)) [2, 6, 10, 11, 12, 17, 18, 19] [2, 4, 10, 11, 12] k (zwe a0 a1 a2 a3 a4 a5 a6 a7) K) (fun a0 a1 a2 a3 => K (.exit 2) (znm a0 a1 a2 a3)) := by kernel_rfl
theorem z12v (R : Type) (kk k : Nat) (t4 : ByteArray) (t10 : (List Int)) (t11 : Int) (t12 : Int) (bt2 : Zt26) (K : Kx_ R) : (zi 2 (zi 1 (kSeq z1o (Tb78 R) kk (sub [1, 0, 1, 0, 0, 1, 1, 1] z1z) (kLoop (ev z1o (Tb78 R) kk (sub [1, 0, 1, 0, 0] z1z)) [2, 10, 11, 12] [4] k K)))) .ret (zrz t4 t10 t11 t12 bt2) =
  zha t4 t10 t11 t12 bt2 (fun a0 => K .ret (zl3 a0)) := by kernel_rfl
theorem z130 (R : Type) (kk k : Nat) (t10 : (List Int)) (t11 : Int) (t12 : Int) (bt2 : Zt26) (K : Kx_ R) : (zi 2 (zi 1 (kSeq z1o (Tb78 R) kk (sub [1, 0, 1, 0, 0, 1, 1, 1] z1z) (kLoop (ev z1o (Tb78 R) kk (sub [1, 0, 1, 0, 0] z1z)) [2, 10, 11, 12] [4] k K)))) (.exit 2) (znm t10 t11 t12 bt2) =
  zjo t10 t11 t12 bt2 (fun a0 a1 a2 a3 => loopR (ev z1o (Tb78 R) kk (sub [1, 0, 1, 0, 0] z1z)) [2, 10, 11, 12] [4] k (zw6 a0 a1 a2 a3) K) := by kernel_rfl
theorem z1jv (R : Type) (kk : Nat) (t4 : ByteArray) (K : Kf_ R) : (zi 0 (kSeq z1o (Tb78 R) kk (sub [1, 1] z1z) (kFin z1o Tryz.f95.results.toList none K))) .ret (zl3 t4) =
  zgq t4 (fun a0 => K [.dat .str a0 []] none) := by kernel_rfl
theorem z18z (R : Type) (k : Nat) (t6 : Int) (t10 : (List Int)) (t11 : Int) (t12 : Int) (t17 : Zt11) (t18 : Int) (t19 : Int) (bt2 : Zt26) (K : Kx_ R) : loopR (ev z1o (Tb78 R) FUEL (sub [1, 0, 1, 0, 0, 1, 1, 0, 0, 1, 1, 0, 0] z1z)) [2, 6, 10, 11, 12, 17, 18, 19] [2, 4, 10, 11, 12] k (zwe t6 t10 t11 t12 t17 t18 t19 bt2) K = (zu7 k t6 t10 t11 t12 t17 t18 t19 bt2).bind fun e => (Sum.elim (fun (we : (ByteArray × (List Int) × Int × Int × Zt26)) => K .ret (zrz we.1 we.2.1 we.2.2.1 we.2.2.2.1 we.2.2.2.2)) (fun (we : ((List Int) × Int × Int × Zt26)) => K (.exit 2) (znm we.1 we.2.1 we.2.2.1 we.2.2.2)) e) := by
  induction k generalizing t6 t10 t11 t12 t17 t18 t19 bt2 with
  | zero => rfl
  | succ k ih =>
    rw [z20c]
    simp only [zu7, zcc, zcv, zcr, zd6, zd5, zc9, zc0, ih, z8, z6, zd, z7, ze, zc, Sum.elim_inl, Sum.elim_inr]
theorem z1wz (R : Type) (k : Nat) (t10 : (List Int)) (t11 : Int) (t12 : Int) (bt2 : Zt26) (K : Kx_ R) : loopR (ev z1o (Tb78 R) FUEL (sub [1, 0, 1, 0, 0] z1z)) [2, 10, 11, 12] [4] k (zw6 t10 t11 t12 bt2) K = (zw5 k t10 t11 t12 bt2).bind fun e => (Sum.elim (fun (we : Unit) => K (.exit 0) (zo4)) (fun (we : ByteArray) => K .ret (zl3 we)) e) := by
  induction k generalizing t10 t11 t12 bt2 with
  | zero => rfl
  | succ k ih =>
    rw [z202]
    simp only [zw5, zcc, zcv, zcr, zd6, zd5, zc9, zc0, ih, z18z, z12v, z130, z8, z6, zd, z7, ze, zc, Sum.elim_inl, Sum.elim_inr]
theorem z1ya (R : Type) (s_0 : Zt26) (e_1 : Int) (K : Kf_ R) : evFn z1o (Tb78 R) FUEL Tryz.f95 z1z [.dat y18 s_0 [], .dat (.int .i64) e_1 []] none K = (Q233 s_0 e_1).bind fun r => K [.dat .str r []] none := by
  rw [z23r]
  simp only [Q233, zcc, zcv, zcr, zd6, zd5, zc9, zc0, z1wz, z18z, z1ml, z12v, z130, z1jv, z8, z6, zd, z7, ze, zc, Sum.elim_inl, Sum.elim_inr]
def z1m2 : Pure := fun R l b K => noBox b (args2 y18 (.int .i64) l (fun x0 x1 => (Q233 x0 x1).bind fun r => K [.dat .str r []] none))
theorem z23h : z1m2.Nat := fun R S l b F G K h => zh (zq fun _ _ => zg fun _ => h _ _)
def Tb79 : Funs := Tb78.add 95 [y18, (.int .i64)] z1m2
theorem z16w : Tb79.Nat := zl z162 z23h
theorem z1le : ∀ f, Owes Tryz.prog Tb79 f := zk (E := z1o) (Tab.env_ok zm _ _ _ _) mixed z162 z1ru (fn := Tryz.f95) (code := z1z) Tryz.func95 (by kernel_rfl) (by kernel_rfl) fun l b r b' h => by
  obtain ⟨rfl, h⟩ := zf h
  obtain ⟨x0, x1, h1, h2⟩ := own2 (E := z1o) rfl h
  exact ⟨FUEL, (h2 _ _ _ _ _ _).trans ((z1ya _ x0 x1 _).trans h1)⟩
noncomputable abbrev z6v : Code := Tryz.f37.body.getD .skip
def z3u : Env := { { tab.env (fun i => bif Nat.beq i 6 then [3, 4, 5, 6, 10, 27, 28, 29] else []) (fun i => bif Nat.beq i 6 then [3, 5, 6, 10] else []) [6] [y18, y5, (.pair (.int .i64) (.pair (.int .i64) .unit))] with dr := fun i => bif Nat.beq i 6 then [11] else [] } with ro := true }
def zw7 (t27 : (List Int)) (t28 : Int) (t29 : Int) (bt3 : Zt26) (bt4 : Zt17) (bt5 : Zt5) (bt6 : Zt17) (bt10 : Zt17) : State := ⟨uS 3 ([.ptr 4 y18 []]::[.ptr 5 y5 []]::[.ptr 6 (.pair (.int .i64) (.pair (.int .i64) .unit)) []]::[.ptr 7 y5 []]::(uS 3 ([.ptr 11 y5 []]::(uS 16 ([.dat (.sl 3 (.int .i64)) t27 []]::[.dat (.int .i64) t28 []]::[.dat (.int .i64) t29 []]::(uS 21 ([]))))))), nS 4 ((some ⟨y18, bt3, []⟩)::(some ⟨y5, bt4, []⟩)::(some ⟨(.pair (.int .i64) (.pair (.int .i64) .unit)), bt5, []⟩)::(some ⟨y5, bt6, [[1]]⟩)::(nS 3 ((some ⟨y5, bt10, []⟩)::(nS 40 ([])))))⟩
def zr0 (bt3 : Zt26) (bt5 : Zt5) (bt6 : Zt17) (bt10 : Zt17) : State := ⟨uS 3 ([.ptr 4 y18 []]::(uS 1 ([.ptr 6 (.pair (.int .i64) (.pair (.int .i64) .unit)) []]::[.ptr 7 y5 []]::(uS 3 ([.ptr 11 y5 []]::(uS 40 ([]))))))), nS 4 ((some ⟨y18, bt3, []⟩)::(nS 1 ((some ⟨(.pair (.int .i64) (.pair (.int .i64) .unit)), bt5, []⟩)::(some ⟨y5, bt6, [[1]]⟩)::(nS 3 ((some ⟨y5, bt10, []⟩)::(nS 40 ([])))))))⟩
theorem z271 (R : Type) (kk : Nat) (s_0 : Zt26) (m_1 : Zt17) (f_2 : Zt5) (K : Kf_ R) : evFn z3u (Tb79 R) kk Tryz.f37 z6v [.dat y18 s_0 [], .dat y5 m_1 [], .dat (.pair (.int .i64) (.pair (.int .i64) .unit)) f_2 []] none K =
  zj7 s_0 m_1 f_2 (fun a0 a1 => K [.dat y5 a0 [], .dat .bool a1 []] none) (fun a0 a1 a2 a3 a4 a5 a6 a7 => loopR (ev z3u (Tb79 R) kk (sub [1, 1, 1, 1, 0, 1, 0, 0] z6v)) [3, 4, 5, 6, 10, 27, 28, 29] [3, 5, 6, 10] kk (zw7 a0 a1 a2 a3 a4 a5 a6 a7) (zi 0 (kSeq z3u (Tb79 R) kk (sub [1, 1, 1, 1, 1] z6v) (kFin z3u Tryz.f37.results.toList none K)))) := by kernel_rfl
theorem z22e (R : Type) (kk k : Nat) (t27 : (List Int)) (t28 : Int) (t29 : Int) (bt3 : Zt26) (bt4 : Zt17) (bt5 : Zt5) (bt6 : Zt17) (bt10 : Zt17) (K : Kx_ R) : loopR (ev z3u (Tb79 R) kk (sub [1, 1, 1, 1, 0, 1, 0, 0] z6v)) [3, 4, 5, 6, 10, 27, 28, 29] [3, 5, 6, 10] (k + 1) (zw7 t27 t28 t29 bt3 bt4 bt5 bt6 bt10) K =
  zh1 t27 t28 t29 bt3 bt4 bt5 bt6 bt10 (fun a0 a1 a2 a3 a4 a5 a6 a7 => loopR (ev z3u (Tb79 R) kk (sub [1, 1, 1, 1, 0, 1, 0, 0] z6v)) [3, 4, 5, 6, 10, 27, 28, 29] [3, 5, 6, 10] k (zw7 a0 a1 a2 a3 a4 a5 a6 a7) K) (fun a0 a1 a2 a3 => K (.exit 0) (zr0 a0 a1 a2 a3)) := by kernel_rfl
theorem z1q1 (R : Type) (kk : Nat) (bt3 : Zt26) (bt5 : Zt5) (bt6 : Zt17) (bt10 : Zt17) (K : Kf_ R) : (zi 0 (kSeq z3u (Tb79 R) kk (sub [1, 1, 1, 1, 1] z6v) (kFin z3u Tryz.f37.results.toList none K))) (.exit 0) (zr0 bt3 bt5 bt6 bt10) =
  zdx bt3 bt5 bt6 bt10 (fun a0 a1 => K [.dat y5 a0 [], .dat .bool a1 []] none) := by kernel_rfl
theorem z1uw (R : Type) (k : Nat) (t27 : (List Int)) (t28 : Int) (t29 : Int) (bt3 : Zt26) (bt4 : Zt17) (bt5 : Zt5) (bt6 : Zt17) (bt10 : Zt17) (K : Kx_ R) : loopR (ev z3u (Tb79 R) FUEL (sub [1, 1, 1, 1, 0, 1, 0, 0] z6v)) [3, 4, 5, 6, 10, 27, 28, 29] [3, 5, 6, 10] k (zw7 t27 t28 t29 bt3 bt4 bt5 bt6 bt10) K = (zvi k t27 t28 t29 bt3 bt4 bt5 bt6 bt10).bind fun e => K (.exit 0) (zr0 e.1 e.2.1 e.2.2.1 e.2.2.2) := by
  induction k generalizing t27 t28 t29 bt3 bt4 bt5 bt6 bt10 with
  | zero => rfl
  | succ k ih =>
    rw [z22e]
    simp only [zvi, zop, zp3, zno, ih, z8, z6, zd, z7, ze, zc, Sum.elim_inl, Sum.elim_inr]
theorem z21b (R : Type) (s_0 : Zt26) (m_1 : Zt17) (f_2 : Zt5) (K : Kf_ R) : evFn z3u (Tb79 R) FUEL Tryz.f37 z6v [.dat y18 s_0 [], .dat y5 m_1 [], .dat (.pair (.int .i64) (.pair (.int .i64) .unit)) f_2 []] none K = (Q231 s_0 m_1 f_2).bind fun r => K [.dat y5 r.1 [], .dat .bool r.2 []] none := by
  rw [z271]
  simp only [Q231, zop, zp3, zno, z1uw, z1q1, z8, z6, zd, z7, ze, zc, Sum.elim_inl, Sum.elim_inr]
def z1oy : Pure := fun R l b K => noBox b (args3 y18 y5 (.pair (.int .i64) (.pair (.int .i64) .unit)) l (fun x0 x1 x2 => (Q231 x0 x1 x2).bind fun r => K [.dat y5 r.1 [], .dat .bool r.2 []] none))
theorem z25h : z1oy.Nat := fun R S l b F G K h => zh (z17 fun _ _ _ => zg fun _ => h _ _)
def Tb80 : Funs := Tb79.add 37 [y18, y5, (.pair (.int .i64) (.pair (.int .i64) .unit))] z1oy
theorem z18i : Tb80.Nat := zl z16w z25h
theorem z1ma : ∀ f, Owes Tryz.prog Tb80 f := zk (E := z3u) (((Tab.env_ok zm _ _ _ _).dr _).ro _) mixed z16w z1le (fn := Tryz.f37) (code := z6v) Tryz.func37 (by kernel_rfl) (by kernel_rfl) fun l b r b' h => by
  obtain ⟨rfl, h⟩ := zf h
  obtain ⟨x0, x1, x2, h1, h2⟩ := own3 (E := z3u) rfl h
  exact ⟨FUEL, (h2 _ _ _ _ _ _).trans ((z21b _ x0 x1 x2 _).trans h1)⟩
noncomputable abbrev z4w : Code := Tryz.f96.body.getD .skip
def z2u : Env := tab.env (fun i => bif Nat.beq i 9 then [2, 4, 9, 39, 40, 41] else []) (fun i => bif Nat.beq i 9 then [4] else []) [4] [y15, y5]
def zvs (t9 : Int) (t39 : Zt11) (t40 : Int) (t41 : Int) (bt2 : Zt18) (bt4 : Zt5) : State := ⟨uS 2 ([.ptr 3 y15 []]::(uS 1 ([.ptr 5 (.pair (.int .i64) (.pair (.int .i64) .unit)) []]::(uS 4 ([.dat (.int .i64) t9 []]::(uS 29 ([.dat (.sl 90 (.pair (.int .i64) (.pair .str .unit))) t39 []]::[.dat (.int .i64) t40 []]::[.dat (.int .i64) t41 []]::(uS 36 ([]))))))))), nS 3 ((some ⟨y15, bt2, []⟩)::(nS 1 ((some ⟨(.pair (.int .i64) (.pair (.int .i64) .unit)), bt4, []⟩)::(nS 73 ([])))))⟩
def zqv (bt4 : Zt5) : State := ⟨uS 4 ([.ptr 5 (.pair (.int .i64) (.pair (.int .i64) .unit)) []]::(uS 73 ([]))), nS 5 ((some ⟨(.pair (.int .i64) (.pair (.int .i64) .unit)), bt4, []⟩)::(nS 73 ([])))⟩
def ztp (bt4 : Zt5) : State := ⟨uS 4 ([.ptr 5 (.pair (.int .i64) (.pair (.int .i64) .unit)) []]::(uS 73 ([]))), nS 5 ((some ⟨(.pair (.int .i64) (.pair (.int .i64) .unit)), bt4, []⟩)::(nS 73 ([])))⟩
theorem z260 (R : Type) (kk : Nat) (s_0 : Zt18) (m_1 : Zt17) (K : Kf_ R) : evFn z2u (Tb80 R) kk Tryz.f96 z4w [.dat y15 s_0 [], .dat y5 m_1 []] none K =
  zia s_0 m_1 (fun a0 => K [.dat (.pair (.int .i64) (.pair (.int .i64) .unit)) a0 []] none) (fun a0 a1 a2 a3 a4 a5 => loopR (ev z2u (Tb80 R) kk (sub [1, 1, 1, 1, 0, 1, 0, 0] z4w)) [2, 4, 9, 39, 40, 41] [4] kk (zvs a0 a1 a2 a3 a4 a5) (zi 0 (kSeq z2u (Tb80 R) kk (sub [1, 1, 1, 1, 1] z4w) (kFin z2u Tryz.f96.results.toList none K)))) := by kernel_rfl
theorem z22d (R : Type) (kk k : Nat) (t9 : Int) (t39 : Zt11) (t40 : Int) (t41 : Int) (bt2 : Zt18) (bt4 : Zt5) (K : Kx_ R) : loopR (ev z2u (Tb80 R) kk (sub [1, 1, 1, 1, 0, 1, 0, 0] z4w)) [2, 4, 9, 39, 40, 41] [4] (k + 1) (zvs t9 t39 t40 t41 bt2 bt4) K =
  zjm t9 t39 t40 t41 bt2 bt4 (fun a0 => K .ret (zqv a0)) (fun a0 a1 a2 a3 a4 a5 => loopR (ev z2u (Tb80 R) kk (sub [1, 1, 1, 1, 0, 1, 0, 0] z4w)) [2, 4, 9, 39, 40, 41] [4] k (zvs a0 a1 a2 a3 a4 a5) K) (fun a0 => K (.exit 0) (ztp a0)) := by kernel_rfl
theorem z1l2 (R : Type) (kk : Nat) (bt4 : Zt5) (K : Kf_ R) : (zi 0 (kSeq z2u (Tb80 R) kk (sub [1, 1, 1, 1, 1] z4w) (kFin z2u Tryz.f96.results.toList none K))) .ret (zqv bt4) =
  zef bt4 (fun a0 => K [.dat (.pair (.int .i64) (.pair (.int .i64) .unit)) a0 []] none) := by kernel_rfl
theorem z1ot (R : Type) (kk : Nat) (bt4 : Zt5) (K : Kf_ R) : (zi 0 (kSeq z2u (Tb80 R) kk (sub [1, 1, 1, 1, 1] z4w) (kFin z2u Tryz.f96.results.toList none K))) (.exit 0) (ztp bt4) =
  zez bt4 (fun a0 => K [.dat (.pair (.int .i64) (.pair (.int .i64) .unit)) a0 []] none) := by kernel_rfl
theorem z1uy (R : Type) (k : Nat) (t9 : Int) (t39 : Zt11) (t40 : Int) (t41 : Int) (bt2 : Zt18) (bt4 : Zt5) (K : Kx_ R) : loopR (ev z2u (Tb80 R) FUEL (sub [1, 1, 1, 1, 0, 1, 0, 0] z4w)) [2, 4, 9, 39, 40, 41] [4] k (zvs t9 t39 t40 t41 bt2 bt4) K = (zuy k t9 t39 t40 t41 bt2 bt4).bind fun e => (Sum.elim (fun (we : Zt5) => K .ret (zqv we)) (fun (we : Zt5) => K (.exit 0) (ztp we)) e) := by
  induction k generalizing t9 t39 t40 t41 bt2 bt4 with
  | zero => rfl
  | succ k ih =>
    rw [z22d]
    simp only [zuy, zq6, zpf, zsr, zn2, ih, z8, z6, zd, z7, ze, zc, Sum.elim_inl, Sum.elim_inr]
theorem z22o (R : Type) (s_0 : Zt18) (m_1 : Zt17) (K : Kf_ R) : evFn z2u (Tb80 R) FUEL Tryz.f96 z4w [.dat y15 s_0 [], .dat y5 m_1 []] none K = (Q216 s_0 m_1).bind fun r => K [.dat (.pair (.int .i64) (.pair (.int .i64) .unit)) r []] none := by
  rw [z260]
  simp only [Q216, zq6, zpf, zsr, zn2, z1uy, z1l2, z1ot, z8, z6, zd, z7, ze, zc, Sum.elim_inl, Sum.elim_inr]
def z1qr : Pure := fun R l b K => noBox b (args2 y15 y5 l (fun x0 x1 => (Q216 x0 x1).bind fun r => K [.dat (.pair (.int .i64) (.pair (.int .i64) .unit)) r []] none))
theorem z27j : z1qr.Nat := fun R S l b F G K h => zh (zq fun _ _ => zg fun _ => h _ _)
def Tb81 : Funs := Tb80.add 96 [y15, y5] z1qr
theorem z19b : Tb81.Nat := zl z18i z27j
theorem z1ku : ∀ f, Owes Tryz.prog Tb81 f := zk (E := z2u) (Tab.env_ok zm _ _ _ _) mixed z18i z1ma (fn := Tryz.f96) (code := z4w) Tryz.func96 (by kernel_rfl) (by kernel_rfl) fun l b r b' h => by
  obtain ⟨rfl, h⟩ := zf h
  obtain ⟨x0, x1, h1, h2⟩ := own2 (E := z2u) rfl h
  exact ⟨FUEL, (h2 _ _ _ _ _ _).trans ((z22o _ x0 x1 _).trans h1)⟩
noncomputable abbrev Q1_c : Code := Tryz.f154.body.getD .skip
def Q1_E : Env := tab.env (fun i => bif Nat.beq i 7 then [0, 4, 5] else []) (fun i => bif Nat.beq i 7 then [4] else []) [] [.str]
def Q1_h0 (s_0 : ByteArray) (t4 : (List Int)) (t5 : Int) : State := ⟨[.dat .str s_0 []]::(uS 3 ([.dat (.sl 5 (.int .u8)) t4 [[]]]::[.dat (.int .i64) t5 []]::(uS 40 ([])))), nS 47 []⟩
def z120 (t4 : (List Int)) : State := ⟨uS 4 ([.dat (.sl 5 (.int .u8)) t4 [[]]]::(uS 41 ([]))), nS 47 []⟩
theorem Q1_t (R : Type) (kk : Nat) (s_0 : ByteArray) (K : Kf_ R) : evFn Q1_E (Tb81 R) kk Tryz.f154 Q1_c [.dat .str s_0 []] none K =
  Q1_s0 s_0 (fun a0 a1 => K [.dat .str a0 [], .dat .bool a1 []] none) (fun a0 a1 a2 => loopR (ev Q1_E (Tb81 R) kk (sub [1, 1, 1, 1, 0, 1, 0, 0] Q1_c)) [0, 4, 5] [4] kk (Q1_h0 a0 a1 a2) (zi 0 (kSeq Q1_E (Tb81 R) kk (sub [1, 1, 1, 1, 1] Q1_c) (kFin Q1_E Tryz.f154.results.toList none K)))) := by kernel_rfl
theorem Q1_d0 (R : Type) (kk k : Nat) (s_0 : ByteArray) (t4 : (List Int)) (t5 : Int) (K : Kx_ R) : loopR (ev Q1_E (Tb81 R) kk (sub [1, 1, 1, 1, 0, 1, 0, 0] Q1_c)) [0, 4, 5] [4] (k + 1) (Q1_h0 s_0 t4 t5) K =
  Q1_s1 s_0 t4 t5 (fun a0 a1 a2 => loopR (ev Q1_E (Tb81 R) kk (sub [1, 1, 1, 1, 0, 1, 0, 0] Q1_c)) [0, 4, 5] [4] k (Q1_h0 a0 a1 a2) K) (fun a0 => K (.exit 0) (z120 a0)) := by kernel_rfl
theorem z22r (R : Type) (kk : Nat) (t4 : (List Int)) (K : Kf_ R) : (zi 0 (kSeq Q1_E (Tb81 R) kk (sub [1, 1, 1, 1, 1] Q1_c) (kFin Q1_E Tryz.f154.results.toList none K))) (.exit 0) (z120 t4) =
  Q1_s2 t4 (fun a0 a1 => K [.dat .str a0 [], .dat .bool a1 []] none) := by kernel_rfl
theorem z27p (R : Type) (k : Nat) (s_0 : ByteArray) (t4 : (List Int)) (t5 : Int) (K : Kx_ R) : loopR (ev Q1_E (Tb81 R) FUEL (sub [1, 1, 1, 1, 0, 1, 0, 0] Q1_c)) [0, 4, 5] [4] k (Q1_h0 s_0 t4 t5) K = (Q1_l0 k s_0 t4 t5).bind fun e => K (.exit 0) (z120 e) := by
  induction k generalizing s_0 t4 t5 with
  | zero => rfl
  | succ k ih =>
    rw [Q1_d0]
    simp only [Q1_l0, z11k, zzi, z106, ih, z8, z6, zd, z7, ze, zc, Sum.elim_inl, Sum.elim_inr]
theorem Q1_eq (R : Type) (s_0 : ByteArray) (K : Kf_ R) : evFn Q1_E (Tb81 R) FUEL Tryz.f154 Q1_c [.dat .str s_0 []] none K = (Q1 s_0).bind fun r => K [.dat .str r.1 [], .dat .bool r.2 []] none := by
  rw [Q1_t]
  simp only [Q1, z11k, zzi, z106, z27p, z22r, z8, z6, zd, z7, ze, zc, Sum.elim_inl, Sum.elim_inr]
def Q1_g : Pure := fun R l b K => noBox b (args1 .str l (fun x0 => (Q1 x0).bind fun r => K [.dat .str r.1 [], .dat .bool r.2 []] none))
theorem Q1_n : Q1_g.Nat := fun R S l b F G K h => zh (zp fun _ => zg fun _ => h _ _)
def Tb82 : Funs := Tb81.add 154 [.str] Q1_g
theorem z18l : Tb82.Nat := zl z19b Q1_n
theorem z1mv : ∀ f, Owes Tryz.prog Tb82 f := zk (E := Q1_E) (Tab.env_ok zm _ _ _ _) mixed z19b z1ku (fn := Tryz.f154) (code := Q1_c) Tryz.func154 (by kernel_rfl) (by kernel_rfl) fun l b r b' h => by
  obtain ⟨rfl, h⟩ := zf h
  obtain ⟨x0, h1, h2⟩ := own1 (E := Q1_E) rfl h
  exact ⟨FUEL, (h2 _ _ _ _ _ _).trans ((Q1_eq _ x0 _).trans h1)⟩
noncomputable abbrev z16x : Code := Tryz.f99.body.getD .skip
def z11t : Env := tab.env (fun _ => []) (fun _ => []) [] [(.int .i64), .str]
theorem z2a6 (R : Type) (kk : Nat) (style_0 : Int) (m_1 : ByteArray) (K : Kf_ R) : evFn z11t (Tb82 R) kk Tryz.f99 z16x [.dat (.int .i64) style_0 [], .dat .str m_1 []] none K =
  zjl style_0 m_1 (fun a0 a1 => K [.dat .str a0 [], .dat .bool a1 []] none) := by kernel_rfl
theorem z1z7 (R : Type) (style_0 : Int) (m_1 : ByteArray) (K : Kf_ R) : evFn z11t (Tb82 R) FUEL Tryz.f99 z16x [.dat (.int .i64) style_0 [], .dat .str m_1 []] none K = (Q287 style_0 m_1).bind fun r => K [.dat .str r.1 [], .dat .bool r.2 []] none := by
  rw [z2a6]
  simp only [Q287, z179, z8, z6, zd, z7, ze, zc, Sum.elim_inl, Sum.elim_inr]
def z1q6 : Pure := fun R l b K => noBox b (args2 (.int .i64) .str l (fun x0 x1 => (Q287 x0 x1).bind fun r => K [.dat .str r.1 [], .dat .bool r.2 []] none))
theorem z24o : z1q6.Nat := fun R S l b F G K h => zh (zq fun _ _ => zg fun _ => h _ _)
def Tb83 : Funs := Tb82.add 99 [(.int .i64), .str] z1q6
theorem z1t5 : Tb83.Nat := zl z18l z24o
theorem z1ky : ∀ f, Owes Tryz.prog Tb83 f := zk (E := z11t) (Tab.env_ok zm _ _ _ _) mixed z18l z1mv (fn := Tryz.f99) (code := z16x) Tryz.func99 (by kernel_rfl) (by kernel_rfl) fun l b r b' h => by
  obtain ⟨rfl, h⟩ := zf h
  obtain ⟨x0, x1, h1, h2⟩ := own2 (E := z11t) rfl h
  exact ⟨FUEL, (h2 _ _ _ _ _ _).trans ((z1z7 _ x0 x1 _).trans h1)⟩
def Tryz.lays166_ren : Go.Shelf.Ren := ⟨fun | 166 => 98 | 240 => 152 | 276 => 198 | n => n, fun | 70 => 144 | 9 => 9 | 3 => 3 | 75 => 149 | 0 => 0 | 72 => 147 | 37 => 145 | 4 => 4 | 164 => 246 | 80 => 158 | 5 => 5 | 20 => 20 | n => n, fun n => n⟩
theorem Tryz.lays166 : Go.Proofs.Lays.n166 Go.Proofs.Tryz.prog Tryz.lays166_ren := {
  mixed := by kernel_rfl,
  f166 := Go.Proofs.Tryz.func98.trans (congrArg some (by kernel_rfl)),
  f240 := Go.Proofs.Tryz.func152.trans (congrArg some (by kernel_rfl)),
  f276 := Go.Proofs.Tryz.func198.trans (congrArg some (by kernel_rfl)),
  t0 := Go.Proofs.Tryz.underlying0,
  a0 := Go.Proofs.Tryz.isAgg0,
  z0 := Go.Proofs.Tryz.sizeOf0,
  v0 := Go.Proofs.Tryz.zeroValue0,
  t3 := Go.Proofs.Tryz.underlying3,
  a3 := Go.Proofs.Tryz.isAgg3,
  z3 := Go.Proofs.Tryz.sizeOf3,
  v3 := Go.Proofs.Tryz.zeroValue3,
  t4 := Go.Proofs.Tryz.underlying4,
  a4 := Go.Proofs.Tryz.isAgg4,
  z4 := Go.Proofs.Tryz.sizeOf4,
  v4 := Go.Proofs.Tryz.zeroValue4,
  t9 := Go.Proofs.Tryz.underlying9,
  a9 := Go.Proofs.Tryz.isAgg9,
  z9 := Go.Proofs.Tryz.sizeOf9,
  v9 := Go.Proofs.Tryz.zeroValue9,
  t20 := Go.Proofs.Tryz.underlying20,
  a20 := Go.Proofs.Tryz.isAgg20,
  z20 := Go.Proofs.Tryz.sizeOf20,
  v20 := Go.Proofs.Tryz.zeroValue20,
  t37 := Go.Proofs.Tryz.underlying145,
  a37 := Go.Proofs.Tryz.isAgg145,
  z37 := Go.Proofs.Tryz.sizeOf145,
  v37 := Go.Proofs.Tryz.zeroValue145,
  t70 := Go.Proofs.Tryz.underlying144,
  a70 := Go.Proofs.Tryz.isAgg144,
  z70 := Go.Proofs.Tryz.sizeOf144,
  v70 := Go.Proofs.Tryz.zeroValue144,
  t72 := Go.Proofs.Tryz.underlying147,
  a72 := Go.Proofs.Tryz.isAgg147,
  z72 := Go.Proofs.Tryz.sizeOf147,
  v72 := Go.Proofs.Tryz.zeroValue147,
  t75 := Go.Proofs.Tryz.underlying149,
  a75 := Go.Proofs.Tryz.isAgg149,
  z75 := Go.Proofs.Tryz.sizeOf149,
  v75 := Go.Proofs.Tryz.zeroValue149,
  t164 := Go.Proofs.Tryz.underlying246,
  a164 := Go.Proofs.Tryz.isAgg246,
  z164 := Go.Proofs.Tryz.sizeOf246,
  v164 := Go.Proofs.Tryz.zeroValue246 }
theorem Tryz.extra166 : Go.Proofs.Builder.Extra Go.Proofs.Tryz.prog Tryz.lays166_ren := {
  sizeBuilder := by kernel_rfl,
  liesBuilder := by kernel_rfl,
  t5 := Go.Proofs.Tryz.underlying5,
  a5 := Go.Proofs.Tryz.isAgg5,
  z5 := Go.Proofs.Tryz.sizeOf5,
  v5 := Go.Proofs.Tryz.zeroValue5,
  infoByte := by kernel_rfl,
  cellsByte := by kernel_rfl,
  sizeByte := by kernel_rfl,
  neB5 := by decide }
noncomputable abbrev z7n : Code := Tryz.f98.body.getD .skip
theorem z6a : Ent Tryz.prog 98 := ⟨Tryz.f98, z7n, Tryz.func98, by kernel_rfl, by kernel_rfl⟩
def Tb84 : Funs := Tb83.add 98 [] (zq2 147 5)
theorem z19h : Tb84.Nat := zl z1t5 (z273 _ _)
theorem z1r4 : ∀ f, Owes Tryz.prog Tb84 f := z1rg z1ky z6a Tryz.lays166 Tryz.extra166 rfl rfl rfl
noncomputable abbrev z18n : Code := Tryz.f97.body.getD .skip
def z10k : Env := tab.env (fun _ => []) (fun _ => []) [] [.str, .unit]
theorem z25c (R : Type) (kk : Nat) (b_0 : ByteArray) (free_1 : ByteArray) (K : Kf_ R) : evFn z10k (Tb84 R) kk Tryz.f97 z18n [.dat .str b_0 [], .ptr 0 (.spc (.bld 147 5) .unit .unit) []] (some ⟨(.spc (.bld 147 5) .unit .unit), free_1, [[]]⟩) K =
  zig b_0 free_1 (fun a0 => K [] (some ⟨(.spc (.bld 147 5) .unit .unit), a0, [[]]⟩)) := by kernel_rfl
theorem z22c (R : Type) (b_0 : ByteArray) (free_1 : ByteArray) (K : Kf_ R) : evFn z10k (Tb84 R) FUEL Tryz.f97 z18n [.dat .str b_0 [], .ptr 0 (.spc (.bld 147 5) .unit .unit) []] (some ⟨(.spc (.bld 147 5) .unit .unit), free_1, [[]]⟩) K = (Q286 b_0 free_1).bind fun r => K [] (some ⟨(.spc (.bld 147 5) .unit .unit), r, [[]]⟩) := by
  rw [z25c]
  simp only [Q286, z16z, z8, z6, zd, z7, ze, zc, Sum.elim_inl, Sum.elim_inr]
def z1s7 : Pure := fun R l b K => argZ1 .str (.spc (.bld 147 5) .unit .unit) (.spc (.bld 147 5) .unit .unit) [[]] l b fun x0 x => (Q286 x0 x).bind fun r => K [] (some ⟨(.spc (.bld 147 5) .unit .unit), r, [[]]⟩)
theorem z2a9 : z1s7.Nat := fun R S l b F G K h => z5y fun _ _ => zg fun _ => h _ _
def Tb85 : Funs := Tb84.add 97 [.str, .unit] z1s7
theorem z1ax : Tb85.Nat := zl z19h z2a9
theorem z1qd : ∀ f, Owes Tryz.prog Tb85 f := zk (E := z10k) (Tab.env_ok zm _ _ _ _) mixed z19h z1r4 (fn := Tryz.f97) (code := z18n) Tryz.func97 (by kernel_rfl) (by kernel_rfl) fun l b r b' h => by
  obtain ⟨x0, x, rfl, h1, h2⟩ := ownZ1 (E := z10k) rfl h
  exact ⟨FUEL, (h2 _ _ _ _ _ _).trans ((z22c _ x0 x _).trans h1)⟩
noncomputable abbrev z6h : Code := Tryz.f101.body.getD .skip
def z42 : Env := tab.env (fun i => bif Nat.beq i 3 then [2, 3, 7, 8, 9] else []) (fun i => bif Nat.beq i 3 then [2, 3] else []) [2] [y5]
def zug (t7 : Zt11) (t8 : Int) (t9 : Int) (bt2 : Zt5) (bt3 : Zt5) : State := ⟨uS 2 ([.ptr 3 (.pair (.int .u64) (.pair (.int .u64) .unit)) []]::[.ptr 4 (.pair (.int .u64) (.pair (.int .u64) .unit)) []]::(uS 3 ([.dat (.sl 90 (.pair (.int .i64) (.pair .str .unit))) t7 []]::[.dat (.int .i64) t8 []]::[.dat (.int .i64) t9 []]::(uS 9 ([]))))), nS 3 ((some ⟨(.pair (.int .u64) (.pair (.int .u64) .unit)), bt2, []⟩)::(some ⟨(.pair (.int .u64) (.pair (.int .u64) .unit)), bt3, []⟩)::(nS 15 ([])))⟩
def zsx (bt2 : Zt5) (bt3 : Zt5) : State := ⟨uS 2 ([.ptr 3 (.pair (.int .u64) (.pair (.int .u64) .unit)) []]::[.ptr 4 (.pair (.int .u64) (.pair (.int .u64) .unit)) []]::(uS 15 ([]))), nS 3 ((some ⟨(.pair (.int .u64) (.pair (.int .u64) .unit)), bt2, []⟩)::(some ⟨(.pair (.int .u64) (.pair (.int .u64) .unit)), bt3, []⟩)::(nS 15 ([])))⟩
theorem z259 (R : Type) (kk : Nat) (m_0 : Zt17) (K : Kf_ R) : evFn z42 (Tb85 R) kk Tryz.f101 z6h [.dat y5 m_0 []] none K =
  zdy m_0 (fun a0 a1 a2 a3 a4 => loopR (ev z42 (Tb85 R) kk (sub [1, 1, 0, 1, 0, 0] z6h)) [2, 3, 7, 8, 9] [2, 3] kk (zug a0 a1 a2 a3 a4) (zi 0 (kSeq z42 (Tb85 R) kk (sub [1, 1, 1] z6h) (kFin z42 Tryz.f101.results.toList none K)))) := by kernel_rfl
theorem z1z4 (R : Type) (kk k : Nat) (t7 : Zt11) (t8 : Int) (t9 : Int) (bt2 : Zt5) (bt3 : Zt5) (K : Kx_ R) : loopR (ev z42 (Tb85 R) kk (sub [1, 1, 0, 1, 0, 0] z6h)) [2, 3, 7, 8, 9] [2, 3] (k + 1) (zug t7 t8 t9 bt2 bt3) K =
  zh7 t7 t8 t9 bt2 bt3 (fun a0 a1 a2 a3 a4 => loopR (ev z42 (Tb85 R) kk (sub [1, 1, 0, 1, 0, 0] z6h)) [2, 3, 7, 8, 9] [2, 3] k (zug a0 a1 a2 a3 a4) K) (fun a0 a1 => K (.exit 0) (zsx a0 a1)) := by kernel_rfl
theorem z1ka (R : Type) (kk : Nat) (bt2 : Zt5) (bt3 : Zt5) (K : Kf_ R) : (zi 0 (kSeq z42 (Tb85 R) kk (sub [1, 1, 1] z6h) (kFin z42 Tryz.f101.results.toList none K))) (.exit 0) (zsx bt2 bt3) =
  zf7 bt2 bt3 (fun a0 => K [.dat (.pair (.int .u64) (.pair (.int .u64) .unit)) a0 []] none) := by kernel_rfl
theorem z1t9 (R : Type) (k : Nat) (t7 : Zt11) (t8 : Int) (t9 : Int) (bt2 : Zt5) (bt3 : Zt5) (K : Kx_ R) : loopR (ev z42 (Tb85 R) FUEL (sub [1, 1, 0, 1, 0, 0] z6h)) [2, 3, 7, 8, 9] [2, 3] k (zug t7 t8 t9 bt2 bt3) K = (zvj k t7 t8 t9 bt2 bt3).bind fun e => K (.exit 0) (zsx e.1 e.2) := by
  induction k generalizing t7 t8 t9 bt2 bt3 with
  | zero => rfl
  | succ k ih =>
    rw [z1z4]
    simp only [zvj, zqr, zll, zpr, ih, z8, z6, zd, z7, ze, zc, Sum.elim_inl, Sum.elim_inr]
theorem z1x9 (R : Type) (m_0 : Zt17) (K : Kf_ R) : evFn z42 (Tb85 R) FUEL Tryz.f101 z6h [.dat y5 m_0 []] none K = (Q218 m_0).bind fun r => K [.dat (.pair (.int .u64) (.pair (.int .u64) .unit)) r []] none := by
  rw [z259]
  simp only [Q218, zqr, zll, zpr, z1t9, z1ka, z8, z6, zd, z7, ze, zc, Sum.elim_inl, Sum.elim_inr]
def z1of : Pure := fun R l b K => noBox b (args1 y5 l (fun x0 => (Q218 x0).bind fun r => K [.dat (.pair (.int .u64) (.pair (.int .u64) .unit)) r []] none))
theorem z25e : z1of.Nat := fun R S l b F G K h => zh (zp fun _ => zg fun _ => h _ _)
def Tb86 : Funs := Tb85.add 101 [y5] z1of
theorem z16p : Tb86.Nat := zl z1ax z25e
theorem z1o4 : ∀ f, Owes Tryz.prog Tb86 f := zk (E := z42) (Tab.env_ok zm _ _ _ _) mixed z1ax z1qd (fn := Tryz.f101) (code := z6h) Tryz.func101 (by kernel_rfl) (by kernel_rfl) fun l b r b' h => by
  obtain ⟨rfl, h⟩ := zf h
  obtain ⟨x0, h1, h2⟩ := own1 (E := z42) rfl h
  exact ⟨FUEL, (h2 _ _ _ _ _ _).trans ((z1x9 _ x0 _).trans h1)⟩
noncomputable abbrev Q37_c : Code := Tryz.f156.body.getD .skip
def Q37_E : Env := tab.env (fun _ => []) (fun _ => []) [] [(.pair (.int .u64) (.pair (.int .u64) .unit)), (.int .i64)]
theorem Q37_t (R : Type) (kk : Nat) (s_0 : Zt5) (n_1 : Int) (K : Kf_ R) : evFn Q37_E (Tb86 R) kk Tryz.f156 Q37_c [.dat (.pair (.int .u64) (.pair (.int .u64) .unit)) s_0 [], .dat (.int .i64) n_1 []] none K =
  zm1 s_0 n_1 (fun a0 => K [.dat .bool a0 []] none) := by kernel_rfl
theorem z26p (R : Type) (s_0 : Zt5) (n_1 : Int) (K : Kf_ R) : evFn Q37_E (Tb86 R) FUEL Tryz.f156 Q37_c [.dat (.pair (.int .u64) (.pair (.int .u64) .unit)) s_0 [], .dat (.int .i64) n_1 []] none K = (Q37 s_0 n_1).bind fun r => K [.dat .bool r []] none := by
  rw [Q37_t]
  simp only [Q37, z1eb, z8, z6, zd, z7, ze, zc, Sum.elim_inl, Sum.elim_inr]
def Q37_g : Pure := fun R l b K => noBox b (args2 (.pair (.int .u64) (.pair (.int .u64) .unit)) (.int .i64) l (fun x0 x1 => (Q37 x0 x1).bind fun r => K [.dat .bool r []] none))
theorem Q37_n : Q37_g.Nat := fun R S l b F G K h => zh (zq fun _ _ => zg fun _ => h _ _)
def Tb87 : Funs := Tb86.add 156 [(.pair (.int .u64) (.pair (.int .u64) .unit)), (.int .i64)] Q37_g
theorem z1bk : Tb87.Nat := zl z16p Q37_n
theorem z1rl : ∀ f, Owes Tryz.prog Tb87 f := zk (E := Q37_E) (Tab.env_ok zm _ _ _ _) mixed z16p z1o4 (fn := Tryz.f156) (code := Q37_c) Tryz.func156 (by kernel_rfl) (by kernel_rfl) fun l b r b' h => by
  obtain ⟨rfl, h⟩ := zf h
  obtain ⟨x0, x1, h1, h2⟩ := own2 (E := Q37_E) rfl h
  exact ⟨FUEL, (h2 _ _ _ _ _ _).trans ((z26p _ x0 x1 _).trans h1)⟩
noncomputable abbrev Q36_c : Code := Tryz.f157.body.getD .skip
def Q36_E : Env := tab.env (fun _ => []) (fun _ => []) [] [(.pair (.int .u64) (.pair (.int .u64) .unit))]
theorem Q36_t (R : Type) (kk : Nat) (s_0 : Zt5) (K : Kf_ R) : evFn Q36_E (Tb87 R) kk Tryz.f157 Q36_c [.dat (.pair (.int .u64) (.pair (.int .u64) .unit)) s_0 []] none K =
  zq9 s_0 (fun a0 a1 => K [.dat (.int .u64) a0 [], .dat (.int .u64) a1 []] none) := by kernel_rfl
theorem z235 (R : Type) (s_0 : Zt5) (K : Kf_ R) : evFn Q36_E (Tb87 R) FUEL Tryz.f157 Q36_c [.dat (.pair (.int .u64) (.pair (.int .u64) .unit)) s_0 []] none K = (Q36 s_0).bind fun r => K [.dat (.int .u64) r.1 [], .dat (.int .u64) r.2 []] none := by
  rw [Q36_t]
  simp only [Q36, z1dq, z8, z6, zd, z7, ze, zc, Sum.elim_inl, Sum.elim_inr]
def Q36_g : Pure := fun R l b K => noBox b (args1 (.pair (.int .u64) (.pair (.int .u64) .unit)) l (fun x0 => (Q36 x0).bind fun r => K [.dat (.int .u64) r.1 [], .dat (.int .u64) r.2 []] none))
theorem Q36_n : Q36_g.Nat := fun R S l b F G K h => zh (zp fun _ => zg fun _ => h _ _)
def Tb88 : Funs := Tb87.add 157 [(.pair (.int .u64) (.pair (.int .u64) .unit))] Q36_g
theorem z1ag : Tb88.Nat := zl z1bk Q36_n
theorem z1i7 : ∀ f, Owes Tryz.prog Tb88 f := zk (E := Q36_E) (Tab.env_ok zm _ _ _ _) mixed z1bk z1rl (fn := Tryz.f157) (code := Q36_c) Tryz.func157 (by kernel_rfl) (by kernel_rfl) fun l b r b' h => by
  obtain ⟨rfl, h⟩ := zf h
  obtain ⟨x0, h1, h2⟩ := own1 (E := Q36_E) rfl h
  exact ⟨FUEL, (h2 _ _ _ _ _ _).trans ((z235 _ x0 _).trans h1)⟩
noncomputable abbrev Q8_c : Code := Tryz.f158.body.getD .skip
def Q8_E : Env := tab.env (fun i => bif Nat.beq i 3 then [0, 2, 3, 5] else []) (fun i => bif Nat.beq i 3 then [2, 3] else []) [2] [(.int .u64)]
def Q8_h0 (x_0 : Int) (t5 : Int) (bt2 : (List Int)) (bt3 : (List Int)) : State := ⟨[.dat (.int .u64) x_0 []]::(uS 1 ([.ptr 3 (.arr 8 (.int .u8)) []]::[.ptr 4 (.arr 8 (.int .u8)) []]::(uS 1 ([.dat (.int .i64) t5 []]::(uS 12 ([])))))), nS 3 ((some ⟨(.arr 8 (.int .u8)), bt2, []⟩)::(some ⟨(.arr 8 (.int .u8)), bt3, []⟩)::(nS 14 ([])))⟩
def z11z (bt2 : (List Int)) (bt3 : (List Int)) : State := ⟨uS 2 ([.ptr 3 (.arr 8 (.int .u8)) []]::[.ptr 4 (.arr 8 (.int .u8)) []]::(uS 14 ([]))), nS 3 ((some ⟨(.arr 8 (.int .u8)), bt2, []⟩)::(some ⟨(.arr 8 (.int .u8)), bt3, []⟩)::(nS 14 ([])))⟩
theorem Q8_t (R : Type) (kk : Nat) (x_0 : Int) (K : Kf_ R) : evFn Q8_E (Tb88 R) kk Tryz.f158 Q8_c [.dat (.int .u64) x_0 []] none K =
  Q8_s0 x_0 (fun a0 a1 a2 a3 => loopR (ev Q8_E (Tb88 R) kk (sub [1, 1, 0, 1, 0, 0] Q8_c)) [0, 2, 3, 5] [2, 3] kk (Q8_h0 a0 a1 a2 a3) (zi 0 (kSeq Q8_E (Tb88 R) kk (sub [1, 1, 1] Q8_c) (kFin Q8_E Tryz.f158.results.toList none K)))) := by kernel_rfl
theorem Q8_d0 (R : Type) (kk k : Nat) (x_0 : Int) (t5 : Int) (bt2 : (List Int)) (bt3 : (List Int)) (K : Kx_ R) : loopR (ev Q8_E (Tb88 R) kk (sub [1, 1, 0, 1, 0, 0] Q8_c)) [0, 2, 3, 5] [2, 3] (k + 1) (Q8_h0 x_0 t5 bt2 bt3) K =
  Q8_s1 x_0 t5 bt2 bt3 (fun a0 a1 a2 a3 => loopR (ev Q8_E (Tb88 R) kk (sub [1, 1, 0, 1, 0, 0] Q8_c)) [0, 2, 3, 5] [2, 3] k (Q8_h0 a0 a1 a2 a3) K) (fun a0 a1 => K (.exit 0) (z11z a0 a1)) := by kernel_rfl
theorem z21r (R : Type) (kk : Nat) (bt2 : (List Int)) (bt3 : (List Int)) (K : Kf_ R) : (zi 0 (kSeq Q8_E (Tb88 R) kk (sub [1, 1, 1] Q8_c) (kFin Q8_E Tryz.f158.results.toList none K))) (.exit 0) (z11z bt2 bt3) =
  Q8_s2 bt2 bt3 (fun a0 => K [.dat (.arr 8 (.int .u8)) a0 []] none) := by kernel_rfl
theorem z267 (R : Type) (k : Nat) (x_0 : Int) (t5 : Int) (bt2 : (List Int)) (bt3 : (List Int)) (K : Kx_ R) : loopR (ev Q8_E (Tb88 R) FUEL (sub [1, 1, 0, 1, 0, 0] Q8_c)) [0, 2, 3, 5] [2, 3] k (Q8_h0 x_0 t5 bt2 bt3) K = (Q8_l0 k x_0 t5 bt2 bt3).bind fun e => K (.exit 0) (z11z e.1 e.2) := by
  induction k generalizing x_0 t5 bt2 bt3 with
  | zero => rfl
  | succ k ih =>
    rw [Q8_d0]
    simp only [Q8_l0, zyh, z10u, zzs, ih, z8, z6, zd, z7, ze, zc, Sum.elim_inl, Sum.elim_inr]
theorem Q8_eq (R : Type) (x_0 : Int) (K : Kf_ R) : evFn Q8_E (Tb88 R) FUEL Tryz.f158 Q8_c [.dat (.int .u64) x_0 []] none K = (Q8 x_0).bind fun r => K [.dat (.arr 8 (.int .u8)) r []] none := by
  rw [Q8_t]
  simp only [Q8, zyh, z10u, zzs, z267, z21r, z8, z6, zd, z7, ze, zc, Sum.elim_inl, Sum.elim_inr]
def Q8_g : Pure := fun R l b K => noBox b (args1 (.int .u64) l (fun x0 => (Q8 x0).bind fun r => K [.dat (.arr 8 (.int .u8)) r []] none))
theorem Q8_n : Q8_g.Nat := fun R S l b F G K h => zh (zp fun _ => zg fun _ => h _ _)
def Tb89 : Funs := Tb88.add 158 [(.int .u64)] Q8_g
theorem z16m : Tb89.Nat := zl z1ag Q8_n
theorem z1nt : ∀ f, Owes Tryz.prog Tb89 f := zk (E := Q8_E) (Tab.env_ok zm _ _ _ _) mixed z1ag z1i7 (fn := Tryz.f158) (code := Q8_c) Tryz.func158 (by kernel_rfl) (by kernel_rfl) fun l b r b' h => by
  obtain ⟨rfl, h⟩ := zf h
  obtain ⟨x0, h1, h2⟩ := own1 (E := Q8_E) rfl h
  exact ⟨FUEL, (h2 _ _ _ _ _ _).trans ((Q8_eq _ x0 _).trans h1)⟩
noncomputable abbrev z77 : Code := Tryz.f159.body.getD .skip
def z3r : Env := tab.env (fun i => bif Nat.beq i 3 then [0, 3, 4] else []) (fun i => bif Nat.beq i 3 then [3] else []) [] [.str]
def zum (s_0 : ByteArray) (t3 : (List Int)) (t4 : Int) : State := ⟨[.dat .str s_0 []]::(uS 2 ([.dat (.sl 5 (.int .u8)) t3 [[]]]::[.dat (.int .i64) t4 []]::(uS 25 ([])))), nS 31 []⟩
def zrt (t3 : (List Int)) : State := ⟨uS 3 ([.dat (.sl 5 (.int .u8)) t3 [[]]]::(uS 26 ([]))), nS 31 []⟩
theorem z24n (R : Type) (kk : Nat) (s_0 : ByteArray) (K : Kf_ R) : evFn z3r (Tb89 R) kk Tryz.f159 z77 [.dat .str s_0 []] none K =
  zgs s_0 (fun a0 a1 a2 => loopR (ev z3r (Tb89 R) kk (sub [1, 1, 0, 1, 0, 0] z77)) [0, 3, 4] [3] kk (zum a0 a1 a2) (zi 0 (kSeq z3r (Tb89 R) kk (sub [1, 1, 1] z77) (kFin z3r Tryz.f159.results.toList none K)))) := by kernel_rfl
theorem z218 (R : Type) (kk k : Nat) (s_0 : ByteArray) (t3 : (List Int)) (t4 : Int) (K : Kx_ R) : loopR (ev z3r (Tb89 R) kk (sub [1, 1, 0, 1, 0, 0] z77)) [0, 3, 4] [3] (k + 1) (zum s_0 t3 t4) K =
  zg4 s_0 t3 t4 (fun a0 a1 a2 => loopR (ev z3r (Tb89 R) kk (sub [1, 1, 0, 1, 0, 0] z77)) [0, 3, 4] [3] k (zum a0 a1 a2) K) (fun a0 => K (.exit 0) (zrt a0)) := by kernel_rfl
theorem z1sl (R : Type) (kk : Nat) (t3 : (List Int)) (K : Kf_ R) : (zi 0 (kSeq z3r (Tb89 R) kk (sub [1, 1, 1] z77) (kFin z3r Tryz.f159.results.toList none K))) (.exit 0) (zrt t3) =
  zgh t3 (fun a0 => K [.dat .str a0 []] none) := by kernel_rfl
theorem z1w6 (R : Type) (k : Nat) (s_0 : ByteArray) (t3 : (List Int)) (t4 : Int) (K : Kx_ R) : loopR (ev z3r (Tb89 R) FUEL (sub [1, 1, 0, 1, 0, 0] z77)) [0, 3, 4] [3] k (zum s_0 t3 t4) K = (zvr k s_0 t3 t4).bind fun e => K (.exit 0) (zrt e) := by
  induction k generalizing s_0 t3 t4 with
  | zero => rfl
  | succ k ih =>
    rw [z218]
    simp only [zvr, zqy, zmt, ztb, ih, z8, z6, zd, z7, ze, zc, Sum.elim_inl, Sum.elim_inr]
theorem z1xu (R : Type) (s_0 : ByteArray) (K : Kf_ R) : evFn z3r (Tb89 R) FUEL Tryz.f159 z77 [.dat .str s_0 []] none K = (Q204 s_0).bind fun r => K [.dat .str r []] none := by
  rw [z24n]
  simp only [Q204, zqy, zmt, ztb, z1w6, z1sl, z8, z6, zd, z7, ze, zc, Sum.elim_inl, Sum.elim_inr]
def z1l9 : Pure := fun R l b K => noBox b (args1 .str l (fun x0 => (Q204 x0).bind fun r => K [.dat .str r []] none))
theorem z231 : z1l9.Nat := fun R S l b F G K h => zh (zp fun _ => zg fun _ => h _ _)
def Tb90 : Funs := Tb89.add 159 [.str] z1l9
theorem z1a6 : Tb90.Nat := zl z16m z231
theorem z1ls : ∀ f, Owes Tryz.prog Tb90 f := zk (E := z3r) (Tab.env_ok zm _ _ _ _) mixed z16m z1nt (fn := Tryz.f159) (code := z77) Tryz.func159 (by kernel_rfl) (by kernel_rfl) fun l b r b' h => by
  obtain ⟨rfl, h⟩ := zf h
  obtain ⟨x0, h1, h2⟩ := own1 (E := z3r) rfl h
  exact ⟨FUEL, (h2 _ _ _ _ _ _).trans ((z1xu _ x0 _).trans h1)⟩
noncomputable abbrev Q6_c : Code := Tryz.f100.body.getD .skip
def Q6_E : Env := tab.env (fun _ => []) (fun _ => []) [] [(.int .i64), (.pair (.int .u64) (.pair (.int .u64) .unit))]
theorem Q6_t (R : Type) (kk : Nat) (style_0 : Int) (s_1 : Zt5) (K : Kf_ R) : evFn Q6_E (Tb90 R) kk Tryz.f100 Q6_c [.dat (.int .i64) style_0 [], .dat (.pair (.int .u64) (.pair (.int .u64) .unit)) s_1 []] none K =
  Q6_s0 style_0 s_1 (fun a0 a1 => K [.dat .str a0 [], .dat (.int .i64) a1 []] none) := by kernel_rfl
theorem Q6_eq (R : Type) (style_0 : Int) (s_1 : Zt5) (K : Kf_ R) : evFn Q6_E (Tb90 R) FUEL Tryz.f100 Q6_c [.dat (.int .i64) style_0 [], .dat (.pair (.int .u64) (.pair (.int .u64) .unit)) s_1 []] none K = (Q6 style_0 s_1).bind fun r => K [.dat .str r.1 [], .dat (.int .i64) r.2 []] none := by
  rw [Q6_t]
  simp only [Q6, z1gm, z8, z6, zd, z7, ze, zc, Sum.elim_inl, Sum.elim_inr]
def Q6_g : Pure := fun R l b K => noBox b (args2 (.int .i64) (.pair (.int .u64) (.pair (.int .u64) .unit)) l (fun x0 x1 => (Q6 x0 x1).bind fun r => K [.dat .str r.1 [], .dat (.int .i64) r.2 []] none))
theorem Q6_n : Q6_g.Nat := fun R S l b F G K h => zh (zq fun _ _ => zg fun _ => h _ _)
def Tb91 : Funs := Tb90.add 100 [(.int .i64), (.pair (.int .u64) (.pair (.int .u64) .unit))] Q6_g
theorem z18j : Tb91.Nat := zl z1a6 Q6_n
theorem z1pk : ∀ f, Owes Tryz.prog Tb91 f := zk (E := Q6_E) (Tab.env_ok zm _ _ _ _) mixed z1a6 z1ls (fn := Tryz.f100) (code := Q6_c) Tryz.func100 (by kernel_rfl) (by kernel_rfl) fun l b r b' h => by
  obtain ⟨rfl, h⟩ := zf h
  obtain ⟨x0, x1, h1, h2⟩ := own2 (E := Q6_E) rfl h
  exact ⟨FUEL, (h2 _ _ _ _ _ _).trans ((Q6_eq _ x0 x1 _).trans h1)⟩
noncomputable abbrev Q31_c : Code := Tryz.f201.body.getD .skip
def Q31_E : Env := tab.env (fun i => bif Nat.beq i 5 then [0, 6, 7, 19] else []) (fun i => bif Nat.beq i 5 then [0, 6, 19] else []) [] [(.int .i64), (.int .i64)]
def zyq (n_0 : Int) (nt6 : Nat) (t7 : Int) (nt19 : Nat) (bt19 : (List Int)) : State := ⟨[.dat (.int .i64) n_0 []]::(uS 5 ([.ptr 20 (.spc (.hdr nt6) (.int .u8) .unit) []]::[.dat (.int .i64) t7 []]::(uS 11 ([.ptr 20 (.spc (.hdr nt19) (.int .u8) .unit) []]::(uS 19 ([])))))), nS 20 ((some ⟨(.spc .row (.int .u8) .unit), bt19, []⟩)::(nS 19 ([])))⟩
def zxt (n_0 : Int) (nt6 : Nat) (nt19 : Nat) (bt19 : (List Int)) : State := ⟨[.dat (.int .i64) n_0 []]::(uS 5 ([.ptr 20 (.spc (.hdr nt6) (.int .u8) .unit) []]::(uS 12 ([.ptr 20 (.spc (.hdr nt19) (.int .u8) .unit) []]::(uS 19 ([])))))), nS 20 ((some ⟨(.spc .row (.int .u8) .unit), bt19, []⟩)::(nS 19 ([])))⟩
theorem Q31_t (R : Type) (kk : Nat) (n_0 : Int) (width_1 : Int) (K : Kf_ R) : evFn Q31_E (Tb91 R) kk Tryz.f201 Q31_c [.dat (.int .i64) n_0 [], .dat (.int .i64) width_1 []] none K =
  zt2 n_0 width_1 (fun a0 a1 => K [.dat .str a0 [], .dat .bool a1 []] none) (fun a0 a1 a2 a3 a4 => loopR (ev Q31_E (Tb91 R) kk (sub [1, 1, 1, 0, 1, 0, 0] Q31_c)) [0, 6, 7, 19] [0, 6, 19] kk (zyq a0 a1 a2 a3 a4) (zi 0 (kSeq Q31_E (Tb91 R) kk (sub [1, 1, 1, 1] Q31_c) (kFin Q31_E Tryz.f201.results.toList none K)))) := by kernel_rfl
theorem z2a8 (R : Type) (kk k : Nat) (n_0 : Int) (nt6 : Nat) (t7 : Int) (nt19 : Nat) (bt19 : (List Int)) (K : Kx_ R) : loopR (ev Q31_E (Tb91 R) kk (sub [1, 1, 1, 0, 1, 0, 0] Q31_c)) [0, 6, 7, 19] [0, 6, 19] (k + 1) (zyq n_0 nt6 t7 nt19 bt19) K =
  zs9 n_0 nt6 t7 nt19 bt19 (fun a0 a1 a2 a3 a4 => loopR (ev Q31_E (Tb91 R) kk (sub [1, 1, 1, 0, 1, 0, 0] Q31_c)) [0, 6, 7, 19] [0, 6, 19] k (zyq a0 a1 a2 a3 a4) K) (fun a0 a1 a2 a3 => K (.exit 0) (zxt a0 a1 a2 a3)) := by kernel_rfl
theorem z1wj (R : Type) (kk : Nat) (n_0 : Int) (nt6 : Nat) (nt19 : Nat) (bt19 : (List Int)) (K : Kf_ R) : (zi 0 (kSeq Q31_E (Tb91 R) kk (sub [1, 1, 1, 1] Q31_c) (kFin Q31_E Tryz.f201.results.toList none K))) (.exit 0) (zxt n_0 nt6 nt19 bt19) =
  zqp n_0 nt6 nt19 bt19 (fun a0 a1 => K [.dat .str a0 [], .dat .bool a1 []] none) := by kernel_rfl
theorem z1xt (R : Type) (k : Nat) (n_0 : Int) (nt6 : Nat) (t7 : Int) (nt19 : Nat) (bt19 : (List Int)) (K : Kx_ R) : loopR (ev Q31_E (Tb91 R) FUEL (sub [1, 1, 1, 0, 1, 0, 0] Q31_c)) [0, 6, 7, 19] [0, 6, 19] k (zyq n_0 nt6 t7 nt19 bt19) K = (z11e k n_0 nt6 t7 nt19 bt19).bind fun e => K (.exit 0) (zxt e.1 e.2.1 e.2.2.1 e.2.2.2) := by
  induction k generalizing n_0 nt6 t7 nt19 bt19 with
  | zero => rfl
  | succ k ih =>
    rw [z2a8]
    simp only [z11e, zx9, zwm, zwi, ih, z8, z6, zd, z7, ze, zc, Sum.elim_inl, Sum.elim_inr]
theorem z26l (R : Type) (n_0 : Int) (width_1 : Int) (K : Kf_ R) : evFn Q31_E (Tb91 R) FUEL Tryz.f201 Q31_c [.dat (.int .i64) n_0 [], .dat (.int .i64) width_1 []] none K = (Q31 n_0 width_1).bind fun r => K [.dat .str r.1 [], .dat .bool r.2 []] none := by
  rw [Q31_t]
  simp only [Q31, zx9, zwm, zwi, z1xt, z1wj, z8, z6, zd, z7, ze, zc, Sum.elim_inl, Sum.elim_inr]
def Q31_g : Pure := fun R l b K => noBox b (args2 (.int .i64) (.int .i64) l (fun x0 x1 => (Q31 x0 x1).bind fun r => K [.dat .str r.1 [], .dat .bool r.2 []] none))
theorem Q31_n : Q31_g.Nat := fun R S l b F G K h => zh (zq fun _ _ => zg fun _ => h _ _)
def Tb92 : Funs := Tb91.add 201 [(.int .i64), (.int .i64)] Q31_g
theorem z1bp : Tb92.Nat := zl z18j Q31_n
theorem z1iu : ∀ f, Owes Tryz.prog Tb92 f := zk (E := Q31_E) (Tab.env_ok zm _ _ _ _) mixed z18j z1pk (fn := Tryz.f201) (code := Q31_c) Tryz.func201 (by kernel_rfl) (by kernel_rfl) fun l b r b' h => by
  obtain ⟨rfl, h⟩ := zf h
  obtain ⟨x0, x1, h1, h2⟩ := own2 (E := Q31_E) rfl h
  exact ⟨FUEL, (h2 _ _ _ _ _ _).trans ((z26l _ x0 x1 _).trans h1)⟩
noncomputable abbrev z198 : Code := Tryz.f161.body.getD .skip
def z114 : Env := tab.env (fun _ => []) (fun _ => []) [] [(.int .i64), (.int .i64), (.int .i64)]
theorem z23p (R : Type) (kk : Nat) (style_0 : Int) (form_1 : Int) (n_2 : Int) (K : Kf_ R) : evFn z114 (Tb92 R) kk Tryz.f161 z198 [.dat (.int .i64) style_0 [], .dat (.int .i64) form_1 [], .dat (.int .i64) n_2 []] none K =
  zff style_0 form_1 n_2 (fun a0 a1 => K [.dat .str a0 [], .dat (.int .i64) a1 []] none) := by kernel_rfl
theorem z21c (R : Type) (style_0 : Int) (form_1 : Int) (n_2 : Int) (K : Kf_ R) : evFn z114 (Tb92 R) FUEL Tryz.f161 z198 [.dat (.int .i64) style_0 [], .dat (.int .i64) form_1 [], .dat (.int .i64) n_2 []] none K = (Q228 style_0 form_1 n_2).bind fun r => K [.dat .str r.1 [], .dat (.int .i64) r.2 []] none := by
  rw [z23p]
  simp only [Q228, z16s, z8, z6, zd, z7, ze, zc, Sum.elim_inl, Sum.elim_inr]
def z1j8 : Pure := fun R l b K => noBox b (args3 (.int .i64) (.int .i64) (.int .i64) l (fun x0 x1 x2 => (Q228 x0 x1 x2).bind fun r => K [.dat .str r.1 [], .dat (.int .i64) r.2 []] none))
theorem z28z : z1j8.Nat := fun R S l b F G K h => zh (z17 fun _ _ _ => zg fun _ => h _ _)
def Tb93 : Funs := Tb92.add 161 [(.int .i64), (.int .i64), (.int .i64)] z1j8
theorem z1cn : Tb93.Nat := zl z1bp z28z
theorem z1kb : ∀ f, Owes Tryz.prog Tb93 f := zk (E := z114) (Tab.env_ok zm _ _ _ _) mixed z1bp z1iu (fn := Tryz.f161) (code := z198) Tryz.func161 (by kernel_rfl) (by kernel_rfl) fun l b r b' h => by
  obtain ⟨rfl, h⟩ := zf h
  obtain ⟨x0, x1, x2, h1, h2⟩ := own3 (E := z114) rfl h
  exact ⟨FUEL, (h2 _ _ _ _ _ _).trans ((z21c _ x0 x1 x2 _).trans h1)⟩
noncomputable abbrev Q12_c : Code := Tryz.f102.body.getD .skip
def Q12_E : Env := tab.env (fun _ => []) (fun _ => []) [] [(.int .i64), y9, .str]
theorem Q12_t (R : Type) (kk : Nat) (style_0 : Int) (s_1 : Zt13) (text_2 : ByteArray) (K : Kf_ R) : evFn Q12_E (Tb93 R) kk Tryz.f102 Q12_c [.dat (.int .i64) style_0 [], .dat y9 s_1 [], .dat .str text_2 []] none K =
  zti style_0 s_1 text_2 (fun a0 a1 => K [.dat .str a0 [], .dat (.int .i64) a1 []] none) := by kernel_rfl
theorem z25a (R : Type) (style_0 : Int) (s_1 : Zt13) (text_2 : ByteArray) (K : Kf_ R) : evFn Q12_E (Tb93 R) FUEL Tryz.f102 Q12_c [.dat (.int .i64) style_0 [], .dat y9 s_1 [], .dat .str text_2 []] none K = (Q12 style_0 s_1 text_2).bind fun r => K [.dat .str r.1 [], .dat (.int .i64) r.2 []] none := by
  rw [Q12_t]
  simp only [Q12, z1dp, z8, z6, zd, z7, ze, zc, Sum.elim_inl, Sum.elim_inr]
def Q12_g : Pure := fun R l b K => noBox b (args3 (.int .i64) y9 .str l (fun x0 x1 x2 => (Q12 x0 x1 x2).bind fun r => K [.dat .str r.1 [], .dat (.int .i64) r.2 []] none))
theorem Q12_n : Q12_g.Nat := fun R S l b F G K h => zh (z17 fun _ _ _ => zg fun _ => h _ _)
def Tb94 : Funs := Tb93.add 102 [(.int .i64), y9, .str] Q12_g
theorem z1vb : Tb94.Nat := zl z1cn Q12_n
theorem z1m7 : ∀ f, Owes Tryz.prog Tb94 f := zk (E := Q12_E) (Tab.env_ok zm _ _ _ _) mixed z1cn z1kb (fn := Tryz.f102) (code := Q12_c) Tryz.func102 (by kernel_rfl) (by kernel_rfl) fun l b r b' h => by
  obtain ⟨rfl, h⟩ := zf h
  obtain ⟨x0, x1, x2, h1, h2⟩ := own3 (E := Q12_E) rfl h
  exact ⟨FUEL, (h2 _ _ _ _ _ _).trans ((z25a _ x0 x1 x2 _).trans h1)⟩
def Tryz.lays169_ren : Go.Shelf.Ren := ⟨fun | 169 => 103 | n => n, fun | 70 => 144 | 9 => 9 | 0 => 0 | 72 => 147 | 37 => 145 | 127 => 217 | 3 => 3 | 5 => 5 | n => n, fun n => n⟩
theorem Tryz.lays169 : Go.Proofs.Lays.n169 Go.Proofs.Tryz.prog Tryz.lays169_ren := {
  mixed := by kernel_rfl,
  f169 := Go.Proofs.Tryz.func103.trans (congrArg some (by kernel_rfl)),
  t0 := Go.Proofs.Tryz.underlying0,
  a0 := Go.Proofs.Tryz.isAgg0,
  z0 := Go.Proofs.Tryz.sizeOf0,
  v0 := Go.Proofs.Tryz.zeroValue0,
  t3 := Go.Proofs.Tryz.underlying3,
  a3 := Go.Proofs.Tryz.isAgg3,
  z3 := Go.Proofs.Tryz.sizeOf3,
  v3 := Go.Proofs.Tryz.zeroValue3,
  t9 := Go.Proofs.Tryz.underlying9,
  a9 := Go.Proofs.Tryz.isAgg9,
  z9 := Go.Proofs.Tryz.sizeOf9,
  v9 := Go.Proofs.Tryz.zeroValue9,
  t37 := Go.Proofs.Tryz.underlying145,
  a37 := Go.Proofs.Tryz.isAgg145,
  z37 := Go.Proofs.Tryz.sizeOf145,
  v37 := Go.Proofs.Tryz.zeroValue145,
  t70 := Go.Proofs.Tryz.underlying144,
  a70 := Go.Proofs.Tryz.isAgg144,
  z70 := Go.Proofs.Tryz.sizeOf144,
  v70 := Go.Proofs.Tryz.zeroValue144,
  t72 := Go.Proofs.Tryz.underlying147,
  a72 := Go.Proofs.Tryz.isAgg147,
  z72 := Go.Proofs.Tryz.sizeOf147,
  v72 := Go.Proofs.Tryz.zeroValue147,
  t127 := Go.Proofs.Tryz.underlying217,
  a127 := Go.Proofs.Tryz.isAgg217,
  z127 := Go.Proofs.Tryz.sizeOf217,
  v127 := Go.Proofs.Tryz.zeroValue217 }
theorem Tryz.extra169 : Go.Proofs.Builder.Extra Go.Proofs.Tryz.prog Tryz.lays169_ren := {
  sizeBuilder := by kernel_rfl,
  liesBuilder := by kernel_rfl,
  t5 := Go.Proofs.Tryz.underlying5,
  a5 := Go.Proofs.Tryz.isAgg5,
  z5 := Go.Proofs.Tryz.sizeOf5,
  v5 := Go.Proofs.Tryz.zeroValue5,
  infoByte := by kernel_rfl,
  cellsByte := by kernel_rfl,
  sizeByte := by kernel_rfl,
  neB5 := by decide }
noncomputable abbrev zd0 : Code := Tryz.f103.body.getD .skip
theorem z9a : Ent Tryz.prog 103 := ⟨Tryz.f103, zd0, Tryz.func103, by kernel_rfl, by kernel_rfl⟩
def Tb95 : Funs := Tb94.add 103 [] (zl5 147 5)
theorem z161 : Tb95.Nat := zl z1vb (z27u _ _)
theorem z1q0 : ∀ f, Owes Tryz.prog Tb95 f := z1kw z1m7 z9a Tryz.lays169 Tryz.extra169 rfl rfl rfl
noncomputable abbrev z6s : Code := Tryz.f38.body.getD .skip
def z41 : Env := { tab.env (fun i => bif Nat.beq i 11 then [2, 5, 7, 8, 50, 51, 52] else []) (fun i => bif Nat.beq i 11 then [5, 7] else []) [5] [y15, y5] with bl := fun t => bif Nat.beq t 147 then some 5 else none }
def zvp (t50 : Zt11) (t51 : Int) (t52 : Int) (bt2 : Zt18) (bt5 : Zt5) (bt7 : ByteArray) : State := ⟨uS 2 ([.ptr 3 y15 []]::(uS 2 ([.ptr 6 (.pair (.int .i64) (.pair (.int .i64) .unit)) []]::(uS 1 ([.ptr 8 (.spc (.bld 147 5) .unit .unit) []]::[.ptr 8 (.spc (.clo 97) (.spc (.bld 147 5) .unit .unit) .unit) []]::(uS 41 ([.dat (.sl 90 (.pair (.int .i64) (.pair .str .unit))) t50 []]::[.dat (.int .i64) t51 []]::[.dat (.int .i64) t52 []]::(uS 25 ([]))))))))), nS 3 ((some ⟨y15, bt2, []⟩)::(nS 2 ((some ⟨(.pair (.int .i64) (.pair (.int .i64) .unit)), bt5, []⟩)::(nS 1 ((some ⟨(.spc (.bld 147 5) .unit .unit), bt7, [[]]⟩)::(nS 70 ([])))))))⟩
def zmx (bt5 : Zt5) (bt7 : ByteArray) : State := ⟨uS 5 ([.ptr 6 (.pair (.int .i64) (.pair (.int .i64) .unit)) []]::(uS 1 ([.ptr 8 (.spc (.bld 147 5) .unit .unit) []]::(uS 70 ([]))))), nS 6 ((some ⟨(.pair (.int .i64) (.pair (.int .i64) .unit)), bt5, []⟩)::(nS 1 ((some ⟨(.spc (.bld 147 5) .unit .unit), bt7, [[]]⟩)::(nS 70 ([])))))⟩
theorem z26g (R : Type) (kk : Nat) (s_0 : Zt18) (m_1 : Zt17) (K : Kf_ R) : evFn z41 (Tb95 R) kk Tryz.f38 z6s [.dat y15 s_0 [], .dat y5 m_1 []] none K =
  ziv s_0 m_1 (fun a0 a1 => K [.dat .str a0 [], .dat (.pair (.int .i64) (.pair (.int .i64) .unit)) a1 []] none) (fun a0 a1 a2 a3 a4 a5 => loopR (ev z41 (Tb95 R) kk (sub [1, 1, 1, 1, 1, 1, 1, 1, 0, 1, 0, 0] z6s)) [2, 5, 7, 8, 50, 51, 52] [5, 7] kk (zvp a0 a1 a2 a3 a4 a5) (zi 0 (kSeq z41 (Tb95 R) kk (sub [1, 1, 1, 1, 1, 1, 1, 1, 1] z6s) (kFin z41 Tryz.f38.results.toList none K)))) := by kernel_rfl
theorem z21t (R : Type) (kk k : Nat) (t50 : Zt11) (t51 : Int) (t52 : Int) (bt2 : Zt18) (bt5 : Zt5) (bt7 : ByteArray) (K : Kx_ R) : loopR (ev z41 (Tb95 R) kk (sub [1, 1, 1, 1, 1, 1, 1, 1, 0, 1, 0, 0] z6s)) [2, 5, 7, 8, 50, 51, 52] [5, 7] (k + 1) (zvp t50 t51 t52 bt2 bt5 bt7) K =
  zh3 t50 t51 t52 bt2 bt5 bt7 (fun a0 a1 a2 a3 a4 a5 => loopR (ev z41 (Tb95 R) kk (sub [1, 1, 1, 1, 1, 1, 1, 1, 0, 1, 0, 0] z6s)) [2, 5, 7, 8, 50, 51, 52] [5, 7] k (zvp a0 a1 a2 a3 a4 a5) K) (fun a0 a1 => K (.exit 0) (zmx a0 a1)) := by kernel_rfl
theorem z1oc (R : Type) (kk : Nat) (bt5 : Zt5) (bt7 : ByteArray) (K : Kf_ R) : (zi 0 (kSeq z41 (Tb95 R) kk (sub [1, 1, 1, 1, 1, 1, 1, 1, 1] z6s) (kFin z41 Tryz.f38.results.toList none K))) (.exit 0) (zmx bt5 bt7) =
  ze0 bt5 bt7 (fun a0 a1 => K [.dat .str a0 [], .dat (.pair (.int .i64) (.pair (.int .i64) .unit)) a1 []] none) := by kernel_rfl
theorem z1v5 (R : Type) (k : Nat) (t50 : Zt11) (t51 : Int) (t52 : Int) (bt2 : Zt18) (bt5 : Zt5) (bt7 : ByteArray) (K : Kx_ R) : loopR (ev z41 (Tb95 R) FUEL (sub [1, 1, 1, 1, 1, 1, 1, 1, 0, 1, 0, 0] z6s)) [2, 5, 7, 8, 50, 51, 52] [5, 7] k (zvp t50 t51 t52 bt2 bt5 bt7) K = (zvl k t50 t51 t52 bt2 bt5 bt7).bind fun e => K (.exit 0) (zmx e.1 e.2) := by
  induction k generalizing t50 t51 t52 bt2 bt5 bt7 with
  | zero => rfl
  | succ k ih =>
    rw [z21t]
    simp only [zvl, zo9, zri, zs1, ih, z8, z6, zd, z7, ze, zc, Sum.elim_inl, Sum.elim_inr]
theorem z1yo (R : Type) (s_0 : Zt18) (m_1 : Zt17) (K : Kf_ R) : evFn z41 (Tb95 R) FUEL Tryz.f38 z6s [.dat y15 s_0 [], .dat y5 m_1 []] none K = (Q285 s_0 m_1).bind fun r => K [.dat .str r.1 [], .dat (.pair (.int .i64) (.pair (.int .i64) .unit)) r.2 []] none := by
  rw [z26g]
  simp only [Q285, zo9, zri, zs1, z1v5, z1oc, z8, z6, zd, z7, ze, zc, Sum.elim_inl, Sum.elim_inr]
def z1st : Pure := fun R l b K => noBox b (args2 y15 y5 l (fun x0 x1 => (Q285 x0 x1).bind fun r => K [.dat .str r.1 [], .dat (.pair (.int .i64) (.pair (.int .i64) .unit)) r.2 []] none))
theorem z27w : z1st.Nat := fun R S l b F G K h => zh (zq fun _ _ => zg fun _ => h _ _)
def Tb96 : Funs := Tb95.add 38 [y15, y5] z1st
theorem z1dm : Tb96.Nat := zl z161 z27w
theorem z1qb : ∀ f, Owes Tryz.prog Tb96 f := zk (E := z41) ((Tab.env_ok zm _ _ _ _).bld 147 5 (by kernel_rfl)) mixed z161 z1q0 (fn := Tryz.f38) (code := z6s) Tryz.func38 (by kernel_rfl) (by kernel_rfl) fun l b r b' h => by
  obtain ⟨rfl, h⟩ := zf h
  obtain ⟨x0, x1, h1, h2⟩ := own2 (E := z41) rfl h
  exact ⟨FUEL, (h2 _ _ _ _ _ _).trans ((z1yo _ x0 x1 _).trans h1)⟩
noncomputable abbrev z18a : Code := Tryz.f36.body.getD .skip
def z11j : Env := tab.env (fun _ => []) (fun _ => []) [] [y5, (.pair (.int .i64) (.pair (.int .i64) .unit)), .unit, .unit]
theorem z24i (R : Type) (kk : Nat) (m_0 : Zt17) (f_1 : Zt5) (free_2 : Zt26) (free_3 : Zt29) (K : Kf_ R) : evFn z11j (Tb96 R) kk Tryz.f36 z18a [.dat y5 m_0 [], .dat (.pair (.int .i64) (.pair (.int .i64) .unit)) f_1 [], .view y18 free_2, .view y19 free_3] none K =
  zfm m_0 f_1 free_2 free_3 (fun a0 a1 => K [.dat (.int .i64) a0 [], .dat .str a1 []] none) := by kernel_rfl
theorem z1x3 (R : Type) (m_0 : Zt17) (f_1 : Zt5) (free_2 : Zt26) (free_3 : Zt29) (K : Kf_ R) : evFn z11j (Tb96 R) FUEL Tryz.f36 z18a [.dat y5 m_0 [], .dat (.pair (.int .i64) (.pair (.int .i64) .unit)) f_1 [], .view y18 free_2, .view y19 free_3] none K = (Q242 m_0 f_1 free_2 free_3).bind fun r => K [.dat (.int .i64) r.1 [], .dat .str r.2 []] none := by
  rw [z24i]
  simp only [Q242, z1ba, z8, z6, zd, z7, ze, zc, Sum.elim_inl, Sum.elim_inr]
def z1su : Pure := fun R l b K => noBox b (zh6 y5 (.pair (.int .i64) (.pair (.int .i64) .unit)) y18 y19 l (fun x0 x1 x2 x3 => (Q242 x0 x1 x2 x3).bind fun r => K [.dat (.int .i64) r.1 [], .dat .str r.2 []] none))
theorem z26w : z1su.Nat := fun R S l b F G K h => zh (z1fs fun _ _ _ _ => zg fun _ => h _ _)
def Tb97 : Funs := Tb96.add 36 [y5, (.pair (.int .i64) (.pair (.int .i64) .unit)), .unit, .unit] z1su
theorem z18f : Tb97.Nat := zl z1dm z26w
theorem z1kc : ∀ f, Owes Tryz.prog Tb97 f := zk (E := z11j) (Tab.env_ok zm _ _ _ _) mixed z1dm z1qb (fn := Tryz.f36) (code := z18a) Tryz.func36 (by kernel_rfl) (by kernel_rfl) fun l b r b' h => by
  obtain ⟨hb, h9⟩ := zf h
  subst hb
  obtain ⟨x0, x1, x2, x3, h1, h2⟩ := ownVV (E := z11j) (t := y5) (u := (.pair (.int .i64) (.pair (.int .i64) .unit))) (v := y18) (w := y19) rfl h9
  exact ⟨FUEL, (h2 _ _ _ _ _ _).trans ((z1x3 _ x0 x1 x2 x3 _).trans h1)⟩
noncomputable abbrev z5m : Code := Tryz.f108.body.getD .skip
def z2m : Env := tab.env (fun i => bif Nat.beq i 2 then [1, 9, 10, 11] else []) (fun i => bif Nat.beq i 2 then [4, 5] else []) [] [y16, .str]
def zuj (t_1 : ByteArray) (t9 : Zt14) (t10 : Int) (t11 : Int) : State := ⟨uS 1 ([.dat .str t_1 []]::(uS 7 ([.dat (.sl 116 (.pair .str (.pair .str .unit))) t9 []]::[.dat (.int .i64) t10 []]::[.dat (.int .i64) t11 []]::(uS 10 ([]))))), nS 23 []⟩
def zlb (t4 : ByteArray) (t5 : Bool) : State := ⟨uS 4 ([.dat .str t4 []]::[.dat .bool t5 []]::(uS 16 ([]))), nS 23 []⟩
def zoh  : State := ⟨uS 22 [], nS 23 []⟩
theorem z23y (R : Type) (kk : Nat) (m_0 : Zt24) (t_1 : ByteArray) (K : Kf_ R) : evFn z2m (Tb97 R) kk Tryz.f108 z5m [.dat y16 m_0 [], .dat .str t_1 []] none K =
  zji m_0 t_1 (fun a0 a1 a2 a3 => loopR (ev z2m (Tb97 R) kk (sub [1, 0, 1, 0, 0] z5m)) [1, 9, 10, 11] [4, 5] kk (zuj a0 a1 a2 a3) (zi 0 (kSeq z2m (Tb97 R) kk (sub [1, 1] z5m) (kFin z2m Tryz.f108.results.toList none K)))) := by kernel_rfl
theorem z1zo (R : Type) (kk k : Nat) (t_1 : ByteArray) (t9 : Zt14) (t10 : Int) (t11 : Int) (K : Kx_ R) : loopR (ev z2m (Tb97 R) kk (sub [1, 0, 1, 0, 0] z5m)) [1, 9, 10, 11] [4, 5] (k + 1) (zuj t_1 t9 t10 t11) K =
  zhm t_1 t9 t10 t11 (fun a0 a1 => K .ret (zlb a0 a1)) (fun a0 a1 a2 a3 => loopR (ev z2m (Tb97 R) kk (sub [1, 0, 1, 0, 0] z5m)) [1, 9, 10, 11] [4, 5] k (zuj a0 a1 a2 a3) K) (K (.exit 0) (zoh)) := by kernel_rfl
theorem z1n3 (R : Type) (kk : Nat) (t4 : ByteArray) (t5 : Bool) (K : Kf_ R) : (zi 0 (kSeq z2m (Tb97 R) kk (sub [1, 1] z5m) (kFin z2m Tryz.f108.results.toList none K))) .ret (zlb t4 t5) =
  zfd t4 t5 (fun a0 a1 => K [.dat .str a0 [], .dat .bool a1 []] none) := by kernel_rfl
theorem z1i0 (R : Type) (kk : Nat)  (K : Kf_ R) : (zi 0 (kSeq z2m (Tb97 R) kk (sub [1, 1] z5m) (kFin z2m Tryz.f108.results.toList none K))) (.exit 0) (zoh) =
  zis (fun a0 a1 => K [.dat .str a0 [], .dat .bool a1 []] none) := by kernel_rfl
theorem z1vd (R : Type) (k : Nat) (t_1 : ByteArray) (t9 : Zt14) (t10 : Int) (t11 : Int) (K : Kx_ R) : loopR (ev z2m (Tb97 R) FUEL (sub [1, 0, 1, 0, 0] z5m)) [1, 9, 10, 11] [4, 5] k (zuj t_1 t9 t10 t11) K = (zu0 k t_1 t9 t10 t11).bind fun e => (Sum.elim (fun (we : Zt4) => K .ret (zlb we.1 we.2)) (fun (we : Unit) => K (.exit 0) (zoh)) e) := by
  induction k generalizing t_1 t9 t10 t11 with
  | zero => rfl
  | succ k ih =>
    rw [z1zo]
    simp only [zu0, zn8, zng, zou, ztq, ih, z8, z6, zd, z7, ze, zc, Sum.elim_inl, Sum.elim_inr]
theorem z1zj (R : Type) (m_0 : Zt24) (t_1 : ByteArray) (K : Kf_ R) : evFn z2m (Tb97 R) FUEL Tryz.f108 z5m [.dat y16 m_0 [], .dat .str t_1 []] none K = (Q291 m_0 t_1).bind fun r => K [.dat .str r.1 [], .dat .bool r.2 []] none := by
  rw [z23y]
  simp only [Q291, zn8, zng, zou, ztq, z1vd, z1n3, z1i0, z8, z6, zd, z7, ze, zc, Sum.elim_inl, Sum.elim_inr]
def z1i4 : Pure := fun R l b K => noBox b (args2 y16 .str l (fun x0 x1 => (Q291 x0 x1).bind fun r => K [.dat .str r.1 [], .dat .bool r.2 []] none))
theorem z2a4 : z1i4.Nat := fun R S l b F G K h => zh (zq fun _ _ => zg fun _ => h _ _)
def Tb98 : Funs := Tb97.add 108 [y16, .str] z1i4
theorem z1b1 : Tb98.Nat := zl z18f z2a4
theorem z1k1 : ∀ f, Owes Tryz.prog Tb98 f := zk (E := z2m) (Tab.env_ok zm _ _ _ _) mixed z18f z1kc (fn := Tryz.f108) (code := z5m) Tryz.func108 (by kernel_rfl) (by kernel_rfl) fun l b r b' h => by
  obtain ⟨rfl, h⟩ := zf h
  obtain ⟨x0, x1, h1, h2⟩ := own2 (E := z2m) rfl h
  exact ⟨FUEL, (h2 _ _ _ _ _ _).trans ((z1zj _ x0 x1 _).trans h1)⟩
noncomputable abbrev z5j : Code := Tryz.f109.body.getD .skip
def z2s : Env := { tab.env (fun i => bif Nat.beq i 2 then [1, 4, 9, 10, 11] else []) (fun i => bif Nat.beq i 2 then [4, 5] else []) [4] [y16, (.int .i64)] with ro := true }
def zu8 (no_1 : Int) (t9 : Zt22) (t10 : Int) (t11 : Int) (bt4 : Zt20) : State := ⟨uS 1 ([.dat (.int .i64) no_1 []]::(uS 2 ([.ptr 5 y12 []]::(uS 4 ([.dat (.sl 59 y12) t9 []]::[.dat (.int .i64) t10 []]::[.dat (.int .i64) t11 []]::(uS 10 ([]))))))), nS 5 ((some ⟨y12, bt4, [[4]]⟩)::(nS 17 ([])))⟩
def zlw (t5 : Bool) (bt4 : Zt20) : State := ⟨uS 4 ([.ptr 5 y12 []]::[.dat .bool t5 []]::(uS 16 ([]))), nS 5 ((some ⟨y12, bt4, []⟩)::(nS 17 ([])))⟩
def zsp (bt4 : Zt20) : State := ⟨uS 4 ([.ptr 5 y12 []]::(uS 17 ([]))), nS 5 ((some ⟨y12, bt4, [[4]]⟩)::(nS 17 ([])))⟩
theorem z23e (R : Type) (kk : Nat) (m_0 : Zt24) (no_1 : Int) (K : Kf_ R) : evFn z2s (Tb98 R) kk Tryz.f109 z5j [.dat y16 m_0 [], .dat (.int .i64) no_1 []] none K =
  zgr m_0 no_1 (fun a0 a1 a2 a3 a4 => loopR (ev z2s (Tb98 R) kk (sub [1, 0, 1, 0, 0] z5j)) [1, 4, 9, 10, 11] [4, 5] kk (zu8 a0 a1 a2 a3 a4) (zi 0 (kSeq z2s (Tb98 R) kk (sub [1, 1] z5j) (kFin z2s Tryz.f109.results.toList none K)))) := by kernel_rfl
theorem z1xh (R : Type) (kk k : Nat) (no_1 : Int) (t9 : Zt22) (t10 : Int) (t11 : Int) (bt4 : Zt20) (K : Kx_ R) : loopR (ev z2s (Tb98 R) kk (sub [1, 0, 1, 0, 0] z5j)) [1, 4, 9, 10, 11] [4, 5] (k + 1) (zu8 no_1 t9 t10 t11 bt4) K =
  zhc no_1 t9 t10 t11 bt4 (fun a0 a1 => K .ret (zlw a0 a1)) (fun a0 a1 a2 a3 a4 => loopR (ev z2s (Tb98 R) kk (sub [1, 0, 1, 0, 0] z5j)) [1, 4, 9, 10, 11] [4, 5] k (zu8 a0 a1 a2 a3 a4) K) (fun a0 => K (.exit 0) (zsp a0)) := by kernel_rfl
theorem z1jo (R : Type) (kk : Nat) (t5 : Bool) (bt4 : Zt20) (K : Kf_ R) : (zi 0 (kSeq z2s (Tb98 R) kk (sub [1, 1] z5j) (kFin z2s Tryz.f109.results.toList none K))) .ret (zlw t5 bt4) =
  ze1 t5 bt4 (fun a0 a1 => K [.dat y12 a0 [], .dat .bool a1 []] none) := by kernel_rfl
theorem z1rf (R : Type) (kk : Nat) (bt4 : Zt20) (K : Kf_ R) : (zi 0 (kSeq z2s (Tb98 R) kk (sub [1, 1] z5j) (kFin z2s Tryz.f109.results.toList none K))) (.exit 0) (zsp bt4) =
  ziw bt4 (fun a0 a1 => K [.dat y12 a0 [], .dat .bool a1 []] none) := by kernel_rfl
theorem z1t3 (R : Type) (k : Nat) (no_1 : Int) (t9 : Zt22) (t10 : Int) (t11 : Int) (bt4 : Zt20) (K : Kx_ R) : loopR (ev z2s (Tb98 R) FUEL (sub [1, 0, 1, 0, 0] z5j)) [1, 4, 9, 10, 11] [4, 5] k (zu8 no_1 t9 t10 t11 bt4) K = (zv1 k no_1 t9 t10 t11 bt4).bind fun e => (Sum.elim (fun (we : (Bool × Zt20)) => K .ret (zlw we.1 we.2)) (fun (we : Zt20) => K (.exit 0) (zsp we)) e) := by
  induction k generalizing no_1 t9 t10 t11 bt4 with
  | zero => rfl
  | succ k ih =>
    rw [z1xh]
    simp only [zv1, zrf, zko, zrj, zt0, ih, z8, z6, zd, z7, ze, zc, Sum.elim_inl, Sum.elim_inr]
theorem z1z5 (R : Type) (m_0 : Zt24) (no_1 : Int) (K : Kf_ R) : evFn z2s (Tb98 R) FUEL Tryz.f109 z5j [.dat y16 m_0 [], .dat (.int .i64) no_1 []] none K = (Q290 m_0 no_1).bind fun r => K [.dat y12 r.1 [], .dat .bool r.2 []] none := by
  rw [z23e]
  simp only [Q290, zrf, zko, zrj, zt0, z1t3, z1jo, z1rf, z8, z6, zd, z7, ze, zc, Sum.elim_inl, Sum.elim_inr]
def z1jd : Pure := fun R l b K => noBox b (args2 y16 (.int .i64) l (fun x0 x1 => (Q290 x0 x1).bind fun r => K [.dat y12 r.1 [], .dat .bool r.2 []] none))
theorem z2a7 : z1jd.Nat := fun R S l b F G K h => zh (zq fun _ _ => zg fun _ => h _ _)
def Tb99 : Funs := Tb98.add 109 [y16, (.int .i64)] z1jd
theorem z1vn : Tb99.Nat := zl z1b1 z2a7
theorem z1rt : ∀ f, Owes Tryz.prog Tb99 f := zk (E := z2s) ((Tab.env_ok zm _ _ _ _).ro _) mixed z1b1 z1k1 (fn := Tryz.f109) (code := z5j) Tryz.func109 (by kernel_rfl) (by kernel_rfl) fun l b r b' h => by
  obtain ⟨rfl, h⟩ := zf h
  obtain ⟨x0, x1, h1, h2⟩ := own2 (E := z2s) rfl h
  exact ⟨FUEL, (h2 _ _ _ _ _ _).trans ((z1z5 _ x0 x1 _).trans h1)⟩
def Tryz.laysRepeat_ren : Go.Shelf.Ren := ⟨fun | 105 => 206 | 212 => 216 | 99 => 217 | 165 => 218 | 166 => 98 | 170 => 219 | 169 => 103 | 263 => 230 | 264 => 231 | 206 => 232 | 240 => 152 | 241 => 233 | 276 => 198 | 277 => 238 | n => n, fun | 9 => 9 | 3 => 3 | 4 => 4 | 20 => 20 | 0 => 0 | 46 => 248 | 109 => 255 | 5 => 5 | 72 => 147 | 76 => 150 | 51 => 267 | 146 => 268 | 53 => 101 | 148 => 211 | 70 => 144 | 37 => 145 | 75 => 149 | 127 => 217 | 164 => 246 | 80 => 158 | n => n, fun n => n⟩
theorem Tryz.laysRepeat : Go.Proofs.Lays.n105 Go.Proofs.Tryz.prog Tryz.laysRepeat_ren := {
  mixed := by kernel_rfl,
  f99 := Go.Proofs.Tryz.func217.trans (congrArg some (by kernel_rfl)),
  f105 := Go.Proofs.Tryz.func206.trans (congrArg some (by kernel_rfl)),
  f165 := Go.Proofs.Tryz.func218.trans (congrArg some (by kernel_rfl)),
  f166 := Go.Proofs.Tryz.func98.trans (congrArg some (by kernel_rfl)),
  f169 := Go.Proofs.Tryz.func103.trans (congrArg some (by kernel_rfl)),
  f170 := Go.Proofs.Tryz.func219.trans (congrArg some (by kernel_rfl)),
  f206 := Go.Proofs.Tryz.func232.trans (congrArg some (by kernel_rfl)),
  f212 := Go.Proofs.Tryz.func216.trans (congrArg some (by kernel_rfl)),
  f240 := Go.Proofs.Tryz.func152.trans (congrArg some (by kernel_rfl)),
  f241 := Go.Proofs.Tryz.func233.trans (congrArg some (by kernel_rfl)),
  f263 := Go.Proofs.Tryz.func230.trans (congrArg some (by kernel_rfl)),
  f264 := Go.Proofs.Tryz.func231.trans (congrArg some (by kernel_rfl)),
  f276 := Go.Proofs.Tryz.func198.trans (congrArg some (by kernel_rfl)),
  f277 := Go.Proofs.Tryz.func238.trans (congrArg some (by kernel_rfl)),
  t0 := Go.Proofs.Tryz.underlying0,
  a0 := Go.Proofs.Tryz.isAgg0,
  z0 := Go.Proofs.Tryz.sizeOf0,
  v0 := Go.Proofs.Tryz.zeroValue0,
  t3 := Go.Proofs.Tryz.underlying3,
  a3 := Go.Proofs.Tryz.isAgg3,
  z3 := Go.Proofs.Tryz.sizeOf3,
  v3 := Go.Proofs.Tryz.zeroValue3,
  t4 := Go.Proofs.Tryz.underlying4,
  a4 := Go.Proofs.Tryz.isAgg4,
  z4 := Go.Proofs.Tryz.sizeOf4,
  v4 := Go.Proofs.Tryz.zeroValue4,
  t5 := Go.Proofs.Tryz.underlying5,
  a5 := Go.Proofs.Tryz.isAgg5,
  z5 := Go.Proofs.Tryz.sizeOf5,
  v5 := Go.Proofs.Tryz.zeroValue5,
  t9 := Go.Proofs.Tryz.underlying9,
  a9 := Go.Proofs.Tryz.isAgg9,
  z9 := Go.Proofs.Tryz.sizeOf9,
  v9 := Go.Proofs.Tryz.zeroValue9,
  t20 := Go.Proofs.Tryz.underlying20,
  a20 := Go.Proofs.Tryz.isAgg20,
  z20 := Go.Proofs.Tryz.sizeOf20,
  v20 := Go.Proofs.Tryz.zeroValue20,
  t37 := Go.Proofs.Tryz.underlying145,
  a37 := Go.Proofs.Tryz.isAgg145,
  z37 := Go.Proofs.Tryz.sizeOf145,
  v37 := Go.Proofs.Tryz.zeroValue145,
  t46 := Go.Proofs.Tryz.underlying248,
  a46 := Go.Proofs.Tryz.isAgg248,
  z46 := Go.Proofs.Tryz.sizeOf248,
  v46 := Go.Proofs.Tryz.zeroValue248,
  t51 := Go.Proofs.Tryz.underlying267,
  a51 := Go.Proofs.Tryz.isAgg267,
  z51 := Go.Proofs.Tryz.sizeOf267,
  v51 := Go.Proofs.Tryz.zeroValue267,
  t53 := Go.Proofs.Tryz.underlying101,
  a53 := Go.Proofs.Tryz.isAgg101,
  z53 := Go.Proofs.Tryz.sizeOf101,
  v53 := Go.Proofs.Tryz.zeroValue101,
  t70 := Go.Proofs.Tryz.underlying144,
  a70 := Go.Proofs.Tryz.isAgg144,
  z70 := Go.Proofs.Tryz.sizeOf144,
  v70 := Go.Proofs.Tryz.zeroValue144,
  t72 := Go.Proofs.Tryz.underlying147,
  a72 := Go.Proofs.Tryz.isAgg147,
  z72 := Go.Proofs.Tryz.sizeOf147,
  v72 := Go.Proofs.Tryz.zeroValue147,
  t75 := Go.Proofs.Tryz.underlying149,
  a75 := Go.Proofs.Tryz.isAgg149,
  z75 := Go.Proofs.Tryz.sizeOf149,
  v75 := Go.Proofs.Tryz.zeroValue149,
  t76 := Go.Proofs.Tryz.underlying150,
  a76 := Go.Proofs.Tryz.isAgg150,
  z76 := Go.Proofs.Tryz.sizeOf150,
  v76 := Go.Proofs.Tryz.zeroValue150,
  t109 := Go.Proofs.Tryz.underlying255,
  a109 := Go.Proofs.Tryz.isAgg255,
  z109 := Go.Proofs.Tryz.sizeOf255,
  v109 := Go.Proofs.Tryz.zeroValue255,
  t127 := Go.Proofs.Tryz.underlying217,
  a127 := Go.Proofs.Tryz.isAgg217,
  z127 := Go.Proofs.Tryz.sizeOf217,
  v127 := Go.Proofs.Tryz.zeroValue217,
  t146 := Go.Proofs.Tryz.underlying268,
  a146 := Go.Proofs.Tryz.isAgg268,
  z146 := Go.Proofs.Tryz.sizeOf268,
  v146 := Go.Proofs.Tryz.zeroValue268,
  t148 := Go.Proofs.Tryz.underlying211,
  a148 := Go.Proofs.Tryz.isAgg211,
  z148 := Go.Proofs.Tryz.sizeOf211,
  v148 := Go.Proofs.Tryz.zeroValue211,
  t164 := Go.Proofs.Tryz.underlying246,
  a164 := Go.Proofs.Tryz.isAgg246,
  z164 := Go.Proofs.Tryz.sizeOf246,
  v164 := Go.Proofs.Tryz.zeroValue246 }
theorem Tryz.extraRepeat : Go.Proofs.Builder.Extra Go.Proofs.Tryz.prog Tryz.laysRepeat_ren := {
  sizeBuilder := by kernel_rfl,
  liesBuilder := by kernel_rfl,
  t5 := Tryz.laysRepeat.t5,
  a5 := Tryz.laysRepeat.a5,
  z5 := Tryz.laysRepeat.z5,
  v5 := Tryz.laysRepeat.v5,
  infoByte := by kernel_rfl,
  cellsByte := by kernel_rfl,
  sizeByte := by kernel_rfl,
  neB5 := by decide }
noncomputable abbrev zy1 : Code := Tryz.f206.body.getD .skip
theorem zo8 : Ent Tryz.prog 206 := ⟨Tryz.f206, zy1, Tryz.func206, by kernel_rfl, by kernel_rfl⟩
def zck : Pure := fun R l b K => noBox b (args2 .str (.int .i64) l fun x0 x1 => (strings_Repeat x0 x1).bind fun r => K [.dat .str r []] none)
theorem zy3 : zck.Nat := fun R S l b F G K h => zh (zq fun _ _ => zg fun _ => h _ _)
def Tb100 : Funs := Tb99.add 206 [] zck
theorem z132 : Tb100.Nat := zl z1vn zy3
theorem z1ff : ∀ f, Owes Tryz.prog Tb100 f := z1wm z1rt zo8 strings_Repeat (zk2 Tryz.laysRepeat Tryz.extraRepeat (by kernel_rfl))
noncomputable abbrev z7i : Code := Tryz.f221.body.getD .skip
def z3x : Env := tab.env (fun i => bif Nat.beq i 1 then [0, 1] else []) (fun i => bif Nat.beq i 1 then [0] else []) [] [.str, (.int .u8)]
def zva (s_0 : ByteArray) (c_1 : Int) : State := ⟨[.dat .str s_0 []]::[.dat (.int .u8) c_1 []]::(uS 21 ([])), nS 24 []⟩
def zq1 (s_0 : ByteArray) : State := ⟨[.dat .str s_0 []]::(uS 22 ([])), nS 24 []⟩
theorem z23f (R : Type) (kk : Nat) (s_0 : ByteArray) (c_1 : Int) (K : Kf_ R) : evFn z3x (Tb100 R) kk Tryz.f221 z7i [.dat .str s_0 [], .dat (.int .u8) c_1 []] none K =
  zik s_0 c_1 (fun a0 a1 => loopR (ev z3x (Tb100 R) kk (sub [1, 0, 0, 0] z7i)) [0, 1] [0] kk (zva a0 a1) (zi 0 (kSeq z3x (Tb100 R) kk (sub [1, 1] z7i) (kFin z3x Tryz.f221.results.toList none K)))) := by kernel_rfl
theorem z22n (R : Type) (kk k : Nat) (s_0 : ByteArray) (c_1 : Int) (K : Kx_ R) : loopR (ev z3x (Tb100 R) kk (sub [1, 0, 0, 0] z7i)) [0, 1] [0] (k + 1) (zva s_0 c_1) K =
  zem s_0 c_1 (fun a0 a1 => loopR (ev z3x (Tb100 R) kk (sub [1, 0, 0, 0] z7i)) [0, 1] [0] k (zva a0 a1) K) (fun a0 => K (.exit 0) (zq1 a0)) := by kernel_rfl
theorem z1k8 (R : Type) (kk : Nat) (s_0 : ByteArray) (K : Kf_ R) : (zi 0 (kSeq z3x (Tb100 R) kk (sub [1, 1] z7i) (kFin z3x Tryz.f221.results.toList none K))) (.exit 0) (zq1 s_0) =
  zhk s_0 (fun a0 => K [.dat .str a0 []] none) := by kernel_rfl
theorem z1v4 (R : Type) (k : Nat) (s_0 : ByteArray) (c_1 : Int) (K : Kx_ R) : loopR (ev z3x (Tb100 R) FUEL (sub [1, 0, 0, 0] z7i)) [0, 1] [0] k (zva s_0 c_1) K = (zw9 k s_0 c_1).bind fun e => K (.exit 0) (zq1 e) := by
  induction k generalizing s_0 c_1 with
  | zero => rfl
  | succ k ih =>
    rw [z22n]
    simp only [zw9, znq, zsg, zm7, ih, z8, z6, zd, z7, ze, zc, Sum.elim_inl, Sum.elim_inr]
theorem z1xc (R : Type) (s_0 : ByteArray) (c_1 : Int) (K : Kf_ R) : evFn z3x (Tb100 R) FUEL Tryz.f221 z7i [.dat .str s_0 [], .dat (.int .u8) c_1 []] none K = (Q275 s_0 c_1).bind fun r => K [.dat .str r []] none := by
  rw [z23f]
  simp only [Q275, znq, zsg, zm7, z1v4, z1k8, z8, z6, zd, z7, ze, zc, Sum.elim_inl, Sum.elim_inr]
def z1ox : Pure := fun R l b K => noBox b (args2 .str (.int .u8) l (fun x0 x1 => (Q275 x0 x1).bind fun r => K [.dat .str r []] none))
theorem z275 : z1ox.Nat := fun R S l b F G K h => zh (zq fun _ _ => zg fun _ => h _ _)
def Tb101 : Funs := Tb100.add 221 [.str, (.int .u8)] z1ox
theorem z15l : Tb101.Nat := zl z132 z275
theorem z1hk : ∀ f, Owes Tryz.prog Tb101 f := zk (E := z3x) (Tab.env_ok zm _ _ _ _) mixed z132 z1ff (fn := Tryz.f221) (code := z7i) Tryz.func221 (by kernel_rfl) (by kernel_rfl) fun l b r b' h => by
  obtain ⟨rfl, h⟩ := zf h
  obtain ⟨x0, x1, h1, h2⟩ := own2 (E := z3x) rfl h
  exact ⟨FUEL, (h2 _ _ _ _ _ _).trans ((z1xc _ x0 x1 _).trans h1)⟩
noncomputable abbrev z7k : Code := Tryz.f220.body.getD .skip
def z47 : Env := tab.env (fun i => bif Nat.beq i 1 then [0, 1] else []) (fun i => bif Nat.beq i 1 then [0] else []) [] [.str, (.int .u8)]
def zvd (s_0 : ByteArray) (c_1 : Int) : State := ⟨[.dat .str s_0 []]::[.dat (.int .u8) c_1 []]::(uS 15 ([])), nS 18 []⟩
def zlx (s_0 : ByteArray) : State := ⟨[.dat .str s_0 []]::(uS 16 ([])), nS 18 []⟩
theorem z264 (R : Type) (kk : Nat) (s_0 : ByteArray) (c_1 : Int) (K : Kf_ R) : evFn z47 (Tb101 R) kk Tryz.f220 z7k [.dat .str s_0 [], .dat (.int .u8) c_1 []] none K =
  zf0 s_0 c_1 (fun a0 a1 => loopR (ev z47 (Tb101 R) kk (sub [1, 0, 0, 0] z7k)) [0, 1] [0] kk (zvd a0 a1) (zi 0 (kSeq z47 (Tb101 R) kk (sub [1, 1] z7k) (kFin z47 Tryz.f220.results.toList none K)))) := by kernel_rfl
theorem z20g (R : Type) (kk k : Nat) (s_0 : ByteArray) (c_1 : Int) (K : Kx_ R) : loopR (ev z47 (Tb101 R) kk (sub [1, 0, 0, 0] z7k)) [0, 1] [0] (k + 1) (zvd s_0 c_1) K =
  zfc s_0 c_1 (fun a0 a1 => loopR (ev z47 (Tb101 R) kk (sub [1, 0, 0, 0] z7k)) [0, 1] [0] k (zvd a0 a1) K) (fun a0 => K (.exit 0) (zlx a0)) := by kernel_rfl
theorem z1ry (R : Type) (kk : Nat) (s_0 : ByteArray) (K : Kf_ R) : (zi 0 (kSeq z47 (Tb101 R) kk (sub [1, 1] z7k) (kFin z47 Tryz.f220.results.toList none K))) (.exit 0) (zlx s_0) =
  zf9 s_0 (fun a0 => K [.dat .str a0 []] none) := by kernel_rfl
theorem z1ti (R : Type) (k : Nat) (s_0 : ByteArray) (c_1 : Int) (K : Kx_ R) : loopR (ev z47 (Tb101 R) FUEL (sub [1, 0, 0, 0] z7k)) [0, 1] [0] k (zvd s_0 c_1) K = (zuo k s_0 c_1).bind fun e => K (.exit 0) (zlx e) := by
  induction k generalizing s_0 c_1 with
  | zero => rfl
  | succ k ih =>
    rw [z20g]
    simp only [zuo, zld, zqc, znc, ih, z8, z6, zd, z7, ze, zc, Sum.elim_inl, Sum.elim_inr]
theorem z211 (R : Type) (s_0 : ByteArray) (c_1 : Int) (K : Kf_ R) : evFn z47 (Tb101 R) FUEL Tryz.f220 z7k [.dat .str s_0 [], .dat (.int .u8) c_1 []] none K = (Q274 s_0 c_1).bind fun r => K [.dat .str r []] none := by
  rw [z264]
  simp only [Q274, zld, zqc, znc, z1ti, z1ry, z8, z6, zd, z7, ze, zc, Sum.elim_inl, Sum.elim_inr]
def z1nv : Pure := fun R l b K => noBox b (args2 .str (.int .u8) l (fun x0 x1 => (Q274 x0 x1).bind fun r => K [.dat .str r []] none))
theorem z23i : z1nv.Nat := fun R S l b F G K h => zh (zq fun _ _ => zg fun _ => h _ _)
def Tb102 : Funs := Tb101.add 220 [.str, (.int .u8)] z1nv
theorem z136 : Tb102.Nat := zl z15l z23i
theorem z1gn : ∀ f, Owes Tryz.prog Tb102 f := zk (E := z47) (Tab.env_ok zm _ _ _ _) mixed z15l z1hk (fn := Tryz.f220) (code := z7k) Tryz.func220 (by kernel_rfl) (by kernel_rfl) fun l b r b' h => by
  obtain ⟨rfl, h⟩ := zf h
  obtain ⟨x0, x1, h1, h2⟩ := own2 (E := z47) rfl h
  exact ⟨FUEL, (h2 _ _ _ _ _ _).trans ((z211 _ x0 x1 _).trans h1)⟩
noncomputable abbrev z1bt : Code := Tryz.f207.body.getD .skip
def z10b : Env := tab.env (fun _ => []) (fun _ => []) [] [.str, .str]
theorem z25w (R : Type) (kk : Nat) (s_0 : ByteArray) (cutset_1 : ByteArray) (K : Kf_ R) : evFn z10b (Tb102 R) kk Tryz.f207 z1bt [.dat .str s_0 [], .dat .str cutset_1 []] none K =
  zgb s_0 cutset_1 (fun a0 => K [.dat .str a0 []] none) := by kernel_rfl
theorem z213 (R : Type) (s_0 : ByteArray) (cutset_1 : ByteArray) (K : Kf_ R) : evFn z10b (Tb102 R) FUEL Tryz.f207 z1bt [.dat .str s_0 [], .dat .str cutset_1 []] none K = (Q272 s_0 cutset_1).bind fun r => K [.dat .str r []] none := by
  rw [z25w]
  simp only [Q272, z17d, z8, z6, zd, z7, ze, zc, Sum.elim_inl, Sum.elim_inr]
def z1rc : Pure := fun R l b K => noBox b (args2 .str .str l (fun x0 x1 => (Q272 x0 x1).bind fun r => K [.dat .str r []] none))
theorem z26i : z1rc.Nat := fun R S l b F G K h => zh (zq fun _ _ => zg fun _ => h _ _)
def Tb103 : Funs := Tb102.add 207 [.str, .str] z1rc
theorem z12z : Tb103.Nat := zl z136 z26i
theorem z1h2 : ∀ f, Owes Tryz.prog Tb103 f := zk (E := z10b) (Tab.env_ok zm _ _ _ _) mixed z136 z1gn (fn := Tryz.f207) (code := z1bt) Tryz.func207 (by kernel_rfl) (by kernel_rfl) fun l b r b' h => by
  obtain ⟨rfl, h⟩ := zf h
  obtain ⟨x0, x1, h1, h2⟩ := own2 (E := z10b) rfl h
  exact ⟨FUEL, (h2 _ _ _ _ _ _).trans ((z213 _ x0 x1 _).trans h1)⟩
noncomputable abbrev Q30_c : Code := Tryz.f171.body.getD .skip
def Q30_E : Env := tab.env (fun _ => []) (fun _ => []) [] [.str, (.int .i64)]
theorem Q30_t (R : Type) (kk : Nat) (s_0 : ByteArray) (width_1 : Int) (K : Kf_ R) : evFn Q30_E (Tb103 R) kk Tryz.f171 Q30_c [.dat .str s_0 [], .dat (.int .i64) width_1 []] none K =
  zn5 s_0 width_1 (fun a0 a1 => K [.dat .str a0 [], .dat .bool a1 []] none) := by kernel_rfl
theorem z249 (R : Type) (s_0 : ByteArray) (width_1 : Int) (K : Kf_ R) : evFn Q30_E (Tb103 R) FUEL Tryz.f171 Q30_c [.dat .str s_0 [], .dat (.int .i64) width_1 []] none K = (Q30 s_0 width_1).bind fun r => K [.dat .str r.1 [], .dat .bool r.2 []] none := by
  rw [Q30_t]
  simp only [Q30, z1ds, z8, z6, zd, z7, ze, zc, Sum.elim_inl, Sum.elim_inr]
def Q30_g : Pure := fun R l b K => noBox b (args2 .str (.int .i64) l (fun x0 x1 => (Q30 x0 x1).bind fun r => K [.dat .str r.1 [], .dat .bool r.2 []] none))
theorem Q30_n : Q30_g.Nat := fun R S l b F G K h => zh (zq fun _ _ => zg fun _ => h _ _)
def Tb104 : Funs := Tb103.add 171 [.str, (.int .i64)] Q30_g
theorem z134 : Tb104.Nat := zl z12z Q30_n
theorem z1fp : ∀ f, Owes Tryz.prog Tb104 f := zk (E := Q30_E) (Tab.env_ok zm _ _ _ _) mixed z12z z1h2 (fn := Tryz.f171) (code := Q30_c) Tryz.func171 (by kernel_rfl) (by kernel_rfl) fun l b r b' h => by
  obtain ⟨rfl, h⟩ := zf h
  obtain ⟨x0, x1, h1, h2⟩ := own2 (E := Q30_E) rfl h
  exact ⟨FUEL, (h2 _ _ _ _ _ _).trans ((z249 _ x0 x1 _).trans h1)⟩
noncomputable abbrev Q20_c : Code := Tryz.f172.body.getD .skip
def Q20_E : Env := tab.env (fun i => bif Nat.beq i 2 then [1, 8, 9, 10] else []) (fun i => bif Nat.beq i 2 then [4, 5] else []) [] [(.sl 116 (.pair .str (.pair .str .unit))), .str]
def z11c (text_1 : ByteArray) (t8 : Zt14) (t9 : Int) (t10 : Int) : State := ⟨uS 1 ([.dat .str text_1 []]::(uS 6 ([.dat (.sl 116 (.pair .str (.pair .str .unit))) t8 []]::[.dat (.int .i64) t9 []]::[.dat (.int .i64) t10 []]::(uS 10 ([]))))), nS 22 []⟩
def zy7 (t4 : ByteArray) (t5 : Bool) : State := ⟨uS 4 ([.dat .str t4 []]::[.dat .bool t5 []]::(uS 15 ([]))), nS 22 []⟩
def zxv  : State := ⟨uS 21 [], nS 22 []⟩
theorem Q20_t (R : Type) (kk : Nat) (l_0 : Zt14) (text_1 : ByteArray) (K : Kf_ R) : evFn Q20_E (Tb104 R) kk Tryz.f172 Q20_c [.dat (.sl 116 (.pair .str (.pair .str .unit))) l_0 [], .dat .str text_1 []] none K =
  zq5 l_0 text_1 (fun a0 a1 a2 a3 => loopR (ev Q20_E (Tb104 R) kk (sub [1, 0, 1, 0, 0] Q20_c)) [1, 8, 9, 10] [4, 5] kk (z11c a0 a1 a2 a3) (zi 0 (kSeq Q20_E (Tb104 R) kk (sub [1, 1] Q20_c) (kFin Q20_E Tryz.f172.results.toList none K)))) := by kernel_rfl
theorem z286 (R : Type) (kk k : Nat) (text_1 : ByteArray) (t8 : Zt14) (t9 : Int) (t10 : Int) (K : Kx_ R) : loopR (ev Q20_E (Tb104 R) kk (sub [1, 0, 1, 0, 0] Q20_c)) [1, 8, 9, 10] [4, 5] (k + 1) (z11c text_1 t8 t9 t10) K =
  zmw text_1 t8 t9 t10 (fun a0 a1 => K .ret (zy7 a0 a1)) (fun a0 a1 a2 a3 => loopR (ev Q20_E (Tb104 R) kk (sub [1, 0, 1, 0, 0] Q20_c)) [1, 8, 9, 10] [4, 5] k (z11c a0 a1 a2 a3) K) (K (.exit 0) (zxv)) := by kernel_rfl
theorem z1uz (R : Type) (kk : Nat) (t4 : ByteArray) (t5 : Bool) (K : Kf_ R) : (zi 0 (kSeq Q20_E (Tb104 R) kk (sub [1, 1] Q20_c) (kFin Q20_E Tryz.f172.results.toList none K))) .ret (zy7 t4 t5) =
  zms t4 t5 (fun a0 a1 => K [.dat .str a0 [], .dat .bool a1 []] none) := by kernel_rfl
theorem z1ul (R : Type) (kk : Nat)  (K : Kf_ R) : (zi 0 (kSeq Q20_E (Tb104 R) kk (sub [1, 1] Q20_c) (kFin Q20_E Tryz.f172.results.toList none K))) (.exit 0) (zxv) =
  zry (fun a0 a1 => K [.dat .str a0 [], .dat .bool a1 []] none) := by kernel_rfl
theorem z20l (R : Type) (k : Nat) (text_1 : ByteArray) (t8 : Zt14) (t9 : Int) (t10 : Int) (K : Kx_ R) : loopR (ev Q20_E (Tb104 R) FUEL (sub [1, 0, 1, 0, 0] Q20_c)) [1, 8, 9, 10] [4, 5] k (z11c text_1 t8 t9 t10) K = (z11q k text_1 t8 t9 t10).bind fun e => (Sum.elim (fun (we : Zt4) => K .ret (zy7 we.1 we.2)) (fun (we : Unit) => K (.exit 0) (zxv)) e) := by
  induction k generalizing text_1 t8 t9 t10 with
  | zero => rfl
  | succ k ih =>
    rw [z286]
    simp only [z11q, zwr, zwg, zwx, zxl, ih, z8, z6, zd, z7, ze, zc, Sum.elim_inl, Sum.elim_inr]
theorem z29h (R : Type) (l_0 : Zt14) (text_1 : ByteArray) (K : Kf_ R) : evFn Q20_E (Tb104 R) FUEL Tryz.f172 Q20_c [.dat (.sl 116 (.pair .str (.pair .str .unit))) l_0 [], .dat .str text_1 []] none K = (Q20 l_0 text_1).bind fun r => K [.dat .str r.1 [], .dat .bool r.2 []] none := by
  rw [Q20_t]
  simp only [Q20, zwr, zwg, zwx, zxl, z20l, z1uz, z1ul, z8, z6, zd, z7, ze, zc, Sum.elim_inl, Sum.elim_inr]
def Q20_g : Pure := fun R l b K => noBox b (args2 (.sl 116 (.pair .str (.pair .str .unit))) .str l (fun x0 x1 => (Q20 x0 x1).bind fun r => K [.dat .str r.1 [], .dat .bool r.2 []] none))
theorem Q20_n : Q20_g.Nat := fun R S l b F G K h => zh (zq fun _ _ => zg fun _ => h _ _)
def Tb105 : Funs := Tb104.add 172 [(.sl 116 (.pair .str (.pair .str .unit))), .str] Q20_g
theorem z155 : Tb105.Nat := zl z134 Q20_n
theorem z1hq : ∀ f, Owes Tryz.prog Tb105 f := zk (E := Q20_E) (Tab.env_ok zm _ _ _ _) mixed z134 z1fp (fn := Tryz.f172) (code := Q20_c) Tryz.func172 (by kernel_rfl) (by kernel_rfl) fun l b r b' h => by
  obtain ⟨rfl, h⟩ := zf h
  obtain ⟨x0, x1, h1, h2⟩ := own2 (E := Q20_E) rfl h
  exact ⟨FUEL, (h2 _ _ _ _ _ _).trans ((z29h _ x0 x1 _).trans h1)⟩
noncomputable abbrev z16g : Code := Tryz.f110.body.getD .skip
def zzz : Env := tab.env (fun _ => []) (fun _ => []) [6] [y12, y15, .str]
theorem z28o (R : Type) (kk : Nat) (r_0 : Zt20) (b_1 : Zt18) (text_2 : ByteArray) (K : Kf_ R) : evFn zzz (Tb105 R) kk Tryz.f110 z16g [.dat y12 r_0 [], .dat y15 b_1 [], .dat .str text_2 []] none K =
  zeq r_0 b_1 text_2 (fun a0 a1 => K [.dat (.pair (.int .i64) (.pair .str .unit)) a0 [], .dat (.int .i64) a1 []] none) := by kernel_rfl
theorem z1yv (R : Type) (r_0 : Zt20) (b_1 : Zt18) (text_2 : ByteArray) (K : Kf_ R) : evFn zzz (Tb105 R) FUEL Tryz.f110 z16g [.dat y12 r_0 [], .dat y15 b_1 [], .dat .str text_2 []] none K = (Q249 r_0 b_1 text_2).bind fun r => K [.dat (.pair (.int .i64) (.pair .str .unit)) r.1 [], .dat (.int .i64) r.2 []] none := by
  rw [z28o]
  simp only [Q249, z1b5, z8, z6, zd, z7, ze, zc, Sum.elim_inl, Sum.elim_inr]
def z1la : Pure := fun R l b K => noBox b (args3 y12 y15 .str l (fun x0 x1 x2 => (Q249 x0 x1 x2).bind fun r => K [.dat (.pair (.int .i64) (.pair .str .unit)) r.1 [], .dat (.int .i64) r.2 []] none))
theorem z24d : z1la.Nat := fun R S l b F G K h => zh (z17 fun _ _ _ => zg fun _ => h _ _)
def Tb106 : Funs := Tb105.add 110 [y12, y15, .str] z1la
theorem z145 : Tb106.Nat := zl z155 z24d
theorem z1go : ∀ f, Owes Tryz.prog Tb106 f := zk (E := zzz) (Tab.env_ok zm _ _ _ _) mixed z155 z1hq (fn := Tryz.f110) (code := z16g) Tryz.func110 (by kernel_rfl) (by kernel_rfl) fun l b r b' h => by
  obtain ⟨rfl, h⟩ := zf h
  obtain ⟨x0, x1, x2, h1, h2⟩ := own3 (E := zzz) rfl h
  exact ⟨FUEL, (h2 _ _ _ _ _ _).trans ((z1yv _ x0 x1 x2 _).trans h1)⟩
noncomputable abbrev z2c : Code := Tryz.f40.body.getD .skip
def z1q : Env := { { tab.env (fun i => bif Nat.beq i 12 then [4, 6, 7, 8, 9, 16, 59, 60, 61] else bif Nat.beq i 18 then [4, 6, 8, 9, 16, 76, 77, 78] else []) (fun i => bif Nat.beq i 12 then [4, 6, 7, 8, 9, 16] else bif Nat.beq i 18 then [8, 9, 16] else []) [8, 9] [y16, y15, y15, y5] with dr := fun i => bif Nat.beq i 12 then [17] else [] } with ro := true }
def zvc (t59 : Zt22) (t60 : Int) (t61 : Int) (bt4 : Zt24) (bt6 : Zt18) (bt7 : Zt17) (bt8 : Zt17) (bt9 : Zt5) (bt16 : Zt17) : State := ⟨uS 4 ([.ptr 5 y16 []]::(uS 1 ([.ptr 7 y15 []]::[.ptr 8 y5 []]::[.ptr 9 y5 []]::[.ptr 10 (.pair (.int .i64) (.pair (.int .i64) .unit)) []]::(uS 6 ([.ptr 17 y5 []]::(uS 42 ([.dat (.sl 59 y12) t59 []]::[.dat (.int .i64) t60 []]::[.dat (.int .i64) t61 []]::(uS 60 ([]))))))))), nS 5 ((some ⟨y16, bt4, []⟩)::(nS 1 ((some ⟨y15, bt6, []⟩)::(some ⟨y5, bt7, []⟩)::(some ⟨y5, bt8, [[1]]⟩)::(some ⟨(.pair (.int .i64) (.pair (.int .i64) .unit)), bt9, []⟩)::(nS 6 ((some ⟨y5, bt16, []⟩)::(nS 105 ([])))))))⟩
def zp0 (bt4 : Zt24) (bt6 : Zt18) (bt7 : Zt17) (bt8 : Zt17) (bt9 : Zt5) (bt16 : Zt17) : State := ⟨uS 4 ([.ptr 5 y16 []]::(uS 1 ([.ptr 7 y15 []]::[.ptr 8 y5 []]::[.ptr 9 y5 []]::[.ptr 10 (.pair (.int .i64) (.pair (.int .i64) .unit)) []]::(uS 6 ([.ptr 17 y5 []]::(uS 105 ([]))))))), nS 5 ((some ⟨y16, bt4, []⟩)::(nS 1 ((some ⟨y15, bt6, []⟩)::(some ⟨y5, bt7, []⟩)::(some ⟨y5, bt8, [[1]]⟩)::(some ⟨(.pair (.int .i64) (.pair (.int .i64) .unit)), bt9, []⟩)::(nS 6 ((some ⟨y5, bt16, []⟩)::(nS 105 ([])))))))⟩
end Go.Proofs.YtkgpjibbdpikcaaGreatDoor
