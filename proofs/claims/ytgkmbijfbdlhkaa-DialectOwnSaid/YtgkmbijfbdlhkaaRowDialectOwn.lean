/- The law DialectOwn returns true at every input: its row, out of the plain functions. -/
import Derived.Test.YtgkmbijfbdlhkaaRows
import Derived.Test.YtgkmbijfbdlhkaaK1
import Derived.WalkKit
import Derived.ProofKit
import Derived.OpenShut
import Derived.ShutString
import Derived.ChangeOld
import Derived.Below
import Derived.SizedLaws
import Derived.KernelRfl
set_option linter.unusedVariables false
set_option linter.unusedSimpArgs false
set_option maxRecDepth 100000
namespace Go.Proofs.Ytgkmbijfbdlhkaa.dialectOwn
open Go Go.Ref bF Go.ChangeShapes Go.WideShapes Go.ChangeAt Go.RowKit
theorem own : ownKnob Try.prog.godebug = none := by kernel_rfl
theorem laidOut : laidOutB Try.prog = true := by kernel_rfl
theorem call (R : Type) (x0 : Bool) (x1 : Int) (x2 : (Int × Int × Int × Int × Int × Unit)) (K : List SV → Option aH → Option R) : lM R 4 [.aj .bool x0 [], .aj (.int .i64) x1 [], .aj (.pair (.int .i64) (.pair (.int .i64) (.pair (.int .i64) (.pair (.int .i64) (.pair (.int .i64) .unit))))) x2 []] none K = (lD x0 x1 x2).bind fun r => K [.aj .bool r []] none := by kernel_rfl
theorem lifted (os : Os) (started : os.Started) (H : Type) (enc : TypeId × Value → H) :
    ReturnsInHanded {} Try.checked os 4 .any (Rows.dialectOwnSpec.pre6 enc Try.prog Try.f4 Rows.dialectOwnRow.domain false) (Rows.dialectOwnSpec.post enc Try.prog Try.f4 false true false false) := by
  refine returnsInHanded_of_change_sized (C := Try.checked) own started (by kernel_rfl) Try.func4
    (ChangeSpec.witness6 (enc := enc) (C := Try.checked) false ⟨#[], #[.bool false, .int .i64 0, .agg #[.int .i64 0, .int .i64 0, .int .i64 0, .int .i64 0, .int .i64 0]], []⟩ 8 (by kernel_rfl) (by kernel_rfl) (by kernel_rfl) (by kernel_rfl)) ?_
  intro W base args ds gs before jv hW vV pS _
  have eQ : ∀ (j : Nat) t v, Try.f4.params[j]? = some t → args[j]? = some v → Value.okWide Try.prog W .any base t v := jv
  have vS := hW
  obtain ⟨p, q, sM, hV, rfl, v8, pH⟩ := hW
  have hA : DataW.TrodAll enc Try.prog W 0 (fun _ => true) true Try.f4.params.toList args.toList ds p := sM
  rw [Try.params4] at hA eQ
  obtain ⟨v0, Ca, d0, BT, p0, q0, aV, rfl, rfl, h0, r0⟩ := trodAll_cons hA
  obtain ⟨v1, Cb, d1, BU, p1, q1, rfl, rfl, rfl, h1, r1⟩ := trodAll_cons r0
  obtain ⟨v2, Cc, d2, BV, p2, q2, rfl, rfl, rfl, h2, r2⟩ := trodAll_cons r1
  obtain ⟨rfl, rfl, rfl⟩ := trodAll_nil r2
  obtain rfl : args = #[v0, v1, v2] := by cases args; simp_all
  obtain ⟨rfl, rfl⟩ := trodVars_none hV
  have k0 := h0
  have xb : ∀ x ∈ p0, x.block < W.heap.size := by obtain ⟨m, hm⟩ := k0; exact DataW.trod_lt m _ _ _ hm
  obtain ⟨x0, xp, qq⟩ := ru (β := fun _ => none) (E := ey.gx) (fB.ef oI _ _ _ _) (T := 4) (t := .bool) rfl rfl (eQ 0 4 v0 rfl rfl) h0
  have k1 := h1
  have xc : ∀ x ∈ p1, x.block < W.heap.size := by obtain ⟨m, hm⟩ := k1; exact DataW.trod_lt m _ _ _ hm
  obtain ⟨x1, xq, qs⟩ := ru (β := fun _ => none) (E := ey.gx) (fB.ef oI _ _ _ _) (T := 3) (t := (.int .i64)) rfl rfl (eQ 1 3 v1 rfl rfl) h1
  have k2 := h2
  have xd : ∀ x ∈ p2, x.block < W.heap.size := by obtain ⟨m, hm⟩ := k2; exact DataW.trod_lt m _ _ _ hm
  obtain ⟨x2, xr, qt⟩ := ru (β := fun _ => none) (E := ey.gx) (fB.ef oI _ _ _ _) (T := 28) (t := (.pair (.int .i64) (.pair (.int .i64) (.pair (.int .i64) (.pair (.int .i64) (.pair (.int .i64) .unit)))))) rfl rfl (eQ 2 28 v2 rfl rfl) h2
  clear sM jv pS
  refine (Ab (xh.mz 4) (W := W) (args := #[v0, v1, v2]) (l := [.aj .bool x0 [], .aj (.int .i64) x1 [], .aj (.pair (.int .i64) (.pair (.int .i64) (.pair (.int .i64) (.pair (.int .i64) (.pair (.int .i64) .unit))))) x2 []]) (b := true) ((call _ x0 x1 x2 _).trans (by rw [df x0 x1 x2 xp xq xr]; rfl)) (show m8 (hM W fun _ => none) [.aj .bool x0 [], .aj (.int .i64) x1 [], .aj (.pair (.int .i64) (.pair (.int .i64) (.pair (.int .i64) (.pair (.int .i64) (.pair (.int .i64) .unit))))) x2 []] [v0, v1, v2] from ⟨qq, (fun _ _ _ h => SV.noConfusion h), qs, (fun _ _ _ h => SV.noConfusion h), qt, (fun _ _ _ h => SV.noConfusion h), trivial⟩)).mono fun e W' ⟨he, np⟩ => ?_
  subst he
  exact ⟨_, rfl, _, _, _, [], _, [], vS, trodAll_mk1 (shut_bool Try.underlying4 _), (trodAll_cons_mk (Below.trod laidOut (by kernel_rfl) (of_decide_eq_true (by kernel_rfl)) k0 np xb) (trodAll_cons_mk (Below.trod laidOut (by kernel_rfl) (of_decide_eq_true (by kernel_rfl)) k1 np xc) (trodAll_cons_mk (Below.trod laidOut (by kernel_rfl) (of_decide_eq_true (by kernel_rfl)) k2 np xd) trodAll_mk0))), rfl, np.frame _, fun h => by cases h⟩
theorem over : Rows.dialectOwnRow.holds Try.pinned (OpenSpec.ofChange Rows.dialectOwnSpec) :=
  OpenClaim.holds_of_wide 4 Try.f4 rfl rfl rfl rfl rfl rfl rfl ⟨rfl, rfl, rfl, rfl, rfl⟩ rfl rfl rfl rfl rfl (by kernel_rfl) Try.func4 (by kernel_rfl)
    (of_decide_eq_true (by kernel_rfl)) (by unfold Func.isWrapper; first | (rw [if_pos (by decide +kernel)]; kernel_rfl) | (rw [if_neg (by decide +kernel)]; exact ⟨rfl, rfl⟩))
    (fun os started H enc _ => lifted os started H enc)
end Go.Proofs.Ytgkmbijfbdlhkaa.dialectOwn
namespace Go.Proofs.Ytgkmbijfbdlhkaa
/-- The row, under a short name, for the claim. -/
theorem dialectOwn_holds : Rows.DialectOwnSaid := dialectOwn.over
#print axioms dialectOwn_holds
end Go.Proofs.Ytgkmbijfbdlhkaa
