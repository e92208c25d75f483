/- The law FieldsKeys returns true at every input: its row, out of the plain functions. -/
import Derived.Test.YtjlgmoneaehejaaRows
import Derived.Test.YtjlgmoneaehejaaK1
import Derived.WalkKit
import Derived.ProofKit
import Derived.OpenShut
import Derived.ShutString
import Derived.ChangeOld
import Derived.Below
import Derived.SizedLaws
import Derived.KernelRfl
set_option linter.unusedVariables false
set_option linter.unusedSimpArgs false
set_option maxRecDepth 100000
namespace Go.Proofs.Ytjlgmoneaehejaa.fieldsKeys
open Go Go.Ref bH Go.ChangeShapes Go.WideShapes Go.ChangeAt Go.RowKit
theorem own : ownKnob Try.prog.godebug = none := by kernel_rfl
theorem laidOut : laidOutB Try.prog = true := by kernel_rfl
theorem call (R : Type) (x0 : (List Int)) (x1 : (List Int)) (K : List SV → Option aI → Option R) : lI R 4 [.al (.sl 3 (.int .i64)) x0 [], .al (.sl 3 (.int .i64)) x1 []] none K = (lC x0 x1).bind fun r => K [.al .bool r []] none := by kernel_rfl
theorem lifted (os : Os) (started : os.Started) (H : Type) (enc : TypeId × Value → H) :
    ReturnsInHanded {} Try.checked os 4 .any (Rows.fieldsKeysSpec.pre6 enc Try.prog Try.f4 Rows.fieldsKeysRow.domain false) (Rows.fieldsKeysSpec.post enc Try.prog Try.f4 false true false false) := by
  refine returnsInHanded_of_change_sized (C := Try.checked) own started (by kernel_rfl) Try.func4
    (ChangeSpec.witness6 (enc := enc) (C := Try.checked) false ⟨#[], #[.slice none 0 0, .slice none 0 0], []⟩ 8 (by kernel_rfl) (by kernel_rfl) (by kernel_rfl) (by kernel_rfl)) ?_
  intro W base args ds gs before jx hW vN pO _
  have fm : ∀ (j : Nat) t v, Try.f4.params[j]? = some t → args[j]? = some v → Value.okWide Try.prog W .any base t v := jx
  have vK := hW
  obtain ⟨p, q, sq, hV, rfl, vT, pD⟩ := hW
  have hA : DataW.TrodAll enc Try.prog W 0 (fun _ => true) true Try.f4.params.toList args.toList ds p := sq
  rw [Try.params4] at hA fm
  obtain ⟨v0, BC, d0, Bp, p0, q0, aV, rfl, rfl, h0, r0⟩ := trodAll_cons hA
  obtain ⟨v1, BD, d1, Bq, p1, q1, rfl, rfl, rfl, h1, r1⟩ := trodAll_cons r0
  obtain ⟨rfl, rfl, rfl⟩ := trodAll_nil r1
  obtain rfl : args = #[v0, v1] := by cases args; simp_all
  obtain ⟨rfl, rfl⟩ := trodVars_none hV
  have k0 := h0
  have wX : ∀ x ∈ p0, x.block < W.heap.size := by obtain ⟨m, hm⟩ := k0; exact DataW.trod_lt m _ _ _ hm
  obtain ⟨x0, xc, qc⟩ := uW (β := fun _ => none) (E := fI.iE) (fN.fe rR _ _ _ _) (T := 22) (t := (.sl 3 (.int .i64))) rfl rfl (fm 0 22 v0 rfl rfl) h0
  have k1 := h1
  have wY : ∀ x ∈ p1, x.block < W.heap.size := by obtain ⟨m, hm⟩ := k1; exact DataW.trod_lt m _ _ _ hm
  obtain ⟨x1, xd, qd⟩ := uW (β := fun _ => none) (E := fI.iE) (fN.fe rR _ _ _ _) (T := 22) (t := (.sl 3 (.int .i64))) rfl rfl (fm 1 22 v1 rfl rfl) h1
  clear sq jx pO
  refine (yY (w7.mw 4) (W := W) (args := #[v0, v1]) (l := [.al (.sl 3 (.int .i64)) x0 [], .al (.sl 3 (.int .i64)) x1 []]) (b := true) ((call _ x0 x1 _).trans (by rw [dk x0 x1 xc xd]; rfl)) (show mX (hI W fun _ => none) [.al (.sl 3 (.int .i64)) x0 [], .al (.sl 3 (.int .i64)) x1 []] [v0, v1] from ⟨qc, (fun _ _ _ h => SV.noConfusion h), qd, (fun _ _ _ h => SV.noConfusion h), trivial⟩)).mono fun e W' ⟨he, oN⟩ => ?_
  subst he
  exact ⟨_, rfl, _, _, _, [], _, [], vK, trodAll_mk1 (shut_bool Try.underlying4 _), (trodAll_cons_mk (Below.trod laidOut (by kernel_rfl) (of_decide_eq_true (by kernel_rfl)) k0 oN wX) (trodAll_cons_mk (Below.trod laidOut (by kernel_rfl) (of_decide_eq_true (by kernel_rfl)) k1 oN wY) trodAll_mk0)), rfl, oN.frame _, fun h => by cases h⟩
theorem over : Rows.fieldsKeysRow.holds Try.pinned (OpenSpec.ofChange Rows.fieldsKeysSpec) :=
  OpenClaim.holds_of_wide 4 Try.f4 rfl rfl rfl rfl rfl rfl rfl ⟨rfl, rfl, rfl, rfl, rfl⟩ rfl rfl rfl rfl rfl (by kernel_rfl) Try.func4 (by kernel_rfl)
    (of_decide_eq_true (by kernel_rfl)) (by unfold Func.isWrapper; first | (rw [if_pos (by decide +kernel)]; kernel_rfl) | (rw [if_neg (by decide +kernel)]; exact ⟨rfl, rfl⟩))
    (fun os started H enc _ => lifted os started H enc)
end Go.Proofs.Ytjlgmoneaehejaa.fieldsKeys
namespace Go.Proofs.Ytjlgmoneaehejaa
/-- The row, under a short name, for the claim. -/
theorem fieldsKeys_holds : Rows.FieldsKeysSaid := fieldsKeys.over
#print axioms fieldsKeys_holds
end Go.Proofs.Ytjlgmoneaehejaa
