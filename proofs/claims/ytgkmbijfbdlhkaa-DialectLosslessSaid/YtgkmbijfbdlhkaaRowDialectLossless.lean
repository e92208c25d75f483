/- The law DialectLossless returns true at every input: its row, out of the plain functions. -/
import Derived.Test.YtgkmbijfbdlhkaaRows
import Derived.Test.YtgkmbijfbdlhkaaTree0
import Derived.Test.YtgkmbijfbdlhkaaK2
import Derived.WalkKit
import Derived.ProofKit
import Derived.OpenShut
import Derived.ShutString
import Derived.ChangeOld
import Derived.Below
import Derived.SizedLaws
import Derived.KernelRfl
set_option linter.unusedVariables false
set_option linter.unusedSimpArgs false
set_option maxRecDepth 100000
namespace Go.Proofs.Ytgkmbijfbdlhkaa.dialectLossless
open Go Go.Ref Groat Go.ChangeShapes Go.WideShapes Go.ChangeAt Go.RowKit
theorem own : ownKnob Try.prog.godebug = none := by kernel_rfl
theorem laidOut : laidOutB Try.prog = true := by kernel_rfl
theorem call (R : Type) (x0 : Int) (K : List SV → Option Box → Option R) : Tb21 R 5 [.dat (.int .i64) x0 []] none K = (groatlaw14_DialectLossless x0).bind fun r => K [.dat .bool r []] none := by kernel_rfl
theorem lifted (os : Os) (started : os.Started) (H : Type) (enc : TypeId × Value → H) :
    ReturnsInHanded {} Try.checked os 5 .any (Rows.dialectLosslessSpec.pre6 enc Try.prog Try.f5 Rows.dialectLosslessRow.domain false) (Rows.dialectLosslessSpec.post enc Try.prog Try.f5 false true false false) := by
  refine returnsInHanded_of_change_sized (C := Try.checked) own started (by kernel_rfl) Try.func5
    (ChangeSpec.witness6 (enc := enc) (C := Try.checked) false ⟨#[], #[.int .i64 0], []⟩ 8 (by kernel_rfl) (by kernel_rfl) (by kernel_rfl) (by kernel_rfl)) ?_
  intro W base args ds gs before hval0 hW hcnd hsz0 _
  have hval : ∀ (j : Nat) t v, Try.f5.params[j]? = some t → args[j]? = some v → Value.okWide Try.prog W .any base t v := hval0
  have hW' := hW
  obtain ⟨p, q, hA0, hV, rfl, hfz, hnd⟩ := hW
  have hA : DataW.TrodAll enc Try.prog W 0 (fun _ => true) true Try.f5.params.toList args.toList ds p := hA0
  rw [Try.params5] at hA hval
  obtain ⟨v0, vs0, d0, ds0, p0, q0, hargs, rfl, rfl, h0, r0⟩ := trodAll_cons hA
  obtain ⟨rfl, rfl, rfl⟩ := trodAll_nil r0
  obtain rfl : args = #[v0] := by cases args; simp_all
  obtain ⟨rfl, rfl⟩ := trodVars_none hV
  have k0 := h0
  have lt0 : ∀ x ∈ p0, x.block < W.heap.size := by obtain ⟨m, hm⟩ := k0; exact DataW.trod_lt m _ _ _ hm
  obtain ⟨x0, wf0, rep0⟩ := open_val (β := fun _ => none) (E := tab.env0) (Tab.env_ok tab_ok _ _ _ _) (T := 3) (t := (.int .i64)) rfl rfl (hval 0 3 v0 rfl rfl) h0
  clear hA0 hval0 hsz0
  refine (row_calls (Tb21_owes 5) (W := W) (args := #[v0]) (l := [.dat (.int .i64) x0 []]) (b := true) ((call _ x0 _).trans (by rw [pure_DialectLossless x0 wf0]; rfl)) (show EnterL (openCfg W fun _ => none) [.dat (.int .i64) x0 []] [v0] from ⟨rep0, (fun _ _ _ h => SV.noConfusion h), trivial⟩)).mono fun e W' ⟨he, bel⟩ => ?_
  subst he
  exact ⟨_, rfl, _, _, _, [], _, [], hW', trodAll_mk1 (shut_bool Try.underlying4 _), (trodAll_cons_mk (Below.trod laidOut (by kernel_rfl) (of_decide_eq_true (by kernel_rfl)) k0 bel lt0) trodAll_mk0), rfl, bel.frame _, fun h => by cases h⟩
theorem over : Rows.dialectLosslessRow.holds Try.pinned (OpenSpec.ofChange Rows.dialectLosslessSpec) :=
  OpenClaim.holds_of_wide 5 Try.f5 rfl rfl rfl rfl rfl rfl rfl ⟨rfl, rfl, rfl, rfl, rfl⟩ rfl rfl rfl rfl rfl (by kernel_rfl) Try.func5 (by kernel_rfl)
    (of_decide_eq_true (by kernel_rfl)) (by unfold Func.isWrapper; first | (rw [if_pos (by decide +kernel)]; kernel_rfl) | (rw [if_neg (by decide +kernel)]; exact ⟨rfl, rfl⟩))
    (fun os started H enc _ => lifted os started H enc)
end Go.Proofs.Ytgkmbijfbdlhkaa.dialectLossless
namespace Go.Proofs.Ytgkmbijfbdlhkaa
/-- The row, under a short name, for the claim. -/
theorem dialectLossless_holds : Rows.DialectLosslessSaid := dialectLossless.over
#print axioms dialectLossless_holds
end Go.Proofs.Ytgkmbijfbdlhkaa
