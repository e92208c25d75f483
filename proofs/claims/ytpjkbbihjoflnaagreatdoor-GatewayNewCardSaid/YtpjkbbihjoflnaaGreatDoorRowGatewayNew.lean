/- The law GatewayNew returns true at every input: its row, out of the plain functions. -/
import Derived.Test.YtpjkbbihjoflnaaGreatDoorCards
import Derived.Test.YtpjkbbihjoflnaaGreatDoorTie
import Derived.Test.YtpjkbbihjoflnaaGreatDoorK4
import Derived.Lay
import Derived.LaidOnce
import Derived.LaidMore
import Derived.SevenTiedAt
import Derived.ChangeArms
import Derived.Stop.Joined
import Derived.WalkKit
import Derived.ProofKit
import Derived.OpenShut
import Derived.ShutString
import Derived.ChangeOld
import Derived.Below
import Derived.SizedLaws
import Derived.KernelRfl
set_option linter.unusedVariables false
set_option linter.unusedSimpArgs false
set_option maxRecDepth 100000
namespace Go.Proofs.YtpjkbbihjoflnaaGreatDoor.gatewayNew
open Go Go.Ref bA Go.ChangeShapes Go.WideShapes Go.ChangeAt Go.RowKit
theorem own : ownKnob Tryz.prog.godebug = none := by kernel_rfl
theorem laidOut : laidOutB Tryz.prog = true := by kernel_rfl
theorem call (R : Type) (x0 : ((List ((Int × Int × (List (Int × Int × Int × Int × Int × Unit)) × Unit) × ((List (ByteArray × ByteArray × Unit)) × (List (Int × Int × Int × ByteArray × (List (ByteArray × ByteArray × Unit)) × Unit)) × Unit) × (List Int) × (List (Int × ByteArray × Unit)) × Unit)) × Int × Unit)) (K : List SV → Option bj → Option R) : vz R 3 [.ai (.pair (.arr 2 (.pair (.pair (.int .i64) (.pair (.int .i64) (.pair (.sl 127 (.pair (.int .i64) (.pair (.int .i64) (.pair (.int .i64) (.pair (.int .i64) (.pair (.int .i64) .unit)))))) .unit))) (.pair (.pair (.sl 109 (.pair .str (.pair .str .unit))) (.pair (.sl 102 (.pair (.int .i64) (.pair (.int .i64) (.pair (.int .i64) (.pair .str (.pair (.sl 109 (.pair .str (.pair .str .unit))) .unit)))))) .unit)) (.pair (.sl 3 (.int .i64)) (.pair (.sl 107 (.pair (.int .i64) (.pair .str .unit))) .unit))))) (.pair (.int .i64) .unit)) x0 []] none K = (CG x0).bind fun r => K [.ai .bool r []] none := by kernel_rfl
theorem lifted (os : Os) (started : os.Started) (H : Type) (enc : TypeId × Value → H) :
    ReturnsInHanded {} Tryz.checked os 3 .any (fun w args => (Rows.gatewayNewSpec.pre enc Tryz.prog Tryz.f3 [] false w args ∧ laidMetH Tryz.prog Rows.gatewayNewRow.laid w) ∧ sizedMet enc Tryz.prog Tryz.f3 (OpenSpec.ofChange Rows.gatewayNewSpec) false w args) (Rows.gatewayNewSpec.post enc Tryz.prog Tryz.f3 false true false false) := by
  refine returnsInHanded_of_change_and (C := Tryz.checked) (X := fun w _ => laidMetH Tryz.prog Rows.gatewayNewRow.laid w) (fun _ _ _ hh h => h.of_heap hh) own started (by kernel_rfl) Tryz.func3
    (ChangeSpec.witness_shaped (enc := enc) (C := Tryz.checked) (os := os) (X := fun w _ => laidMetH Tryz.prog Rows.gatewayNewRow.laid w) false (World.laidAll Tryz.prog os Rows.gatewayNewRow.laid) #[.agg #[.int .i64 0, .int .i64 0, .slice none 0 0, .slice none 0 0, .slice none 0 0, .slice none 0 0, .slice none 0 0, .int .i64 0, .int .i64 0, .slice none 0 0, .slice none 0 0, .slice none 0 0, .slice none 0 0, .slice none 0 0, .int .i64 0]] 8 (World.laidAll_os _ _ _)
      (World.shaped_of_ZipB (by kernel_rfl) (by kernel_rfl)) (by kernel_rfl) (by kernel_rfl) (by kernel_rfl)
      (by rw [MakeChecks.laidMetH_plain _ _ _ (by kernel_rfl)]; exact laidMet_laidAll _ (by kernel_rfl) (by kernel_rfl))) ?_
  intro W base args ds gs before vT hW _ _ hL _
  have oc : ∀ (j : Nat) t v, Tryz.f3.params[j]? = some t → args[j]? = some v → Value.okWide Tryz.prog W .any base t v := vT
  have hW' := hW
  obtain ⟨p, q, hA0, hV, rfl, hfz, lA⟩ := hW
  have hA : DataW.TrodAll enc Tryz.prog W 0 (fun _ => true) true Tryz.f3.params.toList args.toList ds p := hA0
  rw [Tryz.params3] at hA oc
  obtain ⟨v0, vs0, d0, ds0, p0, q0, bJ, rfl, rfl, h0, r0⟩ := trodAll_cons hA
  obtain ⟨rfl, rfl, rfl⟩ := trodAll_nil r0
  obtain rfl : args = #[v0] := by cases args; simp_all
  obtain ⟨rfl, rfl⟩ := trodVars_none hV
  have k0 := h0
  have lt0 : ∀ x ∈ p0, x.block < W.heap.size := by obtain ⟨m, hm⟩ := k0; exact DataW.trod_lt m _ _ _ hm
  obtain ⟨x0, wf0, RO⟩ := YV (β := fun _ => none) (E := bX.xP) (oH.qh Hc _ _ _ _) (T := 35) (t := (.pair (.arr 2 (.pair (.pair (.int .i64) (.pair (.int .i64) (.pair (.sl 127 (.pair (.int .i64) (.pair (.int .i64) (.pair (.int .i64) (.pair (.int .i64) (.pair (.int .i64) .unit)))))) .unit))) (.pair (.pair (.sl 109 (.pair .str (.pair .str .unit))) (.pair (.sl 102 (.pair (.int .i64) (.pair (.int .i64) (.pair (.int .i64) (.pair .str (.pair (.sl 109 (.pair .str (.pair .str .unit))) .unit)))))) .unit)) (.pair (.sl 3 (.int .i64)) (.pair (.sl 107 (.pair (.int .i64) (.pair .str .unit))) .unit))))) (.pair (.int .i64) .unit))) rfl rfl (oc 0 35 v0 rfl rfl) h0
  clear hA0 vT
  refine (Wb (RC.qQ 3) (W := W) (args := #[v0]) (l := [.ai (.pair (.arr 2 (.pair (.pair (.int .i64) (.pair (.int .i64) (.pair (.sl 127 (.pair (.int .i64) (.pair (.int .i64) (.pair (.int .i64) (.pair (.int .i64) (.pair (.int .i64) .unit)))))) .unit))) (.pair (.pair (.sl 109 (.pair .str (.pair .str .unit))) (.pair (.sl 102 (.pair (.int .i64) (.pair (.int .i64) (.pair (.int .i64) (.pair .str (.pair (.sl 109 (.pair .str (.pair .str .unit))) .unit)))))) .unit)) (.pair (.sl 3 (.int .i64)) (.pair (.sl 107 (.pair (.int .i64) (.pair .str .unit))) .unit))))) (.pair (.int .i64) .unit)) x0 []]) (b := true) ((call _ x0 _).trans (by rw [hD x0 wf0]; rfl)) (show Ig (rl W fun _ => none) [.ai (.pair (.arr 2 (.pair (.pair (.int .i64) (.pair (.int .i64) (.pair (.sl 127 (.pair (.int .i64) (.pair (.int .i64) (.pair (.int .i64) (.pair (.int .i64) (.pair (.int .i64) .unit)))))) .unit))) (.pair (.pair (.sl 109 (.pair .str (.pair .str .unit))) (.pair (.sl 102 (.pair (.int .i64) (.pair (.int .i64) (.pair (.int .i64) (.pair .str (.pair (.sl 109 (.pair .str (.pair .str .unit))) .unit)))))) .unit)) (.pair (.sl 3 (.int .i64)) (.pair (.sl 107 (.pair (.int .i64) (.pair .str .unit))) .unit))))) (.pair (.int .i64) .unit)) x0 []] [v0] from ⟨RO, (fun _ _ _ h => SV.noConfusion h), trivial⟩)).mono fun e W' ⟨he, bel⟩ => ?_
  subst he
  exact ⟨_, rfl, _, _, _, [], _, [], hW', trodAll_mk1 (shut_bool Tryz.underlying4 _), (trodAll_cons_mk (Below.trod laidOut (by kernel_rfl) (of_decide_eq_true (by kernel_rfl)) k0 bel lt0) trodAll_mk0), rfl, bel.frame _, fun h => by cases h⟩
theorem over : Rows.gatewayNewRow.holds Tryz.pinned (OpenSpec.ofChange Rows.gatewayNewSpec) :=
  OpenClaim.holds_of_wide 3 Tryz.f3 rfl rfl rfl rfl rfl rfl rfl ⟨rfl, rfl, rfl, rfl, rfl⟩ rfl rfl rfl rfl rfl (by kernel_rfl) Tryz.func3 (by kernel_rfl)
    (of_decide_eq_true (by kernel_rfl)) (by unfold Func.isWrapper; first | (rw [if_pos (by decide +kernel)]; kernel_rfl) | (rw [if_neg (by decide +kernel)]; exact ⟨rfl, rfl⟩))
    (fun os started H enc _ => lifted os started H enc)
end Go.Proofs.YtpjkbbihjoflnaaGreatDoor.gatewayNew
namespace Go.Proofs.YtpjkbbihjoflnaaGreatDoor
open Go in
/-- The tied card: the row, and what its variables hold tied to the text. -/
theorem gatewayNew_holds : Rows.GatewayNewCardSaid :=
  Claim7.holds_tied_plain_at .later [] _ _ _ _ gatewayNew.over (fun _ h => by cases h) (by kernel_rfl) (fun _ h => by cases h) gatewayNew_row_tie rfl ⟨rfl, rfl⟩ (by kernel_rfl) rfl
    (fun f fn hf fZ => by
      obtain rfl : f = 3 := Option.some.inj ((show Tryz.prog.funcNamed "groat/groatlaw26.GatewayNew" = some 3 by kernel_rfl).symm.trans hf) |>.symm
      obtain rfl : fn = Tryz.f3 := (Option.some.inj (Tryz.func3.symm.trans fZ)).symm
      exact ⟨by kernel_rfl, fun j t ht => by
        rw [Tryz.params3] at ht
        have hm : t ∈ [35] := by simpa using Array.mem_of_getElem? ht
        have cI : ([35].all fun u => !Tryz.prog.wantsStandIn u) = true := by kernel_rfl
        exact (show Tryz.prog.wantsStandIn t = false by simpa using List.all_eq_true.1 cI t hm)⟩)
    (by kernel_rfl)
#print axioms gatewayNew_holds
end Go.Proofs.YtpjkbbihjoflnaaGreatDoor
