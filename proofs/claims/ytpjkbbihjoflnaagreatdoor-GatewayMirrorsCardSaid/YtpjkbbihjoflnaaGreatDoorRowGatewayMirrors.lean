/- The law GatewayMirrors returns true at every input: its row, out of the plain functions. -/
import Derived.Test.YtpjkbbihjoflnaaGreatDoorCards
import Derived.Test.YtpjkbbihjoflnaaGreatDoorTie
import Derived.Test.YtpjkbbihjoflnaaGreatDoorK5
import Derived.Lay
import Derived.LaidOnce
import Derived.LaidMore
import Derived.SevenTiedAt
import Derived.ChangeArms
import Derived.Stop.Joined
import Derived.WalkKit
import Derived.ProofKit
import Derived.OpenShut
import Derived.ShutString
import Derived.ChangeOld
import Derived.Below
import Derived.SizedLaws
import Derived.KernelRfl
set_option linter.unusedVariables false
set_option linter.unusedSimpArgs false
set_option maxRecDepth 100000
namespace Go.Proofs.YtpjkbbihjoflnaaGreatDoor.gatewayMirrors
open Go Go.Ref bj Go.ChangeShapes Go.WideShapes Go.ChangeAt Go.RowKit
theorem own : ownKnob Tryz.prog.godebug = none := by kernel_rfl
theorem laidOut : laidOutB Tryz.prog = true := by kernel_rfl
theorem call (R : Type) (x0 : (List ByteArray)) (K : List SV → Option bD → Option R) : AD R 9 [.aj (.sl 9 .str) x0 []] none K = (Jw x0).bind fun r => K [.aj .bool r []] none := by kernel_rfl
theorem lifted (os : Os) (started : os.Started) (H : Type) (enc : TypeId × Value → H) :
    ReturnsInHanded {} Tryz.checked os 9 .any (fun w args => (Rows.gatewayMirrorsSpec.pre enc Tryz.prog Tryz.f9 [] false w args ∧ laidMetH Tryz.prog Rows.gatewayMirrorsRow.laid w) ∧ sizedMet enc Tryz.prog Tryz.f9 (OpenSpec.ofChange Rows.gatewayMirrorsSpec) false w args) (Rows.gatewayMirrorsSpec.post enc Tryz.prog Tryz.f9 false true false false) := by
  refine returnsInHanded_of_change_and (C := Tryz.checked) (X := fun w _ => laidMetH Tryz.prog Rows.gatewayMirrorsRow.laid w) (fun _ _ _ hh h => h.of_heap hh) own started (by kernel_rfl) Tryz.func9
    (ChangeSpec.witness_shaped (enc := enc) (C := Tryz.checked) (os := os) (X := fun w _ => laidMetH Tryz.prog Rows.gatewayMirrorsRow.laid w) false (World.laidAll Tryz.prog os Rows.gatewayMirrorsRow.laid) #[.slice none 0 0] 8 (World.laidAll_os _ _ _)
      (World.shaped_of_ZipB (by kernel_rfl) (by kernel_rfl)) (by kernel_rfl) (by kernel_rfl) (by kernel_rfl)
      (by rw [MakeChecks.laidMetH_plain _ _ _ (by kernel_rfl)]; exact laidMet_laidAll _ (by kernel_rfl) (by kernel_rfl))) ?_
  intro W base args ds gs before Bf hW _ _ hL _
  have sk : ∀ (j : Nat) t v, Tryz.f9.params[j]? = some t → args[j]? = some v → Value.okWide Tryz.prog W .any base t v := Bf
  have hW' := hW
  obtain ⟨p, q, hA0, hV, rfl, hfz, oe⟩ := hW
  have hA : DataW.TrodAll enc Tryz.prog W 0 (fun _ => true) true Tryz.f9.params.toList args.toList ds p := hA0
  rw [Tryz.params9] at hA sk
  obtain ⟨v0, vs0, d0, ds0, p0, q0, bW, rfl, rfl, h0, r0⟩ := trodAll_cons hA
  obtain ⟨rfl, rfl, rfl⟩ := trodAll_nil r0
  obtain rfl : args = #[v0] := by cases args; simp_all
  obtain ⟨rfl, rfl⟩ := trodVars_none hV
  have k0 := h0
  have lt0 : ∀ x ∈ p0, x.block < W.heap.size := by obtain ⟨m, hm⟩ := k0; exact DataW.trod_lt m _ _ _ hm
  obtain ⟨x0, wf0, ab8⟩ := alu (β := fun _ => none) (E := cc.Cx) (sR.uD QG _ _ _ _) (T := 66) (t := (.sl 9 .str)) rfl rfl (sk 0 66 v0 rfl rfl) h0
  clear hA0 Bf
  refine (ah3 (ab1.vn 9) (W := W) (args := #[v0]) (l := [.aj (.sl 9 .str) x0 []]) (b := true) ((call _ x0 _).trans (by rw [hI x0 wf0]; rfl)) (show Sh (vI W fun _ => none) [.aj (.sl 9 .str) x0 []] [v0] from ⟨ab8, (fun _ _ _ h => SV.noConfusion h), trivial⟩)).mono fun e W' ⟨he, bel⟩ => ?_
  subst he
  exact ⟨_, rfl, _, _, _, [], _, [], hW', trodAll_mk1 (shut_bool Tryz.underlying4 _), (trodAll_cons_mk (Below.trod laidOut (by kernel_rfl) (of_decide_eq_true (by kernel_rfl)) k0 bel lt0) trodAll_mk0), rfl, bel.frame _, fun h => by cases h⟩
theorem over : Rows.gatewayMirrorsRow.holds Tryz.pinned (OpenSpec.ofChange Rows.gatewayMirrorsSpec) :=
  OpenClaim.holds_of_wide 9 Tryz.f9 rfl rfl rfl rfl rfl rfl rfl ⟨rfl, rfl, rfl, rfl, rfl⟩ rfl rfl rfl rfl rfl (by kernel_rfl) Tryz.func9 (by kernel_rfl)
    (of_decide_eq_true (by kernel_rfl)) (by unfold Func.isWrapper; first | (rw [if_pos (by decide +kernel)]; kernel_rfl) | (rw [if_neg (by decide +kernel)]; exact ⟨rfl, rfl⟩))
    (fun os started H enc _ => lifted os started H enc)
end Go.Proofs.YtpjkbbihjoflnaaGreatDoor.gatewayMirrors
namespace Go.Proofs.YtpjkbbihjoflnaaGreatDoor
open Go in
/-- The tied card: the row, and what its variables hold tied to the text. -/
theorem gatewayMirrors_holds : Rows.GatewayMirrorsCardSaid :=
  Claim7.holds_tied_plain_at .later [] _ _ _ _ gatewayMirrors.over (fun _ h => by cases h) (by kernel_rfl) (fun _ h => by cases h) gatewayMirrors_row_tie rfl ⟨rfl, rfl⟩ (by kernel_rfl) rfl
    (fun f fn hf jn => by
      obtain rfl : f = 9 := Option.some.inj ((show Tryz.prog.funcNamed "groat/groatlaw26.GatewayMirrors" = some 9 by kernel_rfl).symm.trans hf) |>.symm
      obtain rfl : fn = Tryz.f9 := (Option.some.inj (Tryz.func9.symm.trans jn)).symm
      exact ⟨by kernel_rfl, fun j t ht => by
        rw [Tryz.params9] at ht
        have hm : t ∈ [66] := by simpa using Array.mem_of_getElem? ht
        have cW : ([66].all fun u => !Tryz.prog.wantsStandIn u) = true := by kernel_rfl
        exact (show Tryz.prog.wantsStandIn t = false by simpa using List.all_eq_true.1 cW t hm)⟩)
    (by kernel_rfl)
#print axioms gatewayMirrors_holds
end Go.Proofs.YtpjkbbihjoflnaaGreatDoor
