/- The law GatewayRuns returns true at every input: its row, out of the plain functions. -/
import Derived.Test.YtpjkbbihjoflnaaGreatDoorCards
import Derived.Test.YtpjkbbihjoflnaaGreatDoorTie
import Derived.Test.YtpjkbbihjoflnaaGreatDoorK5
import Derived.Lay
import Derived.LaidOnce
import Derived.LaidMore
import Derived.SevenTiedAt
import Derived.ChangeArms
import Derived.Stop.Joined
import Derived.WalkKit
import Derived.ProofKit
import Derived.OpenShut
import Derived.ShutString
import Derived.ChangeOld
import Derived.Below
import Derived.SizedLaws
import Derived.KernelRfl
set_option linter.unusedVariables false
set_option linter.unusedSimpArgs false
set_option maxRecDepth 100000
open Go.Proofs.Tryz renaming prog->ee,f4->zgS,checked->zhC
namespace Go.Proofs.YtpjkbbihjoflnaaGreatDoor.gatewayRuns
open Go Go.Ref bz Go.ChangeShapes Go.WideShapes Go.ChangeAt Go.RowKit
theorem own : ownKnob Tryz.prog.godebug = none := by kernel_rfl
theorem laidOut : laidOutB ee = true := by kernel_rfl
theorem call (R : Type) (x0 : ((List ((Int × Int × (List (Int × Int × Int × Int × Int × Unit)) × Unit) × ((List (ByteArray × ByteArray × Unit)) × (List (Int × Int × Int × ByteArray × (List (ByteArray × ByteArray × Unit)) × Unit)) × Unit) × (List Int) × (List (Int × ByteArray × Unit)) × Unit)) × Int × Unit)) (x1 : (List (Int × ByteArray × Unit))) (K : List SV → Option bH → Option R) : Ei R 4 [.aq (.pair (.arr 2 (.pair (.pair (.int .i64) (.pair (.int .i64) (.pair (.sl 127 (.pair (.int .i64) (.pair (.int .i64) (.pair (.int .i64) (.pair (.int .i64) (.pair (.int .i64) .unit)))))) .unit))) (.pair (.pair (.sl 109 (.pair .str (.pair .str .unit))) (.pair (.sl 102 (.pair (.int .i64) (.pair (.int .i64) (.pair (.int .i64) (.pair .str (.pair (.sl 109 (.pair .str (.pair .str .unit))) .unit)))))) .unit)) (.pair (.sl 3 (.int .i64)) (.pair (.sl 107 (.pair (.int .i64) (.pair .str .unit))) .unit))))) (.pair (.int .i64) .unit)) x0 [], .aq (.sl 57 (.pair (.int .i64) (.pair .str .unit))) x1 []] none K = (Pw x0 x1).bind λr => K [.aq .bool r []] none := by kernel_rfl
theorem lifted (os : Os) (started : os.Started) (H : Type) (enc : TypeId × Value → H) :
    ReturnsInHanded {} zhC os 4 .any (λw args => (Rows.gatewayRunsSpec.pre enc ee zgS [] false w args ∧ laidMetH ee Rows.gatewayRunsRow.laid w) ∧ sizedMet enc ee zgS (OpenSpec.ofChange Rows.gatewayRunsSpec) false w args) (Rows.gatewayRunsSpec.post enc ee zgS false true false false) := by
  refine returnsInHanded_of_change_and (C := zhC) (X := λw _ => laidMetH ee Rows.gatewayRunsRow.laid w) (λ_ _ _ hh h => h.of_heap hh) own started (by kernel_rfl) Tryz.func4
    (ChangeSpec.witness_shaped (enc := enc) (C := zhC) (os := os) (X := λw _ => laidMetH ee Rows.gatewayRunsRow.laid w) false (World.laidAll ee os Rows.gatewayRunsRow.laid) #[.agg #[.int .i64 0, .int .i64 0, .slice none 0 0, .slice none 0 0, .slice none 0 0, .slice none 0 0, .slice none 0 0, .int .i64 0, .int .i64 0, .slice none 0 0, .slice none 0 0, .slice none 0 0, .slice none 0 0, .slice none 0 0, .int .i64 0], .slice none 0 0] 8 (World.laidAll_os _ _ _)
      (World.shaped_of_ZipB (by kernel_rfl) (by kernel_rfl)) (by kernel_rfl) (by kernel_rfl) (by kernel_rfl)
      (by rw [MakeChecks.laidMetH_plain _ _ _ (by kernel_rfl)]; exact laidMet_laidAll _ (by kernel_rfl) (by kernel_rfl))) ?_
  intro W base args ds gs before ET hW _ _ hL _;have pQ : ∀ (j : Nat) t v, Tryz.f4.params[j]? = some t → args[j]? = some v → Value.okWide ee W .any base t v := ET;have hW' := hW;obtain ⟨p, q, hA0, hV, rfl, hfz, oO⟩ := hW;have hA : DataW.TrodAll enc ee W 0 (λ_ => true) true Tryz.f4.params.toList args.toList ds p := hA0;rw [Tryz.params4] at hA pQ;obtain ⟨v0, vs0, d0, ds0, p0, q0, cg, rfl, rfl, h0, r0⟩ := trodAll_cons hA;obtain ⟨v1, vs1, d1, ds1, p1, q1, rfl, rfl, rfl, h1, r1⟩ := trodAll_cons r0;obtain ⟨rfl, rfl, rfl⟩ := trodAll_nil r1;obtain rfl : args = #[v0, v1] := by cases args; simp_all
  obtain ⟨rfl, rfl⟩ := trodVars_none hV;have k0 := h0;have lt0 : ∀ x ∈ p0, x.block < W.heap.size := by obtain ⟨m, hm⟩ := k0; exact DataW.trod_lt m _ _ _ hm
  obtain ⟨x0, wf0, acL⟩ := V5 (β := λ_ => none) (E := bU.Aj) (ti.pH LR _ _ _ _) (T := 35) (t := (.pair (.arr 2 (.pair (.pair (.int .i64) (.pair (.int .i64) (.pair (.sl 127 (.pair (.int .i64) (.pair (.int .i64) (.pair (.int .i64) (.pair (.int .i64) (.pair (.int .i64) .unit)))))) .unit))) (.pair (.pair (.sl 109 (.pair .str (.pair .str .unit))) (.pair (.sl 102 (.pair (.int .i64) (.pair (.int .i64) (.pair (.int .i64) (.pair .str (.pair (.sl 109 (.pair .str (.pair .str .unit))) .unit)))))) .unit)) (.pair (.sl 3 (.int .i64)) (.pair (.sl 107 (.pair (.int .i64) (.pair .str .unit))) .unit))))) (.pair (.int .i64) .unit))) rfl rfl (pQ 0 35 v0 rfl rfl) h0;have k1 := h1;have lt1 : ∀ x ∈ p1, x.block < W.heap.size := by obtain ⟨m, hm⟩ := k1; exact DataW.trod_lt m _ _ _ hm
  obtain ⟨x1, wf1, acM⟩ := V5 (β := λ_ => none) (E := bU.Aj) (ti.pH LR _ _ _ _) (T := 46) (t := (.sl 57 (.pair (.int .i64) (.pair .str .unit)))) rfl rfl (pQ 1 46 v1 rfl rfl) h1;clear hA0 ET;refine (aiX (acF.xh 4) (W := W) (args := #[v0, v1]) (l := [.aq (.pair (.arr 2 (.pair (.pair (.int .i64) (.pair (.int .i64) (.pair (.sl 127 (.pair (.int .i64) (.pair (.int .i64) (.pair (.int .i64) (.pair (.int .i64) (.pair (.int .i64) .unit)))))) .unit))) (.pair (.pair (.sl 109 (.pair .str (.pair .str .unit))) (.pair (.sl 102 (.pair (.int .i64) (.pair (.int .i64) (.pair (.int .i64) (.pair .str (.pair (.sl 109 (.pair .str (.pair .str .unit))) .unit)))))) .unit)) (.pair (.sl 3 (.int .i64)) (.pair (.sl 107 (.pair (.int .i64) (.pair .str .unit))) .unit))))) (.pair (.int .i64) .unit)) x0 [], .aq (.sl 57 (.pair (.int .i64) (.pair .str .unit))) x1 []]) (b := true) ((call _ x0 x1 _).trans (by rw [jG x0 x1 wf0 wf1]; rfl)) (show zgt (xH W λ_ => none) [.aq (.pair (.arr 2 (.pair (.pair (.int .i64) (.pair (.int .i64) (.pair (.sl 127 (.pair (.int .i64) (.pair (.int .i64) (.pair (.int .i64) (.pair (.int .i64) (.pair (.int .i64) .unit)))))) .unit))) (.pair (.pair (.sl 109 (.pair .str (.pair .str .unit))) (.pair (.sl 102 (.pair (.int .i64) (.pair (.int .i64) (.pair (.int .i64) (.pair .str (.pair (.sl 109 (.pair .str (.pair .str .unit))) .unit)))))) .unit)) (.pair (.sl 3 (.int .i64)) (.pair (.sl 107 (.pair (.int .i64) (.pair .str .unit))) .unit))))) (.pair (.int .i64) .unit)) x0 [], .aq (.sl 57 (.pair (.int .i64) (.pair .str .unit))) x1 []] [v0, v1] from ⟨acL, (λ_ _ _ h => SV.noConfusion h), acM, (λ_ _ _ h => SV.noConfusion h), trivial⟩)).mono λe W' ⟨he, bel⟩ => ?_;subst he;exact ⟨_, rfl, _, _, _, [], _, [], hW', trodAll_mk1 (shut_bool Tryz.underlying4 _), (trodAll_cons_mk (Below.trod laidOut (by kernel_rfl) (of_decide_eq_true (by kernel_rfl)) k0 bel lt0) (trodAll_cons_mk (Below.trod laidOut (by kernel_rfl) (of_decide_eq_true (by kernel_rfl)) k1 bel lt1) trodAll_mk0)), rfl, bel.frame _, λh => by cases h⟩
theorem over : Rows.gatewayRunsRow.holds Tryz.pinned (OpenSpec.ofChange Rows.gatewayRunsSpec) :=
  OpenClaim.holds_of_wide 4 zgS rfl rfl rfl rfl rfl rfl rfl ⟨rfl, rfl, rfl, rfl, rfl⟩ rfl rfl rfl rfl rfl (by kernel_rfl) Tryz.func4 (by kernel_rfl)
    (of_decide_eq_true (by kernel_rfl)) (by unfold Func.isWrapper; first | (rw [if_pos (by decide +kernel)]; kernel_rfl) | (rw [if_neg (by decide +kernel)]; exact ⟨rfl, rfl⟩))
    (λos started H enc _ => lifted os started H enc)
end Go.Proofs.YtpjkbbihjoflnaaGreatDoor.gatewayRuns
namespace Go.Proofs.YtpjkbbihjoflnaaGreatDoor
open Go in
/-- The tied card: the row, and what its variables hold tied to the text. -/
theorem gatewayRuns_holds : Rows.GatewayRunsCardSaid :=
  Claim7.holds_tied_plain_at .later [] _ _ _ _ gatewayRuns.over (λ_ h => by cases h) (by kernel_rfl) (λ_ h => by cases h) gatewayRuns_row_tie rfl ⟨rfl, rfl⟩ (by kernel_rfl) rfl
    (λf fn hf iJ => by
      obtain rfl : f = 4 := Option.some.inj ((show Tryz.prog.funcNamed "groat/groatlaw26.GatewayRuns" = some 4 by kernel_rfl).symm.trans hf) |>.symm;obtain rfl : fn = zgS := (Option.some.inj (Tryz.func4.symm.trans iJ)).symm;exact ⟨by kernel_rfl, λj t ht => by
        rw [Tryz.params4] at ht;have hm : t ∈ [35, 46] := by simpa using Array.mem_of_getElem? ht
        have c8 : ([35, 46].all λu => !Tryz.prog.wantsStandIn u) = true := by kernel_rfl
        exact (show Tryz.prog.wantsStandIn t = false by simpa using List.all_eq_true.1 c8 t hm)⟩)
    (by kernel_rfl)
#print axioms gatewayRuns_holds
end Go.Proofs.YtpjkbbihjoflnaaGreatDoor
