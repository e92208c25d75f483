/- The law GatewayMixed returns true at every input: its row, out of the plain functions. -/
import Derived.Test.YtpjkbbihjoflnaaGreatDoorCards
import Derived.Test.YtpjkbbihjoflnaaGreatDoorTie
import Derived.Test.YtpjkbbihjoflnaaGreatDoorK5
import Derived.Lay
import Derived.LaidOnce
import Derived.LaidMore
import Derived.SevenTiedAt
import Derived.ChangeArms
import Derived.Stop.Joined
import Derived.WalkKit
import Derived.ProofKit
import Derived.OpenShut
import Derived.ShutString
import Derived.ChangeOld
import Derived.Below
import Derived.SizedLaws
import Derived.KernelRfl
set_option linter.unusedVariables false
set_option linter.unusedSimpArgs false
set_option maxRecDepth 100000
namespace Go.Proofs.YtpjkbbihjoflnaaGreatDoor.gatewayMixed
open Go Go.Ref bm Go.ChangeShapes Go.WideShapes Go.ChangeAt Go.RowKit
theorem own : ownKnob Tryz.prog.godebug = none := by kernel_rfl
theorem laidOut : laidOutB Tryz.prog = true := by kernel_rfl
theorem call (R : Type) (x0 : ((List ((Int × Int × (List (Int × Int × Int × Int × Int × Unit)) × Unit) × ((List (ByteArray × ByteArray × Unit)) × (List (Int × Int × Int × ByteArray × (List (ByteArray × ByteArray × Unit)) × Unit)) × Unit) × (List Int) × (List (Int × ByteArray × Unit)) × Unit)) × Int × Unit)) (x1 : (List (Int × ByteArray × Unit))) (K : List SV → Option bC → Option R) : Am R 5 [.aj (.pair (.arr 2 (.pair (.pair (.int .i64) (.pair (.int .i64) (.pair (.sl 127 (.pair (.int .i64) (.pair (.int .i64) (.pair (.int .i64) (.pair (.int .i64) (.pair (.int .i64) .unit)))))) .unit))) (.pair (.pair (.sl 109 (.pair .str (.pair .str .unit))) (.pair (.sl 102 (.pair (.int .i64) (.pair (.int .i64) (.pair (.int .i64) (.pair .str (.pair (.sl 109 (.pair .str (.pair .str .unit))) .unit)))))) .unit)) (.pair (.sl 3 (.int .i64)) (.pair (.sl 107 (.pair (.int .i64) (.pair .str .unit))) .unit))))) (.pair (.int .i64) .unit)) x0 [], .aj (.sl 57 (.pair (.int .i64) (.pair .str .unit))) x1 []] none K = (ID x0 x1).bind fun r => K [.aj .bool r []] none := by kernel_rfl
theorem lifted (os : Os) (started : os.Started) (H : Type) (enc : TypeId × Value → H) :
    ReturnsInHanded {} Tryz.checked os 5 .any (fun w args => (Rows.gatewayMixedSpec.pre enc Tryz.prog Tryz.f5 [] false w args ∧ laidMetH Tryz.prog Rows.gatewayMixedRow.laid w) ∧ sizedMet enc Tryz.prog Tryz.f5 (OpenSpec.ofChange Rows.gatewayMixedSpec) false w args) (Rows.gatewayMixedSpec.post enc Tryz.prog Tryz.f5 false true false false) := by
  refine returnsInHanded_of_change_and (C := Tryz.checked) (X := fun w _ => laidMetH Tryz.prog Rows.gatewayMixedRow.laid w) (fun _ _ _ hh h => h.of_heap hh) own started (by kernel_rfl) Tryz.func5
    (ChangeSpec.witness_shaped (enc := enc) (C := Tryz.checked) (os := os) (X := fun w _ => laidMetH Tryz.prog Rows.gatewayMixedRow.laid w) false (World.laidAll Tryz.prog os Rows.gatewayMixedRow.laid) #[.agg #[.int .i64 0, .int .i64 0, .slice none 0 0, .slice none 0 0, .slice none 0 0, .slice none 0 0, .slice none 0 0, .int .i64 0, .int .i64 0, .slice none 0 0, .slice none 0 0, .slice none 0 0, .slice none 0 0, .slice none 0 0, .int .i64 0], .slice none 0 0] 8 (World.laidAll_os _ _ _)
      (World.shaped_of_ZipB (by kernel_rfl) (by kernel_rfl)) (by kernel_rfl) (by kernel_rfl) (by kernel_rfl)
      (by rw [MakeChecks.laidMetH_plain _ _ _ (by kernel_rfl)]; exact laidMet_laidAll _ (by kernel_rfl) (by kernel_rfl))) ?_
  intro W base args ds gs before AU hW _ _ hL _
  have oI : ∀ (j : Nat) t v, Tryz.f5.params[j]? = some t → args[j]? = some v → Value.okWide Tryz.prog W .any base t v := AU
  have hW' := hW
  obtain ⟨p, q, hA0, hV, rfl, hfz, nI⟩ := hW
  have hA : DataW.TrodAll enc Tryz.prog W 0 (fun _ => true) true Tryz.f5.params.toList args.toList ds p := hA0
  rw [Tryz.params5] at hA oI
  obtain ⟨v0, vs0, d0, ds0, p0, q0, bW, rfl, rfl, h0, r0⟩ := trodAll_cons hA
  obtain ⟨v1, vs1, d1, ds1, p1, q1, rfl, rfl, rfl, h1, r1⟩ := trodAll_cons r0
  obtain ⟨rfl, rfl, rfl⟩ := trodAll_nil r1
  obtain rfl : args = #[v0, v1] := by cases args; simp_all
  obtain ⟨rfl, rfl⟩ := trodVars_none hV
  have k0 := h0
  have lt0 : ∀ x ∈ p0, x.block < W.heap.size := by obtain ⟨m, hm⟩ := k0; exact DataW.trod_lt m _ _ _ hm
  obtain ⟨x0, wf0, abJ⟩ := NJ (β := fun _ => none) (E := b9.xk) (rf.oq E5 _ _ _ _) (T := 35) (t := (.pair (.arr 2 (.pair (.pair (.int .i64) (.pair (.int .i64) (.pair (.sl 127 (.pair (.int .i64) (.pair (.int .i64) (.pair (.int .i64) (.pair (.int .i64) (.pair (.int .i64) .unit)))))) .unit))) (.pair (.pair (.sl 109 (.pair .str (.pair .str .unit))) (.pair (.sl 102 (.pair (.int .i64) (.pair (.int .i64) (.pair (.int .i64) (.pair .str (.pair (.sl 109 (.pair .str (.pair .str .unit))) .unit)))))) .unit)) (.pair (.sl 3 (.int .i64)) (.pair (.sl 107 (.pair (.int .i64) (.pair .str .unit))) .unit))))) (.pair (.int .i64) .unit))) rfl rfl (oI 0 35 v0 rfl rfl) h0
  have k1 := h1
  have lt1 : ∀ x ∈ p1, x.block < W.heap.size := by obtain ⟨m, hm⟩ := k1; exact DataW.trod_lt m _ _ _ hm
  obtain ⟨x1, wf1, abK⟩ := NJ (β := fun _ => none) (E := b9.xk) (rf.oq E5 _ _ _ _) (T := 46) (t := (.sl 57 (.pair (.int .i64) (.pair .str .unit)))) rfl rfl (oI 1 46 v1 rfl rfl) h1
  clear hA0 AU
  refine (ahm (abD.uL 5) (W := W) (args := #[v0, v1]) (l := [.aj (.pair (.arr 2 (.pair (.pair (.int .i64) (.pair (.int .i64) (.pair (.sl 127 (.pair (.int .i64) (.pair (.int .i64) (.pair (.int .i64) (.pair (.int .i64) (.pair (.int .i64) .unit)))))) .unit))) (.pair (.pair (.sl 109 (.pair .str (.pair .str .unit))) (.pair (.sl 102 (.pair (.int .i64) (.pair (.int .i64) (.pair (.int .i64) (.pair .str (.pair (.sl 109 (.pair .str (.pair .str .unit))) .unit)))))) .unit)) (.pair (.sl 3 (.int .i64)) (.pair (.sl 107 (.pair (.int .i64) (.pair .str .unit))) .unit))))) (.pair (.int .i64) .unit)) x0 [], .aj (.sl 57 (.pair (.int .i64) (.pair .str .unit))) x1 []]) (b := true) ((call _ x0 x1 _).trans (by rw [iD x0 x1 wf0 wf1]; rfl)) (show Rt (vg W fun _ => none) [.aj (.pair (.arr 2 (.pair (.pair (.int .i64) (.pair (.int .i64) (.pair (.sl 127 (.pair (.int .i64) (.pair (.int .i64) (.pair (.int .i64) (.pair (.int .i64) (.pair (.int .i64) .unit)))))) .unit))) (.pair (.pair (.sl 109 (.pair .str (.pair .str .unit))) (.pair (.sl 102 (.pair (.int .i64) (.pair (.int .i64) (.pair (.int .i64) (.pair .str (.pair (.sl 109 (.pair .str (.pair .str .unit))) .unit)))))) .unit)) (.pair (.sl 3 (.int .i64)) (.pair (.sl 107 (.pair (.int .i64) (.pair .str .unit))) .unit))))) (.pair (.int .i64) .unit)) x0 [], .aj (.sl 57 (.pair (.int .i64) (.pair .str .unit))) x1 []] [v0, v1] from ⟨abJ, (fun _ _ _ h => SV.noConfusion h), abK, (fun _ _ _ h => SV.noConfusion h), trivial⟩)).mono fun e W' ⟨he, Zf⟩ => ?_
  subst he
  exact ⟨_, rfl, _, _, _, [], _, [], hW', trodAll_mk1 (shut_bool Tryz.underlying4 _), (trodAll_cons_mk (Below.trod laidOut (by kernel_rfl) (of_decide_eq_true (by kernel_rfl)) k0 Zf lt0) (trodAll_cons_mk (Below.trod laidOut (by kernel_rfl) (of_decide_eq_true (by kernel_rfl)) k1 Zf lt1) trodAll_mk0)), rfl, Zf.frame _, fun h => by cases h⟩
theorem over : Rows.gatewayMixedRow.holds Tryz.pinned (OpenSpec.ofChange Rows.gatewayMixedSpec) :=
  OpenClaim.holds_of_wide 5 Tryz.f5 rfl rfl rfl rfl rfl rfl rfl ⟨rfl, rfl, rfl, rfl, rfl⟩ rfl rfl rfl rfl rfl (by kernel_rfl) Tryz.func5 (by kernel_rfl)
    (of_decide_eq_true (by kernel_rfl)) (by unfold Func.isWrapper; first | (rw [if_pos (by decide +kernel)]; kernel_rfl) | (rw [if_neg (by decide +kernel)]; exact ⟨rfl, rfl⟩))
    (fun os started H enc _ => lifted os started H enc)
end Go.Proofs.YtpjkbbihjoflnaaGreatDoor.gatewayMixed
namespace Go.Proofs.YtpjkbbihjoflnaaGreatDoor
open Go in
/-- The tied card: the row, and what its variables hold tied to the text. -/
theorem gatewayMixed_holds : Rows.GatewayMixedCardSaid :=
  Claim7.holds_tied_plain_at .later [] _ _ _ _ gatewayMixed.over (fun _ h => by cases h) (by kernel_rfl) (fun _ h => by cases h) gatewayMixed_row_tie rfl ⟨rfl, rfl⟩ (by kernel_rfl) rfl
    (fun f fn hf iJ => by
      obtain rfl : f = 5 := Option.some.inj ((show Tryz.prog.funcNamed "groat/groatlaw26.GatewayMixed" = some 5 by kernel_rfl).symm.trans hf) |>.symm
      obtain rfl : fn = Tryz.f5 := (Option.some.inj (Tryz.func5.symm.trans iJ)).symm
      exact ⟨by kernel_rfl, fun j t ht => by
        rw [Tryz.params5] at ht
        have hm : t ∈ [35, 46] := by simpa using Array.mem_of_getElem? ht
        have cR : ([35, 46].all fun u => !Tryz.prog.wantsStandIn u) = true := by kernel_rfl
        exact (show Tryz.prog.wantsStandIn t = false by simpa using List.all_eq_true.1 cR t hm)⟩)
    (by kernel_rfl)
#print axioms gatewayMixed_holds
end Go.Proofs.YtpjkbbihjoflnaaGreatDoor
