/- The law TopDeath returns true at every input: its row, out of the plain functions. -/
import Derived.Test.YtodeabafemckjaaGreatDoorCards
import Derived.Test.YtodeabafemckjaaGreatDoorTie
import Derived.Test.YtodeabafemckjaaGreatDoorK4
import Derived.Lay
import Derived.LaidOnce
import Derived.LaidMore
import Derived.SevenTiedAt
import Derived.ChangeArms
import Derived.Stop.Joined
import Derived.WalkKit
import Derived.ProofKit
import Derived.OpenShut
import Derived.ShutString
import Derived.ChangeOld
import Derived.Below
import Derived.SizedLaws
import Derived.KernelRfl
set_option linter.unusedVariables false
set_option linter.unusedSimpArgs false
set_option maxRecDepth 100000
open Go.DataW renaming trod_lt->lK
open Go.Proofs.Tryz renaming prog->aj,checked->l8,f4->mh
namespace Go.Proofs.YtodeabafemckjaaGreatDoor.topDeath
open Go Go.Ref eL Go.ChangeShapes Go.WideShapes Go.ChangeAt Go.RowKit
theorem own : ownKnob Tryz.prog.godebug = none := by kernel_rfl
theorem laidOut : laidOutB aj = true := by kernel_rfl
theorem call (R : Type) (x0 : ((List ((Int × Int × (List (Int × Int × Int × Int × Int × Unit)) × Unit) × ((List (af × af × Unit)) × (List (Int × Int × Int × af × (List (af × af × Unit)) × Unit)) × Unit) × (List Int) × (List (Int × af × Unit)) × Unit)) × Int × Unit)) (x1 : Int) (x2 : (List af)) (K : List SV → ae fc → ae R) : F3 R 4 [.b8 (.pair (.arr 2 (.pair (.pair (.int .i64) (.pair (.int .i64) (.pair (.sl 127 (.pair (.int .i64) (.pair (.int .i64) (.pair (.int .i64) (.pair (.int .i64) (.pair (.int .i64) .unit)))))) .unit))) (.pair (.pair (.sl 164 (.pair .str (.pair .str .unit))) (.pair (.sl 158 (.pair (.int .i64) (.pair (.int .i64) (.pair (.int .i64) (.pair .str (.pair (.sl 164 (.pair .str (.pair .str .unit))) .unit)))))) .unit)) (.pair (.sl 3 (.int .i64)) (.pair (.sl 162 (.pair (.int .i64) (.pair .str .unit))) .unit))))) (.pair (.int .i64) .unit)) x0 [], .b8 (.int .i64) x1 [], .b8 (.arr 2 .str) x2 []] none K = (AW x0 x1 x2).bind λr => K [.b8 .bool r []] none := by kernel_rfl
theorem lifted (os : Os) (started : os.Started) (H : Type) (enc : TypeId × Value → H) :
    ReturnsInHanded {} l8 os 4 .any (λw args => (Rows.topDeathSpec.pre enc aj mh [] false w args ∧ laidMetH aj Rows.topDeathRow.laid w) ∧ sizedMet enc aj mh (OpenSpec.ofChange Rows.topDeathSpec) false w args) (Rows.topDeathSpec.post enc aj mh false true false false) := by
  refine returnsInHanded_of_change_and (C := l8) (X := λw _ => laidMetH aj Rows.topDeathRow.laid w) (λ_ _ _ hh h => h.of_heap hh) own started (by kernel_rfl) Tryz.func4
    (ChangeSpec.witness_shaped (enc := enc) (C := l8) (os := os) (X := λw _ => laidMetH aj Rows.topDeathRow.laid w) false (World.laidAll aj os Rows.topDeathRow.laid) #[.agg #[.int .i64 0, .int .i64 0, .slice none 0 0, .slice none 0 0, .slice none 0 0, .slice none 0 0, .slice none 0 0, .int .i64 0, .int .i64 0, .slice none 0 0, .slice none 0 0, .slice none 0 0, .slice none 0 0, .slice none 0 0, .int .i64 0], .int .i64 0, .agg #[.string ⟨#[]⟩, .string ⟨#[]⟩]] 8 (World.laidAll_os _ _ _)
      (World.shaped_of_ZipB (by kernel_rfl) (by kernel_rfl)) (by kernel_rfl) (by kernel_rfl) (by kernel_rfl)
      (by rw [MakeChecks.laidMetH_plain _ _ _ (by kernel_rfl)]; exact laidMet_laidAll _ (by kernel_rfl) (by kernel_rfl))) ?_
  intro W base args ds gs before Gy hW _ _ hL _;have vm : ∀ (j : Nat) t v, Tryz.f4.params[j]? = some t → args[j]? = some v → Value.okWide aj W .any base t v := Gy;have hW' := hW;obtain ⟨p, q, hA0, hV, rfl, hfz, vN⟩ := hW;have hA : DataW.TrodAll enc aj W 0 (λ_ => true) true Tryz.f4.params.toList args.toList ds p := hA0;rw [Tryz.params4] at hA vm;obtain ⟨v0, vs0, d0, ds0, p0, q0, gM, rfl, rfl, h0, r0⟩ := trodAll_cons hA;obtain ⟨v1, vs1, d1, ds1, p1, q1, rfl, rfl, rfl, h1, r1⟩ := trodAll_cons r0;obtain ⟨v2, vs2, d2, ds2, p2, q2, rfl, rfl, rfl, h2, r2⟩ := trodAll_cons r1;obtain ⟨rfl, rfl, rfl⟩ := trodAll_nil r2;obtain rfl : args = #[v0, v1, v2] := by cases args; simp_all
  obtain ⟨rfl, rfl⟩ := trodVars_none hV;have k0 := h0;have lt0 : ∀ x ∈ p0, x.block < W.heap.size := by obtain ⟨m, hm⟩ := k0; exact lK m _ _ _ hm
  obtain ⟨x0, wf0, abZ⟩ := zpq (β := λ_ => none) (E := jo.BB) (xK.ua zug _ _ _ _) (T := 35) (t := (.pair (.arr 2 (.pair (.pair (.int .i64) (.pair (.int .i64) (.pair (.sl 127 (.pair (.int .i64) (.pair (.int .i64) (.pair (.int .i64) (.pair (.int .i64) (.pair (.int .i64) .unit)))))) .unit))) (.pair (.pair (.sl 164 (.pair .str (.pair .str .unit))) (.pair (.sl 158 (.pair (.int .i64) (.pair (.int .i64) (.pair (.int .i64) (.pair .str (.pair (.sl 164 (.pair .str (.pair .str .unit))) .unit)))))) .unit)) (.pair (.sl 3 (.int .i64)) (.pair (.sl 162 (.pair (.int .i64) (.pair .str .unit))) .unit))))) (.pair (.int .i64) .unit))) rfl rfl (vm 0 35 v0 rfl rfl) h0;have k1 := h1;have lt1 : ∀ x ∈ p1, x.block < W.heap.size := by obtain ⟨m, hm⟩ := k1; exact lK m _ _ _ hm
  obtain ⟨x1, wf1, ab0⟩ := zpq (β := λ_ => none) (E := jo.BB) (xK.ua zug _ _ _ _) (T := 3) (t := (.int .i64)) rfl rfl (vm 1 3 v1 rfl rfl) h1;have k2 := h2;have lt2 : ∀ x ∈ p2, x.block < W.heap.size := by obtain ⟨m, hm⟩ := k2; exact lK m _ _ _ hm
  obtain ⟨x2, wf2, ab1⟩ := zpq (β := λ_ => none) (E := jo.BB) (xK.ua zug _ _ _ _) (T := 54) (t := (.arr 2 .str)) rfl rfl (vm 2 54 v2 rfl rfl) h2;clear hA0 Gy;refine (ahn (abT.Cf 4) (W := W) (args := #[v0, v1, v2]) (l := [.b8 (.pair (.arr 2 (.pair (.pair (.int .i64) (.pair (.int .i64) (.pair (.sl 127 (.pair (.int .i64) (.pair (.int .i64) (.pair (.int .i64) (.pair (.int .i64) (.pair (.int .i64) .unit)))))) .unit))) (.pair (.pair (.sl 164 (.pair .str (.pair .str .unit))) (.pair (.sl 158 (.pair (.int .i64) (.pair (.int .i64) (.pair (.int .i64) (.pair .str (.pair (.sl 164 (.pair .str (.pair .str .unit))) .unit)))))) .unit)) (.pair (.sl 3 (.int .i64)) (.pair (.sl 162 (.pair (.int .i64) (.pair .str .unit))) .unit))))) (.pair (.int .i64) .unit)) x0 [], .b8 (.int .i64) x1 [], .b8 (.arr 2 .str) x2 []]) (b := true) ((call _ x0 x1 x2 _).trans (by rw [sW x0 x1 x2 wf0 wf1 wf2]; rfl)) (show Ub (AA W λ_ => none) [.b8 (.pair (.arr 2 (.pair (.pair (.int .i64) (.pair (.int .i64) (.pair (.sl 127 (.pair (.int .i64) (.pair (.int .i64) (.pair (.int .i64) (.pair (.int .i64) (.pair (.int .i64) .unit)))))) .unit))) (.pair (.pair (.sl 164 (.pair .str (.pair .str .unit))) (.pair (.sl 158 (.pair (.int .i64) (.pair (.int .i64) (.pair (.int .i64) (.pair .str (.pair (.sl 164 (.pair .str (.pair .str .unit))) .unit)))))) .unit)) (.pair (.sl 3 (.int .i64)) (.pair (.sl 162 (.pair (.int .i64) (.pair .str .unit))) .unit))))) (.pair (.int .i64) .unit)) x0 [], .b8 (.int .i64) x1 [], .b8 (.arr 2 .str) x2 []] [v0, v1, v2] from ⟨abZ, (λ_ _ _ h => SV.noConfusion h), ab0, (λ_ _ _ h => SV.noConfusion h), ab1, (λ_ _ _ h => SV.noConfusion h), trivial⟩)).mono λe W' ⟨he, UQ⟩ => ?_;subst he;exact ⟨_, rfl, _, _, _, [], _, [], hW', trodAll_mk1 (shut_bool Tryz.underlying4 _), (trodAll_cons_mk (Below.trod laidOut (by kernel_rfl) (of_decide_eq_true (by kernel_rfl)) k0 UQ lt0) (trodAll_cons_mk (Below.trod laidOut (by kernel_rfl) (of_decide_eq_true (by kernel_rfl)) k1 UQ lt1) (trodAll_cons_mk (Below.trod laidOut (by kernel_rfl) (of_decide_eq_true (by kernel_rfl)) k2 UQ lt2) trodAll_mk0))), rfl, UQ.frame _, λh => by cases h⟩
theorem over : Rows.topDeathRow.holds Tryz.pinned (OpenSpec.ofChange Rows.topDeathSpec) :=
  OpenClaim.holds_of_wide 4 mh rfl rfl rfl rfl rfl rfl rfl ⟨rfl, rfl, rfl, rfl, rfl⟩ rfl rfl rfl rfl rfl (by kernel_rfl) Tryz.func4 (by kernel_rfl)
    (of_decide_eq_true (by kernel_rfl)) (by unfold Func.isWrapper; first | (rw [if_pos (by decide +kernel)]; kernel_rfl) | (rw [if_neg (by decide +kernel)]; exact ⟨rfl, rfl⟩))
    (λos started H enc _ => lifted os started H enc)
end Go.Proofs.YtodeabafemckjaaGreatDoor.topDeath
namespace Go.Proofs.YtodeabafemckjaaGreatDoor
open Go in
/-- The tied card: the row, and what its variables hold tied to the text. -/
theorem topDeath_holds : Rows.TopDeathCardSaid :=
  Claim7.holds_tied_plain_at .later [] _ _ _ _ topDeath.over (λ_ h => by cases h) (by kernel_rfl) (λ_ h => by cases h) topDeath_row_tie rfl ⟨rfl, rfl⟩ (by kernel_rfl) rfl
    (λf fn hf qb => by
      obtain rfl : f = 4 := Option.some.inj ((show Tryz.prog.funcNamed "groat/groattop.TopDeath" = some 4 by kernel_rfl).symm.trans hf) |>.symm;obtain rfl : fn = mh := (Option.some.inj (Tryz.func4.symm.trans qb)).symm;exact ⟨by kernel_rfl, λj t ht => by
        rw [Tryz.params4] at ht;have hm : t ∈ [35, 3, 54] := by simpa using Array.mem_of_getElem? ht
        have kG : ([35, 3, 54].all λu => !Tryz.prog.wantsStandIn u) = true := by kernel_rfl
        exact (show Tryz.prog.wantsStandIn t = false by simpa using List.all_eq_true.1 kG t hm)⟩)
    (by kernel_rfl)
#print axioms topDeath_holds
end Go.Proofs.YtodeabafemckjaaGreatDoor
