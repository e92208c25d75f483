/- The law TopChain returns true at every input: its row, out of the plain functions. -/
import Derived.Test.YtodeabafemckjaaGreatDoorCards
import Derived.Test.YtodeabafemckjaaGreatDoorTie
import Derived.Test.YtodeabafemckjaaGreatDoorK5
import Derived.Lay
import Derived.LaidOnce
import Derived.LaidMore
import Derived.SevenTiedAt
import Derived.ChangeArms
import Derived.Stop.Joined
import Derived.WalkKit
import Derived.ProofKit
import Derived.OpenShut
import Derived.ShutString
import Derived.ChangeOld
import Derived.Below
import Derived.SizedLaws
import Derived.KernelRfl
set_option linter.unusedVariables false
set_option linter.unusedSimpArgs false
set_option maxRecDepth 100000
open Go.Proofs.Tryz renaming prog->aq,f5->dN,checked->mw
namespace Go.Proofs.YtodeabafemckjaaGreatDoor.topChain
open Go Go.Ref eD Go.ChangeShapes Go.WideShapes Go.ChangeAt Go.RowKit
theorem own : ownKnob Tryz.prog.godebug = none := by kernel_rfl
theorem laidOut : laidOutB aq = true := by kernel_rfl
theorem call (R : Type) (x0 : (List af)) (x1 : Int) (K : List SV → ae fp → ae R) : Ge R 5 [.bY (.sl 9 .str) x0 [], .bY (.int .i64) x1 []] none K = (Bj x0 x1).bind λr => K [.bY .bool r []] none := by kernel_rfl
theorem lifted (os : Os) (started : os.Started) (H : Type) (enc : TypeId × Value → H) :
    ReturnsInHanded {} mw os 5 .any (λw args => (Rows.topChainSpec.pre enc aq dN [] false w args ∧ laidMetH aq Rows.topChainRow.laid w) ∧ sizedMet enc aq dN (OpenSpec.ofChange Rows.topChainSpec) false w args) (Rows.topChainSpec.post enc aq dN false true false false) := by
  refine returnsInHanded_of_change_and (C := mw) (X := λw _ => laidMetH aq Rows.topChainRow.laid w) (λ_ _ _ hh h => h.of_heap hh) own started (by kernel_rfl) Tryz.func5
    (ChangeSpec.witness_shaped (enc := enc) (C := mw) (os := os) (X := λw _ => laidMetH aq Rows.topChainRow.laid w) false (World.laidAll aq os Rows.topChainRow.laid) #[.slice none 0 0, .int .i64 0] 8 (World.laidAll_os _ _ _)
      (World.shaped_of_ZipB (by kernel_rfl) (by kernel_rfl)) (by kernel_rfl) (by kernel_rfl) (by kernel_rfl)
      (by rw [MakeChecks.laidMetH_plain _ _ _ (by kernel_rfl)]; exact laidMet_laidAll _ (by kernel_rfl) (by kernel_rfl))) ?_
  intro W base args ds gs before GY hW _ _ hL _;have xH : ∀ (j : Nat) t v, Tryz.f5.params[j]? = some t → args[j]? = some v → Value.okWide aq W .any base t v := GY;have hW' := hW;obtain ⟨p, q, hA0, hV, rfl, hfz, wV⟩ := hW;have hA : DataW.TrodAll enc aq W 0 (λ_ => true) true Tryz.f5.params.toList args.toList ds p := hA0;rw [Tryz.params5] at hA xH;obtain ⟨v0, vs0, d0, ds0, p0, q0, gS, rfl, rfl, h0, r0⟩ := trodAll_cons hA;obtain ⟨v1, vs1, d1, ds1, p1, q1, rfl, rfl, rfl, h1, r1⟩ := trodAll_cons r0;obtain ⟨rfl, rfl, rfl⟩ := trodAll_nil r1;obtain rfl : args = #[v0, v1] := by cases args; simp_all
  obtain ⟨rfl, rfl⟩ := trodVars_none hV;have k0 := h0;have lt0 : ∀ x ∈ p0, x.block < W.heap.size := by obtain ⟨m, hm⟩ := k0; exact DataW.trod_lt m _ _ _ hm
  obtain ⟨x0, wf0, abG⟩ := PR (β := λ_ => none) (E := kl.Ep) (zO.xA JI _ _ _ _) (T := 36) (t := (.sl 9 .str)) rfl rfl (xH 0 36 v0 rfl rfl) h0;have k1 := h1;have lt1 : ∀ x ∈ p1, x.block < W.heap.size := by obtain ⟨m, hm⟩ := k1; exact DataW.trod_lt m _ _ _ hm
  obtain ⟨x1, wf1, abH⟩ := PR (β := λ_ => none) (E := kl.Ep) (zO.xA JI _ _ _ _) (T := 3) (t := (.int .i64)) rfl rfl (xH 1 3 v1 rfl rfl) h1;clear hA0 GY;refine (agC (abz.CF 5) (W := W) (args := #[v0, v1]) (l := [.bY (.sl 9 .str) x0 [], .bY (.int .i64) x1 []]) (b := true) ((call _ x0 x1 _).trans (by rw [tQ x0 x1 wf0 wf1]; rfl)) (show TV (A6 W λ_ => none) [.bY (.sl 9 .str) x0 [], .bY (.int .i64) x1 []] [v0, v1] from ⟨abG, (λ_ _ _ h => SV.noConfusion h), abH, (λ_ _ _ h => SV.noConfusion h), trivial⟩)).mono λe W' ⟨he, bel⟩ => ?_;subst he;exact ⟨_, rfl, _, _, _, [], _, [], hW', trodAll_mk1 (shut_bool Tryz.underlying4 _), (trodAll_cons_mk (Below.trod laidOut (by kernel_rfl) (of_decide_eq_true (by kernel_rfl)) k0 bel lt0) (trodAll_cons_mk (Below.trod laidOut (by kernel_rfl) (of_decide_eq_true (by kernel_rfl)) k1 bel lt1) trodAll_mk0)), rfl, bel.frame _, λh => by cases h⟩
theorem over : Rows.topChainRow.holds Tryz.pinned (OpenSpec.ofChange Rows.topChainSpec) :=
  OpenClaim.holds_of_wide 5 dN rfl rfl rfl rfl rfl rfl rfl ⟨rfl, rfl, rfl, rfl, rfl⟩ rfl rfl rfl rfl rfl (by kernel_rfl) Tryz.func5 (by kernel_rfl)
    (of_decide_eq_true (by kernel_rfl)) (by unfold Func.isWrapper; first | (rw [if_pos (by decide +kernel)]; kernel_rfl) | (rw [if_neg (by decide +kernel)]; exact ⟨rfl, rfl⟩))
    (λos started H enc _ => lifted os started H enc)
end Go.Proofs.YtodeabafemckjaaGreatDoor.topChain
namespace Go.Proofs.YtodeabafemckjaaGreatDoor
open Go in
/-- The tied card: the row, and what its variables hold tied to the text. -/
theorem topChain_holds : Rows.TopChainCardSaid :=
  Claim7.holds_tied_plain_at .later [] _ _ _ _ topChain.over (λ_ h => by cases h) (by kernel_rfl) (λ_ h => by cases h) topChain_row_tie rfl ⟨rfl, rfl⟩ (by kernel_rfl) rfl
    (λf fn hf qY => by
      obtain rfl : f = 5 := Option.some.inj ((show Tryz.prog.funcNamed "groat/groattop.TopChain" = some 5 by kernel_rfl).symm.trans hf) |>.symm;obtain rfl : fn = dN := (Option.some.inj (Tryz.func5.symm.trans qY)).symm;exact ⟨by kernel_rfl, λj t ht => by
        rw [Tryz.params5] at ht;have hm : t ∈ [36, 3] := by simpa using Array.mem_of_getElem? ht
        have kR : ([36, 3].all λu => !Tryz.prog.wantsStandIn u) = true := by kernel_rfl
        exact (show Tryz.prog.wantsStandIn t = false by simpa using List.all_eq_true.1 kR t hm)⟩)
    (by kernel_rfl)
#print axioms topChain_holds
end Go.Proofs.YtodeabafemckjaaGreatDoor
