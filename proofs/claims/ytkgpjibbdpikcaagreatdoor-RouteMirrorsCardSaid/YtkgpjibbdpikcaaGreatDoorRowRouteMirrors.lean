/- The law RouteMirrors returns true at every input: its row, out of the plain functions. -/
import Derived.Test.YtkgpjibbdpikcaaGreatDoorCards
import Derived.Test.YtkgpjibbdpikcaaGreatDoorTie
import Derived.Test.YtkgpjibbdpikcaaGreatDoorK4
import Derived.Lay
import Derived.LaidOnce
import Derived.LaidMore
import Derived.SevenTiedAt
import Derived.ChangeArms
import Derived.Stop.Joined
import Derived.WalkKit
import Derived.ProofKit
import Derived.OpenShut
import Derived.ShutString
import Derived.ChangeOld
import Derived.Below
import Derived.SizedLaws
import Derived.KernelRfl
set_option linter.unusedVariables false
set_option linter.unusedSimpArgs false
set_option maxRecDepth 100000
namespace Go.Proofs.YtkgpjibbdpikcaaGreatDoor.routeMirrors
open Go Go.Ref Groat Go.ChangeShapes Go.WideShapes Go.ChangeAt Go.RowKit
theorem own : ownKnob Tryz.prog.godebug = none := by kernel_rfl
theorem laidOut : laidOutB Tryz.prog = true := by kernel_rfl
theorem call (R : Type) (x0 : ((List ((Int × Int × (List (Int × Int × Int × Int × Int × Unit)) × Unit) × ((List (ByteArray × ByteArray × Unit)) × (List (Int × Int × Int × ByteArray × (List (ByteArray × ByteArray × Unit)) × Unit)) × Unit) × (List Int) × (List (Int × ByteArray × Unit)) × Unit)) × Int × Unit)) (x1 : ByteArray) (K : List SV → Option Box → Option R) : Tb130 R 7 [.dat (.pair (.arr 2 (.pair (.pair (.int .i64) (.pair (.int .i64) (.pair (.sl 87 (.pair (.int .i64) (.pair (.int .i64) (.pair (.int .i64) (.pair (.int .i64) (.pair (.int .i64) .unit)))))) .unit))) (.pair (.pair (.sl 116 (.pair .str (.pair .str .unit))) (.pair (.sl 59 (.pair (.int .i64) (.pair (.int .i64) (.pair (.int .i64) (.pair .str (.pair (.sl 116 (.pair .str (.pair .str .unit))) .unit)))))) .unit)) (.pair (.sl 3 (.int .i64)) (.pair (.sl 96 (.pair (.int .i64) (.pair .str .unit))) .unit))))) (.pair (.int .i64) .unit)) x0 [], .dat .str x1 []] none K = (Q58 x0 x1).bind fun r => K [.dat .bool r []] none := by kernel_rfl
theorem lifted (os : Os) (started : os.Started) (H : Type) (enc : TypeId × Value → H) :
    ReturnsInHanded {} Tryz.checked os 7 .any (fun w args => (Rows.routeMirrorsSpec.pre enc Tryz.prog Tryz.f7 [] false w args ∧ laidMetH Tryz.prog Rows.routeMirrorsRow.laid w) ∧ sizedMet enc Tryz.prog Tryz.f7 (OpenSpec.ofChange Rows.routeMirrorsSpec) false w args) (Rows.routeMirrorsSpec.post enc Tryz.prog Tryz.f7 false true false false) := by
  refine returnsInHanded_of_change_and (C := Tryz.checked) (X := fun w _ => laidMetH Tryz.prog Rows.routeMirrorsRow.laid w) (fun _ _ _ hh h => h.of_heap hh) own started (by kernel_rfl) Tryz.func7
    (ChangeSpec.witness_shaped (enc := enc) (C := Tryz.checked) (os := os) (X := fun w _ => laidMetH Tryz.prog Rows.routeMirrorsRow.laid w) false (World.laidAll Tryz.prog os Rows.routeMirrorsRow.laid) #[.agg #[.int .i64 0, .int .i64 0, .slice none 0 0, .slice none 0 0, .slice none 0 0, .slice none 0 0, .slice none 0 0, .int .i64 0, .int .i64 0, .slice none 0 0, .slice none 0 0, .slice none 0 0, .slice none 0 0, .slice none 0 0, .int .i64 0], .string ⟨#[]⟩] 8 (World.laidAll_os _ _ _)
      (World.shaped_of_ZipB (by kernel_rfl) (by kernel_rfl)) (by kernel_rfl) (by kernel_rfl) (by kernel_rfl)
      (by rw [MakeChecks.laidMetH_plain _ _ _ (by kernel_rfl)]; exact laidMet_laidAll _ (by kernel_rfl) (by kernel_rfl))) ?_
  intro W base args ds gs before hval0 hW _ _ hL _
  have hval : ∀ (j : Nat) t v, Tryz.f7.params[j]? = some t → args[j]? = some v → Value.okWide Tryz.prog W .any base t v := hval0
  have hW' := hW
  obtain ⟨p, q, hA0, hV, rfl, hfz, hnd⟩ := hW
  have hA : DataW.TrodAll enc Tryz.prog W 0 (fun _ => true) true Tryz.f7.params.toList args.toList ds p := hA0
  rw [Tryz.params7] at hA hval
  obtain ⟨v0, vs0, d0, ds0, p0, q0, hargs, rfl, rfl, h0, r0⟩ := trodAll_cons hA
  obtain ⟨v1, vs1, d1, ds1, p1, q1, rfl, rfl, rfl, h1, r1⟩ := trodAll_cons r0
  obtain ⟨rfl, rfl, rfl⟩ := trodAll_nil r1
  obtain rfl : args = #[v0, v1] := by cases args; simp_all
  obtain ⟨rfl, rfl⟩ := trodVars_none hV
  have k0 := h0
  have lt0 : ∀ x ∈ p0, x.block < W.heap.size := by obtain ⟨m, hm⟩ := k0; exact DataW.trod_lt m _ _ _ hm
  obtain ⟨x0, wf0, rep0⟩ := zzr (β := fun _ => none) (E := tab.env0) (Tab.env_ok z108 _ _ _ _) (T := 35) (t := (.pair (.arr 2 (.pair (.pair (.int .i64) (.pair (.int .i64) (.pair (.sl 87 (.pair (.int .i64) (.pair (.int .i64) (.pair (.int .i64) (.pair (.int .i64) (.pair (.int .i64) .unit)))))) .unit))) (.pair (.pair (.sl 116 (.pair .str (.pair .str .unit))) (.pair (.sl 59 (.pair (.int .i64) (.pair (.int .i64) (.pair (.int .i64) (.pair .str (.pair (.sl 116 (.pair .str (.pair .str .unit))) .unit)))))) .unit)) (.pair (.sl 3 (.int .i64)) (.pair (.sl 96 (.pair (.int .i64) (.pair .str .unit))) .unit))))) (.pair (.int .i64) .unit))) rfl rfl (hval 0 35 v0 rfl rfl) h0
  have k1 := h1
  have lt1 : ∀ x ∈ p1, x.block < W.heap.size := by obtain ⟨m, hm⟩ := k1; exact DataW.trod_lt m _ _ _ hm
  obtain ⟨x1, wf1, rep1⟩ := zzr (β := fun _ => none) (E := tab.env0) (Tab.env_ok z108 _ _ _ _) (T := 9) (t := .str) rfl rfl (hval 1 9 v1 rfl rfl) h1
  clear hA0 hval0
  refine (z19q (o130.owes 7) (W := W) (args := #[v0, v1]) (l := [.dat (.pair (.arr 2 (.pair (.pair (.int .i64) (.pair (.int .i64) (.pair (.sl 87 (.pair (.int .i64) (.pair (.int .i64) (.pair (.int .i64) (.pair (.int .i64) (.pair (.int .i64) .unit)))))) .unit))) (.pair (.pair (.sl 116 (.pair .str (.pair .str .unit))) (.pair (.sl 59 (.pair (.int .i64) (.pair (.int .i64) (.pair (.int .i64) (.pair .str (.pair (.sl 116 (.pair .str (.pair .str .unit))) .unit)))))) .unit)) (.pair (.sl 3 (.int .i64)) (.pair (.sl 96 (.pair (.int .i64) (.pair .str .unit))) .unit))))) (.pair (.int .i64) .unit)) x0 [], .dat .str x1 []]) (b := true) ((call _ x0 x1 _).trans (by rw [pure_RouteMirrors x0 x1 wf0 wf1]; rfl)) (show zbo (z3j W fun _ => none) [.dat (.pair (.arr 2 (.pair (.pair (.int .i64) (.pair (.int .i64) (.pair (.sl 87 (.pair (.int .i64) (.pair (.int .i64) (.pair (.int .i64) (.pair (.int .i64) (.pair (.int .i64) .unit)))))) .unit))) (.pair (.pair (.sl 116 (.pair .str (.pair .str .unit))) (.pair (.sl 59 (.pair (.int .i64) (.pair (.int .i64) (.pair (.int .i64) (.pair .str (.pair (.sl 116 (.pair .str (.pair .str .unit))) .unit)))))) .unit)) (.pair (.sl 3 (.int .i64)) (.pair (.sl 96 (.pair (.int .i64) (.pair .str .unit))) .unit))))) (.pair (.int .i64) .unit)) x0 [], .dat .str x1 []] [v0, v1] from ⟨rep0, (fun _ _ _ h => SV.noConfusion h), rep1, (fun _ _ _ h => SV.noConfusion h), trivial⟩)).mono fun e W' ⟨he, bel⟩ => ?_
  subst he
  exact ⟨_, rfl, _, _, _, [], _, [], hW', trodAll_mk1 (shut_bool Tryz.underlying4 _), (trodAll_cons_mk (Below.trod laidOut (by kernel_rfl) (of_decide_eq_true (by kernel_rfl)) k0 bel lt0) (trodAll_cons_mk (Below.trod laidOut (by kernel_rfl) (of_decide_eq_true (by kernel_rfl)) k1 bel lt1) trodAll_mk0)), rfl, bel.frame _, fun h => by cases h⟩
theorem over : Rows.routeMirrorsRow.holds Tryz.pinned (OpenSpec.ofChange Rows.routeMirrorsSpec) :=
  OpenClaim.holds_of_wide 7 Tryz.f7 rfl rfl rfl rfl rfl rfl rfl ⟨rfl, rfl, rfl, rfl, rfl⟩ rfl rfl rfl rfl rfl (by kernel_rfl) Tryz.func7 (by kernel_rfl)
    (of_decide_eq_true (by kernel_rfl)) (by unfold Func.isWrapper; first | (rw [if_pos (by decide +kernel)]; kernel_rfl) | (rw [if_neg (by decide +kernel)]; exact ⟨rfl, rfl⟩))
    (fun os started H enc _ => lifted os started H enc)
end Go.Proofs.YtkgpjibbdpikcaaGreatDoor.routeMirrors
namespace Go.Proofs.YtkgpjibbdpikcaaGreatDoor
open Go in
/-- The tied card: the row, and what its variables hold tied to the text. -/
theorem routeMirrors_holds : Rows.RouteMirrorsCardSaid :=
  Claim7.holds_tied_plain_at .later [] _ _ _ _ routeMirrors.over (fun _ h => by cases h) (by kernel_rfl) (fun _ h => by cases h) routeMirrors_row_tie rfl ⟨rfl, rfl⟩ (by kernel_rfl) rfl
    (fun f fn hf hfn => by
      obtain rfl : f = 7 := Option.some.inj ((show Tryz.prog.funcNamed "groat/groatlaw24.RouteMirrors" = some 7 by kernel_rfl).symm.trans hf) |>.symm
      obtain rfl : fn = Tryz.f7 := (Option.some.inj (Tryz.func7.symm.trans hfn)).symm
      exact ⟨by kernel_rfl, fun j t ht => by
        rw [Tryz.params7] at ht
        have hm : t ∈ [35, 9] := by simpa using Array.mem_of_getElem? ht
        have hall : ([35, 9].all fun u => !Tryz.prog.wantsStandIn u) = true := by kernel_rfl
        exact (show Tryz.prog.wantsStandIn t = false by simpa using List.all_eq_true.1 hall t hm)⟩)
    (by kernel_rfl)
#print axioms routeMirrors_holds
end Go.Proofs.YtkgpjibbdpikcaaGreatDoor
