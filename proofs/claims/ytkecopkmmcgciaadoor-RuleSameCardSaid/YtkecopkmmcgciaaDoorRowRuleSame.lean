/- The law RuleSame returns true at every input: its row, out of the plain functions. -/
import Derived.Test.YtkecopkmmcgciaaDoorCards
import Derived.Test.YtkecopkmmcgciaaDoorTie
import Derived.Test.YtkecopkmmcgciaaDoorK2
import Derived.Lay
import Derived.LaidOnce
import Derived.LaidMore
import Derived.SevenTiedAt
import Derived.ChangeArms
import Derived.Stop.Joined
import Derived.WalkKit
import Derived.ProofKit
import Derived.OpenShut
import Derived.ShutString
import Derived.ChangeOld
import Derived.Below
import Derived.SizedLaws
import Derived.KernelRfl
set_option linter.unusedVariables false
set_option linter.unusedSimpArgs false
set_option maxRecDepth 100000
namespace Go.Proofs.YtkecopkmmcgciaaDoor.ruleSame
open Go Go.Ref Groat Go.ChangeShapes Go.WideShapes Go.ChangeAt Go.RowKit
theorem own : ownKnob Tryd.prog.godebug = none := by kernel_rfl
theorem laidOut : laidOutB Tryd.prog = true := by kernel_rfl
theorem call (R : Type) (x0 : (Int × Int × (List (Int × Int × Int × Int × Int × Unit)) × Unit)) (x1 : Int) (x2 : ByteArray) (K : List SV → Option Box → Option R) : Tb47 R 6 [.dat (.pair (.int .i64) (.pair (.int .i64) (.pair (.sl 48 (.pair (.int .i64) (.pair (.int .i64) (.pair (.int .i64) (.pair (.int .i64) (.pair (.int .i64) .unit)))))) .unit))) x0 [], .dat (.int .i64) x1 [], .dat .str x2 []] none K = (groatlaw20_RuleSame x0 x1 x2).bind fun r => K [.dat .bool r []] none := by kernel_rfl
theorem lifted (os : Os) (started : os.Started) (H : Type) (enc : TypeId × Value → H) :
    ReturnsInHanded {} Tryd.checked os 6 .any (fun w args => (Rows.ruleSameSpec.pre enc Tryd.prog Tryd.f6 [] false w args ∧ laidMetH Tryd.prog Rows.ruleSameRow.laid w) ∧ sizedMet enc Tryd.prog Tryd.f6 (OpenSpec.ofChange Rows.ruleSameSpec) false w args) (Rows.ruleSameSpec.post enc Tryd.prog Tryd.f6 false true false false) := by
  refine returnsInHanded_of_change_and (C := Tryd.checked) (X := fun w _ => laidMetH Tryd.prog Rows.ruleSameRow.laid w) (fun _ _ _ hh h => h.of_heap hh) own started (by kernel_rfl) Tryd.func6
    (ChangeSpec.witness_shaped (enc := enc) (C := Tryd.checked) (os := os) (X := fun w _ => laidMetH Tryd.prog Rows.ruleSameRow.laid w) false (World.laidAll Tryd.prog os Rows.ruleSameRow.laid) #[.agg #[.int .i64 0, .int .i64 0, .slice none 0 0], .int .i64 0, .string ⟨#[]⟩] 8 (World.laidAll_os _ _ _)
      (World.shaped_of_ZipB (by kernel_rfl) (by kernel_rfl)) (by kernel_rfl) (by kernel_rfl) (by kernel_rfl)
      (by rw [MakeChecks.laidMetH_plain _ _ _ (by kernel_rfl)]; exact laidMet_laidAll _ (by kernel_rfl) (by kernel_rfl))) ?_
  intro W base args ds gs before hval0 hW _ _ hL _
  have hval : ∀ (j : Nat) t v, Tryd.f6.params[j]? = some t → args[j]? = some v → Value.okWide Tryd.prog W .any base t v := hval0
  have hW' := hW
  obtain ⟨p, q, hA0, hV, rfl, hfz, hnd⟩ := hW
  have hA : DataW.TrodAll enc Tryd.prog W 0 (fun _ => true) true Tryd.f6.params.toList args.toList ds p := hA0
  rw [Tryd.params6] at hA hval
  obtain ⟨v0, vs0, d0, ds0, p0, q0, hargs, rfl, rfl, h0, r0⟩ := trodAll_cons hA
  obtain ⟨v1, vs1, d1, ds1, p1, q1, rfl, rfl, rfl, h1, r1⟩ := trodAll_cons r0
  obtain ⟨v2, vs2, d2, ds2, p2, q2, rfl, rfl, rfl, h2, r2⟩ := trodAll_cons r1
  obtain ⟨rfl, rfl, rfl⟩ := trodAll_nil r2
  obtain rfl : args = #[v0, v1, v2] := by cases args; simp_all
  obtain ⟨rfl, rfl⟩ := trodVars_none hV
  have k0 := h0
  have lt0 : ∀ x ∈ p0, x.block < W.heap.size := by obtain ⟨m, hm⟩ := k0; exact DataW.trod_lt m _ _ _ hm
  obtain ⟨x0, wf0, rep0⟩ := open_val (β := fun _ => none) (E := tab.env0) (Tab.env_ok tab_ok _ _ _ _) (T := 27) (t := (.pair (.int .i64) (.pair (.int .i64) (.pair (.sl 48 (.pair (.int .i64) (.pair (.int .i64) (.pair (.int .i64) (.pair (.int .i64) (.pair (.int .i64) .unit)))))) .unit)))) rfl rfl (hval 0 27 v0 rfl rfl) h0
  have k1 := h1
  have lt1 : ∀ x ∈ p1, x.block < W.heap.size := by obtain ⟨m, hm⟩ := k1; exact DataW.trod_lt m _ _ _ hm
  obtain ⟨x1, wf1, rep1⟩ := open_val (β := fun _ => none) (E := tab.env0) (Tab.env_ok tab_ok _ _ _ _) (T := 3) (t := (.int .i64)) rfl rfl (hval 1 3 v1 rfl rfl) h1
  have k2 := h2
  have lt2 : ∀ x ∈ p2, x.block < W.heap.size := by obtain ⟨m, hm⟩ := k2; exact DataW.trod_lt m _ _ _ hm
  obtain ⟨x2, wf2, rep2⟩ := open_val (β := fun _ => none) (E := tab.env0) (Tab.env_ok tab_ok _ _ _ _) (T := 9) (t := .str) rfl rfl (hval 2 9 v2 rfl rfl) h2
  clear hA0 hval0
  refine (row_calls (Tb47_owes 6) (W := W) (args := #[v0, v1, v2]) (l := [.dat (.pair (.int .i64) (.pair (.int .i64) (.pair (.sl 48 (.pair (.int .i64) (.pair (.int .i64) (.pair (.int .i64) (.pair (.int .i64) (.pair (.int .i64) .unit)))))) .unit))) x0 [], .dat (.int .i64) x1 [], .dat .str x2 []]) (b := true) ((call _ x0 x1 x2 _).trans (by rw [pure_RuleSame x0 x1 x2 wf0 wf1 wf2]; rfl)) (show EnterL (openCfg W fun _ => none) [.dat (.pair (.int .i64) (.pair (.int .i64) (.pair (.sl 48 (.pair (.int .i64) (.pair (.int .i64) (.pair (.int .i64) (.pair (.int .i64) (.pair (.int .i64) .unit)))))) .unit))) x0 [], .dat (.int .i64) x1 [], .dat .str x2 []] [v0, v1, v2] from ⟨rep0, (fun _ _ _ h => SV.noConfusion h), rep1, (fun _ _ _ h => SV.noConfusion h), rep2, (fun _ _ _ h => SV.noConfusion h), trivial⟩)).mono fun e W' ⟨he, bel⟩ => ?_
  subst he
  exact ⟨_, rfl, _, _, _, [], _, [], hW', trodAll_mk1 (shut_bool Tryd.underlying4 _), (trodAll_cons_mk (Below.trod laidOut (by kernel_rfl) (of_decide_eq_true (by kernel_rfl)) k0 bel lt0) (trodAll_cons_mk (Below.trod laidOut (by kernel_rfl) (of_decide_eq_true (by kernel_rfl)) k1 bel lt1) (trodAll_cons_mk (Below.trod laidOut (by kernel_rfl) (of_decide_eq_true (by kernel_rfl)) k2 bel lt2) trodAll_mk0))), rfl, bel.frame _, fun h => by cases h⟩
theorem over : Rows.ruleSameRow.holds Tryd.pinned (OpenSpec.ofChange Rows.ruleSameSpec) :=
  OpenClaim.holds_of_wide 6 Tryd.f6 rfl rfl rfl rfl rfl rfl rfl ⟨rfl, rfl, rfl, rfl, rfl⟩ rfl rfl rfl rfl rfl (by kernel_rfl) Tryd.func6 (by kernel_rfl)
    (of_decide_eq_true (by kernel_rfl)) (by unfold Func.isWrapper; first | (rw [if_pos (by decide +kernel)]; kernel_rfl) | (rw [if_neg (by decide +kernel)]; exact ⟨rfl, rfl⟩))
    (fun os started H enc _ => lifted os started H enc)
end Go.Proofs.YtkecopkmmcgciaaDoor.ruleSame
namespace Go.Proofs.YtkecopkmmcgciaaDoor
open Go in
/-- The tied card: the row, and what its variables hold tied to the text. -/
theorem ruleSame_holds : Rows.RuleSameCardSaid :=
  Claim7.holds_tied_plain_at .later [] _ _ _ _ ruleSame.over (fun _ h => by cases h) (by kernel_rfl) (fun _ h => by cases h) ruleSame_row_tie rfl ⟨rfl, rfl⟩ (by kernel_rfl) rfl
    (fun f fn hf hfn => by
      obtain rfl : f = 6 := Option.some.inj ((show Tryd.prog.funcNamed "groat/groatlaw20.RuleSame" = some 6 by kernel_rfl).symm.trans hf) |>.symm
      obtain rfl : fn = Tryd.f6 := (Option.some.inj (Tryd.func6.symm.trans hfn)).symm
      exact ⟨by kernel_rfl, fun j t ht => by
        rw [Tryd.params6] at ht
        have hm : t ∈ [27, 3, 9] := by simpa using Array.mem_of_getElem? ht
        have hall : ([27, 3, 9].all fun u => !Tryd.prog.wantsStandIn u) = true := by kernel_rfl
        exact (show Tryd.prog.wantsStandIn t = false by simpa using List.all_eq_true.1 hall t hm)⟩)
    (by kernel_rfl)
#print axioms ruleSame_holds
end Go.Proofs.YtkecopkmmcgciaaDoor
