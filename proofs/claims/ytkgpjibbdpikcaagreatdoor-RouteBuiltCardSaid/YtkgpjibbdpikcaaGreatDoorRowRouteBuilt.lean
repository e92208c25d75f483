/- The law RouteBuilt returns true at every input: its row, out of the plain functions. -/
import Derived.Test.YtkgpjibbdpikcaaGreatDoorCards
import Derived.Test.YtkgpjibbdpikcaaGreatDoorTie
import Derived.Test.YtkgpjibbdpikcaaGreatDoorK3
import Derived.Lay
import Derived.LaidOnce
import Derived.LaidMore
import Derived.SevenTiedAt
import Derived.ChangeArms
import Derived.Stop.Joined
import Derived.WalkKit
import Derived.ProofKit
import Derived.OpenShut
import Derived.ShutString
import Derived.ChangeOld
import Derived.Below
import Derived.SizedLaws
import Derived.KernelRfl
set_option linter.unusedVariables false
set_option linter.unusedSimpArgs false
set_option maxRecDepth 100000
namespace Go.Proofs.YtkgpjibbdpikcaaGreatDoor.routeBuilt
open Go Go.Ref bW Go.ChangeShapes Go.WideShapes Go.ChangeAt Go.RowKit
theorem own : ownKnob Tryz.prog.godebug = none := by kernel_rfl
theorem laidOut : laidOutB Tryz.prog = true := by kernel_rfl
theorem call (R : Type) (x0 : Int) (x1 : (Int × Int × Int × ByteArray × (List (ByteArray × ByteArray × Unit)) × Unit)) (K : List SV → Option aX → Option R) : oG R 8 [.af (.int .i64) x0 [], .af (.pair (.int .i64) (.pair (.int .i64) (.pair (.int .i64) (.pair .str (.pair (.sl 116 (.pair .str (.pair .str .unit))) .unit))))) x1 []] none K = (tu x0 x1).bind fun r => K [.af .bool r []] none := by kernel_rfl
theorem lifted (os : Os) (started : os.Started) (H : Type) (enc : TypeId × Value → H) :
    ReturnsInHanded {} Tryz.checked os 8 .any (fun w args => (Rows.routeBuiltSpec.pre enc Tryz.prog Tryz.f8 [] false w args ∧ laidMetH Tryz.prog Rows.routeBuiltRow.laid w) ∧ sizedMet enc Tryz.prog Tryz.f8 (OpenSpec.ofChange Rows.routeBuiltSpec) false w args) (Rows.routeBuiltSpec.post enc Tryz.prog Tryz.f8 false true false false) := by
  refine returnsInHanded_of_change_and (C := Tryz.checked) (X := fun w _ => laidMetH Tryz.prog Rows.routeBuiltRow.laid w) (fun _ _ _ hh h => h.of_heap hh) own started (by kernel_rfl) Tryz.func8
    (ChangeSpec.witness_shaped (enc := enc) (C := Tryz.checked) (os := os) (X := fun w _ => laidMetH Tryz.prog Rows.routeBuiltRow.laid w) false (World.laidAll Tryz.prog os Rows.routeBuiltRow.laid) #[.int .i64 0, .agg #[.int .i64 0, .int .i64 0, .int .i64 0, .string ⟨#[]⟩, .slice none 0 0]] 8 (World.laidAll_os _ _ _)
      (World.shaped_of_ZipB (by kernel_rfl) (by kernel_rfl)) (by kernel_rfl) (by kernel_rfl) (by kernel_rfl)
      (by rw [MakeChecks.laidMetH_plain _ _ _ (by kernel_rfl)]; exact laidMet_laidAll _ (by kernel_rfl) (by kernel_rfl))) ?_
  intro W base args ds gs before oX hW _ _ hL _
  have iy : ∀ (j : Nat) t v, Tryz.f8.params[j]? = some t → args[j]? = some v → Value.okWide Tryz.prog W .any base t v := oX
  have QU := hW
  obtain ⟨p, q, Ng, hV, rfl, Rd, Cd⟩ := hW
  have hA : DataW.TrodAll enc Tryz.prog W 0 (fun _ => true) true Tryz.f8.params.toList args.toList ds p := Ng
  rw [Tryz.params8] at hA iy
  obtain ⟨v0, vs0, d0, Z7, p0, q0, bB, rfl, rfl, h0, r0⟩ := trodAll_cons hA
  obtain ⟨v1, vs1, d1, Z8, p1, q1, rfl, rfl, rfl, h1, r1⟩ := trodAll_cons r0
  obtain ⟨rfl, rfl, rfl⟩ := trodAll_nil r1
  obtain rfl : args = #[v0, v1] := by cases args; simp_all
  obtain ⟨rfl, rfl⟩ := trodVars_none hV
  have k0 := h0
  have R6 : ∀ x ∈ p0, x.block < W.heap.size := by obtain ⟨m, hm⟩ := k0; exact DataW.trod_lt m _ _ _ hm
  obtain ⟨x0, TL, Dx⟩ := PJ (β := fun _ => none) (E := bD.nu) (jD.im MR _ _ _ _) (T := 3) (t := (.int .i64)) rfl rfl (iy 0 3 v0 rfl rfl) h0
  have k1 := h1
  have R7 : ∀ x ∈ p1, x.block < W.heap.size := by obtain ⟨m, hm⟩ := k1; exact DataW.trod_lt m _ _ _ hm
  obtain ⟨x1, TM, Dy⟩ := PJ (β := fun _ => none) (E := bD.nu) (jD.im MR _ _ _ _) (T := 59) (t := (.pair (.int .i64) (.pair (.int .i64) (.pair (.int .i64) (.pair .str (.pair (.sl 116 (.pair .str (.pair .str .unit))) .unit)))))) rfl rfl (iy 1 59 v1 rfl rfl) h1
  clear Ng oX
  refine (Xc (Dn.lI 8) (W := W) (args := #[v0, v1]) (l := [.af (.int .i64) x0 [], .af (.pair (.int .i64) (.pair (.int .i64) (.pair (.int .i64) (.pair .str (.pair (.sl 116 (.pair .str (.pair .str .unit))) .unit))))) x1 []]) (b := true) ((call _ x0 x1 _).trans (by rw [eE x0 x1 TL TM]; rfl)) (show wy (lR W fun _ => none) [.af (.int .i64) x0 [], .af (.pair (.int .i64) (.pair (.int .i64) (.pair (.int .i64) (.pair .str (.pair (.sl 116 (.pair .str (.pair .str .unit))) .unit))))) x1 []] [v0, v1] from ⟨Dx, (fun _ _ _ h => SV.noConfusion h), Dy, (fun _ _ _ h => SV.noConfusion h), trivial⟩)).mono fun e W' ⟨he, BI⟩ => ?_
  subst he
  exact ⟨_, rfl, _, _, _, [], _, [], QU, trodAll_mk1 (shut_bool Tryz.underlying4 _), (trodAll_cons_mk (Below.trod laidOut (by kernel_rfl) (of_decide_eq_true (by kernel_rfl)) k0 BI R6) (trodAll_cons_mk (Below.trod laidOut (by kernel_rfl) (of_decide_eq_true (by kernel_rfl)) k1 BI R7) trodAll_mk0)), rfl, BI.frame _, fun h => by cases h⟩
theorem over : Rows.routeBuiltRow.holds Tryz.pinned (OpenSpec.ofChange Rows.routeBuiltSpec) :=
  OpenClaim.holds_of_wide 8 Tryz.f8 rfl rfl rfl rfl rfl rfl rfl ⟨rfl, rfl, rfl, rfl, rfl⟩ rfl rfl rfl rfl rfl (by kernel_rfl) Tryz.func8 (by kernel_rfl)
    (of_decide_eq_true (by kernel_rfl)) (by unfold Func.isWrapper; first | (rw [if_pos (by decide +kernel)]; kernel_rfl) | (rw [if_neg (by decide +kernel)]; exact ⟨rfl, rfl⟩))
    (fun os started H enc _ => lifted os started H enc)
end Go.Proofs.YtkgpjibbdpikcaaGreatDoor.routeBuilt
namespace Go.Proofs.YtkgpjibbdpikcaaGreatDoor
open Go in
/-- The tied card: the row, and what its variables hold tied to the text. -/
theorem routeBuilt_holds : Rows.RouteBuiltCardSaid :=
  Claim7.holds_tied_plain_at .later [] _ _ _ _ routeBuilt.over (fun _ h => by cases h) (by kernel_rfl) (fun _ h => by cases h) routeBuilt_row_tie rfl ⟨rfl, rfl⟩ (by kernel_rfl) rfl
    (fun f fn hf fb => by
      obtain rfl : f = 8 := Option.some.inj ((show Tryz.prog.funcNamed "groat/groatlaw24.RouteBuilt" = some 8 by kernel_rfl).symm.trans hf) |>.symm
      obtain rfl : fn = Tryz.f8 := (Option.some.inj (Tryz.func8.symm.trans fb)).symm
      exact ⟨by kernel_rfl, fun j t ht => by
        rw [Tryz.params8] at ht
        have hm : t ∈ [3, 59] := by simpa using Array.mem_of_getElem? ht
        have dx : ([3, 59].all fun u => !Tryz.prog.wantsStandIn u) = true := by kernel_rfl
        exact (show Tryz.prog.wantsStandIn t = false by simpa using List.all_eq_true.1 dx t hm)⟩)
    (by kernel_rfl)
#print axioms routeBuilt_holds
end Go.Proofs.YtkgpjibbdpikcaaGreatDoor
