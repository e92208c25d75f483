/-
  NARROWER THAN 'FOR EVERY INPUT', by the rows' own cells (each row's printed sentence says how): RouteChecks: laid · RouteOutcomes: laid · RouteForwards: laid · RouteRejects: laid · RouteMirrors: laid · RouteBuilt: laid.
  DERIVED. THE GIVEN ROWS OF THIS SEAT. 6 by the template 'for every input the law returns true; each argument reads behind the call as it read before'; 0 by the template 'total and deterministic' (their statements: YtkgpjibbdpikcaaGreatDoorTotals.lean).
  GIVEN WITH THE SEED: the statements are not yours to turn. If you find one false, say at which input.
  Laid BY PROGRAM, IN A SANDBOX (cutbox-rows.mjs): the forced cells as the released guide's own fill.sh prints them over the translation d7cbab441a1639a2… (all of the seat's roots in one cut). By AI agents, Wed Nov 11 2026. No macro, syntax, notation, axiom, sorry.
-/
import Derived.Test.YtkgpjibbdpikcaaGreatDoorChecked
import GoSem.PinnedTables
import GoSem.Claim
import GoSem.ClaimJoined
import GoSem.ClaimMapViews
import Derived.JoinedTies
import Derived.KernelRfl
namespace Go.Proofs.YtkgpjibbdpikcaaGreatDoor
/- THE CELL 'sum', in the pinned program and in every row, IS THE sha256 OF THE DUMP (.gsa) THAT YtkgpjibbdpikcaaGreatDoorProg.lean LOADS. Nothing in Lean hashes anything: it is a label: what it is worth is what the hold of that sum in a sandbox is worth. -/
noncomputable def Tryz.pinned : Pinned := { name := "ytkgpjibbdpikcaagreatdoor", sum := "d7cbab441a1639a218c213c7926fecd2d04209a3f4693f7c9bf761263ab9ebed", checked := Tryz.checked }
namespace Rows
def none {H : Type} : Left H := { results := [], args := [] }

/- WHAT THE LISTED PACKAGE-LEVEL VARIABLES READ AS WHEN THE CALL BEGINS. Each datum BY PROGRAM (the guide's laid-datum.mjs) off the statement by which the dump's own 'gosem.cut.vars' lays the variable. In a bare row this is a premise. The card (YtkgpjibbdpikcaaGreatDoorCards.lean) ties it to the program's text. -/
def laid_unicode_utf8_acceptRanges {H : Type} : DataW H := .agg [.agg [.lit (.int .u8 128), .lit (.int .u8 191)], .agg [.lit (.int .u8 160), .lit (.int .u8 191)], .agg [.lit (.int .u8 128), .lit (.int .u8 159)], .agg [.lit (.int .u8 144), .lit (.int .u8 191)], .agg [.lit (.int .u8 128), .lit (.int .u8 143)], .agg [.lit (.int .u8 0), .lit (.int .u8 0)], .agg [.lit (.int .u8 0), .lit (.int .u8 0)], .agg [.lit (.int .u8 0), .lit (.int .u8 0)], .agg [.lit (.int .u8 0), .lit (.int .u8 0)], .agg [.lit (.int .u8 0), .lit (.int .u8 0)], .agg [.lit (.int .u8 0), .lit (.int .u8 0)], .agg [.lit (.int .u8 0), .lit (.int .u8 0)], .agg [.lit (.int .u8 0), .lit (.int .u8 0)], .agg [.lit (.int .u8 0), .lit (.int .u8 0)], .agg [.lit (.int .u8 0), .lit (.int .u8 0)], .agg [.lit (.int .u8 0), .lit (.int .u8 0)]]
/-- One of Go's own tables, pinned by name: the form's constant. -/
def laid_unicode_utf8_first : DataW Unit := Go.Pinned.utf8First

/-- 'groatlaw24.RouteChecks': WHATEVER THE INPUT: true; the input reads as it did. -/
def routeChecksSpec : ChangeSpec := { name := "routeChecks", fn := fun _ => fun
  | [d] => { results := [.lit (.bool true)], args := [d] }
  | _ => none }
def routeChecksRow : OpenClaim := { program := "ytkgpjibbdpikcaagreatdoor", sum := "d7cbab441a1639a218c213c7926fecd2d04209a3f4693f7c9bf761263ab9ebed", func := "groat/groatlaw24.RouteChecks", spec := "routeChecks", inPlace := ["internal/abi.NoEscape", "internal/bytealg.MakeNoZero", "internal/bytealg.IndexByteString", "internal/bytealg.IndexString"], unfollowed := true, recurses := true, named := ["unicode/utf8.first", "unicode/utf8.acceptRanges", "internal/bytealg.MaxLen"], apart := false, laid := [("unicode/utf8.acceptRanges", laid_unicode_utf8_acceptRanges), ("unicode/utf8.first", laid_unicode_utf8_first)] }
def RouteChecksSaid : Prop := routeChecksRow.holds Tryz.pinned (OpenSpec.ofChange routeChecksSpec)

/-- ITS FALSE NEIGHBOUR: 'it returns false'. Refute it at one input. -/
def routeChecksWrong : ChangeSpec := { name := "routeChecks", fn := fun _ => fun
  | [d] => { results := [.lit (.bool false)], args := [d] }
  | _ => none }
def RouteChecksWrongFalsely : Prop := routeChecksRow.holds Tryz.pinned (OpenSpec.ofChange routeChecksWrong)

/-- 'groatlaw24.RouteOutcomes': WHATEVER THE INPUT: true; the input reads as it did. -/
def routeOutcomesSpec : ChangeSpec := { name := "routeOutcomes", fn := fun _ => fun
  | [d1, d2, d3] => { results := [.lit (.bool true)], args := [d1, d2, d3] }
  | _ => none }
def routeOutcomesRow : OpenClaim := { program := "ytkgpjibbdpikcaagreatdoor", sum := "d7cbab441a1639a218c213c7926fecd2d04209a3f4693f7c9bf761263ab9ebed", func := "groat/groatlaw24.RouteOutcomes", spec := "routeOutcomes", inPlace := ["internal/abi.NoEscape", "internal/bytealg.MakeNoZero", "internal/bytealg.IndexByteString", "internal/bytealg.IndexString"], unfollowed := true, recurses := true, named := ["unicode/utf8.first", "unicode/utf8.acceptRanges", "internal/bytealg.MaxLen"], apart := false, laid := [("unicode/utf8.acceptRanges", laid_unicode_utf8_acceptRanges), ("unicode/utf8.first", laid_unicode_utf8_first)] }
def RouteOutcomesSaid : Prop := routeOutcomesRow.holds Tryz.pinned (OpenSpec.ofChange routeOutcomesSpec)

/-- ITS FALSE NEIGHBOUR: 'it returns false'. Refute it at one input. -/
def routeOutcomesWrong : ChangeSpec := { name := "routeOutcomes", fn := fun _ => fun
  | [d1, d2, d3] => { results := [.lit (.bool false)], args := [d1, d2, d3] }
  | _ => none }
def RouteOutcomesWrongFalsely : Prop := routeOutcomesRow.holds Tryz.pinned (OpenSpec.ofChange routeOutcomesWrong)

/-- 'groatlaw24.RouteForwards': WHATEVER THE INPUT: true; the input reads as it did. -/
def routeForwardsSpec : ChangeSpec := { name := "routeForwards", fn := fun _ => fun
  | [d1, d2, d3] => { results := [.lit (.bool true)], args := [d1, d2, d3] }
  | _ => none }
def routeForwardsRow : OpenClaim := { program := "ytkgpjibbdpikcaagreatdoor", sum := "d7cbab441a1639a218c213c7926fecd2d04209a3f4693f7c9bf761263ab9ebed", func := "groat/groatlaw24.RouteForwards", spec := "routeForwards", inPlace := ["internal/abi.NoEscape", "internal/bytealg.MakeNoZero", "internal/bytealg.IndexByteString", "internal/bytealg.IndexString"], unfollowed := true, recurses := true, named := ["unicode/utf8.first", "unicode/utf8.acceptRanges", "internal/bytealg.MaxLen"], apart := false, laid := [("unicode/utf8.acceptRanges", laid_unicode_utf8_acceptRanges), ("unicode/utf8.first", laid_unicode_utf8_first)] }
def RouteForwardsSaid : Prop := routeForwardsRow.holds Tryz.pinned (OpenSpec.ofChange routeForwardsSpec)

/-- ITS FALSE NEIGHBOUR: 'it returns false'. Refute it at one input. -/
def routeForwardsWrong : ChangeSpec := { name := "routeForwards", fn := fun _ => fun
  | [d1, d2, d3] => { results := [.lit (.bool false)], args := [d1, d2, d3] }
  | _ => none }
def RouteForwardsWrongFalsely : Prop := routeForwardsRow.holds Tryz.pinned (OpenSpec.ofChange routeForwardsWrong)

/-- 'groatlaw24.RouteRejects': WHATEVER THE INPUT: true; the input reads as it did. -/
def routeRejectsSpec : ChangeSpec := { name := "routeRejects", fn := fun _ => fun
  | [d1, d2, d3] => { results := [.lit (.bool true)], args := [d1, d2, d3] }
  | _ => none }
def routeRejectsRow : OpenClaim := { program := "ytkgpjibbdpikcaagreatdoor", sum := "d7cbab441a1639a218c213c7926fecd2d04209a3f4693f7c9bf761263ab9ebed", func := "groat/groatlaw24.RouteRejects", spec := "routeRejects", inPlace := ["internal/abi.NoEscape", "internal/bytealg.MakeNoZero", "internal/bytealg.IndexByteString", "internal/bytealg.IndexString"], unfollowed := true, recurses := true, named := ["unicode/utf8.first", "unicode/utf8.acceptRanges", "internal/bytealg.MaxLen"], apart := false, laid := [("unicode/utf8.acceptRanges", laid_unicode_utf8_acceptRanges), ("unicode/utf8.first", laid_unicode_utf8_first)] }
def RouteRejectsSaid : Prop := routeRejectsRow.holds Tryz.pinned (OpenSpec.ofChange routeRejectsSpec)

/-- ITS FALSE NEIGHBOUR: 'it returns false'. Refute it at one input. -/
def routeRejectsWrong : ChangeSpec := { name := "routeRejects", fn := fun _ => fun
  | [d1, d2, d3] => { results := [.lit (.bool false)], args := [d1, d2, d3] }
  | _ => none }
def RouteRejectsWrongFalsely : Prop := routeRejectsRow.holds Tryz.pinned (OpenSpec.ofChange routeRejectsWrong)

/-- 'groatlaw24.RouteMirrors': WHATEVER THE INPUT: true; the input reads as it did. -/
def routeMirrorsSpec : ChangeSpec := { name := "routeMirrors", fn := fun _ => fun
  | [d1, d2] => { results := [.lit (.bool true)], args := [d1, d2] }
  | _ => none }
def routeMirrorsRow : OpenClaim := { program := "ytkgpjibbdpikcaagreatdoor", sum := "d7cbab441a1639a218c213c7926fecd2d04209a3f4693f7c9bf761263ab9ebed", func := "groat/groatlaw24.RouteMirrors", spec := "routeMirrors", inPlace := ["internal/abi.NoEscape", "internal/bytealg.MakeNoZero", "internal/bytealg.IndexByteString", "internal/bytealg.IndexString"], unfollowed := true, recurses := true, named := ["unicode/utf8.first", "unicode/utf8.acceptRanges", "internal/bytealg.MaxLen"], apart := false, laid := [("unicode/utf8.acceptRanges", laid_unicode_utf8_acceptRanges), ("unicode/utf8.first", laid_unicode_utf8_first)] }
def RouteMirrorsSaid : Prop := routeMirrorsRow.holds Tryz.pinned (OpenSpec.ofChange routeMirrorsSpec)

/-- ITS FALSE NEIGHBOUR: 'it returns false'. Refute it at one input. -/
def routeMirrorsWrong : ChangeSpec := { name := "routeMirrors", fn := fun _ => fun
  | [d1, d2] => { results := [.lit (.bool false)], args := [d1, d2] }
  | _ => none }
def RouteMirrorsWrongFalsely : Prop := routeMirrorsRow.holds Tryz.pinned (OpenSpec.ofChange routeMirrorsWrong)

/-- 'groatlaw24.RouteBuilt': WHATEVER THE INPUT: true; the input reads as it did. -/
def routeBuiltSpec : ChangeSpec := { name := "routeBuilt", fn := fun _ => fun
  | [d1, d2] => { results := [.lit (.bool true)], args := [d1, d2] }
  | _ => none }
def routeBuiltRow : OpenClaim := { program := "ytkgpjibbdpikcaagreatdoor", sum := "d7cbab441a1639a218c213c7926fecd2d04209a3f4693f7c9bf761263ab9ebed", func := "groat/groatlaw24.RouteBuilt", spec := "routeBuilt", inPlace := ["internal/abi.NoEscape", "internal/bytealg.MakeNoZero", "internal/bytealg.IndexByteString", "internal/bytealg.IndexString"], unfollowed := true, recurses := true, named := ["unicode/utf8.first", "unicode/utf8.acceptRanges", "internal/bytealg.MaxLen"], apart := false, laid := [("unicode/utf8.acceptRanges", laid_unicode_utf8_acceptRanges), ("unicode/utf8.first", laid_unicode_utf8_first)] }
def RouteBuiltSaid : Prop := routeBuiltRow.holds Tryz.pinned (OpenSpec.ofChange routeBuiltSpec)

/-- ITS FALSE NEIGHBOUR: 'it returns false'. Refute it at one input. -/
def routeBuiltWrong : ChangeSpec := { name := "routeBuilt", fn := fun _ => fun
  | [d1, d2] => { results := [.lit (.bool false)], args := [d1, d2] }
  | _ => none }
def RouteBuiltWrongFalsely : Prop := routeBuiltRow.holds Tryz.pinned (OpenSpec.ofChange routeBuiltWrong)

/- THE SECOND FORM. 'bulk': how many values and letters a reading holds, each counted each time it is reached (what is shared counts as often as it is met; a slice's spare places count too). A statement '..UptoSaid' is the law's where the arguments, and the package variables that the reading takes, are together of bulk at most 1048576: NARROWER than '..Said'. Prove '..Said' where nothing that the law and all that it calls make is longer than what came in: it says more and counts as full. Else prove '..UptoSaid'. A law counts once. -/
mutual
def uptoBulk {H : Type} : DataW H → Nat
  | .lit (.string bytes) => bytes.length + 1
  | .lit _ => 1
  | .nil => 1
  | .ptr d => uptoBulk d + 1
  | .slice elems spare => uptoBulkAll elems + uptoBulkAll spare + 1
  | .agg parts => uptoBulkAll parts + 1
  | .iface _ d => uptoBulk d + 1
  | .map entries => uptoBulkEntries entries + 1
  | .held _ => 1
def uptoBulkAll {H : Type} : List (DataW H) → Nat
  | [] => 0
  | d :: r => uptoBulk d + uptoBulkAll r
def uptoBulkEntries {H : Type} : List (Lit × DataW H) → Nat
  | [] => 0
  | x :: r => uptoBulkEntry x + uptoBulkEntries r
def uptoBulkEntry {H : Type} : Lit × DataW H → Nat
  | (.string bytes, d) => bytes.length + uptoBulk d + 1
  | (_, d) => uptoBulk d + 1
 end
def uptoSmall : (H : Type) → List (DataW H) → Bool := fun _ ds => decide (uptoBulkAll ds ≤ 1048576)
def OpenSpec.upto (s : _root_.Go.ChangeSpec) : _root_.Go.OpenSpec := { _root_.Go.OpenSpec.ofChange s with cond := some uptoSmall }

/-- 'groatlaw24.RouteChecks', WHERE WHAT IT READS IS OF BULK AT MOST 1048576: true; the input reads as it did. -/
def routeChecksUptoRow : OpenClaim := { program := "ytkgpjibbdpikcaagreatdoor", sum := "d7cbab441a1639a218c213c7926fecd2d04209a3f4693f7c9bf761263ab9ebed", func := "groat/groatlaw24.RouteChecks", spec := "routeChecks", inPlace := ["internal/abi.NoEscape", "internal/bytealg.MakeNoZero", "internal/bytealg.IndexByteString", "internal/bytealg.IndexString"], unfollowed := true, recurses := true, named := ["unicode/utf8.first", "unicode/utf8.acceptRanges", "internal/bytealg.MaxLen"], apart := false, laid := [("unicode/utf8.acceptRanges", laid_unicode_utf8_acceptRanges), ("unicode/utf8.first", laid_unicode_utf8_first)], narrowed := true }
def RouteChecksUptoSaid : Prop := routeChecksUptoRow.holds Tryz.pinned (OpenSpec.upto routeChecksSpec)

/-- 'groatlaw24.RouteOutcomes', WHERE WHAT IT READS IS OF BULK AT MOST 1048576: true; the input reads as it did. -/
def routeOutcomesUptoRow : OpenClaim := { program := "ytkgpjibbdpikcaagreatdoor", sum := "d7cbab441a1639a218c213c7926fecd2d04209a3f4693f7c9bf761263ab9ebed", func := "groat/groatlaw24.RouteOutcomes", spec := "routeOutcomes", inPlace := ["internal/abi.NoEscape", "internal/bytealg.MakeNoZero", "internal/bytealg.IndexByteString", "internal/bytealg.IndexString"], unfollowed := true, recurses := true, named := ["unicode/utf8.first", "unicode/utf8.acceptRanges", "internal/bytealg.MaxLen"], apart := false, laid := [("unicode/utf8.acceptRanges", laid_unicode_utf8_acceptRanges), ("unicode/utf8.first", laid_unicode_utf8_first)], narrowed := true }
def RouteOutcomesUptoSaid : Prop := routeOutcomesUptoRow.holds Tryz.pinned (OpenSpec.upto routeOutcomesSpec)

/-- 'groatlaw24.RouteForwards', WHERE WHAT IT READS IS OF BULK AT MOST 1048576: true; the input reads as it did. -/
def routeForwardsUptoRow : OpenClaim := { program := "ytkgpjibbdpikcaagreatdoor", sum := "d7cbab441a1639a218c213c7926fecd2d04209a3f4693f7c9bf761263ab9ebed", func := "groat/groatlaw24.RouteForwards", spec := "routeForwards", inPlace := ["internal/abi.NoEscape", "internal/bytealg.MakeNoZero", "internal/bytealg.IndexByteString", "internal/bytealg.IndexString"], unfollowed := true, recurses := true, named := ["unicode/utf8.first", "unicode/utf8.acceptRanges", "internal/bytealg.MaxLen"], apart := false, laid := [("unicode/utf8.acceptRanges", laid_unicode_utf8_acceptRanges), ("unicode/utf8.first", laid_unicode_utf8_first)], narrowed := true }
def RouteForwardsUptoSaid : Prop := routeForwardsUptoRow.holds Tryz.pinned (OpenSpec.upto routeForwardsSpec)

/-- 'groatlaw24.RouteRejects', WHERE WHAT IT READS IS OF BULK AT MOST 1048576: true; the input reads as it did. -/
def routeRejectsUptoRow : OpenClaim := { program := "ytkgpjibbdpikcaagreatdoor", sum := "d7cbab441a1639a218c213c7926fecd2d04209a3f4693f7c9bf761263ab9ebed", func := "groat/groatlaw24.RouteRejects", spec := "routeRejects", inPlace := ["internal/abi.NoEscape", "internal/bytealg.MakeNoZero", "internal/bytealg.IndexByteString", "internal/bytealg.IndexString"], unfollowed := true, recurses := true, named := ["unicode/utf8.first", "unicode/utf8.acceptRanges", "internal/bytealg.MaxLen"], apart := false, laid := [("unicode/utf8.acceptRanges", laid_unicode_utf8_acceptRanges), ("unicode/utf8.first", laid_unicode_utf8_first)], narrowed := true }
def RouteRejectsUptoSaid : Prop := routeRejectsUptoRow.holds Tryz.pinned (OpenSpec.upto routeRejectsSpec)

/-- 'groatlaw24.RouteMirrors', WHERE WHAT IT READS IS OF BULK AT MOST 1048576: true; the input reads as it did. -/
def routeMirrorsUptoRow : OpenClaim := { program := "ytkgpjibbdpikcaagreatdoor", sum := "d7cbab441a1639a218c213c7926fecd2d04209a3f4693f7c9bf761263ab9ebed", func := "groat/groatlaw24.RouteMirrors", spec := "routeMirrors", inPlace := ["internal/abi.NoEscape", "internal/bytealg.MakeNoZero", "internal/bytealg.IndexByteString", "internal/bytealg.IndexString"], unfollowed := true, recurses := true, named := ["unicode/utf8.first", "unicode/utf8.acceptRanges", "internal/bytealg.MaxLen"], apart := false, laid := [("unicode/utf8.acceptRanges", laid_unicode_utf8_acceptRanges), ("unicode/utf8.first", laid_unicode_utf8_first)], narrowed := true }
def RouteMirrorsUptoSaid : Prop := routeMirrorsUptoRow.holds Tryz.pinned (OpenSpec.upto routeMirrorsSpec)

/-- 'groatlaw24.RouteBuilt', WHERE WHAT IT READS IS OF BULK AT MOST 1048576: true; the input reads as it did. -/
def routeBuiltUptoRow : OpenClaim := { program := "ytkgpjibbdpikcaagreatdoor", sum := "d7cbab441a1639a218c213c7926fecd2d04209a3f4693f7c9bf761263ab9ebed", func := "groat/groatlaw24.RouteBuilt", spec := "routeBuilt", inPlace := ["internal/abi.NoEscape", "internal/bytealg.MakeNoZero", "internal/bytealg.IndexByteString", "internal/bytealg.IndexString"], unfollowed := true, recurses := true, named := ["unicode/utf8.first", "unicode/utf8.acceptRanges", "internal/bytealg.MaxLen"], apart := false, laid := [("unicode/utf8.acceptRanges", laid_unicode_utf8_acceptRanges), ("unicode/utf8.first", laid_unicode_utf8_first)], narrowed := true }
def RouteBuiltUptoSaid : Prop := routeBuiltUptoRow.holds Tryz.pinned (OpenSpec.upto routeBuiltSpec)

end Rows
end Go.Proofs.YtkgpjibbdpikcaaGreatDoor
