/-
  NARROWER THAN 'FOR EVERY INPUT', by the rows' own cells (each row's printed sentence says how): GatewayNew: laid · GatewayRuns: laid · GatewayMixed: laid · GatewayParts: laid · GatewayOnce: laid · GatewayHolds: laid · GatewayMirrors: laid.
  DERIVED. THE GIVEN ROWS OF THIS SEAT. 7 by the template 'for every input the law returns true; each argument reads behind the call as it read before'; 0 by the template 'total and deterministic' (their statements: YtpjkbbihjoflnaaGreatDoorTotals.lean).
  GIVEN WITH THE SEED: the statements are not yours to turn. If you find one false, say at which input.
  Laid BY PROGRAM, IN A SANDBOX (cutbox-rows.mjs): the forced cells as the released guide's own fill.sh prints them over the translation 6396524a370138f1… (all of the seat's roots in one cut). By AI agents, Wed Nov 11 2026. No macro, syntax, notation, axiom, sorry.
-/
import Derived.Test.YtpjkbbihjoflnaaGreatDoorChecked
import GoSem.PinnedTables
import GoSem.Claim
import GoSem.ClaimJoined
import GoSem.ClaimMapViews
import Derived.JoinedTies
import Derived.KernelRfl
namespace Go.Proofs.YtpjkbbihjoflnaaGreatDoor
/- THE CELL 'sum', in the pinned program and in every row, IS THE sha256 OF THE DUMP (.gsa) THAT YtpjkbbihjoflnaaGreatDoorProg.lean LOADS. Nothing in Lean hashes anything: it is a label: what it is worth is what the hold of that sum in a sandbox is worth. -/
noncomputable def Tryz.pinned : Pinned := { name := "ytpjkbbihjoflnaagreatdoor", sum := "6396524a370138f131610508f9c1f8834843d21bde1a578924f928ab9d250a65", checked := Tryz.checked }
namespace Rows
def none {H : Type} : Left H := { results := [], args := [] }

/- WHAT THE LISTED PACKAGE-LEVEL VARIABLES READ AS WHEN THE CALL BEGINS. Each datum BY PROGRAM (the guide's laid-datum.mjs) off the statement by which the dump's own 'gosem.cut.vars' lays the variable. In a bare row this is a premise. The card (YtpjkbbihjoflnaaGreatDoorCards.lean) ties it to the program's text. -/
def laid_unicode_utf8_acceptRanges {H : Type} : DataW H := .agg [.agg [.lit (.int .u8 128), .lit (.int .u8 191)], .agg [.lit (.int .u8 160), .lit (.int .u8 191)], .agg [.lit (.int .u8 128), .lit (.int .u8 159)], .agg [.lit (.int .u8 144), .lit (.int .u8 191)], .agg [.lit (.int .u8 128), .lit (.int .u8 143)], .agg [.lit (.int .u8 0), .lit (.int .u8 0)], .agg [.lit (.int .u8 0), .lit (.int .u8 0)], .agg [.lit (.int .u8 0), .lit (.int .u8 0)], .agg [.lit (.int .u8 0), .lit (.int .u8 0)], .agg [.lit (.int .u8 0), .lit (.int .u8 0)], .agg [.lit (.int .u8 0), .lit (.int .u8 0)], .agg [.lit (.int .u8 0), .lit (.int .u8 0)], .agg [.lit (.int .u8 0), .lit (.int .u8 0)], .agg [.lit (.int .u8 0), .lit (.int .u8 0)], .agg [.lit (.int .u8 0), .lit (.int .u8 0)], .agg [.lit (.int .u8 0), .lit (.int .u8 0)]]
/-- One of Go's own tables, pinned by name: the form's constant. -/
def laid_unicode_utf8_first : DataW Unit := Go.Pinned.utf8First

/-- 'groatlaw26.GatewayNew': WHATEVER THE INPUT: true; the input reads as it did. -/
def gatewayNewSpec : ChangeSpec := { name := "gatewayNew", fn := fun _ => fun
  | [d] => { results := [.lit (.bool true)], args := [d] }
  | _ => none }
def gatewayNewRow : OpenClaim := { program := "ytpjkbbihjoflnaagreatdoor", sum := "6396524a370138f131610508f9c1f8834843d21bde1a578924f928ab9d250a65", func := "groat/groatlaw26.GatewayNew", spec := "gatewayNew", inPlace := ["internal/abi.NoEscape", "internal/bytealg.MakeNoZero", "internal/bytealg.IndexByteString", "internal/bytealg.IndexString"], unfollowed := true, recurses := true, named := ["unicode/utf8.first", "unicode/utf8.acceptRanges", "internal/bytealg.MaxLen"], apart := false, laid := [("unicode/utf8.acceptRanges", laid_unicode_utf8_acceptRanges), ("unicode/utf8.first", laid_unicode_utf8_first)] }
def GatewayNewSaid : Prop := gatewayNewRow.holds Tryz.pinned (OpenSpec.ofChange gatewayNewSpec)

/-- ITS FALSE NEIGHBOUR: 'it returns false'. Refute it at one input. -/
def gatewayNewWrong : ChangeSpec := { name := "gatewayNew", fn := fun _ => fun
  | [d] => { results := [.lit (.bool false)], args := [d] }
  | _ => none }
def GatewayNewWrongFalsely : Prop := gatewayNewRow.holds Tryz.pinned (OpenSpec.ofChange gatewayNewWrong)

/-- 'groatlaw26.GatewayRuns': WHATEVER THE INPUT: true; the input reads as it did. -/
def gatewayRunsSpec : ChangeSpec := { name := "gatewayRuns", fn := fun _ => fun
  | [d1, d2] => { results := [.lit (.bool true)], args := [d1, d2] }
  | _ => none }
def gatewayRunsRow : OpenClaim := { program := "ytpjkbbihjoflnaagreatdoor", sum := "6396524a370138f131610508f9c1f8834843d21bde1a578924f928ab9d250a65", func := "groat/groatlaw26.GatewayRuns", spec := "gatewayRuns", inPlace := ["internal/abi.NoEscape", "internal/bytealg.MakeNoZero", "internal/bytealg.IndexByteString", "internal/bytealg.IndexString"], unfollowed := true, recurses := true, named := ["unicode/utf8.first", "unicode/utf8.acceptRanges", "internal/bytealg.MaxLen"], apart := false, laid := [("unicode/utf8.acceptRanges", laid_unicode_utf8_acceptRanges), ("unicode/utf8.first", laid_unicode_utf8_first)] }
def GatewayRunsSaid : Prop := gatewayRunsRow.holds Tryz.pinned (OpenSpec.ofChange gatewayRunsSpec)

/-- ITS FALSE NEIGHBOUR: 'it returns false'. Refute it at one input. -/
def gatewayRunsWrong : ChangeSpec := { name := "gatewayRuns", fn := fun _ => fun
  | [d1, d2] => { results := [.lit (.bool false)], args := [d1, d2] }
  | _ => none }
def GatewayRunsWrongFalsely : Prop := gatewayRunsRow.holds Tryz.pinned (OpenSpec.ofChange gatewayRunsWrong)

/-- 'groatlaw26.GatewayMixed': WHATEVER THE INPUT: true; the input reads as it did. -/
def gatewayMixedSpec : ChangeSpec := { name := "gatewayMixed", fn := fun _ => fun
  | [d1, d2] => { results := [.lit (.bool true)], args := [d1, d2] }
  | _ => none }
def gatewayMixedRow : OpenClaim := { program := "ytpjkbbihjoflnaagreatdoor", sum := "6396524a370138f131610508f9c1f8834843d21bde1a578924f928ab9d250a65", func := "groat/groatlaw26.GatewayMixed", spec := "gatewayMixed", inPlace := ["internal/abi.NoEscape", "internal/bytealg.MakeNoZero", "internal/bytealg.IndexByteString", "internal/bytealg.IndexString"], unfollowed := true, recurses := true, named := ["unicode/utf8.first", "unicode/utf8.acceptRanges", "internal/bytealg.MaxLen"], apart := false, laid := [("unicode/utf8.acceptRanges", laid_unicode_utf8_acceptRanges), ("unicode/utf8.first", laid_unicode_utf8_first)] }
def GatewayMixedSaid : Prop := gatewayMixedRow.holds Tryz.pinned (OpenSpec.ofChange gatewayMixedSpec)

/-- ITS FALSE NEIGHBOUR: 'it returns false'. Refute it at one input. -/
def gatewayMixedWrong : ChangeSpec := { name := "gatewayMixed", fn := fun _ => fun
  | [d1, d2] => { results := [.lit (.bool false)], args := [d1, d2] }
  | _ => none }
def GatewayMixedWrongFalsely : Prop := gatewayMixedRow.holds Tryz.pinned (OpenSpec.ofChange gatewayMixedWrong)

/-- 'groatlaw26.GatewayParts': WHATEVER THE INPUT: true; the input reads as it did. -/
def gatewayPartsSpec : ChangeSpec := { name := "gatewayParts", fn := fun _ => fun
  | [d1, d2, d3] => { results := [.lit (.bool true)], args := [d1, d2, d3] }
  | _ => none }
def gatewayPartsRow : OpenClaim := { program := "ytpjkbbihjoflnaagreatdoor", sum := "6396524a370138f131610508f9c1f8834843d21bde1a578924f928ab9d250a65", func := "groat/groatlaw26.GatewayParts", spec := "gatewayParts", inPlace := ["internal/abi.NoEscape", "internal/bytealg.MakeNoZero", "internal/bytealg.IndexByteString", "internal/bytealg.IndexString"], unfollowed := true, recurses := true, named := ["unicode/utf8.first", "unicode/utf8.acceptRanges", "internal/bytealg.MaxLen"], apart := false, laid := [("unicode/utf8.acceptRanges", laid_unicode_utf8_acceptRanges), ("unicode/utf8.first", laid_unicode_utf8_first)] }
def GatewayPartsSaid : Prop := gatewayPartsRow.holds Tryz.pinned (OpenSpec.ofChange gatewayPartsSpec)

/-- ITS FALSE NEIGHBOUR: 'it returns false'. Refute it at one input. -/
def gatewayPartsWrong : ChangeSpec := { name := "gatewayParts", fn := fun _ => fun
  | [d1, d2, d3] => { results := [.lit (.bool false)], args := [d1, d2, d3] }
  | _ => none }
def GatewayPartsWrongFalsely : Prop := gatewayPartsRow.holds Tryz.pinned (OpenSpec.ofChange gatewayPartsWrong)

/-- 'groatlaw26.GatewayOnce': WHATEVER THE INPUT: true; the input reads as it did. -/
def gatewayOnceSpec : ChangeSpec := { name := "gatewayOnce", fn := fun _ => fun
  | [d1, d2] => { results := [.lit (.bool true)], args := [d1, d2] }
  | _ => none }
def gatewayOnceRow : OpenClaim := { program := "ytpjkbbihjoflnaagreatdoor", sum := "6396524a370138f131610508f9c1f8834843d21bde1a578924f928ab9d250a65", func := "groat/groatlaw26.GatewayOnce", spec := "gatewayOnce", inPlace := ["internal/abi.NoEscape", "internal/bytealg.MakeNoZero", "internal/bytealg.IndexByteString", "internal/bytealg.IndexString"], unfollowed := true, recurses := true, named := ["unicode/utf8.first", "unicode/utf8.acceptRanges", "internal/bytealg.MaxLen"], apart := false, laid := [("unicode/utf8.acceptRanges", laid_unicode_utf8_acceptRanges), ("unicode/utf8.first", laid_unicode_utf8_first)] }
def GatewayOnceSaid : Prop := gatewayOnceRow.holds Tryz.pinned (OpenSpec.ofChange gatewayOnceSpec)

/-- ITS FALSE NEIGHBOUR: 'it returns false'. Refute it at one input. -/
def gatewayOnceWrong : ChangeSpec := { name := "gatewayOnce", fn := fun _ => fun
  | [d1, d2] => { results := [.lit (.bool false)], args := [d1, d2] }
  | _ => none }
def GatewayOnceWrongFalsely : Prop := gatewayOnceRow.holds Tryz.pinned (OpenSpec.ofChange gatewayOnceWrong)

/-- 'groatlaw26.GatewayHolds': WHATEVER THE INPUT: true; the input reads as it did. -/
def gatewayHoldsSpec : ChangeSpec := { name := "gatewayHolds", fn := fun _ => fun
  | [d1, d2, d3] => { results := [.lit (.bool true)], args := [d1, d2, d3] }
  | _ => none }
def gatewayHoldsRow : OpenClaim := { program := "ytpjkbbihjoflnaagreatdoor", sum := "6396524a370138f131610508f9c1f8834843d21bde1a578924f928ab9d250a65", func := "groat/groatlaw26.GatewayHolds", spec := "gatewayHolds", inPlace := ["internal/abi.NoEscape", "internal/bytealg.MakeNoZero", "internal/bytealg.IndexByteString", "internal/bytealg.IndexString"], unfollowed := true, recurses := true, named := ["unicode/utf8.first", "unicode/utf8.acceptRanges", "internal/bytealg.MaxLen"], apart := false, laid := [("unicode/utf8.acceptRanges", laid_unicode_utf8_acceptRanges), ("unicode/utf8.first", laid_unicode_utf8_first)] }
def GatewayHoldsSaid : Prop := gatewayHoldsRow.holds Tryz.pinned (OpenSpec.ofChange gatewayHoldsSpec)

/-- ITS FALSE NEIGHBOUR: 'it returns false'. Refute it at one input. -/
def gatewayHoldsWrong : ChangeSpec := { name := "gatewayHolds", fn := fun _ => fun
  | [d1, d2, d3] => { results := [.lit (.bool false)], args := [d1, d2, d3] }
  | _ => none }
def GatewayHoldsWrongFalsely : Prop := gatewayHoldsRow.holds Tryz.pinned (OpenSpec.ofChange gatewayHoldsWrong)

/-- 'groatlaw26.GatewayMirrors': WHATEVER THE INPUT: true; the input reads as it did. -/
def gatewayMirrorsSpec : ChangeSpec := { name := "gatewayMirrors", fn := fun _ => fun
  | [d] => { results := [.lit (.bool true)], args := [d] }
  | _ => none }
def gatewayMirrorsRow : OpenClaim := { program := "ytpjkbbihjoflnaagreatdoor", sum := "6396524a370138f131610508f9c1f8834843d21bde1a578924f928ab9d250a65", func := "groat/groatlaw26.GatewayMirrors", spec := "gatewayMirrors", inPlace := ["internal/abi.NoEscape", "internal/bytealg.MakeNoZero", "internal/bytealg.IndexByteString", "internal/bytealg.IndexString"], unfollowed := true, recurses := true, named := ["unicode/utf8.first", "unicode/utf8.acceptRanges", "internal/bytealg.MaxLen"], apart := false, laid := [("unicode/utf8.acceptRanges", laid_unicode_utf8_acceptRanges), ("unicode/utf8.first", laid_unicode_utf8_first)] }
def GatewayMirrorsSaid : Prop := gatewayMirrorsRow.holds Tryz.pinned (OpenSpec.ofChange gatewayMirrorsSpec)

/-- ITS FALSE NEIGHBOUR: 'it returns false'. Refute it at one input. -/
def gatewayMirrorsWrong : ChangeSpec := { name := "gatewayMirrors", fn := fun _ => fun
  | [d] => { results := [.lit (.bool false)], args := [d] }
  | _ => none }
def GatewayMirrorsWrongFalsely : Prop := gatewayMirrorsRow.holds Tryz.pinned (OpenSpec.ofChange gatewayMirrorsWrong)

/- THE SECOND FORM. 'bulk': how many values and letters a reading holds, each counted each time it is reached (what is shared counts as often as it is met; a slice's spare places count too). A statement '..UptoSaid' is the law's where the arguments, and the package variables that the reading takes, are together of bulk at most 1048576: NARROWER than '..Said'. Prove '..Said' where nothing that the law and all that it calls make is longer than what came in: it says more and counts as full. Else prove '..UptoSaid'. A law counts once. -/
mutual
def uptoBulk {H : Type} : DataW H → Nat
  | .lit (.string bytes) => bytes.length + 1
  | .lit _ => 1
  | .nil => 1
  | .ptr d => uptoBulk d + 1
  | .slice elems spare => uptoBulkAll elems + uptoBulkAll spare + 1
  | .agg parts => uptoBulkAll parts + 1
  | .iface _ d => uptoBulk d + 1
  | .map entries => uptoBulkEntries entries + 1
  | .held _ => 1
def uptoBulkAll {H : Type} : List (DataW H) → Nat
  | [] => 0
  | d :: r => uptoBulk d + uptoBulkAll r
def uptoBulkEntries {H : Type} : List (Lit × DataW H) → Nat
  | [] => 0
  | x :: r => uptoBulkEntry x + uptoBulkEntries r
def uptoBulkEntry {H : Type} : Lit × DataW H → Nat
  | (.string bytes, d) => bytes.length + uptoBulk d + 1
  | (_, d) => uptoBulk d + 1
 end
def uptoSmall : (H : Type) → List (DataW H) → Bool := fun _ ds => decide (uptoBulkAll ds ≤ 1048576)
def OpenSpec.upto (s : _root_.Go.ChangeSpec) : _root_.Go.OpenSpec := { _root_.Go.OpenSpec.ofChange s with cond := some uptoSmall }

/-- 'groatlaw26.GatewayNew', WHERE WHAT IT READS IS OF BULK AT MOST 1048576: true; the input reads as it did. -/
def gatewayNewUptoRow : OpenClaim := { program := "ytpjkbbihjoflnaagreatdoor", sum := "6396524a370138f131610508f9c1f8834843d21bde1a578924f928ab9d250a65", func := "groat/groatlaw26.GatewayNew", spec := "gatewayNew", inPlace := ["internal/abi.NoEscape", "internal/bytealg.MakeNoZero", "internal/bytealg.IndexByteString", "internal/bytealg.IndexString"], unfollowed := true, recurses := true, named := ["unicode/utf8.first", "unicode/utf8.acceptRanges", "internal/bytealg.MaxLen"], apart := false, laid := [("unicode/utf8.acceptRanges", laid_unicode_utf8_acceptRanges), ("unicode/utf8.first", laid_unicode_utf8_first)], narrowed := true }
def GatewayNewUptoSaid : Prop := gatewayNewUptoRow.holds Tryz.pinned (OpenSpec.upto gatewayNewSpec)

/-- 'groatlaw26.GatewayRuns', WHERE WHAT IT READS IS OF BULK AT MOST 1048576: true; the input reads as it did. -/
def gatewayRunsUptoRow : OpenClaim := { program := "ytpjkbbihjoflnaagreatdoor", sum := "6396524a370138f131610508f9c1f8834843d21bde1a578924f928ab9d250a65", func := "groat/groatlaw26.GatewayRuns", spec := "gatewayRuns", inPlace := ["internal/abi.NoEscape", "internal/bytealg.MakeNoZero", "internal/bytealg.IndexByteString", "internal/bytealg.IndexString"], unfollowed := true, recurses := true, named := ["unicode/utf8.first", "unicode/utf8.acceptRanges", "internal/bytealg.MaxLen"], apart := false, laid := [("unicode/utf8.acceptRanges", laid_unicode_utf8_acceptRanges), ("unicode/utf8.first", laid_unicode_utf8_first)], narrowed := true }
def GatewayRunsUptoSaid : Prop := gatewayRunsUptoRow.holds Tryz.pinned (OpenSpec.upto gatewayRunsSpec)

/-- 'groatlaw26.GatewayMixed', WHERE WHAT IT READS IS OF BULK AT MOST 1048576: true; the input reads as it did. -/
def gatewayMixedUptoRow : OpenClaim := { program := "ytpjkbbihjoflnaagreatdoor", sum := "6396524a370138f131610508f9c1f8834843d21bde1a578924f928ab9d250a65", func := "groat/groatlaw26.GatewayMixed", spec := "gatewayMixed", inPlace := ["internal/abi.NoEscape", "internal/bytealg.MakeNoZero", "internal/bytealg.IndexByteString", "internal/bytealg.IndexString"], unfollowed := true, recurses := true, named := ["unicode/utf8.first", "unicode/utf8.acceptRanges", "internal/bytealg.MaxLen"], apart := false, laid := [("unicode/utf8.acceptRanges", laid_unicode_utf8_acceptRanges), ("unicode/utf8.first", laid_unicode_utf8_first)], narrowed := true }
def GatewayMixedUptoSaid : Prop := gatewayMixedUptoRow.holds Tryz.pinned (OpenSpec.upto gatewayMixedSpec)

/-- 'groatlaw26.GatewayParts', WHERE WHAT IT READS IS OF BULK AT MOST 1048576: true; the input reads as it did. -/
def gatewayPartsUptoRow : OpenClaim := { program := "ytpjkbbihjoflnaagreatdoor", sum := "6396524a370138f131610508f9c1f8834843d21bde1a578924f928ab9d250a65", func := "groat/groatlaw26.GatewayParts", spec := "gatewayParts", inPlace := ["internal/abi.NoEscape", "internal/bytealg.MakeNoZero", "internal/bytealg.IndexByteString", "internal/bytealg.IndexString"], unfollowed := true, recurses := true, named := ["unicode/utf8.first", "unicode/utf8.acceptRanges", "internal/bytealg.MaxLen"], apart := false, laid := [("unicode/utf8.acceptRanges", laid_unicode_utf8_acceptRanges), ("unicode/utf8.first", laid_unicode_utf8_first)], narrowed := true }
def GatewayPartsUptoSaid : Prop := gatewayPartsUptoRow.holds Tryz.pinned (OpenSpec.upto gatewayPartsSpec)

/-- 'groatlaw26.GatewayOnce', WHERE WHAT IT READS IS OF BULK AT MOST 1048576: true; the input reads as it did. -/
def gatewayOnceUptoRow : OpenClaim := { program := "ytpjkbbihjoflnaagreatdoor", sum := "6396524a370138f131610508f9c1f8834843d21bde1a578924f928ab9d250a65", func := "groat/groatlaw26.GatewayOnce", spec := "gatewayOnce", inPlace := ["internal/abi.NoEscape", "internal/bytealg.MakeNoZero", "internal/bytealg.IndexByteString", "internal/bytealg.IndexString"], unfollowed := true, recurses := true, named := ["unicode/utf8.first", "unicode/utf8.acceptRanges", "internal/bytealg.MaxLen"], apart := false, laid := [("unicode/utf8.acceptRanges", laid_unicode_utf8_acceptRanges), ("unicode/utf8.first", laid_unicode_utf8_first)], narrowed := true }
def GatewayOnceUptoSaid : Prop := gatewayOnceUptoRow.holds Tryz.pinned (OpenSpec.upto gatewayOnceSpec)

/-- 'groatlaw26.GatewayHolds', WHERE WHAT IT READS IS OF BULK AT MOST 1048576: true; the input reads as it did. -/
def gatewayHoldsUptoRow : OpenClaim := { program := "ytpjkbbihjoflnaagreatdoor", sum := "6396524a370138f131610508f9c1f8834843d21bde1a578924f928ab9d250a65", func := "groat/groatlaw26.GatewayHolds", spec := "gatewayHolds", inPlace := ["internal/abi.NoEscape", "internal/bytealg.MakeNoZero", "internal/bytealg.IndexByteString", "internal/bytealg.IndexString"], unfollowed := true, recurses := true, named := ["unicode/utf8.first", "unicode/utf8.acceptRanges", "internal/bytealg.MaxLen"], apart := false, laid := [("unicode/utf8.acceptRanges", laid_unicode_utf8_acceptRanges), ("unicode/utf8.first", laid_unicode_utf8_first)], narrowed := true }
def GatewayHoldsUptoSaid : Prop := gatewayHoldsUptoRow.holds Tryz.pinned (OpenSpec.upto gatewayHoldsSpec)

/-- 'groatlaw26.GatewayMirrors', WHERE WHAT IT READS IS OF BULK AT MOST 1048576: true; the input reads as it did. -/
def gatewayMirrorsUptoRow : OpenClaim := { program := "ytpjkbbihjoflnaagreatdoor", sum := "6396524a370138f131610508f9c1f8834843d21bde1a578924f928ab9d250a65", func := "groat/groatlaw26.GatewayMirrors", spec := "gatewayMirrors", inPlace := ["internal/abi.NoEscape", "internal/bytealg.MakeNoZero", "internal/bytealg.IndexByteString", "internal/bytealg.IndexString"], unfollowed := true, recurses := true, named := ["unicode/utf8.first", "unicode/utf8.acceptRanges", "internal/bytealg.MaxLen"], apart := false, laid := [("unicode/utf8.acceptRanges", laid_unicode_utf8_acceptRanges), ("unicode/utf8.first", laid_unicode_utf8_first)], narrowed := true }
def GatewayMirrorsUptoSaid : Prop := gatewayMirrorsUptoRow.holds Tryz.pinned (OpenSpec.upto gatewayMirrorsSpec)

end Rows
end Go.Proofs.YtpjkbbihjoflnaaGreatDoor
