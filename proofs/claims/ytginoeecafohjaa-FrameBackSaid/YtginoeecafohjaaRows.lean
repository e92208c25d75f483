/-
  No cell of these rows narrows 'for every input' (looked for: loops, veiled, ifaces, maps, wideKeys, modest, calm, conditions, laid).
  DERIVED. THE GIVEN ROWS OF THIS SEAT. 6 by the template 'for every input the law returns true; each argument reads behind the call as it read before'; 0 by the template 'total and deterministic' (their statements: YtginoeecafohjaaTotals.lean).
  GIVEN WITH THE SEED: the statements are not yours to turn. If you find one false, say at which input.
  Laid BY PROGRAM, IN A SANDBOX (cutbox-rows.mjs): the forced cells as the released guide's own fill.sh prints them over the translation 4265a08c14df3333… (all of the seat's roots in one cut). By AI agents, Wed Nov 11 2026. No macro, syntax, notation, axiom, sorry.
-/
import Derived.Test.YtginoeecafohjaaChecked
import GoSem.Claim
import GoSem.ClaimJoined
import GoSem.ClaimMapViews
import Derived.JoinedTies
import Derived.KernelRfl
namespace Go.Proofs.Ytginoeecafohjaa
/- THE CELL 'sum', in the pinned program and in every row, IS THE sha256 OF THE DUMP (.gsa) THAT YtginoeecafohjaaProg.lean LOADS. Nothing in Lean hashes anything: it is a label: what it is worth is what the hold of that sum in a sandbox is worth. -/
noncomputable def Try.pinned : Pinned := { name := "ytginoeecafohjaa", sum := "4265a08c14df3333c20bbc0e2fdd1b7df45420db4d724bae9bff4a6f47a232ce", checked := Try.checked }
namespace Rows
def none {H : Type} : Left H := { results := [], args := [] }

/-- 'groatlaw25.FramePuts': WHATEVER THE INPUT: true; the input reads as it did. -/
def framePutsSpec : ChangeSpec := { name := "framePuts", fn := fun _ => fun
  | [d] => { results := [.lit (.bool true)], args := [d] }
  | _ => none }
def framePutsRow : OpenClaim := { program := "ytginoeecafohjaa", sum := "4265a08c14df3333c20bbc0e2fdd1b7df45420db4d724bae9bff4a6f47a232ce", func := "groat/groatlaw25.FramePuts", spec := "framePuts", apart := false }
def FramePutsSaid : Prop := framePutsRow.holds Try.pinned (OpenSpec.ofChange framePutsSpec)

/-- ITS FALSE NEIGHBOUR: 'it returns false'. Refute it at one input. -/
def framePutsWrong : ChangeSpec := { name := "framePuts", fn := fun _ => fun
  | [d] => { results := [.lit (.bool false)], args := [d] }
  | _ => none }
def FramePutsWrongFalsely : Prop := framePutsRow.holds Try.pinned (OpenSpec.ofChange framePutsWrong)

/-- 'groatlaw25.FrameSegments': WHATEVER THE INPUT: true; the input reads as it did. -/
def frameSegmentsSpec : ChangeSpec := { name := "frameSegments", fn := fun _ => fun
  | [d1, d2] => { results := [.lit (.bool true)], args := [d1, d2] }
  | _ => none }
def frameSegmentsRow : OpenClaim := { program := "ytginoeecafohjaa", sum := "4265a08c14df3333c20bbc0e2fdd1b7df45420db4d724bae9bff4a6f47a232ce", func := "groat/groatlaw25.FrameSegments", spec := "frameSegments", apart := false }
def FrameSegmentsSaid : Prop := frameSegmentsRow.holds Try.pinned (OpenSpec.ofChange frameSegmentsSpec)

/-- ITS FALSE NEIGHBOUR: 'it returns false'. Refute it at one input. -/
def frameSegmentsWrong : ChangeSpec := { name := "frameSegments", fn := fun _ => fun
  | [d1, d2] => { results := [.lit (.bool false)], args := [d1, d2] }
  | _ => none }
def FrameSegmentsWrongFalsely : Prop := frameSegmentsRow.holds Try.pinned (OpenSpec.ofChange frameSegmentsWrong)

/-- 'groatlaw25.FrameAlike': WHATEVER THE INPUT: true; the input reads as it did. -/
def frameAlikeSpec : ChangeSpec := { name := "frameAlike", fn := fun _ => fun
  | [d1, d2] => { results := [.lit (.bool true)], args := [d1, d2] }
  | _ => none }
def frameAlikeRow : OpenClaim := { program := "ytginoeecafohjaa", sum := "4265a08c14df3333c20bbc0e2fdd1b7df45420db4d724bae9bff4a6f47a232ce", func := "groat/groatlaw25.FrameAlike", spec := "frameAlike", apart := false }
def FrameAlikeSaid : Prop := frameAlikeRow.holds Try.pinned (OpenSpec.ofChange frameAlikeSpec)

/-- ITS FALSE NEIGHBOUR: 'it returns false'. Refute it at one input. -/
def frameAlikeWrong : ChangeSpec := { name := "frameAlike", fn := fun _ => fun
  | [d1, d2] => { results := [.lit (.bool false)], args := [d1, d2] }
  | _ => none }
def FrameAlikeWrongFalsely : Prop := frameAlikeRow.holds Try.pinned (OpenSpec.ofChange frameAlikeWrong)

/-- 'groatlaw25.FrameHolds': WHATEVER THE INPUT: true; the input reads as it did. -/
def frameHoldsSpec : ChangeSpec := { name := "frameHolds", fn := fun _ => fun
  | [d1, d2] => { results := [.lit (.bool true)], args := [d1, d2] }
  | _ => none }
def frameHoldsRow : OpenClaim := { program := "ytginoeecafohjaa", sum := "4265a08c14df3333c20bbc0e2fdd1b7df45420db4d724bae9bff4a6f47a232ce", func := "groat/groatlaw25.FrameHolds", spec := "frameHolds", apart := false }
def FrameHoldsSaid : Prop := frameHoldsRow.holds Try.pinned (OpenSpec.ofChange frameHoldsSpec)

/-- ITS FALSE NEIGHBOUR: 'it returns false'. Refute it at one input. -/
def frameHoldsWrong : ChangeSpec := { name := "frameHolds", fn := fun _ => fun
  | [d1, d2] => { results := [.lit (.bool false)], args := [d1, d2] }
  | _ => none }
def FrameHoldsWrongFalsely : Prop := frameHoldsRow.holds Try.pinned (OpenSpec.ofChange frameHoldsWrong)

/-- 'groatlaw25.FrameBack': WHATEVER THE INPUT: true; the input reads as it did. -/
def frameBackSpec : ChangeSpec := { name := "frameBack", fn := fun _ => fun
  | [d1, d2] => { results := [.lit (.bool true)], args := [d1, d2] }
  | _ => none }
def frameBackRow : OpenClaim := { program := "ytginoeecafohjaa", sum := "4265a08c14df3333c20bbc0e2fdd1b7df45420db4d724bae9bff4a6f47a232ce", func := "groat/groatlaw25.FrameBack", spec := "frameBack", apart := false }
def FrameBackSaid : Prop := frameBackRow.holds Try.pinned (OpenSpec.ofChange frameBackSpec)

/-- ITS FALSE NEIGHBOUR: 'it returns false'. Refute it at one input. -/
def frameBackWrong : ChangeSpec := { name := "frameBack", fn := fun _ => fun
  | [d1, d2] => { results := [.lit (.bool false)], args := [d1, d2] }
  | _ => none }
def FrameBackWrongFalsely : Prop := frameBackRow.holds Try.pinned (OpenSpec.ofChange frameBackWrong)

/-- 'groatlaw25.FrameDead': WHATEVER THE INPUT: true; the input reads as it did. -/
def frameDeadSpec : ChangeSpec := { name := "frameDead", fn := fun _ => fun
  | [d1, d2, d3] => { results := [.lit (.bool true)], args := [d1, d2, d3] }
  | _ => none }
def frameDeadRow : OpenClaim := { program := "ytginoeecafohjaa", sum := "4265a08c14df3333c20bbc0e2fdd1b7df45420db4d724bae9bff4a6f47a232ce", func := "groat/groatlaw25.FrameDead", spec := "frameDead", apart := false }
def FrameDeadSaid : Prop := frameDeadRow.holds Try.pinned (OpenSpec.ofChange frameDeadSpec)

/-- ITS FALSE NEIGHBOUR: 'it returns false'. Refute it at one input. -/
def frameDeadWrong : ChangeSpec := { name := "frameDead", fn := fun _ => fun
  | [d1, d2, d3] => { results := [.lit (.bool false)], args := [d1, d2, d3] }
  | _ => none }
def FrameDeadWrongFalsely : Prop := frameDeadRow.holds Try.pinned (OpenSpec.ofChange frameDeadWrong)

/- THE SECOND FORM. 'bulk': how many values and letters a reading holds, each counted each time it is reached (what is shared counts as often as it is met; a slice's spare places count too). A statement '..UptoSaid' is the law's where the arguments, and the package variables that the reading takes, are together of bulk at most 1048576: NARROWER than '..Said'. Prove '..Said' where nothing that the law and all that it calls make is longer than what came in: it says more and counts as full. Else prove '..UptoSaid'. A law counts once. -/
mutual
def uptoBulk {H : Type} : DataW H → Nat
  | .lit (.string bytes) => bytes.length + 1
  | .lit _ => 1
  | .nil => 1
  | .ptr d => uptoBulk d + 1
  | .slice elems spare => uptoBulkAll elems + uptoBulkAll spare + 1
  | .agg parts => uptoBulkAll parts + 1
  | .iface _ d => uptoBulk d + 1
  | .map entries => uptoBulkEntries entries + 1
  | .held _ => 1
def uptoBulkAll {H : Type} : List (DataW H) → Nat
  | [] => 0
  | d :: r => uptoBulk d + uptoBulkAll r
def uptoBulkEntries {H : Type} : List (Lit × DataW H) → Nat
  | [] => 0
  | x :: r => uptoBulkEntry x + uptoBulkEntries r
def uptoBulkEntry {H : Type} : Lit × DataW H → Nat
  | (.string bytes, d) => bytes.length + uptoBulk d + 1
  | (_, d) => uptoBulk d + 1
 end
def uptoSmall : (H : Type) → List (DataW H) → Bool := fun _ ds => decide (uptoBulkAll ds ≤ 1048576)
def OpenSpec.upto (s : _root_.Go.ChangeSpec) : _root_.Go.OpenSpec := { _root_.Go.OpenSpec.ofChange s with cond := some uptoSmall }

/-- 'groatlaw25.FramePuts', WHERE WHAT IT READS IS OF BULK AT MOST 1048576: true; the input reads as it did. -/
def framePutsUptoRow : OpenClaim := { program := "ytginoeecafohjaa", sum := "4265a08c14df3333c20bbc0e2fdd1b7df45420db4d724bae9bff4a6f47a232ce", func := "groat/groatlaw25.FramePuts", spec := "framePuts", apart := false, narrowed := true }
def FramePutsUptoSaid : Prop := framePutsUptoRow.holds Try.pinned (OpenSpec.upto framePutsSpec)

/-- 'groatlaw25.FrameSegments', WHERE WHAT IT READS IS OF BULK AT MOST 1048576: true; the input reads as it did. -/
def frameSegmentsUptoRow : OpenClaim := { program := "ytginoeecafohjaa", sum := "4265a08c14df3333c20bbc0e2fdd1b7df45420db4d724bae9bff4a6f47a232ce", func := "groat/groatlaw25.FrameSegments", spec := "frameSegments", apart := false, narrowed := true }
def FrameSegmentsUptoSaid : Prop := frameSegmentsUptoRow.holds Try.pinned (OpenSpec.upto frameSegmentsSpec)

/-- 'groatlaw25.FrameAlike', WHERE WHAT IT READS IS OF BULK AT MOST 1048576: true; the input reads as it did. -/
def frameAlikeUptoRow : OpenClaim := { program := "ytginoeecafohjaa", sum := "4265a08c14df3333c20bbc0e2fdd1b7df45420db4d724bae9bff4a6f47a232ce", func := "groat/groatlaw25.FrameAlike", spec := "frameAlike", apart := false, narrowed := true }
def FrameAlikeUptoSaid : Prop := frameAlikeUptoRow.holds Try.pinned (OpenSpec.upto frameAlikeSpec)

/-- 'groatlaw25.FrameHolds', WHERE WHAT IT READS IS OF BULK AT MOST 1048576: true; the input reads as it did. -/
def frameHoldsUptoRow : OpenClaim := { program := "ytginoeecafohjaa", sum := "4265a08c14df3333c20bbc0e2fdd1b7df45420db4d724bae9bff4a6f47a232ce", func := "groat/groatlaw25.FrameHolds", spec := "frameHolds", apart := false, narrowed := true }
def FrameHoldsUptoSaid : Prop := frameHoldsUptoRow.holds Try.pinned (OpenSpec.upto frameHoldsSpec)

/-- 'groatlaw25.FrameBack', WHERE WHAT IT READS IS OF BULK AT MOST 1048576: true; the input reads as it did. -/
def frameBackUptoRow : OpenClaim := { program := "ytginoeecafohjaa", sum := "4265a08c14df3333c20bbc0e2fdd1b7df45420db4d724bae9bff4a6f47a232ce", func := "groat/groatlaw25.FrameBack", spec := "frameBack", apart := false, narrowed := true }
def FrameBackUptoSaid : Prop := frameBackUptoRow.holds Try.pinned (OpenSpec.upto frameBackSpec)

/-- 'groatlaw25.FrameDead', WHERE WHAT IT READS IS OF BULK AT MOST 1048576: true; the input reads as it did. -/
def frameDeadUptoRow : OpenClaim := { program := "ytginoeecafohjaa", sum := "4265a08c14df3333c20bbc0e2fdd1b7df45420db4d724bae9bff4a6f47a232ce", func := "groat/groatlaw25.FrameDead", spec := "frameDead", apart := false, narrowed := true }
def FrameDeadUptoSaid : Prop := frameDeadUptoRow.holds Try.pinned (OpenSpec.upto frameDeadSpec)

end Rows
end Go.Proofs.Ytginoeecafohjaa
