/-
  No cell of these rows narrows 'for every input' (looked for: loops, veiled, ifaces, maps, wideKeys, modest, calm, conditions, laid).
  DERIVED. THE GIVEN ROWS OF THIS SEAT. 4 by the template 'for every input the law returns true; each argument reads behind the call as it read before'; 0 by the template 'total and deterministic' (their statements: YtgkmbijfbdlhkaaTotals.lean).
  GIVEN WITH THE SEED: the statements are not yours to turn. If you find one false, say at which input.
  Laid BY PROGRAM, IN A SANDBOX (cutbox-rows.mjs): the forced cells as the released guide's own fill.sh prints them over the translation 6d4dc2b52de47e73… (all of the seat's roots in one cut). By AI agents, Wed Nov 11 2026. No macro, syntax, notation, axiom, sorry.
-/
import Derived.Test.YtgkmbijfbdlhkaaChecked
import GoSem.Claim
import GoSem.ClaimJoined
import GoSem.ClaimMapViews
import Derived.JoinedTies
import Derived.KernelRfl
namespace Go.Proofs.Ytgkmbijfbdlhkaa
/- THE CELL 'sum', in the pinned program and in every row, IS THE sha256 OF THE DUMP (.gsa) THAT YtgkmbijfbdlhkaaProg.lean LOADS. Nothing in Lean hashes anything: it is a label: what it is worth is what the hold of that sum in a sandbox is worth. -/
noncomputable def Try.pinned : Pinned := { name := "ytgkmbijfbdlhkaa", sum := "6d4dc2b52de47e734062eb4bc08b432249daf76db8f31d52524042583ec7a8ea", checked := Try.checked }
namespace Rows
def none {H : Type} : Left H := { results := [], args := [] }

/-- 'groatlaw14.DialectFields': WHATEVER THE INPUT: true; the input reads as it did. -/
def dialectFieldsSpec : ChangeSpec := { name := "dialectFields", fn := fun _ => fun
  | [d1, d2] => { results := [.lit (.bool true)], args := [d1, d2] }
  | _ => none }
def dialectFieldsRow : OpenClaim := { program := "ytgkmbijfbdlhkaa", sum := "6d4dc2b52de47e734062eb4bc08b432249daf76db8f31d52524042583ec7a8ea", func := "groat/groatlaw14.DialectFields", spec := "dialectFields", apart := false }
def DialectFieldsSaid : Prop := dialectFieldsRow.holds Try.pinned (OpenSpec.ofChange dialectFieldsSpec)

/-- ITS FALSE NEIGHBOUR: 'it returns false'. Refute it at one input. -/
def dialectFieldsWrong : ChangeSpec := { name := "dialectFields", fn := fun _ => fun
  | [d1, d2] => { results := [.lit (.bool false)], args := [d1, d2] }
  | _ => none }
def DialectFieldsWrongFalsely : Prop := dialectFieldsRow.holds Try.pinned (OpenSpec.ofChange dialectFieldsWrong)

/-- 'groatlaw14.DialectOwn': WHATEVER THE INPUT: true; the input reads as it did. -/
def dialectOwnSpec : ChangeSpec := { name := "dialectOwn", fn := fun _ => fun
  | [d1, d2, d3] => { results := [.lit (.bool true)], args := [d1, d2, d3] }
  | _ => none }
def dialectOwnRow : OpenClaim := { program := "ytgkmbijfbdlhkaa", sum := "6d4dc2b52de47e734062eb4bc08b432249daf76db8f31d52524042583ec7a8ea", func := "groat/groatlaw14.DialectOwn", spec := "dialectOwn", apart := false }
def DialectOwnSaid : Prop := dialectOwnRow.holds Try.pinned (OpenSpec.ofChange dialectOwnSpec)

/-- ITS FALSE NEIGHBOUR: 'it returns false'. Refute it at one input. -/
def dialectOwnWrong : ChangeSpec := { name := "dialectOwn", fn := fun _ => fun
  | [d1, d2, d3] => { results := [.lit (.bool false)], args := [d1, d2, d3] }
  | _ => none }
def DialectOwnWrongFalsely : Prop := dialectOwnRow.holds Try.pinned (OpenSpec.ofChange dialectOwnWrong)

/-- 'groatlaw14.DialectLossless': WHATEVER THE INPUT: true; the input reads as it did. -/
def dialectLosslessSpec : ChangeSpec := { name := "dialectLossless", fn := fun _ => fun
  | [d] => { results := [.lit (.bool true)], args := [d] }
  | _ => none }
def dialectLosslessRow : OpenClaim := { program := "ytgkmbijfbdlhkaa", sum := "6d4dc2b52de47e734062eb4bc08b432249daf76db8f31d52524042583ec7a8ea", func := "groat/groatlaw14.DialectLossless", spec := "dialectLossless", apart := false }
def DialectLosslessSaid : Prop := dialectLosslessRow.holds Try.pinned (OpenSpec.ofChange dialectLosslessSpec)

/-- ITS FALSE NEIGHBOUR: 'it returns false'. Refute it at one input. -/
def dialectLosslessWrong : ChangeSpec := { name := "dialectLossless", fn := fun _ => fun
  | [d] => { results := [.lit (.bool false)], args := [d] }
  | _ => none }
def DialectLosslessWrongFalsely : Prop := dialectLosslessRow.holds Try.pinned (OpenSpec.ofChange dialectLosslessWrong)

/-- 'groatlaw14.DialectRight': WHATEVER THE INPUT: true; the input reads as it did. -/
def dialectRightSpec : ChangeSpec := { name := "dialectRight", fn := fun _ => fun
  | [d1, d2, d3] => { results := [.lit (.bool true)], args := [d1, d2, d3] }
  | _ => none }
def dialectRightRow : OpenClaim := { program := "ytgkmbijfbdlhkaa", sum := "6d4dc2b52de47e734062eb4bc08b432249daf76db8f31d52524042583ec7a8ea", func := "groat/groatlaw14.DialectRight", spec := "dialectRight", apart := false }
def DialectRightSaid : Prop := dialectRightRow.holds Try.pinned (OpenSpec.ofChange dialectRightSpec)

/-- ITS FALSE NEIGHBOUR: 'it returns false'. Refute it at one input. -/
def dialectRightWrong : ChangeSpec := { name := "dialectRight", fn := fun _ => fun
  | [d1, d2, d3] => { results := [.lit (.bool false)], args := [d1, d2, d3] }
  | _ => none }
def DialectRightWrongFalsely : Prop := dialectRightRow.holds Try.pinned (OpenSpec.ofChange dialectRightWrong)

/- THE SECOND FORM. 'bulk': how many values and letters a reading holds, each counted each time it is reached (what is shared counts as often as it is met; a slice's spare places count too). A statement '..UptoSaid' is the law's where the arguments, and the package variables that the reading takes, are together of bulk at most 1048576: NARROWER than '..Said'. Prove '..Said' where nothing that the law and all that it calls make is longer than what came in: it says more and counts as full. Else prove '..UptoSaid'. A law counts once. -/
mutual
def uptoBulk {H : Type} : DataW H → Nat
  | .lit (.string bytes) => bytes.length + 1
  | .lit _ => 1
  | .nil => 1
  | .ptr d => uptoBulk d + 1
  | .slice elems spare => uptoBulkAll elems + uptoBulkAll spare + 1
  | .agg parts => uptoBulkAll parts + 1
  | .iface _ d => uptoBulk d + 1
  | .map entries => uptoBulkEntries entries + 1
  | .held _ => 1
def uptoBulkAll {H : Type} : List (DataW H) → Nat
  | [] => 0
  | d :: r => uptoBulk d + uptoBulkAll r
def uptoBulkEntries {H : Type} : List (Lit × DataW H) → Nat
  | [] => 0
  | x :: r => uptoBulkEntry x + uptoBulkEntries r
def uptoBulkEntry {H : Type} : Lit × DataW H → Nat
  | (.string bytes, d) => bytes.length + uptoBulk d + 1
  | (_, d) => uptoBulk d + 1
 end
def uptoSmall : (H : Type) → List (DataW H) → Bool := fun _ ds => decide (uptoBulkAll ds ≤ 1048576)
def OpenSpec.upto (s : _root_.Go.ChangeSpec) : _root_.Go.OpenSpec := { _root_.Go.OpenSpec.ofChange s with cond := some uptoSmall }

/-- 'groatlaw14.DialectFields', WHERE WHAT IT READS IS OF BULK AT MOST 1048576: true; the input reads as it did. -/
def dialectFieldsUptoRow : OpenClaim := { program := "ytgkmbijfbdlhkaa", sum := "6d4dc2b52de47e734062eb4bc08b432249daf76db8f31d52524042583ec7a8ea", func := "groat/groatlaw14.DialectFields", spec := "dialectFields", apart := false, narrowed := true }
def DialectFieldsUptoSaid : Prop := dialectFieldsUptoRow.holds Try.pinned (OpenSpec.upto dialectFieldsSpec)

/-- 'groatlaw14.DialectOwn', WHERE WHAT IT READS IS OF BULK AT MOST 1048576: true; the input reads as it did. -/
def dialectOwnUptoRow : OpenClaim := { program := "ytgkmbijfbdlhkaa", sum := "6d4dc2b52de47e734062eb4bc08b432249daf76db8f31d52524042583ec7a8ea", func := "groat/groatlaw14.DialectOwn", spec := "dialectOwn", apart := false, narrowed := true }
def DialectOwnUptoSaid : Prop := dialectOwnUptoRow.holds Try.pinned (OpenSpec.upto dialectOwnSpec)

/-- 'groatlaw14.DialectLossless', WHERE WHAT IT READS IS OF BULK AT MOST 1048576: true; the input reads as it did. -/
def dialectLosslessUptoRow : OpenClaim := { program := "ytgkmbijfbdlhkaa", sum := "6d4dc2b52de47e734062eb4bc08b432249daf76db8f31d52524042583ec7a8ea", func := "groat/groatlaw14.DialectLossless", spec := "dialectLossless", apart := false, narrowed := true }
def DialectLosslessUptoSaid : Prop := dialectLosslessUptoRow.holds Try.pinned (OpenSpec.upto dialectLosslessSpec)

/-- 'groatlaw14.DialectRight', WHERE WHAT IT READS IS OF BULK AT MOST 1048576: true; the input reads as it did. -/
def dialectRightUptoRow : OpenClaim := { program := "ytgkmbijfbdlhkaa", sum := "6d4dc2b52de47e734062eb4bc08b432249daf76db8f31d52524042583ec7a8ea", func := "groat/groatlaw14.DialectRight", spec := "dialectRight", apart := false, narrowed := true }
def DialectRightUptoSaid : Prop := dialectRightUptoRow.holds Try.pinned (OpenSpec.upto dialectRightSpec)

end Rows
end Go.Proofs.Ytgkmbijfbdlhkaa
