/-
  No cell of these rows narrows 'for every input' (looked for: loops, veiled, ifaces, maps, wideKeys, modest, calm, conditions, laid).
  DERIVED. THE GIVEN ROWS OF THIS SEAT. 5 by the template 'for every input the law returns true; each argument reads behind the call as it read before'; 0 by the template 'total and deterministic' (their statements: YtppogabndbpmbaaTotals.lean).
  GIVEN WITH THE SEED: the statements are not yours to turn. If you find one false, say at which input.
  Laid BY PROGRAM, IN A SANDBOX (cutbox-rows.mjs): the forced cells as the released guide's own fill.sh prints them over the translation 85e4ac3370cc7d14… (all of the seat's roots in one cut). By AI agents, Wed Nov 11 2026. No macro, syntax, notation, axiom, sorry.
-/
import Derived.Test.YtppogabndbpmbaaChecked
import GoSem.Claim
import GoSem.ClaimJoined
import GoSem.ClaimMapViews
import Derived.JoinedTies
import Derived.KernelRfl
namespace Go.Proofs.Ytppogabndbpmbaa
/- THE CELL 'sum', in the pinned program and in every row, IS THE sha256 OF THE DUMP (.gsa) THAT YtppogabndbpmbaaProg.lean LOADS. Nothing in Lean hashes anything: it is a label: what it is worth is what the hold of that sum in a sandbox is worth. -/
noncomputable def Try.pinned : Pinned := { name := "ytppogabndbpmbaa", sum := "85e4ac3370cc7d1496f2b304bcf050ad1b6357b59761fea4a286169a7a503d72", checked := Try.checked }
namespace Rows
def none {H : Type} : Left H := { results := [], args := [] }

/-- 'groatlaw13.SchemaChecks': WHATEVER THE INPUT: true; the input reads as it did. -/
def schemaChecksSpec : ChangeSpec := { name := "schemaChecks", fn := fun _ => fun
  | [d] => { results := [.lit (.bool true)], args := [d] }
  | _ => none }
def schemaChecksRow : OpenClaim := { program := "ytppogabndbpmbaa", sum := "85e4ac3370cc7d1496f2b304bcf050ad1b6357b59761fea4a286169a7a503d72", func := "groat/groatlaw13.SchemaChecks", spec := "schemaChecks", apart := false }
def SchemaChecksSaid : Prop := schemaChecksRow.holds Try.pinned (OpenSpec.ofChange schemaChecksSpec)

/-- ITS FALSE NEIGHBOUR: 'it returns false'. Refute it at one input. -/
def schemaChecksWrong : ChangeSpec := { name := "schemaChecks", fn := fun _ => fun
  | [d] => { results := [.lit (.bool false)], args := [d] }
  | _ => none }
def SchemaChecksWrongFalsely : Prop := schemaChecksRow.holds Try.pinned (OpenSpec.ofChange schemaChecksWrong)

/-- 'groatlaw13.SchemaSame': WHATEVER THE INPUT: true; the input reads as it did. -/
def schemaSameSpec : ChangeSpec := { name := "schemaSame", fn := fun _ => fun
  | [d1, d2] => { results := [.lit (.bool true)], args := [d1, d2] }
  | _ => none }
def schemaSameRow : OpenClaim := { program := "ytppogabndbpmbaa", sum := "85e4ac3370cc7d1496f2b304bcf050ad1b6357b59761fea4a286169a7a503d72", func := "groat/groatlaw13.SchemaSame", spec := "schemaSame", apart := false }
def SchemaSameSaid : Prop := schemaSameRow.holds Try.pinned (OpenSpec.ofChange schemaSameSpec)

/-- ITS FALSE NEIGHBOUR: 'it returns false'. Refute it at one input. -/
def schemaSameWrong : ChangeSpec := { name := "schemaSame", fn := fun _ => fun
  | [d1, d2] => { results := [.lit (.bool false)], args := [d1, d2] }
  | _ => none }
def SchemaSameWrongFalsely : Prop := schemaSameRow.holds Try.pinned (OpenSpec.ofChange schemaSameWrong)

/-- 'groatlaw13.SchemaFinds': WHATEVER THE INPUT: true; the input reads as it did. -/
def schemaFindsSpec : ChangeSpec := { name := "schemaFinds", fn := fun _ => fun
  | [d1, d2] => { results := [.lit (.bool true)], args := [d1, d2] }
  | _ => none }
def schemaFindsRow : OpenClaim := { program := "ytppogabndbpmbaa", sum := "85e4ac3370cc7d1496f2b304bcf050ad1b6357b59761fea4a286169a7a503d72", func := "groat/groatlaw13.SchemaFinds", spec := "schemaFinds", apart := false }
def SchemaFindsSaid : Prop := schemaFindsRow.holds Try.pinned (OpenSpec.ofChange schemaFindsSpec)

/-- ITS FALSE NEIGHBOUR: 'it returns false'. Refute it at one input. -/
def schemaFindsWrong : ChangeSpec := { name := "schemaFinds", fn := fun _ => fun
  | [d1, d2] => { results := [.lit (.bool false)], args := [d1, d2] }
  | _ => none }
def SchemaFindsWrongFalsely : Prop := schemaFindsRow.holds Try.pinned (OpenSpec.ofChange schemaFindsWrong)

/-- 'groatlaw13.SchemaRestricts': WHATEVER THE INPUT: true; the input reads as it did. -/
def schemaRestrictsSpec : ChangeSpec := { name := "schemaRestricts", fn := fun _ => fun
  | [d1, d2, d3] => { results := [.lit (.bool true)], args := [d1, d2, d3] }
  | _ => none }
def schemaRestrictsRow : OpenClaim := { program := "ytppogabndbpmbaa", sum := "85e4ac3370cc7d1496f2b304bcf050ad1b6357b59761fea4a286169a7a503d72", func := "groat/groatlaw13.SchemaRestricts", spec := "schemaRestricts", apart := false }
def SchemaRestrictsSaid : Prop := schemaRestrictsRow.holds Try.pinned (OpenSpec.ofChange schemaRestrictsSpec)

/-- ITS FALSE NEIGHBOUR: 'it returns false'. Refute it at one input. -/
def schemaRestrictsWrong : ChangeSpec := { name := "schemaRestricts", fn := fun _ => fun
  | [d1, d2, d3] => { results := [.lit (.bool false)], args := [d1, d2, d3] }
  | _ => none }
def SchemaRestrictsWrongFalsely : Prop := schemaRestrictsRow.holds Try.pinned (OpenSpec.ofChange schemaRestrictsWrong)

/-- 'groatlaw13.SchemaOrder': WHATEVER THE INPUT: true; the input reads as it did. -/
def schemaOrderSpec : ChangeSpec := { name := "schemaOrder", fn := fun _ => fun
  | [d] => { results := [.lit (.bool true)], args := [d] }
  | _ => none }
def schemaOrderRow : OpenClaim := { program := "ytppogabndbpmbaa", sum := "85e4ac3370cc7d1496f2b304bcf050ad1b6357b59761fea4a286169a7a503d72", func := "groat/groatlaw13.SchemaOrder", spec := "schemaOrder", apart := false }
def SchemaOrderSaid : Prop := schemaOrderRow.holds Try.pinned (OpenSpec.ofChange schemaOrderSpec)

/-- ITS FALSE NEIGHBOUR: 'it returns false'. Refute it at one input. -/
def schemaOrderWrong : ChangeSpec := { name := "schemaOrder", fn := fun _ => fun
  | [d] => { results := [.lit (.bool false)], args := [d] }
  | _ => none }
def SchemaOrderWrongFalsely : Prop := schemaOrderRow.holds Try.pinned (OpenSpec.ofChange schemaOrderWrong)

/- THE SECOND FORM. 'bulk': how many values and letters a reading holds, each counted each time it is reached (what is shared counts as often as it is met; a slice's spare places count too). A statement '..UptoSaid' is the law's where the arguments, and the package variables that the reading takes, are together of bulk at most 1048576: NARROWER than '..Said'. Prove '..Said' where nothing that the law and all that it calls make is longer than what came in: it says more and counts as full. Else prove '..UptoSaid'. A law counts once. -/
mutual
def uptoBulk {H : Type} : DataW H → Nat
  | .lit (.string bytes) => bytes.length + 1
  | .lit _ => 1
  | .nil => 1
  | .ptr d => uptoBulk d + 1
  | .slice elems spare => uptoBulkAll elems + uptoBulkAll spare + 1
  | .agg parts => uptoBulkAll parts + 1
  | .iface _ d => uptoBulk d + 1
  | .map entries => uptoBulkEntries entries + 1
  | .held _ => 1
def uptoBulkAll {H : Type} : List (DataW H) → Nat
  | [] => 0
  | d :: r => uptoBulk d + uptoBulkAll r
def uptoBulkEntries {H : Type} : List (Lit × DataW H) → Nat
  | [] => 0
  | x :: r => uptoBulkEntry x + uptoBulkEntries r
def uptoBulkEntry {H : Type} : Lit × DataW H → Nat
  | (.string bytes, d) => bytes.length + uptoBulk d + 1
  | (_, d) => uptoBulk d + 1
 end
def uptoSmall : (H : Type) → List (DataW H) → Bool := fun _ ds => decide (uptoBulkAll ds ≤ 1048576)
def OpenSpec.upto (s : _root_.Go.ChangeSpec) : _root_.Go.OpenSpec := { _root_.Go.OpenSpec.ofChange s with cond := some uptoSmall }

/-- 'groatlaw13.SchemaChecks', WHERE WHAT IT READS IS OF BULK AT MOST 1048576: true; the input reads as it did. -/
def schemaChecksUptoRow : OpenClaim := { program := "ytppogabndbpmbaa", sum := "85e4ac3370cc7d1496f2b304bcf050ad1b6357b59761fea4a286169a7a503d72", func := "groat/groatlaw13.SchemaChecks", spec := "schemaChecks", apart := false, narrowed := true }
def SchemaChecksUptoSaid : Prop := schemaChecksUptoRow.holds Try.pinned (OpenSpec.upto schemaChecksSpec)

/-- 'groatlaw13.SchemaSame', WHERE WHAT IT READS IS OF BULK AT MOST 1048576: true; the input reads as it did. -/
def schemaSameUptoRow : OpenClaim := { program := "ytppogabndbpmbaa", sum := "85e4ac3370cc7d1496f2b304bcf050ad1b6357b59761fea4a286169a7a503d72", func := "groat/groatlaw13.SchemaSame", spec := "schemaSame", apart := false, narrowed := true }
def SchemaSameUptoSaid : Prop := schemaSameUptoRow.holds Try.pinned (OpenSpec.upto schemaSameSpec)

/-- 'groatlaw13.SchemaFinds', WHERE WHAT IT READS IS OF BULK AT MOST 1048576: true; the input reads as it did. -/
def schemaFindsUptoRow : OpenClaim := { program := "ytppogabndbpmbaa", sum := "85e4ac3370cc7d1496f2b304bcf050ad1b6357b59761fea4a286169a7a503d72", func := "groat/groatlaw13.SchemaFinds", spec := "schemaFinds", apart := false, narrowed := true }
def SchemaFindsUptoSaid : Prop := schemaFindsUptoRow.holds Try.pinned (OpenSpec.upto schemaFindsSpec)

/-- 'groatlaw13.SchemaRestricts', WHERE WHAT IT READS IS OF BULK AT MOST 1048576: true; the input reads as it did. -/
def schemaRestrictsUptoRow : OpenClaim := { program := "ytppogabndbpmbaa", sum := "85e4ac3370cc7d1496f2b304bcf050ad1b6357b59761fea4a286169a7a503d72", func := "groat/groatlaw13.SchemaRestricts", spec := "schemaRestricts", apart := false, narrowed := true }
def SchemaRestrictsUptoSaid : Prop := schemaRestrictsUptoRow.holds Try.pinned (OpenSpec.upto schemaRestrictsSpec)

/-- 'groatlaw13.SchemaOrder', WHERE WHAT IT READS IS OF BULK AT MOST 1048576: true; the input reads as it did. -/
def schemaOrderUptoRow : OpenClaim := { program := "ytppogabndbpmbaa", sum := "85e4ac3370cc7d1496f2b304bcf050ad1b6357b59761fea4a286169a7a503d72", func := "groat/groatlaw13.SchemaOrder", spec := "schemaOrder", apart := false, narrowed := true }
def SchemaOrderUptoSaid : Prop := schemaOrderUptoRow.holds Try.pinned (OpenSpec.upto schemaOrderSpec)

end Rows
end Go.Proofs.Ytppogabndbpmbaa
