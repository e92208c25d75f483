/-
  No cell of these rows narrows 'for every input' (looked for: loops, veiled, ifaces, maps, wideKeys, modest, calm, conditions, laid).
  DERIVED. THE GIVEN ROWS OF THIS SEAT. 5 by the template 'for every input the law returns true; each argument reads behind the call as it read before'; 0 by the template 'total and deterministic' (their statements: YtjlgmoneaehejaaTotals.lean).
  GIVEN WITH THE SEED: the statements are not yours to turn. If you find one false, say at which input.
  Laid BY PROGRAM, IN A SANDBOX (cutbox-rows.mjs): the forced cells as the released guide's own fill.sh prints them over the translation bfaf9f1607e4ab3f… (all of the seat's roots in one cut). By AI agents, Wed Nov 11 2026. No macro, syntax, notation, axiom, sorry.
-/
import Derived.Test.YtjlgmoneaehejaaChecked
import GoSem.Claim
import GoSem.ClaimJoined
import GoSem.ClaimMapViews
import Derived.JoinedTies
import Derived.KernelRfl
namespace Go.Proofs.Ytjlgmoneaehejaa
/- THE CELL 'sum', in the pinned program and in every row, IS THE sha256 OF THE DUMP (.gsa) THAT YtjlgmoneaehejaaProg.lean LOADS. Nothing in Lean hashes anything: it is a label: what it is worth is what the hold of that sum in a sandbox is worth. -/
noncomputable def Try.pinned : Pinned := { name := "ytjlgmoneaehejaa", sum := "bfaf9f1607e4ab3f7f875ddaa861714929b3cce472298a0f393e29a2c9a6c167", checked := Try.checked }
namespace Rows
def none {H : Type} : Left H := { results := [], args := [] }

/-- 'groatlaw05.FieldsOf': WHATEVER THE INPUT: true; the input reads as it did. -/
def fieldsOfSpec : ChangeSpec := { name := "fieldsOf", fn := fun _ => fun
  | [d] => { results := [.lit (.bool true)], args := [d] }
  | _ => none }
def fieldsOfRow : OpenClaim := { program := "ytjlgmoneaehejaa", sum := "bfaf9f1607e4ab3f7f875ddaa861714929b3cce472298a0f393e29a2c9a6c167", func := "groat/groatlaw05.FieldsOf", spec := "fieldsOf", plainKeys := false, apart := false }
def FieldsOfSaid : Prop := fieldsOfRow.holds Try.pinned (OpenSpec.ofChange fieldsOfSpec)

/-- ITS FALSE NEIGHBOUR: 'it returns false'. Refute it at one input. -/
def fieldsOfWrong : ChangeSpec := { name := "fieldsOf", fn := fun _ => fun
  | [d] => { results := [.lit (.bool false)], args := [d] }
  | _ => none }
def FieldsOfWrongFalsely : Prop := fieldsOfRow.holds Try.pinned (OpenSpec.ofChange fieldsOfWrong)

/-- 'groatlaw05.FieldsKeys': WHATEVER THE INPUT: true; the input reads as it did. -/
def fieldsKeysSpec : ChangeSpec := { name := "fieldsKeys", fn := fun _ => fun
  | [d1, d2] => { results := [.lit (.bool true)], args := [d1, d2] }
  | _ => none }
def fieldsKeysRow : OpenClaim := { program := "ytjlgmoneaehejaa", sum := "bfaf9f1607e4ab3f7f875ddaa861714929b3cce472298a0f393e29a2c9a6c167", func := "groat/groatlaw05.FieldsKeys", spec := "fieldsKeys", plainKeys := false, apart := false }
def FieldsKeysSaid : Prop := fieldsKeysRow.holds Try.pinned (OpenSpec.ofChange fieldsKeysSpec)

/-- ITS FALSE NEIGHBOUR: 'it returns false'. Refute it at one input. -/
def fieldsKeysWrong : ChangeSpec := { name := "fieldsKeys", fn := fun _ => fun
  | [d1, d2] => { results := [.lit (.bool false)], args := [d1, d2] }
  | _ => none }
def FieldsKeysWrongFalsely : Prop := fieldsKeysRow.holds Try.pinned (OpenSpec.ofChange fieldsKeysWrong)

/-- 'groatlaw05.FieldsBits': WHATEVER THE INPUT: true; the input reads as it did. -/
def fieldsBitsSpec : ChangeSpec := { name := "fieldsBits", fn := fun _ => fun
  | [d1, d2, d3] => { results := [.lit (.bool true)], args := [d1, d2, d3] }
  | _ => none }
def fieldsBitsRow : OpenClaim := { program := "ytjlgmoneaehejaa", sum := "bfaf9f1607e4ab3f7f875ddaa861714929b3cce472298a0f393e29a2c9a6c167", func := "groat/groatlaw05.FieldsBits", spec := "fieldsBits", plainKeys := false, apart := false }
def FieldsBitsSaid : Prop := fieldsBitsRow.holds Try.pinned (OpenSpec.ofChange fieldsBitsSpec)

/-- ITS FALSE NEIGHBOUR: 'it returns false'. Refute it at one input. -/
def fieldsBitsWrong : ChangeSpec := { name := "fieldsBits", fn := fun _ => fun
  | [d1, d2, d3] => { results := [.lit (.bool false)], args := [d1, d2, d3] }
  | _ => none }
def FieldsBitsWrongFalsely : Prop := fieldsBitsRow.holds Try.pinned (OpenSpec.ofChange fieldsBitsWrong)

/-- 'groatlaw05.FieldsOrder': WHATEVER THE INPUT: true; the input reads as it did. -/
def fieldsOrderSpec : ChangeSpec := { name := "fieldsOrder", fn := fun _ => fun
  | [d1, d2, d3] => { results := [.lit (.bool true)], args := [d1, d2, d3] }
  | _ => none }
def fieldsOrderRow : OpenClaim := { program := "ytjlgmoneaehejaa", sum := "bfaf9f1607e4ab3f7f875ddaa861714929b3cce472298a0f393e29a2c9a6c167", func := "groat/groatlaw05.FieldsOrder", spec := "fieldsOrder", plainKeys := false, apart := false }
def FieldsOrderSaid : Prop := fieldsOrderRow.holds Try.pinned (OpenSpec.ofChange fieldsOrderSpec)

/-- ITS FALSE NEIGHBOUR: 'it returns false'. Refute it at one input. -/
def fieldsOrderWrong : ChangeSpec := { name := "fieldsOrder", fn := fun _ => fun
  | [d1, d2, d3] => { results := [.lit (.bool false)], args := [d1, d2, d3] }
  | _ => none }
def FieldsOrderWrongFalsely : Prop := fieldsOrderRow.holds Try.pinned (OpenSpec.ofChange fieldsOrderWrong)

/-- 'groatlaw05.FieldsJoin': WHATEVER THE INPUT: true; the input reads as it did. -/
def fieldsJoinSpec : ChangeSpec := { name := "fieldsJoin", fn := fun _ => fun
  | [d1, d2, d3] => { results := [.lit (.bool true)], args := [d1, d2, d3] }
  | _ => none }
def fieldsJoinRow : OpenClaim := { program := "ytjlgmoneaehejaa", sum := "bfaf9f1607e4ab3f7f875ddaa861714929b3cce472298a0f393e29a2c9a6c167", func := "groat/groatlaw05.FieldsJoin", spec := "fieldsJoin", plainKeys := false, apart := false }
def FieldsJoinSaid : Prop := fieldsJoinRow.holds Try.pinned (OpenSpec.ofChange fieldsJoinSpec)

/-- ITS FALSE NEIGHBOUR: 'it returns false'. Refute it at one input. -/
def fieldsJoinWrong : ChangeSpec := { name := "fieldsJoin", fn := fun _ => fun
  | [d1, d2, d3] => { results := [.lit (.bool false)], args := [d1, d2, d3] }
  | _ => none }
def FieldsJoinWrongFalsely : Prop := fieldsJoinRow.holds Try.pinned (OpenSpec.ofChange fieldsJoinWrong)

/- THE SECOND FORM. 'bulk': how many values and letters a reading holds, each counted each time it is reached (what is shared counts as often as it is met; a slice's spare places count too). A statement '..UptoSaid' is the law's where the arguments, and the package variables that the reading takes, are together of bulk at most 1048576: NARROWER than '..Said'. Prove '..Said' where nothing that the law and all that it calls make is longer than what came in: it says more and counts as full. Else prove '..UptoSaid'. A law counts once. -/
mutual
def uptoBulk {H : Type} : DataW H → Nat
  | .lit (.string bytes) => bytes.length + 1
  | .lit _ => 1
  | .nil => 1
  | .ptr d => uptoBulk d + 1
  | .slice elems spare => uptoBulkAll elems + uptoBulkAll spare + 1
  | .agg parts => uptoBulkAll parts + 1
  | .iface _ d => uptoBulk d + 1
  | .map entries => uptoBulkEntries entries + 1
  | .held _ => 1
def uptoBulkAll {H : Type} : List (DataW H) → Nat
  | [] => 0
  | d :: r => uptoBulk d + uptoBulkAll r
def uptoBulkEntries {H : Type} : List (Lit × DataW H) → Nat
  | [] => 0
  | x :: r => uptoBulkEntry x + uptoBulkEntries r
def uptoBulkEntry {H : Type} : Lit × DataW H → Nat
  | (.string bytes, d) => bytes.length + uptoBulk d + 1
  | (_, d) => uptoBulk d + 1
 end
def uptoSmall : (H : Type) → List (DataW H) → Bool := fun _ ds => decide (uptoBulkAll ds ≤ 1048576)
def OpenSpec.upto (s : _root_.Go.ChangeSpec) : _root_.Go.OpenSpec := { _root_.Go.OpenSpec.ofChange s with cond := some uptoSmall }

/-- 'groatlaw05.FieldsOf', WHERE WHAT IT READS IS OF BULK AT MOST 1048576: true; the input reads as it did. -/
def fieldsOfUptoRow : OpenClaim := { program := "ytjlgmoneaehejaa", sum := "bfaf9f1607e4ab3f7f875ddaa861714929b3cce472298a0f393e29a2c9a6c167", func := "groat/groatlaw05.FieldsOf", spec := "fieldsOf", plainKeys := false, apart := false, narrowed := true }
def FieldsOfUptoSaid : Prop := fieldsOfUptoRow.holds Try.pinned (OpenSpec.upto fieldsOfSpec)

/-- 'groatlaw05.FieldsKeys', WHERE WHAT IT READS IS OF BULK AT MOST 1048576: true; the input reads as it did. -/
def fieldsKeysUptoRow : OpenClaim := { program := "ytjlgmoneaehejaa", sum := "bfaf9f1607e4ab3f7f875ddaa861714929b3cce472298a0f393e29a2c9a6c167", func := "groat/groatlaw05.FieldsKeys", spec := "fieldsKeys", plainKeys := false, apart := false, narrowed := true }
def FieldsKeysUptoSaid : Prop := fieldsKeysUptoRow.holds Try.pinned (OpenSpec.upto fieldsKeysSpec)

/-- 'groatlaw05.FieldsBits', WHERE WHAT IT READS IS OF BULK AT MOST 1048576: true; the input reads as it did. -/
def fieldsBitsUptoRow : OpenClaim := { program := "ytjlgmoneaehejaa", sum := "bfaf9f1607e4ab3f7f875ddaa861714929b3cce472298a0f393e29a2c9a6c167", func := "groat/groatlaw05.FieldsBits", spec := "fieldsBits", plainKeys := false, apart := false, narrowed := true }
def FieldsBitsUptoSaid : Prop := fieldsBitsUptoRow.holds Try.pinned (OpenSpec.upto fieldsBitsSpec)

/-- 'groatlaw05.FieldsOrder', WHERE WHAT IT READS IS OF BULK AT MOST 1048576: true; the input reads as it did. -/
def fieldsOrderUptoRow : OpenClaim := { program := "ytjlgmoneaehejaa", sum := "bfaf9f1607e4ab3f7f875ddaa861714929b3cce472298a0f393e29a2c9a6c167", func := "groat/groatlaw05.FieldsOrder", spec := "fieldsOrder", plainKeys := false, apart := false, narrowed := true }
def FieldsOrderUptoSaid : Prop := fieldsOrderUptoRow.holds Try.pinned (OpenSpec.upto fieldsOrderSpec)

/-- 'groatlaw05.FieldsJoin', WHERE WHAT IT READS IS OF BULK AT MOST 1048576: true; the input reads as it did. -/
def fieldsJoinUptoRow : OpenClaim := { program := "ytjlgmoneaehejaa", sum := "bfaf9f1607e4ab3f7f875ddaa861714929b3cce472298a0f393e29a2c9a6c167", func := "groat/groatlaw05.FieldsJoin", spec := "fieldsJoin", plainKeys := false, apart := false, narrowed := true }
def FieldsJoinUptoSaid : Prop := fieldsJoinUptoRow.holds Try.pinned (OpenSpec.upto fieldsJoinSpec)

end Rows
end Go.Proofs.Ytjlgmoneaehejaa
