/-
  DERIVED. GIVEN WITH THE SEED: THE CARDS: each row of YthdphoohfdiodaaGreatDoorRows.lean that lists a variable, with what it lists TIED to the program's text (the seventh form; the later family's looks); each row that meets fmt, with fmt's text TOLD by the authors' own Lean function (tested against real Go, not proved from fmt's source: count such statements apart). THE CARD IS WHAT COUNTS. Prove the row's statement (the work); the ties are given (YthdphoohfdiodaaGreatDoorTie.lean); close each card by the builder's one call (the guide's Derived/Test/ToyasCard.lean, 'card_holds'). Laid BY PROGRAM, IN A SANDBOX (cutbox-door.mjs). By AI agents, Wed Nov 11 2026. No macro, syntax, notation, axiom, sorry.
-/
import Derived.Test.YthdphoohfdiodaaGreatDoorRows
import GoSem.ClaimSeven
namespace Go.Proofs.YthdphoohfdiodaaGreatDoor
namespace Rows

/-- THE TIED CARD OF 'groatlaw22.InvertMakes'. -/
def invertMakesCard : Claim7 := { stood := { row := invertMakesRow, standIns := [], harness := (true, "cc75f3a8dedfd6c1871c7ebf1c5135648cd2efa59d8e4e1e39d0c3cf953821c0"), looks := false }, kinds := [], alts := [], laidByText := true, laidKinds := [.data, .pinned], laidTests := true, laidLooks := .later }
def InvertMakesCardSaid : Prop := Claim7.holds Tryz.pinned (.plain (OpenSpec.ofChange invertMakesSpec)) invertMakesCard

/-- THE TIED CARD OF 'groatlaw22.InvertSchemas'. -/
def invertSchemasCard : Claim7 := { stood := { row := invertSchemasRow, standIns := [], harness := (true, "cc75f3a8dedfd6c1871c7ebf1c5135648cd2efa59d8e4e1e39d0c3cf953821c0"), looks := false }, kinds := [], alts := [], laidByText := true, laidKinds := [.data, .pinned], laidTests := true, laidLooks := .later }
def InvertSchemasCardSaid : Prop := Claim7.holds Tryz.pinned (.plain (OpenSpec.ofChange invertSchemasSpec)) invertSchemasCard

/-- THE SECOND FORM's CARD OF 'groatlaw22.InvertMakes'. -/
def invertMakesUptoCard : Claim7 := { stood := { row := invertMakesUptoRow, standIns := [], harness := (true, "cc75f3a8dedfd6c1871c7ebf1c5135648cd2efa59d8e4e1e39d0c3cf953821c0"), looks := false }, kinds := [], alts := [], laidByText := true, laidKinds := [.data, .pinned], laidTests := true, laidLooks := .later }
def InvertMakesUptoCardSaid : Prop := Claim7.holds Tryz.pinned (.plain (OpenSpec.upto invertMakesSpec)) invertMakesUptoCard

/-- THE SECOND FORM's CARD OF 'groatlaw22.InvertSchemas'. -/
def invertSchemasUptoCard : Claim7 := { stood := { row := invertSchemasUptoRow, standIns := [], harness := (true, "cc75f3a8dedfd6c1871c7ebf1c5135648cd2efa59d8e4e1e39d0c3cf953821c0"), looks := false }, kinds := [], alts := [], laidByText := true, laidKinds := [.data, .pinned], laidTests := true, laidLooks := .later }
def InvertSchemasUptoCardSaid : Prop := Claim7.holds Tryz.pinned (.plain (OpenSpec.upto invertSchemasSpec)) invertSchemasUptoCard
end Rows
end Go.Proofs.YthdphoohfdiodaaGreatDoor
