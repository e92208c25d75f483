/-
  DERIVED. GIVEN WITH THE SEED: THE CARDS: each row of YtmbobepkfagkgaaDoorRows.lean that lists a variable, with what it lists TIED to the program's text (the seventh form; the later family's looks); each row that meets fmt, with fmt's text TOLD by the authors' own Lean function (tested against real Go, not proved from fmt's source: count such statements apart). THE CARD IS WHAT COUNTS. Prove the row's statement (the work); the ties are given (YtmbobepkfagkgaaDoorTie.lean); close each card by the builder's one call (the guide's Derived/Test/ToyasCard.lean, 'card_holds'). Laid BY PROGRAM, IN A SANDBOX (cutbox-door.mjs). By AI agents, Wed Nov 11 2026. No macro, syntax, notation, axiom, sorry.
-/
import Derived.Test.YtmbobepkfagkgaaDoorRows
import GoSem.ClaimSeven
namespace Go.Proofs.YtmbobepkfagkgaaDoor
namespace Rows

/-- THE TIED CARD OF 'groatlaw21.XlateValid'. -/
def xlateValidCard : Claim7 := { stood := { row := xlateValidRow, standIns := [], harness := (true, "0df392862397e85b523fb26f40fdc846948d3fe46adfb339b0503acc2a4025f8"), looks := false }, kinds := [], alts := [], laidByText := true, laidKinds := [.data, .pinned], laidTests := true, laidLooks := .later }
def XlateValidCardSaid : Prop := Claim7.holds Tryd.pinned (.plain (OpenSpec.ofChange xlateValidSpec)) xlateValidCard

/-- THE TIED CARD OF 'groatlaw21.XlateParts'. -/
def xlatePartsCard : Claim7 := { stood := { row := xlatePartsRow, standIns := [], harness := (true, "0df392862397e85b523fb26f40fdc846948d3fe46adfb339b0503acc2a4025f8"), looks := false }, kinds := [], alts := [], laidByText := true, laidKinds := [.data, .pinned], laidTests := true, laidLooks := .later }
def XlatePartsCardSaid : Prop := Claim7.holds Tryd.pinned (.plain (OpenSpec.ofChange xlatePartsSpec)) xlatePartsCard

/-- THE SECOND FORM's CARD OF 'groatlaw21.XlateValid'. -/
def xlateValidUptoCard : Claim7 := { stood := { row := xlateValidUptoRow, standIns := [], harness := (true, "0df392862397e85b523fb26f40fdc846948d3fe46adfb339b0503acc2a4025f8"), looks := false }, kinds := [], alts := [], laidByText := true, laidKinds := [.data, .pinned], laidTests := true, laidLooks := .later }
def XlateValidUptoCardSaid : Prop := Claim7.holds Tryd.pinned (.plain (OpenSpec.upto xlateValidSpec)) xlateValidUptoCard

/-- THE SECOND FORM's CARD OF 'groatlaw21.XlateParts'. -/
def xlatePartsUptoCard : Claim7 := { stood := { row := xlatePartsUptoRow, standIns := [], harness := (true, "0df392862397e85b523fb26f40fdc846948d3fe46adfb339b0503acc2a4025f8"), looks := false }, kinds := [], alts := [], laidByText := true, laidKinds := [.data, .pinned], laidTests := true, laidLooks := .later }
def XlatePartsUptoCardSaid : Prop := Claim7.holds Tryd.pinned (.plain (OpenSpec.upto xlatePartsSpec)) xlatePartsUptoCard
end Rows
end Go.Proofs.YtmbobepkfagkgaaDoor
