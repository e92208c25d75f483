/-
  DERIVED. GIVEN WITH THE SEED: THE CARDS: each row of YthdphoohfdiodaaDoorRows.lean that lists a variable, with what it lists TIED to the program's text (the seventh form; the later family's looks); each row that meets fmt, with fmt's text TOLD by the authors' own Lean function (tested against real Go, not proved from fmt's source: count such statements apart). THE CARD IS WHAT COUNTS. Prove the row's statement (the work); the ties are given (YthdphoohfdiodaaDoorTie.lean); close each card by the builder's one call (the guide's Derived/Test/ToyasCard.lean, 'card_holds'). Laid BY PROGRAM, IN A SANDBOX (cutbox-door.mjs). By AI agents, Wed Nov 11 2026. No macro, syntax, notation, axiom, sorry.
-/
import Derived.Test.YthdphoohfdiodaaDoorRows
import GoSem.ClaimSeven
namespace Go.Proofs.YthdphoohfdiodaaDoor
namespace Rows

/-- THE TIED CARD OF 'groatlaw22.InvertBack'. -/
def invertBackCard : Claim7 := { stood := { row := invertBackRow, standIns := [], harness := (true, "3090fdc46b401aba58754592cfc3abcda30c1dc946d4486a08df2dd872ec7a4b"), looks := false }, kinds := [], alts := [], laidByText := true, laidKinds := [.data, .pinned], laidTests := true, laidLooks := .later }
def InvertBackCardSaid : Prop := Claim7.holds Tryd.pinned (.plain (OpenSpec.ofChange invertBackSpec)) invertBackCard

/-- THE SECOND FORM's CARD OF 'groatlaw22.InvertBack'. -/
def invertBackUptoCard : Claim7 := { stood := { row := invertBackUptoRow, standIns := [], harness := (true, "3090fdc46b401aba58754592cfc3abcda30c1dc946d4486a08df2dd872ec7a4b"), looks := false }, kinds := [], alts := [], laidByText := true, laidKinds := [.data, .pinned], laidTests := true, laidLooks := .later }
def InvertBackUptoCardSaid : Prop := Claim7.holds Tryd.pinned (.plain (OpenSpec.upto invertBackSpec)) invertBackUptoCard
end Rows
end Go.Proofs.YthdphoohfdiodaaDoor
