/-
  DERIVED. GIVEN WITH THE SEED: THE CARDS: each row of YtmbobepkfagkgaaGreatDoorRows.lean that lists a variable, with what it lists TIED to the program's text (the seventh form; the later family's looks); each row that meets fmt, with fmt's text TOLD by the authors' own Lean function (tested against real Go, not proved from fmt's source: count such statements apart). THE CARD IS WHAT COUNTS. Prove the row's statement (the work); the ties are given (YtmbobepkfagkgaaGreatDoorTie.lean); close each card by the builder's one call (the guide's Derived/Test/ToyasCard.lean, 'card_holds'). Laid BY PROGRAM, IN A SANDBOX (cutbox-door.mjs). By AI agents, Wed Nov 11 2026. No macro, syntax, notation, axiom, sorry.
-/
import Derived.Test.YtmbobepkfagkgaaGreatDoorRows
import GoSem.ClaimSeven
namespace Go.Proofs.YtmbobepkfagkgaaGreatDoor
namespace Rows

/-- THE TIED CARD OF 'groatlaw21.XlateChecks'. -/
def xlateChecksCard : Claim7 := { stood := { row := xlateChecksRow, standIns := [], harness := (true, "8554c8017f9aa681460f258aca80229edcd1a2c0d32a241a42224a2cb7201397"), looks := false }, kinds := [], alts := [], laidByText := true, laidKinds := [.data, .pinned], laidTests := true, laidLooks := .later }
def XlateChecksCardSaid : Prop := Claim7.holds Tryz.pinned (.plain (OpenSpec.ofChange xlateChecksSpec)) xlateChecksCard

/-- THE TIED CARD OF 'groatlaw21.XlateTranslates'. -/
def xlateTranslatesCard : Claim7 := { stood := { row := xlateTranslatesRow, standIns := [], harness := (true, "8554c8017f9aa681460f258aca80229edcd1a2c0d32a241a42224a2cb7201397"), looks := false }, kinds := [], alts := [], laidByText := true, laidKinds := [.data, .pinned], laidTests := true, laidLooks := .later }
def XlateTranslatesCardSaid : Prop := Claim7.holds Tryz.pinned (.plain (OpenSpec.ofChange xlateTranslatesSpec)) xlateTranslatesCard

/-- THE TIED CARD OF 'groatlaw21.XlateAll'. -/
def xlateAllCard : Claim7 := { stood := { row := xlateAllRow, standIns := [], harness := (true, "8554c8017f9aa681460f258aca80229edcd1a2c0d32a241a42224a2cb7201397"), looks := false }, kinds := [], alts := [], laidByText := true, laidKinds := [.data, .pinned], laidTests := true, laidLooks := .later }
def XlateAllCardSaid : Prop := Claim7.holds Tryz.pinned (.plain (OpenSpec.ofChange xlateAllSpec)) xlateAllCard

/-- THE SECOND FORM's CARD OF 'groatlaw21.XlateChecks'. -/
def xlateChecksUptoCard : Claim7 := { stood := { row := xlateChecksUptoRow, standIns := [], harness := (true, "8554c8017f9aa681460f258aca80229edcd1a2c0d32a241a42224a2cb7201397"), looks := false }, kinds := [], alts := [], laidByText := true, laidKinds := [.data, .pinned], laidTests := true, laidLooks := .later }
def XlateChecksUptoCardSaid : Prop := Claim7.holds Tryz.pinned (.plain (OpenSpec.upto xlateChecksSpec)) xlateChecksUptoCard

/-- THE SECOND FORM's CARD OF 'groatlaw21.XlateTranslates'. -/
def xlateTranslatesUptoCard : Claim7 := { stood := { row := xlateTranslatesUptoRow, standIns := [], harness := (true, "8554c8017f9aa681460f258aca80229edcd1a2c0d32a241a42224a2cb7201397"), looks := false }, kinds := [], alts := [], laidByText := true, laidKinds := [.data, .pinned], laidTests := true, laidLooks := .later }
def XlateTranslatesUptoCardSaid : Prop := Claim7.holds Tryz.pinned (.plain (OpenSpec.upto xlateTranslatesSpec)) xlateTranslatesUptoCard

/-- THE SECOND FORM's CARD OF 'groatlaw21.XlateAll'. -/
def xlateAllUptoCard : Claim7 := { stood := { row := xlateAllUptoRow, standIns := [], harness := (true, "8554c8017f9aa681460f258aca80229edcd1a2c0d32a241a42224a2cb7201397"), looks := false }, kinds := [], alts := [], laidByText := true, laidKinds := [.data, .pinned], laidTests := true, laidLooks := .later }
def XlateAllUptoCardSaid : Prop := Claim7.holds Tryz.pinned (.plain (OpenSpec.upto xlateAllSpec)) xlateAllUptoCard
end Rows
end Go.Proofs.YtmbobepkfagkgaaGreatDoor
