/-
  DERIVED. GIVEN WITH THE SEED: THE CARDS: each row of YtodeabafemckjaaGreatDoorRows.lean that lists a variable, with what it lists TIED to the program's text (the seventh form; the later family's looks); each row that meets fmt, with fmt's text TOLD by the authors' own Lean function (tested against real Go, not proved from fmt's source: count such statements apart). THE CARD IS WHAT COUNTS. Prove the row's statement (the work); the ties are given (YtodeabafemckjaaGreatDoorTie.lean); close each card by the builder's one call (the guide's Derived/Test/ToyasCard.lean, 'card_holds'). Laid BY PROGRAM, IN A SANDBOX (cutbox-door.mjs). By AI agents, Wed Nov 11 2026. No macro, syntax, notation, axiom, sorry.
-/
import Derived.Test.YtodeabafemckjaaGreatDoorRows
import GoSem.ClaimSeven
namespace Go.Proofs.YtodeabafemckjaaGreatDoor
namespace Rows

/-- THE TIED CARD OF 'groattop.TopOnce'. -/
def topOnceCard : Claim7 := { stood := { row := topOnceRow, standIns := [], harness := (true, "676a347d96fc31b7081da42d4fd6042afcfb6d5450741928d6c2dc0f467506bb"), looks := false }, kinds := [], alts := [], laidByText := true, laidKinds := [.data, .pinned], laidTests := true, laidLooks := .later }
def TopOnceCardSaid : Prop := Claim7.holds Tryz.pinned (.plain (OpenSpec.ofChange topOnceSpec)) topOnceCard

/-- THE TIED CARD OF 'groattop.TopDeath'. -/
def topDeathCard : Claim7 := { stood := { row := topDeathRow, standIns := [], harness := (true, "676a347d96fc31b7081da42d4fd6042afcfb6d5450741928d6c2dc0f467506bb"), looks := false }, kinds := [], alts := [], laidByText := true, laidKinds := [.data, .pinned], laidTests := true, laidLooks := .later }
def TopDeathCardSaid : Prop := Claim7.holds Tryz.pinned (.plain (OpenSpec.ofChange topDeathSpec)) topDeathCard

/-- THE TIED CARD OF 'groattop.TopChain'. -/
def topChainCard : Claim7 := { stood := { row := topChainRow, standIns := [], harness := (true, "676a347d96fc31b7081da42d4fd6042afcfb6d5450741928d6c2dc0f467506bb"), looks := false }, kinds := [], alts := [], laidByText := true, laidKinds := [.data, .pinned], laidTests := true, laidLooks := .later }
def TopChainCardSaid : Prop := Claim7.holds Tryz.pinned (.plain (OpenSpec.ofChange topChainSpec)) topChainCard

/-- THE TIED CARD OF 'groattop.TopModel'. -/
def topModelCard : Claim7 := { stood := { row := topModelRow, standIns := [], harness := (true, "676a347d96fc31b7081da42d4fd6042afcfb6d5450741928d6c2dc0f467506bb"), looks := false }, kinds := [], alts := [], laidByText := true, laidKinds := [.data, .data, .data, .data, .pinned], laidTests := true, laidLooks := .later }
def TopModelCardSaid : Prop := Claim7.holds Tryz.pinned (.plain (OpenSpec.ofChange topModelSpec)) topModelCard

/-- THE TIED CARD OF 'groattop.TopFragments'. -/
def topFragmentsCard : Claim7 := { stood := { row := topFragmentsRow, standIns := [], harness := (true, "676a347d96fc31b7081da42d4fd6042afcfb6d5450741928d6c2dc0f467506bb"), looks := false }, kinds := [], alts := [], laidByText := true, laidKinds := [.data, .data, .data, .data, .pinned], laidTests := true, laidLooks := .later }
def TopFragmentsCardSaid : Prop := Claim7.holds Tryz.pinned (.plain (OpenSpec.ofChange topFragmentsSpec)) topFragmentsCard

/-- THE SECOND FORM's CARD OF 'groattop.TopOnce'. -/
def topOnceUptoCard : Claim7 := { stood := { row := topOnceUptoRow, standIns := [], harness := (true, "676a347d96fc31b7081da42d4fd6042afcfb6d5450741928d6c2dc0f467506bb"), looks := false }, kinds := [], alts := [], laidByText := true, laidKinds := [.data, .pinned], laidTests := true, laidLooks := .later }
def TopOnceUptoCardSaid : Prop := Claim7.holds Tryz.pinned (.plain (OpenSpec.upto topOnceSpec)) topOnceUptoCard

/-- THE SECOND FORM's CARD OF 'groattop.TopDeath'. -/
def topDeathUptoCard : Claim7 := { stood := { row := topDeathUptoRow, standIns := [], harness := (true, "676a347d96fc31b7081da42d4fd6042afcfb6d5450741928d6c2dc0f467506bb"), looks := false }, kinds := [], alts := [], laidByText := true, laidKinds := [.data, .pinned], laidTests := true, laidLooks := .later }
def TopDeathUptoCardSaid : Prop := Claim7.holds Tryz.pinned (.plain (OpenSpec.upto topDeathSpec)) topDeathUptoCard

/-- THE SECOND FORM's CARD OF 'groattop.TopChain'. -/
def topChainUptoCard : Claim7 := { stood := { row := topChainUptoRow, standIns := [], harness := (true, "676a347d96fc31b7081da42d4fd6042afcfb6d5450741928d6c2dc0f467506bb"), looks := false }, kinds := [], alts := [], laidByText := true, laidKinds := [.data, .pinned], laidTests := true, laidLooks := .later }
def TopChainUptoCardSaid : Prop := Claim7.holds Tryz.pinned (.plain (OpenSpec.upto topChainSpec)) topChainUptoCard

/-- THE SECOND FORM's CARD OF 'groattop.TopModel'. -/
def topModelUptoCard : Claim7 := { stood := { row := topModelUptoRow, standIns := [], harness := (true, "676a347d96fc31b7081da42d4fd6042afcfb6d5450741928d6c2dc0f467506bb"), looks := false }, kinds := [], alts := [], laidByText := true, laidKinds := [.data, .data, .data, .data, .pinned], laidTests := true, laidLooks := .later }
def TopModelUptoCardSaid : Prop := Claim7.holds Tryz.pinned (.plain (OpenSpec.upto topModelSpec)) topModelUptoCard

/-- THE SECOND FORM's CARD OF 'groattop.TopFragments'. -/
def topFragmentsUptoCard : Claim7 := { stood := { row := topFragmentsUptoRow, standIns := [], harness := (true, "676a347d96fc31b7081da42d4fd6042afcfb6d5450741928d6c2dc0f467506bb"), looks := false }, kinds := [], alts := [], laidByText := true, laidKinds := [.data, .data, .data, .data, .pinned], laidTests := true, laidLooks := .later }
def TopFragmentsUptoCardSaid : Prop := Claim7.holds Tryz.pinned (.plain (OpenSpec.upto topFragmentsSpec)) topFragmentsUptoCard
end Rows
end Go.Proofs.YtodeabafemckjaaGreatDoor
