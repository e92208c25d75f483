/-
  DERIVED. GIVEN WITH THE SEED: THE CARDS: each row of YtaoebojajefkjaaDoorRows.lean that lists a variable, with what it lists TIED to the program's text (the seventh form; the later family's looks); each row that meets fmt, with fmt's text TOLD by the authors' own Lean function (tested against real Go, not proved from fmt's source: count such statements apart). THE CARD IS WHAT COUNTS. Prove the row's statement (the work); the ties are given (YtaoebojajefkjaaDoorTie.lean); close each card by the builder's one call (the guide's Derived/Test/ToyasCard.lean, 'card_holds'). Laid BY PROGRAM, IN A SANDBOX (cutbox-door.mjs). By AI agents, Wed Nov 11 2026. No macro, syntax, notation, axiom, sorry.
-/
import Derived.Test.YtaoebojajefkjaaDoorRows
import GoSem.ClaimSeven
namespace Go.Proofs.YtaoebojajefkjaaDoor
namespace Rows

/-- THE TIED CARD OF 'groatlaw01.DigitsPuts'. -/
def digitsPutsCard : Claim7 := { stood := { row := digitsPutsRow, standIns := [], harness := (true, "41a9ae6d8d7adc30ef4b259c77b41ca581a2c55dc9cdb0b5ebec5820a1a64a84"), looks := false }, kinds := [], alts := [], laidByText := true, laidKinds := [.data, .pinned], laidTests := true, laidLooks := .later }
def DigitsPutsCardSaid : Prop := Claim7.holds Tryd.pinned (.plain (OpenSpec.ofChange digitsPutsSpec)) digitsPutsCard

/-- THE TIED CARD OF 'groatlaw01.DigitsGets'. -/
def digitsGetsCard : Claim7 := { stood := { row := digitsGetsRow, standIns := [], harness := (true, "41a9ae6d8d7adc30ef4b259c77b41ca581a2c55dc9cdb0b5ebec5820a1a64a84"), looks := false }, kinds := [], alts := [], laidByText := true, laidKinds := [.data, .pinned], laidTests := true, laidLooks := .later }
def DigitsGetsCardSaid : Prop := Claim7.holds Tryd.pinned (.plain (OpenSpec.ofChange digitsGetsSpec)) digitsGetsCard

/-- THE TIED CARD OF 'groatlaw01.DigitsPads'. -/
def digitsPadsCard : Claim7 := { stood := { row := digitsPadsRow, standIns := [], harness := (true, "41a9ae6d8d7adc30ef4b259c77b41ca581a2c55dc9cdb0b5ebec5820a1a64a84"), looks := false }, kinds := [], alts := [], laidByText := true, laidKinds := [.data, .pinned], laidTests := true, laidLooks := .later }
def DigitsPadsCardSaid : Prop := Claim7.holds Tryd.pinned (.plain (OpenSpec.ofChange digitsPadsSpec)) digitsPadsCard

/-- THE TIED CARD OF 'groatlaw01.DigitsBack'. -/
def digitsBackCard : Claim7 := { stood := { row := digitsBackRow, standIns := [], harness := (true, "41a9ae6d8d7adc30ef4b259c77b41ca581a2c55dc9cdb0b5ebec5820a1a64a84"), looks := false }, kinds := [], alts := [], laidByText := true, laidKinds := [.data, .pinned], laidTests := true, laidLooks := .later }
def DigitsBackCardSaid : Prop := Claim7.holds Tryd.pinned (.plain (OpenSpec.ofChange digitsBackSpec)) digitsBackCard

/-- THE TIED CARD OF 'groatlaw01.DigitsOrder'. -/
def digitsOrderCard : Claim7 := { stood := { row := digitsOrderRow, standIns := [], harness := (true, "41a9ae6d8d7adc30ef4b259c77b41ca581a2c55dc9cdb0b5ebec5820a1a64a84"), looks := false }, kinds := [], alts := [], laidByText := true, laidKinds := [.data, .pinned], laidTests := true, laidLooks := .later }
def DigitsOrderCardSaid : Prop := Claim7.holds Tryd.pinned (.plain (OpenSpec.ofChange digitsOrderSpec)) digitsOrderCard

/-- THE SECOND FORM's CARD OF 'groatlaw01.DigitsPuts'. -/
def digitsPutsUptoCard : Claim7 := { stood := { row := digitsPutsUptoRow, standIns := [], harness := (true, "41a9ae6d8d7adc30ef4b259c77b41ca581a2c55dc9cdb0b5ebec5820a1a64a84"), looks := false }, kinds := [], alts := [], laidByText := true, laidKinds := [.data, .pinned], laidTests := true, laidLooks := .later }
def DigitsPutsUptoCardSaid : Prop := Claim7.holds Tryd.pinned (.plain (OpenSpec.upto digitsPutsSpec)) digitsPutsUptoCard

/-- THE SECOND FORM's CARD OF 'groatlaw01.DigitsGets'. -/
def digitsGetsUptoCard : Claim7 := { stood := { row := digitsGetsUptoRow, standIns := [], harness := (true, "41a9ae6d8d7adc30ef4b259c77b41ca581a2c55dc9cdb0b5ebec5820a1a64a84"), looks := false }, kinds := [], alts := [], laidByText := true, laidKinds := [.data, .pinned], laidTests := true, laidLooks := .later }
def DigitsGetsUptoCardSaid : Prop := Claim7.holds Tryd.pinned (.plain (OpenSpec.upto digitsGetsSpec)) digitsGetsUptoCard

/-- THE SECOND FORM's CARD OF 'groatlaw01.DigitsPads'. -/
def digitsPadsUptoCard : Claim7 := { stood := { row := digitsPadsUptoRow, standIns := [], harness := (true, "41a9ae6d8d7adc30ef4b259c77b41ca581a2c55dc9cdb0b5ebec5820a1a64a84"), looks := false }, kinds := [], alts := [], laidByText := true, laidKinds := [.data, .pinned], laidTests := true, laidLooks := .later }
def DigitsPadsUptoCardSaid : Prop := Claim7.holds Tryd.pinned (.plain (OpenSpec.upto digitsPadsSpec)) digitsPadsUptoCard

/-- THE SECOND FORM's CARD OF 'groatlaw01.DigitsBack'. -/
def digitsBackUptoCard : Claim7 := { stood := { row := digitsBackUptoRow, standIns := [], harness := (true, "41a9ae6d8d7adc30ef4b259c77b41ca581a2c55dc9cdb0b5ebec5820a1a64a84"), looks := false }, kinds := [], alts := [], laidByText := true, laidKinds := [.data, .pinned], laidTests := true, laidLooks := .later }
def DigitsBackUptoCardSaid : Prop := Claim7.holds Tryd.pinned (.plain (OpenSpec.upto digitsBackSpec)) digitsBackUptoCard

/-- THE SECOND FORM's CARD OF 'groatlaw01.DigitsOrder'. -/
def digitsOrderUptoCard : Claim7 := { stood := { row := digitsOrderUptoRow, standIns := [], harness := (true, "41a9ae6d8d7adc30ef4b259c77b41ca581a2c55dc9cdb0b5ebec5820a1a64a84"), looks := false }, kinds := [], alts := [], laidByText := true, laidKinds := [.data, .pinned], laidTests := true, laidLooks := .later }
def DigitsOrderUptoCardSaid : Prop := Claim7.holds Tryd.pinned (.plain (OpenSpec.upto digitsOrderSpec)) digitsOrderUptoCard
end Rows
end Go.Proofs.YtaoebojajefkjaaDoor
