/-
  DERIVED. GIVEN WITH THE SEED: THE CARDS: each row of YtkecopkmmcgciaaDoorRows.lean that lists a variable, with what it lists TIED to the program's text (the seventh form; the later family's looks); each row that meets fmt, with fmt's text TOLD by the authors' own Lean function (tested against real Go, not proved from fmt's source: count such statements apart). THE CARD IS WHAT COUNTS. Prove the row's statement (the work); the ties are given (YtkecopkmmcgciaaDoorTie.lean); close each card by the builder's one call (the guide's Derived/Test/ToyasCard.lean, 'card_holds'). Laid BY PROGRAM, IN A SANDBOX (cutbox-door.mjs). By AI agents, Wed Nov 11 2026. No macro, syntax, notation, axiom, sorry.
-/
import Derived.Test.YtkecopkmmcgciaaDoorRows
import GoSem.ClaimSeven
namespace Go.Proofs.YtkecopkmmcgciaaDoor
namespace Rows

/-- THE TIED CARD OF 'groatlaw20.RuleChecks'. -/
def ruleChecksCard : Claim7 := { stood := { row := ruleChecksRow, standIns := [], harness := (true, "b8a62fda5491fe1d0d58096854c23157f8962983abc498fd2e7f02278ce7e73d"), looks := false }, kinds := [], alts := [], laidByText := true, laidKinds := [.data, .pinned], laidTests := true, laidLooks := .later }
def RuleChecksCardSaid : Prop := Claim7.holds Tryd.pinned (.plain (OpenSpec.ofChange ruleChecksSpec)) ruleChecksCard

/-- THE TIED CARD OF 'groatlaw20.RuleApply'. -/
def ruleApplyCard : Claim7 := { stood := { row := ruleApplyRow, standIns := [], harness := (true, "b8a62fda5491fe1d0d58096854c23157f8962983abc498fd2e7f02278ce7e73d"), looks := false }, kinds := [], alts := [], laidByText := true, laidKinds := [.data, .pinned], laidTests := true, laidLooks := .later }
def RuleApplyCardSaid : Prop := Claim7.holds Tryd.pinned (.plain (OpenSpec.ofChange ruleApplySpec)) ruleApplyCard

/-- THE TIED CARD OF 'groatlaw20.RuleValid'. -/
def ruleValidCard : Claim7 := { stood := { row := ruleValidRow, standIns := [], harness := (true, "b8a62fda5491fe1d0d58096854c23157f8962983abc498fd2e7f02278ce7e73d"), looks := false }, kinds := [], alts := [], laidByText := true, laidKinds := [.data, .pinned], laidTests := true, laidLooks := .later }
def RuleValidCardSaid : Prop := Claim7.holds Tryd.pinned (.plain (OpenSpec.ofChange ruleValidSpec)) ruleValidCard

/-- THE TIED CARD OF 'groatlaw20.RuleSame'. -/
def ruleSameCard : Claim7 := { stood := { row := ruleSameRow, standIns := [], harness := (true, "b8a62fda5491fe1d0d58096854c23157f8962983abc498fd2e7f02278ce7e73d"), looks := false }, kinds := [], alts := [], laidByText := true, laidKinds := [.data, .pinned], laidTests := true, laidLooks := .later }
def RuleSameCardSaid : Prop := Claim7.holds Tryd.pinned (.plain (OpenSpec.ofChange ruleSameSpec)) ruleSameCard

/-- THE SECOND FORM's CARD OF 'groatlaw20.RuleChecks'. -/
def ruleChecksUptoCard : Claim7 := { stood := { row := ruleChecksUptoRow, standIns := [], harness := (true, "b8a62fda5491fe1d0d58096854c23157f8962983abc498fd2e7f02278ce7e73d"), looks := false }, kinds := [], alts := [], laidByText := true, laidKinds := [.data, .pinned], laidTests := true, laidLooks := .later }
def RuleChecksUptoCardSaid : Prop := Claim7.holds Tryd.pinned (.plain (OpenSpec.upto ruleChecksSpec)) ruleChecksUptoCard

/-- THE SECOND FORM's CARD OF 'groatlaw20.RuleApply'. -/
def ruleApplyUptoCard : Claim7 := { stood := { row := ruleApplyUptoRow, standIns := [], harness := (true, "b8a62fda5491fe1d0d58096854c23157f8962983abc498fd2e7f02278ce7e73d"), looks := false }, kinds := [], alts := [], laidByText := true, laidKinds := [.data, .pinned], laidTests := true, laidLooks := .later }
def RuleApplyUptoCardSaid : Prop := Claim7.holds Tryd.pinned (.plain (OpenSpec.upto ruleApplySpec)) ruleApplyUptoCard

/-- THE SECOND FORM's CARD OF 'groatlaw20.RuleValid'. -/
def ruleValidUptoCard : Claim7 := { stood := { row := ruleValidUptoRow, standIns := [], harness := (true, "b8a62fda5491fe1d0d58096854c23157f8962983abc498fd2e7f02278ce7e73d"), looks := false }, kinds := [], alts := [], laidByText := true, laidKinds := [.data, .pinned], laidTests := true, laidLooks := .later }
def RuleValidUptoCardSaid : Prop := Claim7.holds Tryd.pinned (.plain (OpenSpec.upto ruleValidSpec)) ruleValidUptoCard

/-- THE SECOND FORM's CARD OF 'groatlaw20.RuleSame'. -/
def ruleSameUptoCard : Claim7 := { stood := { row := ruleSameUptoRow, standIns := [], harness := (true, "b8a62fda5491fe1d0d58096854c23157f8962983abc498fd2e7f02278ce7e73d"), looks := false }, kinds := [], alts := [], laidByText := true, laidKinds := [.data, .pinned], laidTests := true, laidLooks := .later }
def RuleSameUptoCardSaid : Prop := Claim7.holds Tryd.pinned (.plain (OpenSpec.upto ruleSameSpec)) ruleSameUptoCard
end Rows
end Go.Proofs.YtkecopkmmcgciaaDoor
