/-
  DERIVED. GIVEN WITH THE SEED: THE CARDS: each row of YtpjkbbihjoflnaaGreatDoorRows.lean that lists a variable, with what it lists TIED to the program's text (the seventh form; the later family's looks); each row that meets fmt, with fmt's text TOLD by the authors' own Lean function (tested against real Go, not proved from fmt's source: count such statements apart). THE CARD IS WHAT COUNTS. Prove the row's statement (the work); the ties are given (YtpjkbbihjoflnaaGreatDoorTie.lean); close each card by the builder's one call (the guide's Derived/Test/ToyasCard.lean, 'card_holds'). Laid BY PROGRAM, IN A SANDBOX (cutbox-door.mjs). By AI agents, Wed Nov 11 2026. No macro, syntax, notation, axiom, sorry.
-/
import Derived.Test.YtpjkbbihjoflnaaGreatDoorRows
import GoSem.ClaimSeven
namespace Go.Proofs.YtpjkbbihjoflnaaGreatDoor
namespace Rows

/-- THE TIED CARD OF 'groatlaw26.GatewayNew'. -/
def gatewayNewCard : Claim7 := { stood := { row := gatewayNewRow, standIns := [], harness := (true, "043d35b66460a1270fac548a3c9726f45d74ee8b1160bb6b3b23b0afe4532a99"), looks := false }, kinds := [], alts := [], laidByText := true, laidKinds := [.data, .pinned], laidTests := true, laidLooks := .later }
def GatewayNewCardSaid : Prop := Claim7.holds Tryz.pinned (.plain (OpenSpec.ofChange gatewayNewSpec)) gatewayNewCard

/-- THE TIED CARD OF 'groatlaw26.GatewayRuns'. -/
def gatewayRunsCard : Claim7 := { stood := { row := gatewayRunsRow, standIns := [], harness := (true, "043d35b66460a1270fac548a3c9726f45d74ee8b1160bb6b3b23b0afe4532a99"), looks := false }, kinds := [], alts := [], laidByText := true, laidKinds := [.data, .pinned], laidTests := true, laidLooks := .later }
def GatewayRunsCardSaid : Prop := Claim7.holds Tryz.pinned (.plain (OpenSpec.ofChange gatewayRunsSpec)) gatewayRunsCard

/-- THE TIED CARD OF 'groatlaw26.GatewayMixed'. -/
def gatewayMixedCard : Claim7 := { stood := { row := gatewayMixedRow, standIns := [], harness := (true, "043d35b66460a1270fac548a3c9726f45d74ee8b1160bb6b3b23b0afe4532a99"), looks := false }, kinds := [], alts := [], laidByText := true, laidKinds := [.data, .pinned], laidTests := true, laidLooks := .later }
def GatewayMixedCardSaid : Prop := Claim7.holds Tryz.pinned (.plain (OpenSpec.ofChange gatewayMixedSpec)) gatewayMixedCard

/-- THE TIED CARD OF 'groatlaw26.GatewayParts'. -/
def gatewayPartsCard : Claim7 := { stood := { row := gatewayPartsRow, standIns := [], harness := (true, "043d35b66460a1270fac548a3c9726f45d74ee8b1160bb6b3b23b0afe4532a99"), looks := false }, kinds := [], alts := [], laidByText := true, laidKinds := [.data, .pinned], laidTests := true, laidLooks := .later }
def GatewayPartsCardSaid : Prop := Claim7.holds Tryz.pinned (.plain (OpenSpec.ofChange gatewayPartsSpec)) gatewayPartsCard

/-- THE TIED CARD OF 'groatlaw26.GatewayOnce'. -/
def gatewayOnceCard : Claim7 := { stood := { row := gatewayOnceRow, standIns := [], harness := (true, "043d35b66460a1270fac548a3c9726f45d74ee8b1160bb6b3b23b0afe4532a99"), looks := false }, kinds := [], alts := [], laidByText := true, laidKinds := [.data, .pinned], laidTests := true, laidLooks := .later }
def GatewayOnceCardSaid : Prop := Claim7.holds Tryz.pinned (.plain (OpenSpec.ofChange gatewayOnceSpec)) gatewayOnceCard

/-- THE TIED CARD OF 'groatlaw26.GatewayHolds'. -/
def gatewayHoldsCard : Claim7 := { stood := { row := gatewayHoldsRow, standIns := [], harness := (true, "043d35b66460a1270fac548a3c9726f45d74ee8b1160bb6b3b23b0afe4532a99"), looks := false }, kinds := [], alts := [], laidByText := true, laidKinds := [.data, .pinned], laidTests := true, laidLooks := .later }
def GatewayHoldsCardSaid : Prop := Claim7.holds Tryz.pinned (.plain (OpenSpec.ofChange gatewayHoldsSpec)) gatewayHoldsCard

/-- THE TIED CARD OF 'groatlaw26.GatewayMirrors'. -/
def gatewayMirrorsCard : Claim7 := { stood := { row := gatewayMirrorsRow, standIns := [], harness := (true, "043d35b66460a1270fac548a3c9726f45d74ee8b1160bb6b3b23b0afe4532a99"), looks := false }, kinds := [], alts := [], laidByText := true, laidKinds := [.data, .pinned], laidTests := true, laidLooks := .later }
def GatewayMirrorsCardSaid : Prop := Claim7.holds Tryz.pinned (.plain (OpenSpec.ofChange gatewayMirrorsSpec)) gatewayMirrorsCard

/-- THE SECOND FORM's CARD OF 'groatlaw26.GatewayNew'. -/
def gatewayNewUptoCard : Claim7 := { stood := { row := gatewayNewUptoRow, standIns := [], harness := (true, "043d35b66460a1270fac548a3c9726f45d74ee8b1160bb6b3b23b0afe4532a99"), looks := false }, kinds := [], alts := [], laidByText := true, laidKinds := [.data, .pinned], laidTests := true, laidLooks := .later }
def GatewayNewUptoCardSaid : Prop := Claim7.holds Tryz.pinned (.plain (OpenSpec.upto gatewayNewSpec)) gatewayNewUptoCard

/-- THE SECOND FORM's CARD OF 'groatlaw26.GatewayRuns'. -/
def gatewayRunsUptoCard : Claim7 := { stood := { row := gatewayRunsUptoRow, standIns := [], harness := (true, "043d35b66460a1270fac548a3c9726f45d74ee8b1160bb6b3b23b0afe4532a99"), looks := false }, kinds := [], alts := [], laidByText := true, laidKinds := [.data, .pinned], laidTests := true, laidLooks := .later }
def GatewayRunsUptoCardSaid : Prop := Claim7.holds Tryz.pinned (.plain (OpenSpec.upto gatewayRunsSpec)) gatewayRunsUptoCard

/-- THE SECOND FORM's CARD OF 'groatlaw26.GatewayMixed'. -/
def gatewayMixedUptoCard : Claim7 := { stood := { row := gatewayMixedUptoRow, standIns := [], harness := (true, "043d35b66460a1270fac548a3c9726f45d74ee8b1160bb6b3b23b0afe4532a99"), looks := false }, kinds := [], alts := [], laidByText := true, laidKinds := [.data, .pinned], laidTests := true, laidLooks := .later }
def GatewayMixedUptoCardSaid : Prop := Claim7.holds Tryz.pinned (.plain (OpenSpec.upto gatewayMixedSpec)) gatewayMixedUptoCard

/-- THE SECOND FORM's CARD OF 'groatlaw26.GatewayParts'. -/
def gatewayPartsUptoCard : Claim7 := { stood := { row := gatewayPartsUptoRow, standIns := [], harness := (true, "043d35b66460a1270fac548a3c9726f45d74ee8b1160bb6b3b23b0afe4532a99"), looks := false }, kinds := [], alts := [], laidByText := true, laidKinds := [.data, .pinned], laidTests := true, laidLooks := .later }
def GatewayPartsUptoCardSaid : Prop := Claim7.holds Tryz.pinned (.plain (OpenSpec.upto gatewayPartsSpec)) gatewayPartsUptoCard

/-- THE SECOND FORM's CARD OF 'groatlaw26.GatewayOnce'. -/
def gatewayOnceUptoCard : Claim7 := { stood := { row := gatewayOnceUptoRow, standIns := [], harness := (true, "043d35b66460a1270fac548a3c9726f45d74ee8b1160bb6b3b23b0afe4532a99"), looks := false }, kinds := [], alts := [], laidByText := true, laidKinds := [.data, .pinned], laidTests := true, laidLooks := .later }
def GatewayOnceUptoCardSaid : Prop := Claim7.holds Tryz.pinned (.plain (OpenSpec.upto gatewayOnceSpec)) gatewayOnceUptoCard

/-- THE SECOND FORM's CARD OF 'groatlaw26.GatewayHolds'. -/
def gatewayHoldsUptoCard : Claim7 := { stood := { row := gatewayHoldsUptoRow, standIns := [], harness := (true, "043d35b66460a1270fac548a3c9726f45d74ee8b1160bb6b3b23b0afe4532a99"), looks := false }, kinds := [], alts := [], laidByText := true, laidKinds := [.data, .pinned], laidTests := true, laidLooks := .later }
def GatewayHoldsUptoCardSaid : Prop := Claim7.holds Tryz.pinned (.plain (OpenSpec.upto gatewayHoldsSpec)) gatewayHoldsUptoCard

/-- THE SECOND FORM's CARD OF 'groatlaw26.GatewayMirrors'. -/
def gatewayMirrorsUptoCard : Claim7 := { stood := { row := gatewayMirrorsUptoRow, standIns := [], harness := (true, "043d35b66460a1270fac548a3c9726f45d74ee8b1160bb6b3b23b0afe4532a99"), looks := false }, kinds := [], alts := [], laidByText := true, laidKinds := [.data, .pinned], laidTests := true, laidLooks := .later }
def GatewayMirrorsUptoCardSaid : Prop := Claim7.holds Tryz.pinned (.plain (OpenSpec.upto gatewayMirrorsSpec)) gatewayMirrorsUptoCard
end Rows
end Go.Proofs.YtpjkbbihjoflnaaGreatDoor
