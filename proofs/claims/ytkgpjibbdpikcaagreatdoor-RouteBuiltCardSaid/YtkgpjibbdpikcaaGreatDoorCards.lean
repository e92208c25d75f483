/-
  DERIVED. GIVEN WITH THE SEED: THE CARDS: each row of YtkgpjibbdpikcaaGreatDoorRows.lean that lists a variable, with what it lists TIED to the program's text (the seventh form; the later family's looks); each row that meets fmt, with fmt's text TOLD by the authors' own Lean function (tested against real Go, not proved from fmt's source: count such statements apart). THE CARD IS WHAT COUNTS. Prove the row's statement (the work); the ties are given (YtkgpjibbdpikcaaGreatDoorTie.lean); close each card by the builder's one call (the guide's Derived/Test/ToyasCard.lean, 'card_holds'). Laid BY PROGRAM, IN A SANDBOX (cutbox-door.mjs). By AI agents, Wed Nov 11 2026. No macro, syntax, notation, axiom, sorry.
-/
import Derived.Test.YtkgpjibbdpikcaaGreatDoorRows
import GoSem.ClaimSeven
namespace Go.Proofs.YtkgpjibbdpikcaaGreatDoor
namespace Rows

/-- THE TIED CARD OF 'groatlaw24.RouteChecks'. -/
def routeChecksCard : Claim7 := { stood := { row := routeChecksRow, standIns := [], harness := (true, "345bf2814a08e78ea0e1c0d544231b2bf2c4759fc17ee1fe0db3356e0ca1b929"), looks := false }, kinds := [], alts := [], laidByText := true, laidKinds := [.data, .pinned], laidTests := true, laidLooks := .later }
def RouteChecksCardSaid : Prop := Claim7.holds Tryz.pinned (.plain (OpenSpec.ofChange routeChecksSpec)) routeChecksCard

/-- THE TIED CARD OF 'groatlaw24.RouteOutcomes'. -/
def routeOutcomesCard : Claim7 := { stood := { row := routeOutcomesRow, standIns := [], harness := (true, "345bf2814a08e78ea0e1c0d544231b2bf2c4759fc17ee1fe0db3356e0ca1b929"), looks := false }, kinds := [], alts := [], laidByText := true, laidKinds := [.data, .pinned], laidTests := true, laidLooks := .later }
def RouteOutcomesCardSaid : Prop := Claim7.holds Tryz.pinned (.plain (OpenSpec.ofChange routeOutcomesSpec)) routeOutcomesCard

/-- THE TIED CARD OF 'groatlaw24.RouteForwards'. -/
def routeForwardsCard : Claim7 := { stood := { row := routeForwardsRow, standIns := [], harness := (true, "345bf2814a08e78ea0e1c0d544231b2bf2c4759fc17ee1fe0db3356e0ca1b929"), looks := false }, kinds := [], alts := [], laidByText := true, laidKinds := [.data, .pinned], laidTests := true, laidLooks := .later }
def RouteForwardsCardSaid : Prop := Claim7.holds Tryz.pinned (.plain (OpenSpec.ofChange routeForwardsSpec)) routeForwardsCard

/-- THE TIED CARD OF 'groatlaw24.RouteRejects'. -/
def routeRejectsCard : Claim7 := { stood := { row := routeRejectsRow, standIns := [], harness := (true, "345bf2814a08e78ea0e1c0d544231b2bf2c4759fc17ee1fe0db3356e0ca1b929"), looks := false }, kinds := [], alts := [], laidByText := true, laidKinds := [.data, .pinned], laidTests := true, laidLooks := .later }
def RouteRejectsCardSaid : Prop := Claim7.holds Tryz.pinned (.plain (OpenSpec.ofChange routeRejectsSpec)) routeRejectsCard

/-- THE TIED CARD OF 'groatlaw24.RouteMirrors'. -/
def routeMirrorsCard : Claim7 := { stood := { row := routeMirrorsRow, standIns := [], harness := (true, "345bf2814a08e78ea0e1c0d544231b2bf2c4759fc17ee1fe0db3356e0ca1b929"), looks := false }, kinds := [], alts := [], laidByText := true, laidKinds := [.data, .pinned], laidTests := true, laidLooks := .later }
def RouteMirrorsCardSaid : Prop := Claim7.holds Tryz.pinned (.plain (OpenSpec.ofChange routeMirrorsSpec)) routeMirrorsCard

/-- THE TIED CARD OF 'groatlaw24.RouteBuilt'. -/
def routeBuiltCard : Claim7 := { stood := { row := routeBuiltRow, standIns := [], harness := (true, "345bf2814a08e78ea0e1c0d544231b2bf2c4759fc17ee1fe0db3356e0ca1b929"), looks := false }, kinds := [], alts := [], laidByText := true, laidKinds := [.data, .pinned], laidTests := true, laidLooks := .later }
def RouteBuiltCardSaid : Prop := Claim7.holds Tryz.pinned (.plain (OpenSpec.ofChange routeBuiltSpec)) routeBuiltCard

/-- THE SECOND FORM's CARD OF 'groatlaw24.RouteChecks'. -/
def routeChecksUptoCard : Claim7 := { stood := { row := routeChecksUptoRow, standIns := [], harness := (true, "345bf2814a08e78ea0e1c0d544231b2bf2c4759fc17ee1fe0db3356e0ca1b929"), looks := false }, kinds := [], alts := [], laidByText := true, laidKinds := [.data, .pinned], laidTests := true, laidLooks := .later }
def RouteChecksUptoCardSaid : Prop := Claim7.holds Tryz.pinned (.plain (OpenSpec.upto routeChecksSpec)) routeChecksUptoCard

/-- THE SECOND FORM's CARD OF 'groatlaw24.RouteOutcomes'. -/
def routeOutcomesUptoCard : Claim7 := { stood := { row := routeOutcomesUptoRow, standIns := [], harness := (true, "345bf2814a08e78ea0e1c0d544231b2bf2c4759fc17ee1fe0db3356e0ca1b929"), looks := false }, kinds := [], alts := [], laidByText := true, laidKinds := [.data, .pinned], laidTests := true, laidLooks := .later }
def RouteOutcomesUptoCardSaid : Prop := Claim7.holds Tryz.pinned (.plain (OpenSpec.upto routeOutcomesSpec)) routeOutcomesUptoCard

/-- THE SECOND FORM's CARD OF 'groatlaw24.RouteForwards'. -/
def routeForwardsUptoCard : Claim7 := { stood := { row := routeForwardsUptoRow, standIns := [], harness := (true, "345bf2814a08e78ea0e1c0d544231b2bf2c4759fc17ee1fe0db3356e0ca1b929"), looks := false }, kinds := [], alts := [], laidByText := true, laidKinds := [.data, .pinned], laidTests := true, laidLooks := .later }
def RouteForwardsUptoCardSaid : Prop := Claim7.holds Tryz.pinned (.plain (OpenSpec.upto routeForwardsSpec)) routeForwardsUptoCard

/-- THE SECOND FORM's CARD OF 'groatlaw24.RouteRejects'. -/
def routeRejectsUptoCard : Claim7 := { stood := { row := routeRejectsUptoRow, standIns := [], harness := (true, "345bf2814a08e78ea0e1c0d544231b2bf2c4759fc17ee1fe0db3356e0ca1b929"), looks := false }, kinds := [], alts := [], laidByText := true, laidKinds := [.data, .pinned], laidTests := true, laidLooks := .later }
def RouteRejectsUptoCardSaid : Prop := Claim7.holds Tryz.pinned (.plain (OpenSpec.upto routeRejectsSpec)) routeRejectsUptoCard

/-- THE SECOND FORM's CARD OF 'groatlaw24.RouteMirrors'. -/
def routeMirrorsUptoCard : Claim7 := { stood := { row := routeMirrorsUptoRow, standIns := [], harness := (true, "345bf2814a08e78ea0e1c0d544231b2bf2c4759fc17ee1fe0db3356e0ca1b929"), looks := false }, kinds := [], alts := [], laidByText := true, laidKinds := [.data, .pinned], laidTests := true, laidLooks := .later }
def RouteMirrorsUptoCardSaid : Prop := Claim7.holds Tryz.pinned (.plain (OpenSpec.upto routeMirrorsSpec)) routeMirrorsUptoCard

/-- THE SECOND FORM's CARD OF 'groatlaw24.RouteBuilt'. -/
def routeBuiltUptoCard : Claim7 := { stood := { row := routeBuiltUptoRow, standIns := [], harness := (true, "345bf2814a08e78ea0e1c0d544231b2bf2c4759fc17ee1fe0db3356e0ca1b929"), looks := false }, kinds := [], alts := [], laidByText := true, laidKinds := [.data, .pinned], laidTests := true, laidLooks := .later }
def RouteBuiltUptoCardSaid : Prop := Claim7.holds Tryz.pinned (.plain (OpenSpec.upto routeBuiltSpec)) routeBuiltUptoCard
end Rows
end Go.Proofs.YtkgpjibbdpikcaaGreatDoor
