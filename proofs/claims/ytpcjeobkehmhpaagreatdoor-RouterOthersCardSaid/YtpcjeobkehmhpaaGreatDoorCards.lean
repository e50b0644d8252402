/-
  DERIVED. GIVEN WITH THE SEED: THE CARDS: each row of YtpcjeobkehmhpaaGreatDoorRows.lean that lists a variable, with what it lists TIED to the program's text (the seventh form; the later family's looks); each row that meets fmt, with fmt's text TOLD by the authors' own Lean function (tested against real Go, not proved from fmt's source: count such statements apart). THE CARD IS WHAT COUNTS. Prove the row's statement (the work); the ties are given (YtpcjeobkehmhpaaGreatDoorTie.lean); close each card by the builder's one call (the guide's Derived/Test/ToyasCard.lean, 'card_holds'). Laid BY PROGRAM, IN A SANDBOX (cutbox-door.mjs). By AI agents, Wed Nov 11 2026. No macro, syntax, notation, axiom, sorry.
-/
import Derived.Test.YtpcjeobkehmhpaaGreatDoorRows
import GoSem.ClaimSeven
namespace Go.Proofs.YtpcjeobkehmhpaaGreatDoor
namespace Rows

/-- THE TIED CARD OF 'manifoldlaw31.RouterBalances'. -/
def routerBalancesCard : Claim7 := { stood := { row := routerBalancesRow, standIns := [], harness := (true, "791283991706b0c9890acc735dd6c97095bf7421464433e3959ce49c45baa779"), looks := true }, kinds := [], alts := [], laidByText := true, laidKinds := [.data, .data, .data, .data, .sentinel, .sentinel, .pinned], laidTests := true, laidLooks := .later }
def RouterBalancesCardSaid : Prop := Claim7.holds Tryz.pinned (.plain (OpenSpec.ofChange routerBalancesSpec)) routerBalancesCard

/-- THE TIED CARD OF 'manifoldlaw31.RouterKeeps'. -/
def routerKeepsCard : Claim7 := { stood := { row := routerKeepsRow, standIns := [], harness := (true, "791283991706b0c9890acc735dd6c97095bf7421464433e3959ce49c45baa779"), looks := true }, kinds := [], alts := [], laidByText := true, laidKinds := [.data, .data, .data, .data, .sentinel, .sentinel, .pinned], laidTests := true, laidLooks := .later }
def RouterKeepsCardSaid : Prop := Claim7.holds Tryz.pinned (.plain (OpenSpec.ofChange routerKeepsSpec)) routerKeepsCard

/-- THE TIED CARD OF 'manifoldlaw31.RouterMaps'. -/
def routerMapsCard : Claim7 := { stood := { row := routerMapsRow, standIns := [], harness := (true, "791283991706b0c9890acc735dd6c97095bf7421464433e3959ce49c45baa779"), looks := true }, kinds := [], alts := [], laidByText := true, laidKinds := [.data, .data, .data, .data, .sentinel, .sentinel, .pinned], laidTests := true, laidLooks := .later }
def RouterMapsCardSaid : Prop := Claim7.holds Tryz.pinned (.plain (OpenSpec.ofChange routerMapsSpec)) routerMapsCard

/-- THE TIED CARD OF 'manifoldlaw31.RouterOthers'. -/
def routerOthersCard : Claim7 := { stood := { row := routerOthersRow, standIns := [], harness := (true, "791283991706b0c9890acc735dd6c97095bf7421464433e3959ce49c45baa779"), looks := true }, kinds := [], alts := [], laidByText := true, laidKinds := [.data, .data, .data, .data, .sentinel, .sentinel, .pinned], laidTests := true, laidLooks := .later }
def RouterOthersCardSaid : Prop := Claim7.holds Tryz.pinned (.plain (OpenSpec.ofChange routerOthersSpec)) routerOthersCard

/-- THE SECOND FORM's CARD OF 'manifoldlaw31.RouterBalances'. -/
def routerBalancesUptoCard : Claim7 := { stood := { row := routerBalancesUptoRow, standIns := [], harness := (true, "791283991706b0c9890acc735dd6c97095bf7421464433e3959ce49c45baa779"), looks := true }, kinds := [], alts := [], laidByText := true, laidKinds := [.data, .data, .data, .data, .sentinel, .sentinel, .pinned], laidTests := true, laidLooks := .later }
def RouterBalancesUptoCardSaid : Prop := Claim7.holds Tryz.pinned (.plain (OpenSpec.upto routerBalancesSpec)) routerBalancesUptoCard

/-- THE SECOND FORM's CARD OF 'manifoldlaw31.RouterKeeps'. -/
def routerKeepsUptoCard : Claim7 := { stood := { row := routerKeepsUptoRow, standIns := [], harness := (true, "791283991706b0c9890acc735dd6c97095bf7421464433e3959ce49c45baa779"), looks := true }, kinds := [], alts := [], laidByText := true, laidKinds := [.data, .data, .data, .data, .sentinel, .sentinel, .pinned], laidTests := true, laidLooks := .later }
def RouterKeepsUptoCardSaid : Prop := Claim7.holds Tryz.pinned (.plain (OpenSpec.upto routerKeepsSpec)) routerKeepsUptoCard

/-- THE SECOND FORM's CARD OF 'manifoldlaw31.RouterMaps'. -/
def routerMapsUptoCard : Claim7 := { stood := { row := routerMapsUptoRow, standIns := [], harness := (true, "791283991706b0c9890acc735dd6c97095bf7421464433e3959ce49c45baa779"), looks := true }, kinds := [], alts := [], laidByText := true, laidKinds := [.data, .data, .data, .data, .sentinel, .sentinel, .pinned], laidTests := true, laidLooks := .later }
def RouterMapsUptoCardSaid : Prop := Claim7.holds Tryz.pinned (.plain (OpenSpec.upto routerMapsSpec)) routerMapsUptoCard

/-- THE SECOND FORM's CARD OF 'manifoldlaw31.RouterOthers'. -/
def routerOthersUptoCard : Claim7 := { stood := { row := routerOthersUptoRow, standIns := [], harness := (true, "791283991706b0c9890acc735dd6c97095bf7421464433e3959ce49c45baa779"), looks := true }, kinds := [], alts := [], laidByText := true, laidKinds := [.data, .data, .data, .data, .sentinel, .sentinel, .pinned], laidTests := true, laidLooks := .later }
def RouterOthersUptoCardSaid : Prop := Claim7.holds Tryz.pinned (.plain (OpenSpec.upto routerOthersSpec)) routerOthersUptoCard
end Rows
end Go.Proofs.YtpcjeobkehmhpaaGreatDoor
