/-
  DERIVED. GIVEN WITH THE SEED: THE CARDS: each row of YtjbndifenhihhaaGreatDoorRows.lean that lists a variable, with what it lists TIED to the program's text (the seventh form; the later family's looks); each row that meets fmt, with fmt's text TOLD by the authors' own Lean function (tested against real Go, not proved from fmt's source: count such statements apart). THE CARD IS WHAT COUNTS. Prove the row's statement (the work); the ties are given (YtjbndifenhihhaaGreatDoorTie.lean); close each card by the builder's one call (the guide's Derived/Test/ToyasCard.lean, 'card_holds'). Laid BY PROGRAM, IN A SANDBOX (cutbox-door.mjs). By AI agents, Wed Nov 11 2026. No macro, syntax, notation, axiom, sorry.
-/
import Derived.Test.YtjbndifenhihhaaGreatDoorRows
import GoSem.ClaimSeven
namespace Go.Proofs.YtjbndifenhihhaaGreatDoor
namespace Rows

/-- THE TIED CARD OF 'manifoldlaw35.DedupSteps'. -/
def dedupStepsCard : Claim7 := { stood := { row := dedupStepsRow, standIns := [], harness := (true, "d55d1976533ba272207557dd33c6f4875155e8b8270e105401bbeec58c252d02"), looks := true }, kinds := [], alts := [], laidByText := true, laidKinds := [.data, .data, .data, .data, .sentinel, .sentinel, .pinned], laidTests := true, laidLooks := .later }
def DedupStepsCardSaid : Prop := Claim7.holds Tryz.pinned (.plain (OpenSpec.ofChange dedupStepsSpec)) dedupStepsCard

/-- THE TIED CARD OF 'manifoldlaw35.DedupRemembers'. -/
def dedupRemembersCard : Claim7 := { stood := { row := dedupRemembersRow, standIns := [], harness := (true, "d55d1976533ba272207557dd33c6f4875155e8b8270e105401bbeec58c252d02"), looks := true }, kinds := [], alts := [], laidByText := true, laidKinds := [.data, .data, .data, .data, .sentinel, .sentinel, .pinned], laidTests := true, laidLooks := .later }
def DedupRemembersCardSaid : Prop := Claim7.holds Tryz.pinned (.plain (OpenSpec.ofChange dedupRemembersSpec)) dedupRemembersCard

/-- THE TIED CARD OF 'manifoldlaw31.RouterFilters'. -/
def routerFiltersCard : Claim7 := { stood := { row := routerFiltersRow, standIns := [], harness := (true, "d55d1976533ba272207557dd33c6f4875155e8b8270e105401bbeec58c252d02"), looks := true }, kinds := [], alts := [], laidByText := true, laidKinds := [.data, .data, .data, .data, .sentinel, .sentinel, .pinned], laidTests := true, laidLooks := .later }
def RouterFiltersCardSaid : Prop := Claim7.holds Tryz.pinned (.plain (OpenSpec.ofChange routerFiltersSpec)) routerFiltersCard

/-- THE TIED CARD OF 'manifoldlaw31.RouterChooses'. -/
def routerChoosesCard : Claim7 := { stood := { row := routerChoosesRow, standIns := [], harness := (true, "d55d1976533ba272207557dd33c6f4875155e8b8270e105401bbeec58c252d02"), looks := true }, kinds := [], alts := [], laidByText := true, laidKinds := [.data, .data, .data, .data, .sentinel, .sentinel, .pinned], laidTests := true, laidLooks := .later }
def RouterChoosesCardSaid : Prop := Claim7.holds Tryz.pinned (.plain (OpenSpec.ofChange routerChoosesSpec)) routerChoosesCard

/-- THE SECOND FORM's CARD OF 'manifoldlaw35.DedupSteps'. -/
def dedupStepsUptoCard : Claim7 := { stood := { row := dedupStepsUptoRow, standIns := [], harness := (true, "d55d1976533ba272207557dd33c6f4875155e8b8270e105401bbeec58c252d02"), looks := true }, kinds := [], alts := [], laidByText := true, laidKinds := [.data, .data, .data, .data, .sentinel, .sentinel, .pinned], laidTests := true, laidLooks := .later }
def DedupStepsUptoCardSaid : Prop := Claim7.holds Tryz.pinned (.plain (OpenSpec.upto dedupStepsSpec)) dedupStepsUptoCard

/-- THE SECOND FORM's CARD OF 'manifoldlaw35.DedupRemembers'. -/
def dedupRemembersUptoCard : Claim7 := { stood := { row := dedupRemembersUptoRow, standIns := [], harness := (true, "d55d1976533ba272207557dd33c6f4875155e8b8270e105401bbeec58c252d02"), looks := true }, kinds := [], alts := [], laidByText := true, laidKinds := [.data, .data, .data, .data, .sentinel, .sentinel, .pinned], laidTests := true, laidLooks := .later }
def DedupRemembersUptoCardSaid : Prop := Claim7.holds Tryz.pinned (.plain (OpenSpec.upto dedupRemembersSpec)) dedupRemembersUptoCard

/-- THE SECOND FORM's CARD OF 'manifoldlaw31.RouterFilters'. -/
def routerFiltersUptoCard : Claim7 := { stood := { row := routerFiltersUptoRow, standIns := [], harness := (true, "d55d1976533ba272207557dd33c6f4875155e8b8270e105401bbeec58c252d02"), looks := true }, kinds := [], alts := [], laidByText := true, laidKinds := [.data, .data, .data, .data, .sentinel, .sentinel, .pinned], laidTests := true, laidLooks := .later }
def RouterFiltersUptoCardSaid : Prop := Claim7.holds Tryz.pinned (.plain (OpenSpec.upto routerFiltersSpec)) routerFiltersUptoCard

/-- THE SECOND FORM's CARD OF 'manifoldlaw31.RouterChooses'. -/
def routerChoosesUptoCard : Claim7 := { stood := { row := routerChoosesUptoRow, standIns := [], harness := (true, "d55d1976533ba272207557dd33c6f4875155e8b8270e105401bbeec58c252d02"), looks := true }, kinds := [], alts := [], laidByText := true, laidKinds := [.data, .data, .data, .data, .sentinel, .sentinel, .pinned], laidTests := true, laidLooks := .later }
def RouterChoosesUptoCardSaid : Prop := Claim7.holds Tryz.pinned (.plain (OpenSpec.upto routerChoosesSpec)) routerChoosesUptoCard
end Rows
end Go.Proofs.YtjbndifenhihhaaGreatDoor
