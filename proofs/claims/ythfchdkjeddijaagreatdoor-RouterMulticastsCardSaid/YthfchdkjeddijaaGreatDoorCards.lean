/-
  DERIVED. GIVEN WITH THE SEED: THE CARDS: each row of YthfchdkjeddijaaGreatDoorRows.lean that lists a variable, with what it lists TIED to the program's text (the seventh form; the later family's looks); each row that meets fmt, with fmt's text TOLD by the authors' own Lean function (tested against real Go, not proved from fmt's source: count such statements apart). THE CARD IS WHAT COUNTS. Prove the row's statement (the work); the ties are given (YthfchdkjeddijaaGreatDoorTie.lean); close each card by the builder's one call (the guide's Derived/Test/ToyasCard.lean, 'card_holds'). Laid BY PROGRAM, IN A SANDBOX (cutbox-door.mjs). By AI agents, Wed Nov 11 2026. No macro, syntax, notation, axiom, sorry.
-/
import Derived.Test.YthfchdkjeddijaaGreatDoorRows
import GoSem.ClaimSeven
namespace Go.Proofs.YthfchdkjeddijaaGreatDoor
namespace Rows

/-- THE TIED CARD OF 'manifoldlaw35.DedupRuns'. -/
def dedupRunsCard : Claim7 := { stood := { row := dedupRunsRow, standIns := [], harness := (true, "fda8d723c99205a616a719e840104a1e214bfa621fcce8c0bc2210fee27a5a68"), looks := true }, kinds := [], alts := [], laidByText := true, laidKinds := [.data, .data, .data, .data, .sentinel, .sentinel, .pinned], laidTests := true, laidLooks := .later }
def DedupRunsCardSaid : Prop := Claim7.holds Tryz.pinned (.plain (OpenSpec.ofChange dedupRunsSpec)) dedupRunsCard

/-- THE TIED CARD OF 'manifoldlaw35.DedupWindows'. -/
def dedupWindowsCard : Claim7 := { stood := { row := dedupWindowsRow, standIns := [], harness := (true, "fda8d723c99205a616a719e840104a1e214bfa621fcce8c0bc2210fee27a5a68"), looks := true }, kinds := [], alts := [], laidByText := true, laidKinds := [.data, .data, .data, .data, .sentinel, .sentinel, .pinned], laidTests := true, laidLooks := .later }
def DedupWindowsCardSaid : Prop := Claim7.holds Tryz.pinned (.plain (OpenSpec.ofChange dedupWindowsSpec)) dedupWindowsCard

/-- THE TIED CARD OF 'manifoldlaw35.DedupChecks'. -/
def dedupChecksCard : Claim7 := { stood := { row := dedupChecksRow, standIns := [], harness := (true, "fda8d723c99205a616a719e840104a1e214bfa621fcce8c0bc2210fee27a5a68"), looks := true }, kinds := [], alts := [], laidByText := true, laidKinds := [.data, .data, .data, .data, .sentinel, .sentinel, .pinned], laidTests := true, laidLooks := .later }
def DedupChecksCardSaid : Prop := Claim7.holds Tryz.pinned (.plain (OpenSpec.ofChange dedupChecksSpec)) dedupChecksCard

/-- THE TIED CARD OF 'manifoldlaw35.DedupOthers'. -/
def dedupOthersCard : Claim7 := { stood := { row := dedupOthersRow, standIns := [], harness := (true, "fda8d723c99205a616a719e840104a1e214bfa621fcce8c0bc2210fee27a5a68"), looks := true }, kinds := [], alts := [], laidByText := true, laidKinds := [.data, .data, .data, .data, .sentinel, .sentinel, .pinned], laidTests := true, laidLooks := .later }
def DedupOthersCardSaid : Prop := Claim7.holds Tryz.pinned (.plain (OpenSpec.ofChange dedupOthersSpec)) dedupOthersCard

/-- THE TIED CARD OF 'manifoldlaw32.SplitterNumbers'. -/
def splitterNumbersCard : Claim7 := { stood := { row := splitterNumbersRow, standIns := [], harness := (true, "fda8d723c99205a616a719e840104a1e214bfa621fcce8c0bc2210fee27a5a68"), looks := true }, kinds := [], alts := [], laidByText := true, laidKinds := [.data, .data, .data, .data, .sentinel, .sentinel, .pinned], laidTests := true, laidLooks := .later }
def SplitterNumbersCardSaid : Prop := Claim7.holds Tryz.pinned (.plain (OpenSpec.ofChange splitterNumbersSpec)) splitterNumbersCard

/-- THE TIED CARD OF 'manifoldlaw32.SplitterJoins'. -/
def splitterJoinsCard : Claim7 := { stood := { row := splitterJoinsRow, standIns := [], harness := (true, "fda8d723c99205a616a719e840104a1e214bfa621fcce8c0bc2210fee27a5a68"), looks := true }, kinds := [], alts := [], laidByText := true, laidKinds := [.data, .data, .data, .data, .sentinel, .sentinel, .pinned], laidTests := true, laidLooks := .later }
def SplitterJoinsCardSaid : Prop := Claim7.holds Tryz.pinned (.plain (OpenSpec.ofChange splitterJoinsSpec)) splitterJoinsCard

/-- THE TIED CARD OF 'manifoldlaw32.SplitterChecks'. -/
def splitterChecksCard : Claim7 := { stood := { row := splitterChecksRow, standIns := [], harness := (true, "fda8d723c99205a616a719e840104a1e214bfa621fcce8c0bc2210fee27a5a68"), looks := true }, kinds := [], alts := [], laidByText := true, laidKinds := [.data, .data, .data, .data, .sentinel, .sentinel, .pinned], laidTests := true, laidLooks := .later }
def SplitterChecksCardSaid : Prop := Claim7.holds Tryz.pinned (.plain (OpenSpec.ofChange splitterChecksSpec)) splitterChecksCard

/-- THE TIED CARD OF 'manifoldlaw31.RouterChecks'. -/
def routerChecksCard : Claim7 := { stood := { row := routerChecksRow, standIns := [], harness := (true, "fda8d723c99205a616a719e840104a1e214bfa621fcce8c0bc2210fee27a5a68"), looks := true }, kinds := [], alts := [], laidByText := true, laidKinds := [.data, .data, .data, .data, .sentinel, .sentinel, .pinned], laidTests := true, laidLooks := .later }
def RouterChecksCardSaid : Prop := Claim7.holds Tryz.pinned (.plain (OpenSpec.ofChange routerChecksSpec)) routerChecksCard

/-- THE TIED CARD OF 'manifoldlaw31.RouterMulticasts'. -/
def routerMulticastsCard : Claim7 := { stood := { row := routerMulticastsRow, standIns := [], harness := (true, "fda8d723c99205a616a719e840104a1e214bfa621fcce8c0bc2210fee27a5a68"), looks := true }, kinds := [], alts := [], laidByText := true, laidKinds := [.data, .data, .data, .data, .sentinel, .sentinel, .pinned], laidTests := true, laidLooks := .later }
def RouterMulticastsCardSaid : Prop := Claim7.holds Tryz.pinned (.plain (OpenSpec.ofChange routerMulticastsSpec)) routerMulticastsCard

/-- THE TIED CARD OF 'manifoldlaw31.RouterRejects'. -/
def routerRejectsCard : Claim7 := { stood := { row := routerRejectsRow, standIns := [], harness := (true, "fda8d723c99205a616a719e840104a1e214bfa621fcce8c0bc2210fee27a5a68"), looks := true }, kinds := [], alts := [], laidByText := true, laidKinds := [.data, .data, .data, .data, .sentinel, .sentinel, .pinned], laidTests := true, laidLooks := .later }
def RouterRejectsCardSaid : Prop := Claim7.holds Tryz.pinned (.plain (OpenSpec.ofChange routerRejectsSpec)) routerRejectsCard

/-- THE SECOND FORM's CARD OF 'manifoldlaw35.DedupRuns'. -/
def dedupRunsUptoCard : Claim7 := { stood := { row := dedupRunsUptoRow, standIns := [], harness := (true, "fda8d723c99205a616a719e840104a1e214bfa621fcce8c0bc2210fee27a5a68"), looks := true }, kinds := [], alts := [], laidByText := true, laidKinds := [.data, .data, .data, .data, .sentinel, .sentinel, .pinned], laidTests := true, laidLooks := .later }
def DedupRunsUptoCardSaid : Prop := Claim7.holds Tryz.pinned (.plain (OpenSpec.upto dedupRunsSpec)) dedupRunsUptoCard

/-- THE SECOND FORM's CARD OF 'manifoldlaw35.DedupWindows'. -/
def dedupWindowsUptoCard : Claim7 := { stood := { row := dedupWindowsUptoRow, standIns := [], harness := (true, "fda8d723c99205a616a719e840104a1e214bfa621fcce8c0bc2210fee27a5a68"), looks := true }, kinds := [], alts := [], laidByText := true, laidKinds := [.data, .data, .data, .data, .sentinel, .sentinel, .pinned], laidTests := true, laidLooks := .later }
def DedupWindowsUptoCardSaid : Prop := Claim7.holds Tryz.pinned (.plain (OpenSpec.upto dedupWindowsSpec)) dedupWindowsUptoCard

/-- THE SECOND FORM's CARD OF 'manifoldlaw35.DedupChecks'. -/
def dedupChecksUptoCard : Claim7 := { stood := { row := dedupChecksUptoRow, standIns := [], harness := (true, "fda8d723c99205a616a719e840104a1e214bfa621fcce8c0bc2210fee27a5a68"), looks := true }, kinds := [], alts := [], laidByText := true, laidKinds := [.data, .data, .data, .data, .sentinel, .sentinel, .pinned], laidTests := true, laidLooks := .later }
def DedupChecksUptoCardSaid : Prop := Claim7.holds Tryz.pinned (.plain (OpenSpec.upto dedupChecksSpec)) dedupChecksUptoCard

/-- THE SECOND FORM's CARD OF 'manifoldlaw35.DedupOthers'. -/
def dedupOthersUptoCard : Claim7 := { stood := { row := dedupOthersUptoRow, standIns := [], harness := (true, "fda8d723c99205a616a719e840104a1e214bfa621fcce8c0bc2210fee27a5a68"), looks := true }, kinds := [], alts := [], laidByText := true, laidKinds := [.data, .data, .data, .data, .sentinel, .sentinel, .pinned], laidTests := true, laidLooks := .later }
def DedupOthersUptoCardSaid : Prop := Claim7.holds Tryz.pinned (.plain (OpenSpec.upto dedupOthersSpec)) dedupOthersUptoCard

/-- THE SECOND FORM's CARD OF 'manifoldlaw32.SplitterNumbers'. -/
def splitterNumbersUptoCard : Claim7 := { stood := { row := splitterNumbersUptoRow, standIns := [], harness := (true, "fda8d723c99205a616a719e840104a1e214bfa621fcce8c0bc2210fee27a5a68"), looks := true }, kinds := [], alts := [], laidByText := true, laidKinds := [.data, .data, .data, .data, .sentinel, .sentinel, .pinned], laidTests := true, laidLooks := .later }
def SplitterNumbersUptoCardSaid : Prop := Claim7.holds Tryz.pinned (.plain (OpenSpec.upto splitterNumbersSpec)) splitterNumbersUptoCard

/-- THE SECOND FORM's CARD OF 'manifoldlaw32.SplitterJoins'. -/
def splitterJoinsUptoCard : Claim7 := { stood := { row := splitterJoinsUptoRow, standIns := [], harness := (true, "fda8d723c99205a616a719e840104a1e214bfa621fcce8c0bc2210fee27a5a68"), looks := true }, kinds := [], alts := [], laidByText := true, laidKinds := [.data, .data, .data, .data, .sentinel, .sentinel, .pinned], laidTests := true, laidLooks := .later }
def SplitterJoinsUptoCardSaid : Prop := Claim7.holds Tryz.pinned (.plain (OpenSpec.upto splitterJoinsSpec)) splitterJoinsUptoCard

/-- THE SECOND FORM's CARD OF 'manifoldlaw32.SplitterChecks'. -/
def splitterChecksUptoCard : Claim7 := { stood := { row := splitterChecksUptoRow, standIns := [], harness := (true, "fda8d723c99205a616a719e840104a1e214bfa621fcce8c0bc2210fee27a5a68"), looks := true }, kinds := [], alts := [], laidByText := true, laidKinds := [.data, .data, .data, .data, .sentinel, .sentinel, .pinned], laidTests := true, laidLooks := .later }
def SplitterChecksUptoCardSaid : Prop := Claim7.holds Tryz.pinned (.plain (OpenSpec.upto splitterChecksSpec)) splitterChecksUptoCard

/-- THE SECOND FORM's CARD OF 'manifoldlaw31.RouterChecks'. -/
def routerChecksUptoCard : Claim7 := { stood := { row := routerChecksUptoRow, standIns := [], harness := (true, "fda8d723c99205a616a719e840104a1e214bfa621fcce8c0bc2210fee27a5a68"), looks := true }, kinds := [], alts := [], laidByText := true, laidKinds := [.data, .data, .data, .data, .sentinel, .sentinel, .pinned], laidTests := true, laidLooks := .later }
def RouterChecksUptoCardSaid : Prop := Claim7.holds Tryz.pinned (.plain (OpenSpec.upto routerChecksSpec)) routerChecksUptoCard

/-- THE SECOND FORM's CARD OF 'manifoldlaw31.RouterMulticasts'. -/
def routerMulticastsUptoCard : Claim7 := { stood := { row := routerMulticastsUptoRow, standIns := [], harness := (true, "fda8d723c99205a616a719e840104a1e214bfa621fcce8c0bc2210fee27a5a68"), looks := true }, kinds := [], alts := [], laidByText := true, laidKinds := [.data, .data, .data, .data, .sentinel, .sentinel, .pinned], laidTests := true, laidLooks := .later }
def RouterMulticastsUptoCardSaid : Prop := Claim7.holds Tryz.pinned (.plain (OpenSpec.upto routerMulticastsSpec)) routerMulticastsUptoCard

/-- THE SECOND FORM's CARD OF 'manifoldlaw31.RouterRejects'. -/
def routerRejectsUptoCard : Claim7 := { stood := { row := routerRejectsUptoRow, standIns := [], harness := (true, "fda8d723c99205a616a719e840104a1e214bfa621fcce8c0bc2210fee27a5a68"), looks := true }, kinds := [], alts := [], laidByText := true, laidKinds := [.data, .data, .data, .data, .sentinel, .sentinel, .pinned], laidTests := true, laidLooks := .later }
def RouterRejectsUptoCardSaid : Prop := Claim7.holds Tryz.pinned (.plain (OpenSpec.upto routerRejectsSpec)) routerRejectsUptoCard
end Rows
end Go.Proofs.YthfchdkjeddijaaGreatDoor
