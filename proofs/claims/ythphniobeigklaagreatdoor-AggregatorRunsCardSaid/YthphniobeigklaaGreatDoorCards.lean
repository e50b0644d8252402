/-
  DERIVED. GIVEN WITH THE SEED: THE CARDS: each row of YthphniobeigklaaGreatDoorRows.lean that lists a variable, with what it lists TIED to the program's text (the seventh form; the later family's looks); each row that meets fmt, with fmt's text TOLD by the authors' own Lean function (tested against real Go, not proved from fmt's source: count such statements apart). THE CARD IS WHAT COUNTS. Prove the row's statement (the work); the ties are given (YthphniobeigklaaGreatDoorTie.lean); close each card by the builder's one call (the guide's Derived/Test/ToyasCard.lean, 'card_holds'). Laid BY PROGRAM, IN A SANDBOX (cutbox-door.mjs). By AI agents, Wed Nov 11 2026. No macro, syntax, notation, axiom, sorry.
-/
import Derived.Test.YthphniobeigklaaGreatDoorRows
import GoSem.ClaimSeven
namespace Go.Proofs.YthphniobeigklaaGreatDoor
namespace Rows

/-- THE TIED CARD OF 'manifoldlaw33.AggregatorCounts'. -/
def aggregatorCountsCard : Claim7 := { stood := { row := aggregatorCountsRow, standIns := [], harness := (true, "e15099fc63cc0bc118a020bcfff1e703ab89f15ffb4a8b79179d5edd75f9483d"), looks := true }, kinds := [], alts := [], laidByText := true, laidKinds := [.data, .data, .data, .data, .sentinel, .sentinel, .pinned], laidTests := true, laidLooks := .later }
def AggregatorCountsCardSaid : Prop := Claim7.holds Tryz.pinned (.plain (OpenSpec.ofChange aggregatorCountsSpec)) aggregatorCountsCard

/-- THE TIED CARD OF 'manifoldlaw33.AggregatorKeys'. -/
def aggregatorKeysCard : Claim7 := { stood := { row := aggregatorKeysRow, standIns := [], harness := (true, "e15099fc63cc0bc118a020bcfff1e703ab89f15ffb4a8b79179d5edd75f9483d"), looks := true }, kinds := [], alts := [], laidByText := true, laidKinds := [.data, .data, .data, .data, .sentinel, .sentinel, .pinned], laidTests := true, laidLooks := .later }
def AggregatorKeysCardSaid : Prop := Claim7.holds Tryz.pinned (.plain (OpenSpec.ofChange aggregatorKeysSpec)) aggregatorKeysCard

/-- THE TIED CARD OF 'manifoldlaw33.AggregatorCompletes'. -/
def aggregatorCompletesCard : Claim7 := { stood := { row := aggregatorCompletesRow, standIns := [], harness := (true, "e15099fc63cc0bc118a020bcfff1e703ab89f15ffb4a8b79179d5edd75f9483d"), looks := true }, kinds := [], alts := [], laidByText := true, laidKinds := [.data, .data, .data, .data, .sentinel, .sentinel, .pinned], laidTests := true, laidLooks := .later }
def AggregatorCompletesCardSaid : Prop := Claim7.holds Tryz.pinned (.plain (OpenSpec.ofChange aggregatorCompletesSpec)) aggregatorCompletesCard

/-- THE TIED CARD OF 'manifoldlaw33.AggregatorOnce'. -/
def aggregatorOnceCard : Claim7 := { stood := { row := aggregatorOnceRow, standIns := [], harness := (true, "e15099fc63cc0bc118a020bcfff1e703ab89f15ffb4a8b79179d5edd75f9483d"), looks := true }, kinds := [], alts := [], laidByText := true, laidKinds := [.data, .data, .data, .data, .sentinel, .sentinel, .pinned], laidTests := true, laidLooks := .later }
def AggregatorOnceCardSaid : Prop := Claim7.holds Tryz.pinned (.plain (OpenSpec.ofChange aggregatorOnceSpec)) aggregatorOnceCard

/-- THE TIED CARD OF 'manifoldlaw33.AggregatorBalances'. -/
def aggregatorBalancesCard : Claim7 := { stood := { row := aggregatorBalancesRow, standIns := [], harness := (true, "e15099fc63cc0bc118a020bcfff1e703ab89f15ffb4a8b79179d5edd75f9483d"), looks := true }, kinds := [], alts := [], laidByText := true, laidKinds := [.data, .data, .data, .data, .sentinel, .sentinel, .pinned], laidTests := true, laidLooks := .later }
def AggregatorBalancesCardSaid : Prop := Claim7.holds Tryz.pinned (.plain (OpenSpec.ofChange aggregatorBalancesSpec)) aggregatorBalancesCard

/-- THE TIED CARD OF 'manifoldlaw33.AggregatorFull'. -/
def aggregatorFullCard : Claim7 := { stood := { row := aggregatorFullRow, standIns := [], harness := (true, "e15099fc63cc0bc118a020bcfff1e703ab89f15ffb4a8b79179d5edd75f9483d"), looks := true }, kinds := [], alts := [], laidByText := true, laidKinds := [.data, .data, .data, .data, .sentinel, .sentinel, .pinned], laidTests := true, laidLooks := .later }
def AggregatorFullCardSaid : Prop := Claim7.holds Tryz.pinned (.plain (OpenSpec.ofChange aggregatorFullSpec)) aggregatorFullCard

/-- THE TIED CARD OF 'manifoldlaw33.AggregatorRuns'. -/
def aggregatorRunsCard : Claim7 := { stood := { row := aggregatorRunsRow, standIns := [], harness := (true, "e15099fc63cc0bc118a020bcfff1e703ab89f15ffb4a8b79179d5edd75f9483d"), looks := true }, kinds := [], alts := [], laidByText := true, laidKinds := [.data, .data, .data, .data, .sentinel, .sentinel, .pinned], laidTests := true, laidLooks := .later }
def AggregatorRunsCardSaid : Prop := Claim7.holds Tryz.pinned (.plain (OpenSpec.ofChange aggregatorRunsSpec)) aggregatorRunsCard

/-- THE TIED CARD OF 'manifoldlaw33.AggregatorStates'. -/
def aggregatorStatesCard : Claim7 := { stood := { row := aggregatorStatesRow, standIns := [], harness := (true, "e15099fc63cc0bc118a020bcfff1e703ab89f15ffb4a8b79179d5edd75f9483d"), looks := true }, kinds := [], alts := [], laidByText := true, laidKinds := [.data, .data, .data, .data, .sentinel, .sentinel, .pinned], laidTests := true, laidLooks := .later }
def AggregatorStatesCardSaid : Prop := Claim7.holds Tryz.pinned (.plain (OpenSpec.ofChange aggregatorStatesSpec)) aggregatorStatesCard

/-- THE SECOND FORM's CARD OF 'manifoldlaw33.AggregatorCounts'. -/
def aggregatorCountsUptoCard : Claim7 := { stood := { row := aggregatorCountsUptoRow, standIns := [], harness := (true, "e15099fc63cc0bc118a020bcfff1e703ab89f15ffb4a8b79179d5edd75f9483d"), looks := true }, kinds := [], alts := [], laidByText := true, laidKinds := [.data, .data, .data, .data, .sentinel, .sentinel, .pinned], laidTests := true, laidLooks := .later }
def AggregatorCountsUptoCardSaid : Prop := Claim7.holds Tryz.pinned (.plain (OpenSpec.upto aggregatorCountsSpec)) aggregatorCountsUptoCard

/-- THE SECOND FORM's CARD OF 'manifoldlaw33.AggregatorKeys'. -/
def aggregatorKeysUptoCard : Claim7 := { stood := { row := aggregatorKeysUptoRow, standIns := [], harness := (true, "e15099fc63cc0bc118a020bcfff1e703ab89f15ffb4a8b79179d5edd75f9483d"), looks := true }, kinds := [], alts := [], laidByText := true, laidKinds := [.data, .data, .data, .data, .sentinel, .sentinel, .pinned], laidTests := true, laidLooks := .later }
def AggregatorKeysUptoCardSaid : Prop := Claim7.holds Tryz.pinned (.plain (OpenSpec.upto aggregatorKeysSpec)) aggregatorKeysUptoCard

/-- THE SECOND FORM's CARD OF 'manifoldlaw33.AggregatorCompletes'. -/
def aggregatorCompletesUptoCard : Claim7 := { stood := { row := aggregatorCompletesUptoRow, standIns := [], harness := (true, "e15099fc63cc0bc118a020bcfff1e703ab89f15ffb4a8b79179d5edd75f9483d"), looks := true }, kinds := [], alts := [], laidByText := true, laidKinds := [.data, .data, .data, .data, .sentinel, .sentinel, .pinned], laidTests := true, laidLooks := .later }
def AggregatorCompletesUptoCardSaid : Prop := Claim7.holds Tryz.pinned (.plain (OpenSpec.upto aggregatorCompletesSpec)) aggregatorCompletesUptoCard

/-- THE SECOND FORM's CARD OF 'manifoldlaw33.AggregatorOnce'. -/
def aggregatorOnceUptoCard : Claim7 := { stood := { row := aggregatorOnceUptoRow, standIns := [], harness := (true, "e15099fc63cc0bc118a020bcfff1e703ab89f15ffb4a8b79179d5edd75f9483d"), looks := true }, kinds := [], alts := [], laidByText := true, laidKinds := [.data, .data, .data, .data, .sentinel, .sentinel, .pinned], laidTests := true, laidLooks := .later }
def AggregatorOnceUptoCardSaid : Prop := Claim7.holds Tryz.pinned (.plain (OpenSpec.upto aggregatorOnceSpec)) aggregatorOnceUptoCard

/-- THE SECOND FORM's CARD OF 'manifoldlaw33.AggregatorBalances'. -/
def aggregatorBalancesUptoCard : Claim7 := { stood := { row := aggregatorBalancesUptoRow, standIns := [], harness := (true, "e15099fc63cc0bc118a020bcfff1e703ab89f15ffb4a8b79179d5edd75f9483d"), looks := true }, kinds := [], alts := [], laidByText := true, laidKinds := [.data, .data, .data, .data, .sentinel, .sentinel, .pinned], laidTests := true, laidLooks := .later }
def AggregatorBalancesUptoCardSaid : Prop := Claim7.holds Tryz.pinned (.plain (OpenSpec.upto aggregatorBalancesSpec)) aggregatorBalancesUptoCard

/-- THE SECOND FORM's CARD OF 'manifoldlaw33.AggregatorFull'. -/
def aggregatorFullUptoCard : Claim7 := { stood := { row := aggregatorFullUptoRow, standIns := [], harness := (true, "e15099fc63cc0bc118a020bcfff1e703ab89f15ffb4a8b79179d5edd75f9483d"), looks := true }, kinds := [], alts := [], laidByText := true, laidKinds := [.data, .data, .data, .data, .sentinel, .sentinel, .pinned], laidTests := true, laidLooks := .later }
def AggregatorFullUptoCardSaid : Prop := Claim7.holds Tryz.pinned (.plain (OpenSpec.upto aggregatorFullSpec)) aggregatorFullUptoCard

/-- THE SECOND FORM's CARD OF 'manifoldlaw33.AggregatorRuns'. -/
def aggregatorRunsUptoCard : Claim7 := { stood := { row := aggregatorRunsUptoRow, standIns := [], harness := (true, "e15099fc63cc0bc118a020bcfff1e703ab89f15ffb4a8b79179d5edd75f9483d"), looks := true }, kinds := [], alts := [], laidByText := true, laidKinds := [.data, .data, .data, .data, .sentinel, .sentinel, .pinned], laidTests := true, laidLooks := .later }
def AggregatorRunsUptoCardSaid : Prop := Claim7.holds Tryz.pinned (.plain (OpenSpec.upto aggregatorRunsSpec)) aggregatorRunsUptoCard

/-- THE SECOND FORM's CARD OF 'manifoldlaw33.AggregatorStates'. -/
def aggregatorStatesUptoCard : Claim7 := { stood := { row := aggregatorStatesUptoRow, standIns := [], harness := (true, "e15099fc63cc0bc118a020bcfff1e703ab89f15ffb4a8b79179d5edd75f9483d"), looks := true }, kinds := [], alts := [], laidByText := true, laidKinds := [.data, .data, .data, .data, .sentinel, .sentinel, .pinned], laidTests := true, laidLooks := .later }
def AggregatorStatesUptoCardSaid : Prop := Claim7.holds Tryz.pinned (.plain (OpenSpec.upto aggregatorStatesSpec)) aggregatorStatesUptoCard
end Rows
end Go.Proofs.YthphniobeigklaaGreatDoor
