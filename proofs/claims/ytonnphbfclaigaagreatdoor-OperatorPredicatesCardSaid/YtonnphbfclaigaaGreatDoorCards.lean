/-
  DERIVED. GIVEN WITH THE SEED: THE CARDS: each row of YtonnphbfclaigaaGreatDoorRows.lean that lists a variable, with what it lists TIED to the program's text (the seventh form; the later family's looks); each row that meets fmt, with fmt's text TOLD by the authors' own Lean function (tested against real Go, not proved from fmt's source: count such statements apart). THE CARD IS WHAT COUNTS. Prove the row's statement (the work); the ties are given (YtonnphbfclaigaaGreatDoorTie.lean); close each card by the builder's one call (the guide's Derived/Test/ToyasCard.lean, 'card_holds'). Laid BY PROGRAM, IN A SANDBOX (cutbox-door.mjs). By AI agents, Wed Nov 11 2026. No macro, syntax, notation, axiom, sorry.
-/
import Derived.Test.YtonnphbfclaigaaGreatDoorRows
import GoSem.ClaimSeven
namespace Go.Proofs.YtonnphbfclaigaaGreatDoor
namespace Rows

/-- THE TIED CARD OF 'manifoldlaw39.OperatorPredicates'. -/
def operatorPredicatesCard : Claim7 := { stood := { row := operatorPredicatesRow, standIns := [], harness := (true, "a75ad6bf4a49d30b3450983d732040967430057036402e2daa271303e339b221"), looks := true }, kinds := [], alts := [], laidByText := true, laidKinds := [.data, .data, .data, .data, .sentinel, .sentinel, .pinned], laidTests := true, laidLooks := .later }
def OperatorPredicatesCardSaid : Prop := Claim7.holds Tryz.pinned (.plain (OpenSpec.ofChange operatorPredicatesSpec)) operatorPredicatesCard

/-- THE TIED CARD OF 'manifoldlaw39.OperatorChecks'. -/
def operatorChecksCard : Claim7 := { stood := { row := operatorChecksRow, standIns := [], harness := (true, "a75ad6bf4a49d30b3450983d732040967430057036402e2daa271303e339b221"), looks := true }, kinds := [], alts := [], laidByText := true, laidKinds := [.data, .data, .data, .data, .sentinel, .sentinel, .pinned], laidTests := true, laidLooks := .later }
def OperatorChecksCardSaid : Prop := Claim7.holds Tryz.pinned (.plain (OpenSpec.ofChange operatorChecksSpec)) operatorChecksCard

/-- THE TIED CARD OF 'manifoldlaw39.OperatorWaits'. -/
def operatorWaitsCard : Claim7 := { stood := { row := operatorWaitsRow, standIns := [], harness := (true, "a75ad6bf4a49d30b3450983d732040967430057036402e2daa271303e339b221"), looks := true }, kinds := [], alts := [], laidByText := true, laidKinds := [.data, .data, .data, .data, .sentinel, .sentinel, .pinned], laidTests := true, laidLooks := .later }
def OperatorWaitsCardSaid : Prop := Claim7.holds Tryz.pinned (.plain (OpenSpec.ofChange operatorWaitsSpec)) operatorWaitsCard

/-- THE TIED CARD OF 'manifoldlaw39.OperatorNodes'. -/
def operatorNodesCard : Claim7 := { stood := { row := operatorNodesRow, standIns := [], harness := (true, "a75ad6bf4a49d30b3450983d732040967430057036402e2daa271303e339b221"), looks := true }, kinds := [], alts := [], laidByText := true, laidKinds := [.data, .data, .data, .data, .sentinel, .sentinel, .pinned], laidTests := true, laidLooks := .later }
def OperatorNodesCardSaid : Prop := Claim7.holds Tryz.pinned (.plain (OpenSpec.ofChange operatorNodesSpec)) operatorNodesCard

/-- THE TIED CARD OF 'manifoldlaw39.OperatorEquals'. -/
def operatorEqualsCard : Claim7 := { stood := { row := operatorEqualsRow, standIns := [], harness := (true, "a75ad6bf4a49d30b3450983d732040967430057036402e2daa271303e339b221"), looks := true }, kinds := [], alts := [], laidByText := true, laidKinds := [.data, .data, .data, .data, .sentinel, .sentinel, .pinned], laidTests := true, laidLooks := .later }
def OperatorEqualsCardSaid : Prop := Claim7.holds Tryz.pinned (.plain (OpenSpec.ofChange operatorEqualsSpec)) operatorEqualsCard

/-- THE SECOND FORM's CARD OF 'manifoldlaw39.OperatorPredicates'. -/
def operatorPredicatesUptoCard : Claim7 := { stood := { row := operatorPredicatesUptoRow, standIns := [], harness := (true, "a75ad6bf4a49d30b3450983d732040967430057036402e2daa271303e339b221"), looks := true }, kinds := [], alts := [], laidByText := true, laidKinds := [.data, .data, .data, .data, .sentinel, .sentinel, .pinned], laidTests := true, laidLooks := .later }
def OperatorPredicatesUptoCardSaid : Prop := Claim7.holds Tryz.pinned (.plain (OpenSpec.upto operatorPredicatesSpec)) operatorPredicatesUptoCard

/-- THE SECOND FORM's CARD OF 'manifoldlaw39.OperatorChecks'. -/
def operatorChecksUptoCard : Claim7 := { stood := { row := operatorChecksUptoRow, standIns := [], harness := (true, "a75ad6bf4a49d30b3450983d732040967430057036402e2daa271303e339b221"), looks := true }, kinds := [], alts := [], laidByText := true, laidKinds := [.data, .data, .data, .data, .sentinel, .sentinel, .pinned], laidTests := true, laidLooks := .later }
def OperatorChecksUptoCardSaid : Prop := Claim7.holds Tryz.pinned (.plain (OpenSpec.upto operatorChecksSpec)) operatorChecksUptoCard

/-- THE SECOND FORM's CARD OF 'manifoldlaw39.OperatorWaits'. -/
def operatorWaitsUptoCard : Claim7 := { stood := { row := operatorWaitsUptoRow, standIns := [], harness := (true, "a75ad6bf4a49d30b3450983d732040967430057036402e2daa271303e339b221"), looks := true }, kinds := [], alts := [], laidByText := true, laidKinds := [.data, .data, .data, .data, .sentinel, .sentinel, .pinned], laidTests := true, laidLooks := .later }
def OperatorWaitsUptoCardSaid : Prop := Claim7.holds Tryz.pinned (.plain (OpenSpec.upto operatorWaitsSpec)) operatorWaitsUptoCard

/-- THE SECOND FORM's CARD OF 'manifoldlaw39.OperatorNodes'. -/
def operatorNodesUptoCard : Claim7 := { stood := { row := operatorNodesUptoRow, standIns := [], harness := (true, "a75ad6bf4a49d30b3450983d732040967430057036402e2daa271303e339b221"), looks := true }, kinds := [], alts := [], laidByText := true, laidKinds := [.data, .data, .data, .data, .sentinel, .sentinel, .pinned], laidTests := true, laidLooks := .later }
def OperatorNodesUptoCardSaid : Prop := Claim7.holds Tryz.pinned (.plain (OpenSpec.upto operatorNodesSpec)) operatorNodesUptoCard

/-- THE SECOND FORM's CARD OF 'manifoldlaw39.OperatorEquals'. -/
def operatorEqualsUptoCard : Claim7 := { stood := { row := operatorEqualsUptoRow, standIns := [], harness := (true, "a75ad6bf4a49d30b3450983d732040967430057036402e2daa271303e339b221"), looks := true }, kinds := [], alts := [], laidByText := true, laidKinds := [.data, .data, .data, .data, .sentinel, .sentinel, .pinned], laidTests := true, laidLooks := .later }
def OperatorEqualsUptoCardSaid : Prop := Claim7.holds Tryz.pinned (.plain (OpenSpec.upto operatorEqualsSpec)) operatorEqualsUptoCard
end Rows
end Go.Proofs.YtonnphbfclaigaaGreatDoor
