/-
  DERIVED. GIVEN WITH THE SEED: THE CARDS: each row of YtkeefpkcepodeaaGreatDoorRows.lean that lists a variable, with what it lists TIED to the program's text (the seventh form; the later family's looks); each row that meets fmt, with fmt's text TOLD by the authors' own Lean function (tested against real Go, not proved from fmt's source: count such statements apart). THE CARD IS WHAT COUNTS. Prove the row's statement (the work); the ties are given (YtkeefpkcepodeaaGreatDoorTie.lean); close each card by the builder's one call (the guide's Derived/Test/ToyasCard.lean, 'card_holds'). Laid BY PROGRAM, IN A SANDBOX (cutbox-door.mjs). By AI agents, Wed Nov 11 2026. No macro, syntax, notation, axiom, sorry.
-/
import Derived.Test.YtkeefpkcepodeaaGreatDoorRows
import GoSem.ClaimSeven
namespace Go.Proofs.YtkeefpkcepodeaaGreatDoor
namespace Rows

/-- THE TIED CARD OF 'manifoldlaw32.SplitterBalances'. -/
def splitterBalancesCard : Claim7 := { stood := { row := splitterBalancesRow, standIns := [], harness := (true, "cbfbdc4360f13d412791799acfbcc3614734168f19f275bebb885638edaa5ae9"), looks := true }, kinds := [], alts := [], laidByText := true, laidKinds := [.data, .data, .data, .data, .sentinel, .sentinel, .pinned], laidTests := true, laidLooks := .later }
def SplitterBalancesCardSaid : Prop := Claim7.holds Tryz.pinned (.plain (OpenSpec.ofChange splitterBalancesSpec)) splitterBalancesCard

/-- THE TIED CARD OF 'manifoldlaw32.SplitterStamps'. -/
def splitterStampsCard : Claim7 := { stood := { row := splitterStampsRow, standIns := [], harness := (true, "cbfbdc4360f13d412791799acfbcc3614734168f19f275bebb885638edaa5ae9"), looks := true }, kinds := [], alts := [], laidByText := true, laidKinds := [.data, .data, .data, .data, .sentinel, .sentinel, .pinned], laidTests := true, laidLooks := .later }
def SplitterStampsCardSaid : Prop := Claim7.holds Tryz.pinned (.plain (OpenSpec.ofChange splitterStampsSpec)) splitterStampsCard

/-- THE TIED CARD OF 'manifoldlaw32.SplitterElements'. -/
def splitterElementsCard : Claim7 := { stood := { row := splitterElementsRow, standIns := [], harness := (true, "cbfbdc4360f13d412791799acfbcc3614734168f19f275bebb885638edaa5ae9"), looks := true }, kinds := [], alts := [], laidByText := true, laidKinds := [.data, .data, .data, .data, .sentinel, .sentinel, .pinned], laidTests := true, laidLooks := .later }
def SplitterElementsCardSaid : Prop := Claim7.holds Tryz.pinned (.plain (OpenSpec.ofChange splitterElementsSpec)) splitterElementsCard

/-- THE TIED CARD OF 'manifoldlaw32.SplitterKeeps'. -/
def splitterKeepsCard : Claim7 := { stood := { row := splitterKeepsRow, standIns := [], harness := (true, "cbfbdc4360f13d412791799acfbcc3614734168f19f275bebb885638edaa5ae9"), looks := true }, kinds := [], alts := [], laidByText := true, laidKinds := [.data, .data, .data, .data, .sentinel, .sentinel, .pinned], laidTests := true, laidLooks := .later }
def SplitterKeepsCardSaid : Prop := Claim7.holds Tryz.pinned (.plain (OpenSpec.ofChange splitterKeepsSpec)) splitterKeepsCard

/-- THE TIED CARD OF 'manifoldlaw32.SplitterSteps'. -/
def splitterStepsCard : Claim7 := { stood := { row := splitterStepsRow, standIns := [], harness := (true, "cbfbdc4360f13d412791799acfbcc3614734168f19f275bebb885638edaa5ae9"), looks := true }, kinds := [], alts := [], laidByText := true, laidKinds := [.data, .data, .data, .data, .sentinel, .sentinel, .pinned], laidTests := true, laidLooks := .later }
def SplitterStepsCardSaid : Prop := Claim7.holds Tryz.pinned (.plain (OpenSpec.ofChange splitterStepsSpec)) splitterStepsCard

/-- THE SECOND FORM's CARD OF 'manifoldlaw32.SplitterBalances'. -/
def splitterBalancesUptoCard : Claim7 := { stood := { row := splitterBalancesUptoRow, standIns := [], harness := (true, "cbfbdc4360f13d412791799acfbcc3614734168f19f275bebb885638edaa5ae9"), looks := true }, kinds := [], alts := [], laidByText := true, laidKinds := [.data, .data, .data, .data, .sentinel, .sentinel, .pinned], laidTests := true, laidLooks := .later }
def SplitterBalancesUptoCardSaid : Prop := Claim7.holds Tryz.pinned (.plain (OpenSpec.upto splitterBalancesSpec)) splitterBalancesUptoCard

/-- THE SECOND FORM's CARD OF 'manifoldlaw32.SplitterStamps'. -/
def splitterStampsUptoCard : Claim7 := { stood := { row := splitterStampsUptoRow, standIns := [], harness := (true, "cbfbdc4360f13d412791799acfbcc3614734168f19f275bebb885638edaa5ae9"), looks := true }, kinds := [], alts := [], laidByText := true, laidKinds := [.data, .data, .data, .data, .sentinel, .sentinel, .pinned], laidTests := true, laidLooks := .later }
def SplitterStampsUptoCardSaid : Prop := Claim7.holds Tryz.pinned (.plain (OpenSpec.upto splitterStampsSpec)) splitterStampsUptoCard

/-- THE SECOND FORM's CARD OF 'manifoldlaw32.SplitterElements'. -/
def splitterElementsUptoCard : Claim7 := { stood := { row := splitterElementsUptoRow, standIns := [], harness := (true, "cbfbdc4360f13d412791799acfbcc3614734168f19f275bebb885638edaa5ae9"), looks := true }, kinds := [], alts := [], laidByText := true, laidKinds := [.data, .data, .data, .data, .sentinel, .sentinel, .pinned], laidTests := true, laidLooks := .later }
def SplitterElementsUptoCardSaid : Prop := Claim7.holds Tryz.pinned (.plain (OpenSpec.upto splitterElementsSpec)) splitterElementsUptoCard

/-- THE SECOND FORM's CARD OF 'manifoldlaw32.SplitterKeeps'. -/
def splitterKeepsUptoCard : Claim7 := { stood := { row := splitterKeepsUptoRow, standIns := [], harness := (true, "cbfbdc4360f13d412791799acfbcc3614734168f19f275bebb885638edaa5ae9"), looks := true }, kinds := [], alts := [], laidByText := true, laidKinds := [.data, .data, .data, .data, .sentinel, .sentinel, .pinned], laidTests := true, laidLooks := .later }
def SplitterKeepsUptoCardSaid : Prop := Claim7.holds Tryz.pinned (.plain (OpenSpec.upto splitterKeepsSpec)) splitterKeepsUptoCard

/-- THE SECOND FORM's CARD OF 'manifoldlaw32.SplitterSteps'. -/
def splitterStepsUptoCard : Claim7 := { stood := { row := splitterStepsUptoRow, standIns := [], harness := (true, "cbfbdc4360f13d412791799acfbcc3614734168f19f275bebb885638edaa5ae9"), looks := true }, kinds := [], alts := [], laidByText := true, laidKinds := [.data, .data, .data, .data, .sentinel, .sentinel, .pinned], laidTests := true, laidLooks := .later }
def SplitterStepsUptoCardSaid : Prop := Claim7.holds Tryz.pinned (.plain (OpenSpec.upto splitterStepsSpec)) splitterStepsUptoCard
end Rows
end Go.Proofs.YtkeefpkcepodeaaGreatDoor
