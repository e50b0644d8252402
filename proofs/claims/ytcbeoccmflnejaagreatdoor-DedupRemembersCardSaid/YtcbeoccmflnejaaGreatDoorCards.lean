/-
  DERIVED. GIVEN WITH THE SEED: THE CARDS: each row of YtcbeoccmflnejaaGreatDoorRows.lean that lists a variable, with what it lists TIED to the program's text (the seventh form; the later family's looks); each row that meets fmt, with fmt's text TOLD by the authors' own Lean function (tested against real Go, not proved from fmt's source: count such statements apart). THE CARD IS WHAT COUNTS. Prove the row's statement (the work); the ties are given (YtcbeoccmflnejaaGreatDoorTie.lean); close each card by the builder's one call (the guide's Derived/Test/ToyasCard.lean, 'card_holds'). Laid BY PROGRAM, IN A SANDBOX (cutbox-door.mjs). By AI agents, Wed Nov 11 2026. No macro, syntax, notation, axiom, sorry.
-/
import Derived.Test.YtcbeoccmflnejaaGreatDoorRows
import GoSem.ClaimSeven
namespace Go.Proofs.YtcbeoccmflnejaaGreatDoor
namespace Rows

/-- THE TIED CARD OF 'manifoldlaw35.DedupSteps'. -/
def dedupStepsCard : Claim7 := { stood := { row := dedupStepsRow, standIns := [], harness := (true, "7dec813ea5a7da48e77a1b2854200b391007d9a1ecddbeea581343831613540c"), looks := true }, kinds := [], alts := [], laidByText := true, laidKinds := [.data, .data, .data, .data, .sentinel, .sentinel, .pinned], laidTests := true, laidLooks := .later }
def DedupStepsCardSaid : Prop := Claim7.holds Tryz.pinned (.plain (OpenSpec.ofChange dedupStepsSpec)) dedupStepsCard

/-- THE TIED CARD OF 'manifoldlaw35.DedupTwice'. -/
def dedupTwiceCard : Claim7 := { stood := { row := dedupTwiceRow, standIns := [], harness := (true, "7dec813ea5a7da48e77a1b2854200b391007d9a1ecddbeea581343831613540c"), looks := true }, kinds := [], alts := [], laidByText := true, laidKinds := [.data, .data, .data, .data, .sentinel, .sentinel, .pinned], laidTests := true, laidLooks := .later }
def DedupTwiceCardSaid : Prop := Claim7.holds Tryz.pinned (.plain (OpenSpec.ofChange dedupTwiceSpec)) dedupTwiceCard

/-- THE TIED CARD OF 'manifoldlaw35.DedupRemembers'. -/
def dedupRemembersCard : Claim7 := { stood := { row := dedupRemembersRow, standIns := [], harness := (true, "7dec813ea5a7da48e77a1b2854200b391007d9a1ecddbeea581343831613540c"), looks := true }, kinds := [], alts := [], laidByText := true, laidKinds := [.data, .data, .data, .data, .sentinel, .sentinel, .pinned], laidTests := true, laidLooks := .later }
def DedupRemembersCardSaid : Prop := Claim7.holds Tryz.pinned (.plain (OpenSpec.ofChange dedupRemembersSpec)) dedupRemembersCard

/-- THE SECOND FORM's CARD OF 'manifoldlaw35.DedupSteps'. -/
def dedupStepsUptoCard : Claim7 := { stood := { row := dedupStepsUptoRow, standIns := [], harness := (true, "7dec813ea5a7da48e77a1b2854200b391007d9a1ecddbeea581343831613540c"), looks := true }, kinds := [], alts := [], laidByText := true, laidKinds := [.data, .data, .data, .data, .sentinel, .sentinel, .pinned], laidTests := true, laidLooks := .later }
def DedupStepsUptoCardSaid : Prop := Claim7.holds Tryz.pinned (.plain (OpenSpec.upto dedupStepsSpec)) dedupStepsUptoCard

/-- THE SECOND FORM's CARD OF 'manifoldlaw35.DedupTwice'. -/
def dedupTwiceUptoCard : Claim7 := { stood := { row := dedupTwiceUptoRow, standIns := [], harness := (true, "7dec813ea5a7da48e77a1b2854200b391007d9a1ecddbeea581343831613540c"), looks := true }, kinds := [], alts := [], laidByText := true, laidKinds := [.data, .data, .data, .data, .sentinel, .sentinel, .pinned], laidTests := true, laidLooks := .later }
def DedupTwiceUptoCardSaid : Prop := Claim7.holds Tryz.pinned (.plain (OpenSpec.upto dedupTwiceSpec)) dedupTwiceUptoCard

/-- THE SECOND FORM's CARD OF 'manifoldlaw35.DedupRemembers'. -/
def dedupRemembersUptoCard : Claim7 := { stood := { row := dedupRemembersUptoRow, standIns := [], harness := (true, "7dec813ea5a7da48e77a1b2854200b391007d9a1ecddbeea581343831613540c"), looks := true }, kinds := [], alts := [], laidByText := true, laidKinds := [.data, .data, .data, .data, .sentinel, .sentinel, .pinned], laidTests := true, laidLooks := .later }
def DedupRemembersUptoCardSaid : Prop := Claim7.holds Tryz.pinned (.plain (OpenSpec.upto dedupRemembersSpec)) dedupRemembersUptoCard
end Rows
end Go.Proofs.YtcbeoccmflnejaaGreatDoor
