/-
  DERIVED. GIVEN WITH THE SEED: THE CARDS: each row of YtookihfheacdfaaGreatDoorRows.lean that lists a variable, with what it lists TIED to the program's text (the seventh form; the later family's looks); each row that meets fmt, with fmt's text TOLD by the authors' own Lean function (tested against real Go, not proved from fmt's source: count such statements apart). THE CARD IS WHAT COUNTS. Prove the row's statement (the work); the ties are given (YtookihfheacdfaaGreatDoorTie.lean); close each card by the builder's one call (the guide's Derived/Test/ToyasCard.lean, 'card_holds'). Laid BY PROGRAM, IN A SANDBOX (cutbox-door.mjs). By AI agents, Wed Nov 11 2026. No macro, syntax, notation, axiom, sorry.
-/
import Derived.Test.YtookihfheacdfaaGreatDoorRows
import GoSem.ClaimSeven
namespace Go.Proofs.YtookihfheacdfaaGreatDoor
namespace Rows

/-- THE TIED CARD OF 'manifoldlaw32.SplitterNumbers'. -/
def splitterNumbersCard : Claim7 := { stood := { row := splitterNumbersRow, standIns := [], harness := (true, "180cc68ebc3174b5169776faf403ed299143615812953b19adfa9f7ea65fc2db"), looks := true }, kinds := [], alts := [], laidByText := true, laidKinds := [.data, .data, .data, .data, .sentinel, .sentinel, .pinned], laidTests := true, laidLooks := .later }
def SplitterNumbersCardSaid : Prop := Claim7.holds Tryz.pinned (.plain (OpenSpec.ofChange splitterNumbersSpec)) splitterNumbersCard

/-- THE TIED CARD OF 'manifoldlaw32.SplitterJoins'. -/
def splitterJoinsCard : Claim7 := { stood := { row := splitterJoinsRow, standIns := [], harness := (true, "180cc68ebc3174b5169776faf403ed299143615812953b19adfa9f7ea65fc2db"), looks := true }, kinds := [], alts := [], laidByText := true, laidKinds := [.data, .data, .data, .data, .sentinel, .sentinel, .pinned], laidTests := true, laidLooks := .later }
def SplitterJoinsCardSaid : Prop := Claim7.holds Tryz.pinned (.plain (OpenSpec.ofChange splitterJoinsSpec)) splitterJoinsCard

/-- THE SECOND FORM's CARD OF 'manifoldlaw32.SplitterNumbers'. -/
def splitterNumbersUptoCard : Claim7 := { stood := { row := splitterNumbersUptoRow, standIns := [], harness := (true, "180cc68ebc3174b5169776faf403ed299143615812953b19adfa9f7ea65fc2db"), looks := true }, kinds := [], alts := [], laidByText := true, laidKinds := [.data, .data, .data, .data, .sentinel, .sentinel, .pinned], laidTests := true, laidLooks := .later }
def SplitterNumbersUptoCardSaid : Prop := Claim7.holds Tryz.pinned (.plain (OpenSpec.upto splitterNumbersSpec)) splitterNumbersUptoCard

/-- THE SECOND FORM's CARD OF 'manifoldlaw32.SplitterJoins'. -/
def splitterJoinsUptoCard : Claim7 := { stood := { row := splitterJoinsUptoRow, standIns := [], harness := (true, "180cc68ebc3174b5169776faf403ed299143615812953b19adfa9f7ea65fc2db"), looks := true }, kinds := [], alts := [], laidByText := true, laidKinds := [.data, .data, .data, .data, .sentinel, .sentinel, .pinned], laidTests := true, laidLooks := .later }
def SplitterJoinsUptoCardSaid : Prop := Claim7.holds Tryz.pinned (.plain (OpenSpec.upto splitterJoinsSpec)) splitterJoinsUptoCard
end Rows
end Go.Proofs.YtookihfheacdfaaGreatDoor
