/-
  DERIVED. GIVEN WITH THE SEED: THE CARDS: each row of YtejenmhcebfnlaaGreatDoorRows.lean that lists a variable, with what it lists TIED to the program's text (the seventh form; the later family's looks); each row that meets fmt, with fmt's text TOLD by the authors' own Lean function (tested against real Go, not proved from fmt's source: count such statements apart). THE CARD IS WHAT COUNTS. Prove the row's statement (the work); the ties are given (YtejenmhcebfnlaaGreatDoorTie.lean); close each card by the builder's one call (the guide's Derived/Test/ToyasCard.lean, 'card_holds'). Laid BY PROGRAM, IN A SANDBOX (cutbox-door.mjs). By AI agents, Wed Nov 11 2026. No macro, syntax, notation, axiom, sorry.
-/
import Derived.Test.YtejenmhcebfnlaaGreatDoorRows
import GoSem.ClaimSeven
namespace Go.Proofs.YtejenmhcebfnlaaGreatDoor
namespace Rows

/-- THE TIED CARD OF 'manifoldlaw34.ResequencerCompletes'. -/
def resequencerCompletesCard : Claim7 := { stood := { row := resequencerCompletesRow, standIns := [], harness := (true, "80e9f21b2d7a6d9917fae1704bf97cd187927164268aec5fb921e20ad914bc2e"), looks := true }, kinds := [], alts := [], laidByText := true, laidKinds := [.data, .data, .data, .data, .sentinel, .sentinel, .pinned], laidTests := true, laidLooks := .later }
def ResequencerCompletesCardSaid : Prop := Claim7.holds Tryz.pinned (.plain (OpenSpec.ofChange resequencerCompletesSpec)) resequencerCompletesCard

/-- THE SECOND FORM's CARD OF 'manifoldlaw34.ResequencerCompletes'. -/
def resequencerCompletesUptoCard : Claim7 := { stood := { row := resequencerCompletesUptoRow, standIns := [], harness := (true, "80e9f21b2d7a6d9917fae1704bf97cd187927164268aec5fb921e20ad914bc2e"), looks := true }, kinds := [], alts := [], laidByText := true, laidKinds := [.data, .data, .data, .data, .sentinel, .sentinel, .pinned], laidTests := true, laidLooks := .later }
def ResequencerCompletesUptoCardSaid : Prop := Claim7.holds Tryz.pinned (.plain (OpenSpec.upto resequencerCompletesSpec)) resequencerCompletesUptoCard
end Rows
end Go.Proofs.YtejenmhcebfnlaaGreatDoor
