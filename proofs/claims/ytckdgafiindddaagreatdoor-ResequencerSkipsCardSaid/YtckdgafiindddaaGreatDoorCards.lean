/-
  DERIVED. GIVEN WITH THE SEED: THE CARDS: each row of YtckdgafiindddaaGreatDoorRows.lean that lists a variable, with what it lists TIED to the program's text (the seventh form; the later family's looks); each row that meets fmt, with fmt's text TOLD by the authors' own Lean function (tested against real Go, not proved from fmt's source: count such statements apart). THE CARD IS WHAT COUNTS. Prove the row's statement (the work); the ties are given (YtckdgafiindddaaGreatDoorTie.lean); close each card by the builder's one call (the guide's Derived/Test/ToyasCard.lean, 'card_holds'). Laid BY PROGRAM, IN A SANDBOX (cutbox-door.mjs). By AI agents, Wed Nov 11 2026. No macro, syntax, notation, axiom, sorry.
-/
import Derived.Test.YtckdgafiindddaaGreatDoorRows
import GoSem.ClaimSeven
namespace Go.Proofs.YtckdgafiindddaaGreatDoor
namespace Rows

/-- THE TIED CARD OF 'manifoldlaw34.ResequencerOrders'. -/
def resequencerOrdersCard : Claim7 := { stood := { row := resequencerOrdersRow, standIns := [], harness := (true, "5137f3551b1c4a9c79fdd57f10f0ba5c9da7cb1eacc1cb82495b3c1407e76844"), looks := true }, kinds := [], alts := [], laidByText := true, laidKinds := [.data, .data, .data, .data, .sentinel, .sentinel, .pinned], laidTests := true, laidLooks := .later }
def ResequencerOrdersCardSaid : Prop := Claim7.holds Tryz.pinned (.plain (OpenSpec.ofChange resequencerOrdersSpec)) resequencerOrdersCard

/-- THE TIED CARD OF 'manifoldlaw34.ResequencerGroups'. -/
def resequencerGroupsCard : Claim7 := { stood := { row := resequencerGroupsRow, standIns := [], harness := (true, "5137f3551b1c4a9c79fdd57f10f0ba5c9da7cb1eacc1cb82495b3c1407e76844"), looks := true }, kinds := [], alts := [], laidByText := true, laidKinds := [.data, .data, .data, .data, .sentinel, .sentinel, .pinned], laidTests := true, laidLooks := .later }
def ResequencerGroupsCardSaid : Prop := Claim7.holds Tryz.pinned (.plain (OpenSpec.ofChange resequencerGroupsSpec)) resequencerGroupsCard

/-- THE TIED CARD OF 'manifoldlaw34.ResequencerSkips'. -/
def resequencerSkipsCard : Claim7 := { stood := { row := resequencerSkipsRow, standIns := [], harness := (true, "5137f3551b1c4a9c79fdd57f10f0ba5c9da7cb1eacc1cb82495b3c1407e76844"), looks := true }, kinds := [], alts := [], laidByText := true, laidKinds := [.data, .data, .data, .data, .sentinel, .sentinel, .pinned], laidTests := true, laidLooks := .later }
def ResequencerSkipsCardSaid : Prop := Claim7.holds Tryz.pinned (.plain (OpenSpec.ofChange resequencerSkipsSpec)) resequencerSkipsCard

/-- THE SECOND FORM's CARD OF 'manifoldlaw34.ResequencerOrders'. -/
def resequencerOrdersUptoCard : Claim7 := { stood := { row := resequencerOrdersUptoRow, standIns := [], harness := (true, "5137f3551b1c4a9c79fdd57f10f0ba5c9da7cb1eacc1cb82495b3c1407e76844"), looks := true }, kinds := [], alts := [], laidByText := true, laidKinds := [.data, .data, .data, .data, .sentinel, .sentinel, .pinned], laidTests := true, laidLooks := .later }
def ResequencerOrdersUptoCardSaid : Prop := Claim7.holds Tryz.pinned (.plain (OpenSpec.upto resequencerOrdersSpec)) resequencerOrdersUptoCard

/-- THE SECOND FORM's CARD OF 'manifoldlaw34.ResequencerGroups'. -/
def resequencerGroupsUptoCard : Claim7 := { stood := { row := resequencerGroupsUptoRow, standIns := [], harness := (true, "5137f3551b1c4a9c79fdd57f10f0ba5c9da7cb1eacc1cb82495b3c1407e76844"), looks := true }, kinds := [], alts := [], laidByText := true, laidKinds := [.data, .data, .data, .data, .sentinel, .sentinel, .pinned], laidTests := true, laidLooks := .later }
def ResequencerGroupsUptoCardSaid : Prop := Claim7.holds Tryz.pinned (.plain (OpenSpec.upto resequencerGroupsSpec)) resequencerGroupsUptoCard

/-- THE SECOND FORM's CARD OF 'manifoldlaw34.ResequencerSkips'. -/
def resequencerSkipsUptoCard : Claim7 := { stood := { row := resequencerSkipsUptoRow, standIns := [], harness := (true, "5137f3551b1c4a9c79fdd57f10f0ba5c9da7cb1eacc1cb82495b3c1407e76844"), looks := true }, kinds := [], alts := [], laidByText := true, laidKinds := [.data, .data, .data, .data, .sentinel, .sentinel, .pinned], laidTests := true, laidLooks := .later }
def ResequencerSkipsUptoCardSaid : Prop := Claim7.holds Tryz.pinned (.plain (OpenSpec.upto resequencerSkipsSpec)) resequencerSkipsUptoCard
end Rows
end Go.Proofs.YtckdgafiindddaaGreatDoor
