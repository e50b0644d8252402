/-
  DERIVED. GIVEN WITH THE SEED: THE CARDS: each row of YtbfnfldmnombgaaGreatDoorRows.lean that lists a variable, with what it lists TIED to the program's text (the seventh form; the later family's looks); each row that meets fmt, with fmt's text TOLD by the authors' own Lean function (tested against real Go, not proved from fmt's source: count such statements apart). THE CARD IS WHAT COUNTS. Prove the row's statement (the work); the ties are given (YtbfnfldmnombgaaGreatDoorTie.lean); close each card by the builder's one call (the guide's Derived/Test/ToyasCard.lean, 'card_holds'). Laid BY PROGRAM, IN A SANDBOX (cutbox-door.mjs). By AI agents, Wed Nov 11 2026. No macro, syntax, notation, axiom, sorry.
-/
import Derived.Test.YtbfnfldmnombgaaGreatDoorRows
import GoSem.ClaimSeven
namespace Go.Proofs.YtbfnfldmnombgaaGreatDoor
namespace Rows

/-- THE TIED CARD OF 'manifoldlaw34.ResequencerChecks'. -/
def resequencerChecksCard : Claim7 := { stood := { row := resequencerChecksRow, standIns := [], harness := (true, "0f28a108ba334a8a968fe413680ca18c42c7c4af5cf0db121197b6d64349fb55"), looks := true }, kinds := [], alts := [], laidByText := true, laidKinds := [.data, .data, .data, .data, .sentinel, .sentinel, .pinned], laidTests := true, laidLooks := .later }
def ResequencerChecksCardSaid : Prop := Claim7.holds Tryz.pinned (.plain (OpenSpec.ofChange resequencerChecksSpec)) resequencerChecksCard

/-- THE TIED CARD OF 'manifoldlaw34.ResequencerLookups'. -/
def resequencerLookupsCard : Claim7 := { stood := { row := resequencerLookupsRow, standIns := [], harness := (true, "0f28a108ba334a8a968fe413680ca18c42c7c4af5cf0db121197b6d64349fb55"), looks := true }, kinds := [], alts := [], laidByText := true, laidKinds := [.data, .data, .data, .data, .sentinel, .sentinel, .pinned], laidTests := true, laidLooks := .later }
def ResequencerLookupsCardSaid : Prop := Claim7.holds Tryz.pinned (.plain (OpenSpec.ofChange resequencerLookupsSpec)) resequencerLookupsCard

/-- THE TIED CARD OF 'manifoldlaw34.ResequencerQuiet'. -/
def resequencerQuietCard : Claim7 := { stood := { row := resequencerQuietRow, standIns := [], harness := (true, "0f28a108ba334a8a968fe413680ca18c42c7c4af5cf0db121197b6d64349fb55"), looks := true }, kinds := [], alts := [], laidByText := true, laidKinds := [.data, .data, .data, .data, .sentinel, .sentinel, .pinned], laidTests := true, laidLooks := .later }
def ResequencerQuietCardSaid : Prop := Claim7.holds Tryz.pinned (.plain (OpenSpec.ofChange resequencerQuietSpec)) resequencerQuietCard

/-- THE SECOND FORM's CARD OF 'manifoldlaw34.ResequencerChecks'. -/
def resequencerChecksUptoCard : Claim7 := { stood := { row := resequencerChecksUptoRow, standIns := [], harness := (true, "0f28a108ba334a8a968fe413680ca18c42c7c4af5cf0db121197b6d64349fb55"), looks := true }, kinds := [], alts := [], laidByText := true, laidKinds := [.data, .data, .data, .data, .sentinel, .sentinel, .pinned], laidTests := true, laidLooks := .later }
def ResequencerChecksUptoCardSaid : Prop := Claim7.holds Tryz.pinned (.plain (OpenSpec.upto resequencerChecksSpec)) resequencerChecksUptoCard

/-- THE SECOND FORM's CARD OF 'manifoldlaw34.ResequencerLookups'. -/
def resequencerLookupsUptoCard : Claim7 := { stood := { row := resequencerLookupsUptoRow, standIns := [], harness := (true, "0f28a108ba334a8a968fe413680ca18c42c7c4af5cf0db121197b6d64349fb55"), looks := true }, kinds := [], alts := [], laidByText := true, laidKinds := [.data, .data, .data, .data, .sentinel, .sentinel, .pinned], laidTests := true, laidLooks := .later }
def ResequencerLookupsUptoCardSaid : Prop := Claim7.holds Tryz.pinned (.plain (OpenSpec.upto resequencerLookupsSpec)) resequencerLookupsUptoCard

/-- THE SECOND FORM's CARD OF 'manifoldlaw34.ResequencerQuiet'. -/
def resequencerQuietUptoCard : Claim7 := { stood := { row := resequencerQuietUptoRow, standIns := [], harness := (true, "0f28a108ba334a8a968fe413680ca18c42c7c4af5cf0db121197b6d64349fb55"), looks := true }, kinds := [], alts := [], laidByText := true, laidKinds := [.data, .data, .data, .data, .sentinel, .sentinel, .pinned], laidTests := true, laidLooks := .later }
def ResequencerQuietUptoCardSaid : Prop := Claim7.holds Tryz.pinned (.plain (OpenSpec.upto resequencerQuietSpec)) resequencerQuietUptoCard
end Rows
end Go.Proofs.YtbfnfldmnombgaaGreatDoor
