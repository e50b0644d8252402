/-
  DERIVED. GIVEN WITH THE SEED: THE CARDS: each row of YtjfheahakfoofaaGreatDoorRows.lean that lists a variable, with what it lists TIED to the program's text (the seventh form; the later family's looks); each row that meets fmt, with fmt's text TOLD by the authors' own Lean function (tested against real Go, not proved from fmt's source: count such statements apart). THE CARD IS WHAT COUNTS. Prove the row's statement (the work); the ties are given (YtjfheahakfoofaaGreatDoorTie.lean); close each card by the builder's one call (the guide's Derived/Test/ToyasCard.lean, 'card_holds'). Laid BY PROGRAM, IN A SANDBOX (cutbox-door.mjs). By AI agents, Wed Nov 11 2026. No macro, syntax, notation, axiom, sorry.
-/
import Derived.Test.YtjfheahakfoofaaGreatDoorRows
import GoSem.ClaimSeven
namespace Go.Proofs.YtjfheahakfoofaaGreatDoor
namespace Rows

/-- THE TIED CARD OF 'manifoldlaw36.ThrottleBalances'. -/
def throttleBalancesCard : Claim7 := { stood := { row := throttleBalancesRow, standIns := [], harness := (true, "41cdcd5c1172deba67aaaa3121a75d34f1b2302811ab82c96255bd1fc68ea628"), looks := false }, kinds := [], alts := [], laidByText := true, laidKinds := [.data, .pinned], laidTests := true, laidLooks := .later }
def ThrottleBalancesCardSaid : Prop := Claim7.holds Tryz.pinned (.plain (OpenSpec.ofChange throttleBalancesSpec)) throttleBalancesCard

/-- THE TIED CARD OF 'manifoldlaw36.ThrottleChecks'. -/
def throttleChecksCard : Claim7 := { stood := { row := throttleChecksRow, standIns := [], harness := (true, "41cdcd5c1172deba67aaaa3121a75d34f1b2302811ab82c96255bd1fc68ea628"), looks := false }, kinds := [], alts := [], laidByText := true, laidKinds := [.data, .pinned], laidTests := true, laidLooks := .later }
def ThrottleChecksCardSaid : Prop := Claim7.holds Tryz.pinned (.plain (OpenSpec.ofChange throttleChecksSpec)) throttleChecksCard

/-- THE TIED CARD OF 'manifoldlaw36.ThrottleSteps'. -/
def throttleStepsCard : Claim7 := { stood := { row := throttleStepsRow, standIns := [], harness := (true, "41cdcd5c1172deba67aaaa3121a75d34f1b2302811ab82c96255bd1fc68ea628"), looks := false }, kinds := [], alts := [], laidByText := true, laidKinds := [.data, .pinned], laidTests := true, laidLooks := .later }
def ThrottleStepsCardSaid : Prop := Claim7.holds Tryz.pinned (.plain (OpenSpec.ofChange throttleStepsSpec)) throttleStepsCard

/-- THE TIED CARD OF 'manifoldlaw36.ThrottleDelays'. -/
def throttleDelaysCard : Claim7 := { stood := { row := throttleDelaysRow, standIns := [], harness := (true, "41cdcd5c1172deba67aaaa3121a75d34f1b2302811ab82c96255bd1fc68ea628"), looks := false }, kinds := [], alts := [], laidByText := true, laidKinds := [.data, .pinned], laidTests := true, laidLooks := .later }
def ThrottleDelaysCardSaid : Prop := Claim7.holds Tryz.pinned (.plain (OpenSpec.ofChange throttleDelaysSpec)) throttleDelaysCard

/-- THE TIED CARD OF 'manifoldlaw36.ThrottleDue'. -/
def throttleDueCard : Claim7 := { stood := { row := throttleDueRow, standIns := [], harness := (true, "41cdcd5c1172deba67aaaa3121a75d34f1b2302811ab82c96255bd1fc68ea628"), looks := false }, kinds := [], alts := [], laidByText := true, laidKinds := [.data, .pinned], laidTests := true, laidLooks := .later }
def ThrottleDueCardSaid : Prop := Claim7.holds Tryz.pinned (.plain (OpenSpec.ofChange throttleDueSpec)) throttleDueCard

/-- THE SECOND FORM's CARD OF 'manifoldlaw36.ThrottleBalances'. -/
def throttleBalancesUptoCard : Claim7 := { stood := { row := throttleBalancesUptoRow, standIns := [], harness := (true, "41cdcd5c1172deba67aaaa3121a75d34f1b2302811ab82c96255bd1fc68ea628"), looks := false }, kinds := [], alts := [], laidByText := true, laidKinds := [.data, .pinned], laidTests := true, laidLooks := .later }
def ThrottleBalancesUptoCardSaid : Prop := Claim7.holds Tryz.pinned (.plain (OpenSpec.upto throttleBalancesSpec)) throttleBalancesUptoCard

/-- THE SECOND FORM's CARD OF 'manifoldlaw36.ThrottleChecks'. -/
def throttleChecksUptoCard : Claim7 := { stood := { row := throttleChecksUptoRow, standIns := [], harness := (true, "41cdcd5c1172deba67aaaa3121a75d34f1b2302811ab82c96255bd1fc68ea628"), looks := false }, kinds := [], alts := [], laidByText := true, laidKinds := [.data, .pinned], laidTests := true, laidLooks := .later }
def ThrottleChecksUptoCardSaid : Prop := Claim7.holds Tryz.pinned (.plain (OpenSpec.upto throttleChecksSpec)) throttleChecksUptoCard

/-- THE SECOND FORM's CARD OF 'manifoldlaw36.ThrottleSteps'. -/
def throttleStepsUptoCard : Claim7 := { stood := { row := throttleStepsUptoRow, standIns := [], harness := (true, "41cdcd5c1172deba67aaaa3121a75d34f1b2302811ab82c96255bd1fc68ea628"), looks := false }, kinds := [], alts := [], laidByText := true, laidKinds := [.data, .pinned], laidTests := true, laidLooks := .later }
def ThrottleStepsUptoCardSaid : Prop := Claim7.holds Tryz.pinned (.plain (OpenSpec.upto throttleStepsSpec)) throttleStepsUptoCard

/-- THE SECOND FORM's CARD OF 'manifoldlaw36.ThrottleDelays'. -/
def throttleDelaysUptoCard : Claim7 := { stood := { row := throttleDelaysUptoRow, standIns := [], harness := (true, "41cdcd5c1172deba67aaaa3121a75d34f1b2302811ab82c96255bd1fc68ea628"), looks := false }, kinds := [], alts := [], laidByText := true, laidKinds := [.data, .pinned], laidTests := true, laidLooks := .later }
def ThrottleDelaysUptoCardSaid : Prop := Claim7.holds Tryz.pinned (.plain (OpenSpec.upto throttleDelaysSpec)) throttleDelaysUptoCard

/-- THE SECOND FORM's CARD OF 'manifoldlaw36.ThrottleDue'. -/
def throttleDueUptoCard : Claim7 := { stood := { row := throttleDueUptoRow, standIns := [], harness := (true, "41cdcd5c1172deba67aaaa3121a75d34f1b2302811ab82c96255bd1fc68ea628"), looks := false }, kinds := [], alts := [], laidByText := true, laidKinds := [.data, .pinned], laidTests := true, laidLooks := .later }
def ThrottleDueUptoCardSaid : Prop := Claim7.holds Tryz.pinned (.plain (OpenSpec.upto throttleDueSpec)) throttleDueUptoCard
end Rows
end Go.Proofs.YtjfheahakfoofaaGreatDoor
