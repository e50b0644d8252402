/- OperatorEquals: the variables that the row names. -/
import Derived.Test.YtonnphbfclaigaaGreatDoorCloEquals
set_option linter.all false
namespace Go.Proofs.YtonnphbfclaigaaGreatDoor
open Go
set_option maxRecDepth 100000
theorem operatorequals_a4 : (Rows.operatorEqualsRow.named == Tryz.prog.varsNamed 7) = true := by unfold Program.varsNamed; rw [operatorequals_clo]; kernel_rfl
end Go.Proofs.YtonnphbfclaigaaGreatDoor
