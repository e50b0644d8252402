/- OperatorNodes: the variables that the row names. -/
import Derived.Test.YtonnphbfclaigaaGreatDoorCloNodes
set_option linter.all false
namespace Go.Proofs.YtonnphbfclaigaaGreatDoor
open Go
set_option maxRecDepth 100000
theorem operatornodes_a4 : (Rows.operatorNodesRow.named == Tryz.prog.varsNamed 6) = true := by unfold Program.varsNamed; rw [operatornodes_clo]; kernel_rfl
end Go.Proofs.YtonnphbfclaigaaGreatDoor
