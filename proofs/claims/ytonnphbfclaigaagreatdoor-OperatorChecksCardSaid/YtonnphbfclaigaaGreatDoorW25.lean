/-.-/
import Derived.Test.YtonnphbfclaigaaGreatDoorW24
set_option linter.all false
set_option linter.all false
namespace Go.Proofs.YtonnphbfclaigaaGreatDoor
open Go
set_option maxRecDepth 100000
theorem bD:(Rows.operatorChecksRow.named==Tryz.prog.varsNamed 4)=true:=by unfold Program.varsNamed;rw [ah];kernel_rfl
end Go.Proofs.YtonnphbfclaigaaGreatDoor
