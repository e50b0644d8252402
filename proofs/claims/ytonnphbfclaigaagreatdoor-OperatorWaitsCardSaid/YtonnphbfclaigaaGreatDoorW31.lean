/-.-/
import Derived.Test.YtonnphbfclaigaaGreatDoorW30
set_option linter.all false
set_option linter.all false
namespace Go.Proofs.YtonnphbfclaigaaGreatDoor
open Go
set_option maxRecDepth 100000
theorem bQ:(Rows.operatorWaitsRow.named==Tryz.prog.varsNamed 5)=true:=by unfold Program.varsNamed;rw [aj];kernel_rfl
end Go.Proofs.YtonnphbfclaigaaGreatDoor
