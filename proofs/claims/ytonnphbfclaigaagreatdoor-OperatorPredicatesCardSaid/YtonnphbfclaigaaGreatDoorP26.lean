/-.-/
import Derived.Test.YtonnphbfclaigaaGreatDoorP25
set_option linter.all false
set_option linter.all false
namespace Go.Proofs.YtonnphbfclaigaaGreatDoor
open Go
set_option maxRecDepth 100000
theorem aS:(Rows.operatorPredicatesRow.named==Tryz.prog.varsNamed 3)=true:=by unfold Program.varsNamed;rw [aj];kernel_rfl
end Go.Proofs.YtonnphbfclaigaaGreatDoor
