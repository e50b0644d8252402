/-.-/
import Derived.Test.YtkeefpkcepodeaaGreatDoorU25
set_option linter.all false
namespace Go.Proofs.YtkeefpkcepodeaaGreatDoor
open Go Go.Em Go.Ab
set_option maxRecDepth 100000
set_option linter.all false
namespace Ct
theorem zwo:jH (evP 11)=true:=by kernel_rfl
theorem tQ3:jH (evQ 3)=true:=by kernel_rfl
theorem tQ7:jH (evQ 7)=true:=by kernel_rfl
theorem zwk:jH (evQ 11)=true:=by kernel_rfl
end Ct
end Go.Proofs.YtkeefpkcepodeaaGreatDoor
