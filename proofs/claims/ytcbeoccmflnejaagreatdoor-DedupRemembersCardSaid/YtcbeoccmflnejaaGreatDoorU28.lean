/-.-/
import Derived.Test.YtcbeoccmflnejaaGreatDoorU26
set_option linter.all false
namespace Go.Proofs.YtcbeoccmflnejaaGreatDoor
open Go Go.Em Go.Ab
set_option maxRecDepth 100000
set_option linter.all false
namespace Ct
theorem tP0:ig (evP 0)=true:=by kernel_rfl
theorem tP4:ig (evP 4)=true:=by kernel_rfl
theorem tP7:ig (evP 7)=true:=by kernel_rfl
theorem zmB:ig (evP 10)=true:=by kernel_rfl
theorem tQ0:ig (evQ 0)=true:=by kernel_rfl
theorem tQ4:ig (evQ 4)=true:=by kernel_rfl
theorem tQ8:ig (evQ 8)=true:=by kernel_rfl
end Ct
end Go.Proofs.YtcbeoccmflnejaaGreatDoor
