/-.-/
import Derived.Test.YtcbeoccmflnejaaGreatDoorU26
set_option linter.all false
namespace Go.Proofs.YtcbeoccmflnejaaGreatDoor
open Go Go.Em Go.Ab
set_option maxRecDepth 100000
set_option linter.all false
namespace Ct
theorem tP1:ig (evP 1)=true:=by kernel_rfl
theorem tP5:ig (evP 5)=true:=by kernel_rfl
theorem tP8:ig (evP 8)=true:=by kernel_rfl
theorem zmz:ig (evP 12)=true:=by kernel_rfl
theorem tQ1:ig (evQ 1)=true:=by kernel_rfl
theorem tQ5:ig (evQ 5)=true:=by kernel_rfl
theorem tQ9:ig (evQ 9)=true:=by kernel_rfl
end Ct
end Go.Proofs.YtcbeoccmflnejaaGreatDoor
