/-.-/
import Derived.Test.YtcbeoccmflnejaaGreatDoorU26
set_option linter.all false
namespace Go.Proofs.YtcbeoccmflnejaaGreatDoor
open Go Go.Em Go.Ab
set_option maxRecDepth 100000
set_option linter.all false
namespace Ct
theorem zmA:ig (evP 11)=true:=by kernel_rfl
theorem tQ3:ig (evQ 3)=true:=by kernel_rfl
theorem tQ7:ig (evQ 7)=true:=by kernel_rfl
theorem zmw:ig (evQ 11)=true:=by kernel_rfl
end Ct
end Go.Proofs.YtcbeoccmflnejaaGreatDoor
