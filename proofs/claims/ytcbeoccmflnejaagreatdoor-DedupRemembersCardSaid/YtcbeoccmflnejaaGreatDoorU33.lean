/-.-/
import Derived.Test.YtcbeoccmflnejaaGreatDoorU13
set_option linter.all false
namespace Go.Proofs.YtcbeoccmflnejaaGreatDoor
open Go.Em
set_option maxRecDepth 100000
theorem rG (N:Nat):Gam.pureD (callF tab ext (N+400)) 7 []=some (boolX true):=by kernel_rfl
end Go.Proofs.YtcbeoccmflnejaaGreatDoor
