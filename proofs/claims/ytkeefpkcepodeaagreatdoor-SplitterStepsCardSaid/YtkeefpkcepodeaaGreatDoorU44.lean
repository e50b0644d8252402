/-.-/
import Derived.Test.YtkeefpkcepodeaaGreatDoorU13
set_option linter.all false
namespace Go.Proofs.YtkeefpkcepodeaaGreatDoor
open Go.Em
set_option maxRecDepth 100000
theorem Xc (N:Nat):Gam.pureD (callF tab ext (N+400)) 10 []=some (boolX true):=by kernel_rfl
end Go.Proofs.YtkeefpkcepodeaaGreatDoor
