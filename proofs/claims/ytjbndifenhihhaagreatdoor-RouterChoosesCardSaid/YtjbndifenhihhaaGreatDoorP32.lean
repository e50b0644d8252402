/- The example of layer 31 holds. -/
import Derived.Test.YtjbndifenhihhaaGreatDoorP13
namespace Go.Proofs.YtjbndifenhihhaaGreatDoor
open Go.Em
set_option maxRecDepth 100000
theorem QO (N:Nat):Gam.pureD (callF tab ext (N+400)) 59 []=some (boolX true):=by kernel_rfl
end Go.Proofs.YtjbndifenhihhaaGreatDoor
