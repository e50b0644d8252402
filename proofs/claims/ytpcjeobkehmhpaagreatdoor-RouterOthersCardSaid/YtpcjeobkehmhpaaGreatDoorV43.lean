/-.-/
import Derived.Test.YtpcjeobkehmhpaaGreatDoorV13
set_option linter.all false
namespace Go.Proofs.YtpcjeobkehmhpaaGreatDoor
open Go.Em
set_option maxRecDepth 100000
theorem VO (N:Nat):Gam.aC (ah tab ext (N+400)) 9 []=some (aj true):=by kernel_rfl
end Go.Proofs.YtpcjeobkehmhpaaGreatDoor
