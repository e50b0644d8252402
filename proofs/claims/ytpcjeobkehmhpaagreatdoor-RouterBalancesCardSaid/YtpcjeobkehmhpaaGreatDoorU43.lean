/-.-/
import Derived.Test.YtpcjeobkehmhpaaGreatDoorU13
set_option linter.unusedSimpArgs false
set_option linter.unusedVariables false
namespace Go.Proofs.YtpcjeobkehmhpaaGreatDoor
open Go.Em
set_option maxRecDepth 100000
theorem Gt (N:Nat):Gam.aF (ah tab ext (N+400)) 9 []=some (ak true):=by kernel_rfl
end Go.Proofs.YtpcjeobkehmhpaaGreatDoor
