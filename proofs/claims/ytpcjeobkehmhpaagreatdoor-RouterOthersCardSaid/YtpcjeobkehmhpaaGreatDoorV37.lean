/-.-/
import Derived.Test.YtpcjeobkehmhpaaGreatDoorV36
set_option linter.all false
namespace Go.Proofs.YtpcjeobkehmhpaaGreatDoor
open Go Go.Em Go.Ab
set_option maxRecDepth 100000
set_option linter.all false
namespace Ct
theorem zvF:jO (evP 11)=true:=by kernel_rfl
theorem tQ3:jO (evQ 3)=true:=by kernel_rfl
theorem tQ7:jO (evQ 7)=true:=by kernel_rfl
theorem zvB:jO (evQ 11)=true:=by kernel_rfl
end Ct
end Go.Proofs.YtpcjeobkehmhpaaGreatDoor
