/-.-/
import Derived.Test.YtpcjeobkehmhpaaGreatDoorV36
set_option linter.all false
namespace Go.Proofs.YtpcjeobkehmhpaaGreatDoor
open Go Go.Em Go.Ab
set_option maxRecDepth 100000
set_option linter.all false
namespace Ct
theorem tP0:jO (evP 0)=true:=by kernel_rfl
theorem tP4:jO (evP 4)=true:=by kernel_rfl
theorem tP7:jO (evP 7)=true:=by kernel_rfl
theorem zvG:jO (evP 10)=true:=by kernel_rfl
theorem tQ0:jO (evQ 0)=true:=by kernel_rfl
theorem tQ4:jO (evQ 4)=true:=by kernel_rfl
theorem tQ8:jO (evQ 8)=true:=by kernel_rfl
end Ct
end Go.Proofs.YtpcjeobkehmhpaaGreatDoor
