/-.-/
import Derived.Test.YtpcjeobkehmhpaaGreatDoorV36
set_option linter.all false
namespace Go.Proofs.YtpcjeobkehmhpaaGreatDoor
open Go Go.Em Go.Ab
set_option maxRecDepth 100000
set_option linter.all false
namespace Ct
theorem tP1:jO (evP 1)=true:=by kernel_rfl
theorem tP5:jO (evP 5)=true:=by kernel_rfl
theorem tP8:jO (evP 8)=true:=by kernel_rfl
theorem zvE:jO (evP 12)=true:=by kernel_rfl
theorem tQ1:jO (evQ 1)=true:=by kernel_rfl
theorem tQ5:jO (evQ 5)=true:=by kernel_rfl
theorem tQ9:jO (evQ 9)=true:=by kernel_rfl
end Ct
end Go.Proofs.YtpcjeobkehmhpaaGreatDoor
