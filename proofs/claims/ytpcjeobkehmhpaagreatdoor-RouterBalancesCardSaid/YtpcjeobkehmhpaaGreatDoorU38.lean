/-.-/
import Derived.Test.YtpcjeobkehmhpaaGreatDoorU36
set_option linter.unusedSimpArgs false
set_option linter.unusedVariables false
namespace Go.Proofs.YtpcjeobkehmhpaaGreatDoor
open Go Go.Em Go.Ab
set_option maxRecDepth 100000
set_option linter.all false
namespace Ct
theorem tP0:jI (evP 0)=true:=by kernel_rfl
theorem tP4:jI (evP 4)=true:=by kernel_rfl
theorem tP7:jI (evP 7)=true:=by kernel_rfl
theorem zuP:jI (evP 10)=true:=by kernel_rfl
theorem tQ0:jI (evQ 0)=true:=by kernel_rfl
theorem tQ4:jI (evQ 4)=true:=by kernel_rfl
theorem tQ8:jI (evQ 8)=true:=by kernel_rfl
end Ct
end Go.Proofs.YtpcjeobkehmhpaaGreatDoor
