/-.-/
import Derived.Test.YtpcjeobkehmhpaaGreatDoorU36
set_option linter.unusedSimpArgs false
set_option linter.unusedVariables false
namespace Go.Proofs.YtpcjeobkehmhpaaGreatDoor
open Go Go.Em Go.Ab
set_option maxRecDepth 100000
set_option linter.all false
namespace Ct
theorem zuO:jI (evP 11)=true:=by kernel_rfl
theorem tQ3:jI (evQ 3)=true:=by kernel_rfl
theorem tQ7:jI (evQ 7)=true:=by kernel_rfl
theorem zuK:jI (evQ 11)=true:=by kernel_rfl
end Ct
end Go.Proofs.YtpcjeobkehmhpaaGreatDoor
