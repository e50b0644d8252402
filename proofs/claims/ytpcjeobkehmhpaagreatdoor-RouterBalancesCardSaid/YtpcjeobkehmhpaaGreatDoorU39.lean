/-.-/
import Derived.Test.YtpcjeobkehmhpaaGreatDoorU36
set_option linter.unusedSimpArgs false
set_option linter.unusedVariables false
namespace Go.Proofs.YtpcjeobkehmhpaaGreatDoor
open Go Go.Em Go.Ab
set_option maxRecDepth 100000
set_option linter.all false
namespace Ct
theorem tP1:jI (evP 1)=true:=by kernel_rfl
theorem tP5:jI (evP 5)=true:=by kernel_rfl
theorem tP8:jI (evP 8)=true:=by kernel_rfl
theorem zuN:jI (evP 12)=true:=by kernel_rfl
theorem tQ1:jI (evQ 1)=true:=by kernel_rfl
theorem tQ5:jI (evQ 5)=true:=by kernel_rfl
theorem tQ9:jI (evQ 9)=true:=by kernel_rfl
end Ct
end Go.Proofs.YtpcjeobkehmhpaaGreatDoor
