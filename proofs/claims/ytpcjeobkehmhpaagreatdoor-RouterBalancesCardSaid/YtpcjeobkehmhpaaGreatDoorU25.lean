/-.-/
import Derived.Test.YtpcjeobkehmhpaaGreatDoorU21
set_option linter.unusedSimpArgs false
set_option linter.unusedVariables false
namespace Go.Proofs.YtpcjeobkehmhpaaGreatDoor
open Go Go.Em Go.Ab
set_option maxRecDepth 100000
namespace Ct.Ff
theorem tF3:oz fiF 3=true:=by kernel_rfl
theorem tR0:oz fiR 0=true:=by kernel_rfl
theorem tR6:oz fiR 6=true:=by kernel_rfl
end Ct.Ff
end Go.Proofs.YtpcjeobkehmhpaaGreatDoor
