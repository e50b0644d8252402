/-.-/
import Derived.Test.YtpcjeobkehmhpaaGreatDoorU21
set_option linter.unusedSimpArgs false
set_option linter.unusedVariables false
namespace Go.Proofs.YtpcjeobkehmhpaaGreatDoor
open Go Go.Em Go.Ab
set_option maxRecDepth 100000
namespace Ct.Ff
theorem tF0:oz fiF 0=true:=by kernel_rfl
theorem tF6:oz fiF 6=true:=by kernel_rfl
theorem tR3:oz fiR 3=true:=by kernel_rfl
end Ct.Ff
end Go.Proofs.YtpcjeobkehmhpaaGreatDoor
