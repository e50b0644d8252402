/-.-/
import Derived.Test.YtpcjeobkehmhpaaGreatDoorU21
set_option linter.unusedSimpArgs false
set_option linter.unusedVariables false
namespace Go.Proofs.YtpcjeobkehmhpaaGreatDoor
open Go Go.Em Go.Ab
set_option maxRecDepth 100000
namespace Ct.Ff
theorem tF2:oz fiF 2=true:=by kernel_rfl
theorem tF8:oz fiF 8=true:=by kernel_rfl
theorem tR5:oz fiR 5=true:=by kernel_rfl
end Ct.Ff
end Go.Proofs.YtpcjeobkehmhpaaGreatDoor
