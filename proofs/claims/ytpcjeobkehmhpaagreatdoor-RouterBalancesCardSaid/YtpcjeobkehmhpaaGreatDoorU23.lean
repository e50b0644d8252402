/-.-/
import Derived.Test.YtpcjeobkehmhpaaGreatDoorU21
set_option linter.unusedSimpArgs false
set_option linter.unusedVariables false
namespace Go.Proofs.YtpcjeobkehmhpaaGreatDoor
open Go Go.Em Go.Ab
set_option maxRecDepth 100000
namespace Ct.Ff
theorem tF1:oz fiF 1=true:=by kernel_rfl
theorem tF7:oz fiF 7=true:=by kernel_rfl
theorem tR4:oz fiR 4=true:=by kernel_rfl
end Ct.Ff
end Go.Proofs.YtpcjeobkehmhpaaGreatDoor
