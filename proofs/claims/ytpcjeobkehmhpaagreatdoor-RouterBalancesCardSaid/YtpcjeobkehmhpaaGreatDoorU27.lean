/-.-/
import Derived.Test.YtpcjeobkehmhpaaGreatDoorU21
set_option linter.unusedSimpArgs false
set_option linter.unusedVariables false
namespace Go.Proofs.YtpcjeobkehmhpaaGreatDoor
open Go Go.Em Go.Ab
set_option maxRecDepth 100000
namespace Ct.Ff
theorem tF5:oz fiF 5=true:=by kernel_rfl
theorem tR2:oz fiR 2=true:=by kernel_rfl
theorem tR8:oz fiR 8=true:=by kernel_rfl
end Ct.Ff
end Go.Proofs.YtpcjeobkehmhpaaGreatDoor
