/-.-/
import Derived.Test.YtkeefpkcepodeaaGreatDoorU35
set_option linter.all false
namespace Go.Proofs.YtkeefpkcepodeaaGreatDoor
open Go Go.Em Go.Ab
set_option maxRecDepth 100000
namespace Ct.Ff
theorem tF1:o9 fiF 1=true:=by kernel_rfl
theorem tF7:o9 fiF 7=true:=by kernel_rfl
theorem tR4:o9 fiR 4=true:=by kernel_rfl
end Ct.Ff
end Go.Proofs.YtkeefpkcepodeaaGreatDoor
