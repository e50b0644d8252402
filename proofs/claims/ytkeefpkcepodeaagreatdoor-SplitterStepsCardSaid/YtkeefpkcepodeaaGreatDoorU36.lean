/-.-/
import Derived.Test.YtkeefpkcepodeaaGreatDoorU35
set_option linter.all false
namespace Go.Proofs.YtkeefpkcepodeaaGreatDoor
open Go Go.Em Go.Ab
set_option maxRecDepth 100000
namespace Ct.Ff
theorem tF0:o9 fiF 0=true:=by kernel_rfl
theorem tF6:o9 fiF 6=true:=by kernel_rfl
theorem tR3:o9 fiR 3=true:=by kernel_rfl
end Ct.Ff
end Go.Proofs.YtkeefpkcepodeaaGreatDoor
