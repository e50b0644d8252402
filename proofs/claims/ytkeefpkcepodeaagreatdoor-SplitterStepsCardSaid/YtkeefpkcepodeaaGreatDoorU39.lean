/-.-/
import Derived.Test.YtkeefpkcepodeaaGreatDoorU35
set_option linter.all false
namespace Go.Proofs.YtkeefpkcepodeaaGreatDoor
open Go Go.Em Go.Ab
set_option maxRecDepth 100000
namespace Ct.Ff
theorem tF3:o9 fiF 3=true:=by kernel_rfl
theorem tR0:o9 fiR 0=true:=by kernel_rfl
theorem tR6:o9 fiR 6=true:=by kernel_rfl
end Ct.Ff
end Go.Proofs.YtkeefpkcepodeaaGreatDoor
