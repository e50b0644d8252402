/-.-/
import Derived.Test.YtkeefpkcepodeaaGreatDoorU35
set_option linter.all false
namespace Go.Proofs.YtkeefpkcepodeaaGreatDoor
open Go Go.Em Go.Ab
set_option maxRecDepth 100000
namespace Ct.Ff
theorem tF5:o9 fiF 5=true:=by kernel_rfl
theorem tR2:o9 fiR 2=true:=by kernel_rfl
theorem tR8:o9 fiR 8=true:=by kernel_rfl
end Ct.Ff
end Go.Proofs.YtkeefpkcepodeaaGreatDoor
