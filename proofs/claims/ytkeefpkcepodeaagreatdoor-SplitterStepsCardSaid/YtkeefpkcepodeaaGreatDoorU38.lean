/-.-/
import Derived.Test.YtkeefpkcepodeaaGreatDoorU35
set_option linter.all false
namespace Go.Proofs.YtkeefpkcepodeaaGreatDoor
open Go Go.Em Go.Ab
set_option maxRecDepth 100000
namespace Ct.Ff
theorem tF2:o9 fiF 2=true:=by kernel_rfl
theorem tF8:o9 fiF 8=true:=by kernel_rfl
theorem tR5:o9 fiR 5=true:=by kernel_rfl
end Ct.Ff
end Go.Proofs.YtkeefpkcepodeaaGreatDoor
