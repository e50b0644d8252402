/-.-/
import Derived.Test.YtpcjeobkehmhpaaGreatDoorV21
set_option linter.all false
namespace Go.Proofs.YtpcjeobkehmhpaaGreatDoor
open Go Go.Em Go.Ab
set_option maxRecDepth 100000
namespace Ct.Ff
theorem tF4:oG fiF 4=true:=by kernel_rfl
theorem tR1:oG fiR 1=true:=by kernel_rfl
theorem tR7:oG fiR 7=true:=by kernel_rfl
end Ct.Ff
end Go.Proofs.YtpcjeobkehmhpaaGreatDoor
