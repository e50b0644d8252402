/-.-/
import Derived.Test.YtpcjeobkehmhpaaGreatDoorV21
set_option linter.all false
namespace Go.Proofs.YtpcjeobkehmhpaaGreatDoor
open Go Go.Em Go.Ab
set_option maxRecDepth 100000
namespace Ct.Ff
theorem tF0:oG fiF 0=true:=by kernel_rfl
theorem tF6:oG fiF 6=true:=by kernel_rfl
theorem tR3:oG fiR 3=true:=by kernel_rfl
end Ct.Ff
end Go.Proofs.YtpcjeobkehmhpaaGreatDoor
