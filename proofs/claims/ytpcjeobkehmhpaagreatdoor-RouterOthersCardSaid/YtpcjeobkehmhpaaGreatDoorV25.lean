/-.-/
import Derived.Test.YtpcjeobkehmhpaaGreatDoorV21
set_option linter.all false
namespace Go.Proofs.YtpcjeobkehmhpaaGreatDoor
open Go Go.Em Go.Ab
set_option maxRecDepth 100000
namespace Ct.Ff
theorem tF3:oG fiF 3=true:=by kernel_rfl
theorem tR0:oG fiR 0=true:=by kernel_rfl
theorem tR6:oG fiR 6=true:=by kernel_rfl
end Ct.Ff
end Go.Proofs.YtpcjeobkehmhpaaGreatDoor
