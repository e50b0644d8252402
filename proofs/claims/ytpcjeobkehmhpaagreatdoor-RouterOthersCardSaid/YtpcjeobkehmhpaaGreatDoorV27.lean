/-.-/
import Derived.Test.YtpcjeobkehmhpaaGreatDoorV21
set_option linter.all false
namespace Go.Proofs.YtpcjeobkehmhpaaGreatDoor
open Go Go.Em Go.Ab
set_option maxRecDepth 100000
namespace Ct.Ff
theorem tF5:oG fiF 5=true:=by kernel_rfl
theorem tR2:oG fiR 2=true:=by kernel_rfl
theorem tR8:oG fiR 8=true:=by kernel_rfl
end Ct.Ff
end Go.Proofs.YtpcjeobkehmhpaaGreatDoor
