/-.-/
import Derived.Test.YtpcjeobkehmhpaaGreatDoorV21
set_option linter.all false
namespace Go.Proofs.YtpcjeobkehmhpaaGreatDoor
open Go Go.Em Go.Ab
set_option maxRecDepth 100000
namespace Ct.Ff
theorem tF1:oG fiF 1=true:=by kernel_rfl
theorem tF7:oG fiF 7=true:=by kernel_rfl
theorem tR4:oG fiR 4=true:=by kernel_rfl
end Ct.Ff
end Go.Proofs.YtpcjeobkehmhpaaGreatDoor
