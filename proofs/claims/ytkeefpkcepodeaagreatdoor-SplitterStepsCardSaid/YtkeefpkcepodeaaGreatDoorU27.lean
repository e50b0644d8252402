/-.-/
import Derived.Test.YtkeefpkcepodeaaGreatDoorU25
set_option linter.all false
namespace Go.Proofs.YtkeefpkcepodeaaGreatDoor
open Go Go.Em Go.Ab
set_option maxRecDepth 100000
set_option linter.all false
namespace Ct
theorem tP0:jH (evP 0)=true:=by kernel_rfl
theorem tP4:jH (evP 4)=true:=by kernel_rfl
theorem tP7:jH (evP 7)=true:=by kernel_rfl
theorem zwp:jH (evP 10)=true:=by kernel_rfl
theorem tQ0:jH (evQ 0)=true:=by kernel_rfl
theorem tQ4:jH (evQ 4)=true:=by kernel_rfl
theorem tQ8:jH (evQ 8)=true:=by kernel_rfl
end Ct
end Go.Proofs.YtkeefpkcepodeaaGreatDoor
