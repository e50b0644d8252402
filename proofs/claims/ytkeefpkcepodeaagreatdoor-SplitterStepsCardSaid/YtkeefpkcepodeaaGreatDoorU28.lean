/-.-/
import Derived.Test.YtkeefpkcepodeaaGreatDoorU25
set_option linter.all false
namespace Go.Proofs.YtkeefpkcepodeaaGreatDoor
open Go Go.Em Go.Ab
set_option maxRecDepth 100000
set_option linter.all false
namespace Ct
theorem tP1:jH (evP 1)=true:=by kernel_rfl
theorem tP5:jH (evP 5)=true:=by kernel_rfl
theorem tP8:jH (evP 8)=true:=by kernel_rfl
theorem zwn:jH (evP 12)=true:=by kernel_rfl
theorem tQ1:jH (evQ 1)=true:=by kernel_rfl
theorem tQ5:jH (evQ 5)=true:=by kernel_rfl
theorem tQ9:jH (evQ 9)=true:=by kernel_rfl
end Ct
end Go.Proofs.YtkeefpkcepodeaaGreatDoor
