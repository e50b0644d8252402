/- expr.eval: parts, by the kernel (printed by mkev.py). -/
import Derived.Test.YtjbndifenhihhaaGreatDoorP25
namespace Go.Proofs.YtjbndifenhihhaaGreatDoor
open Go Go.Em Go.Ab
set_option maxRecDepth 100000
set_option linter.all false
namespace Ct
theorem tP0:iU (evP 0)=true:=by kernel_rfl
theorem tP4:iU (evP 4)=true:=by kernel_rfl
theorem tP7:iU (evP 7)=true:=by kernel_rfl
theorem zol:iU (evP 10)=true:=by kernel_rfl
theorem tQ0:iU (evQ 0)=true:=by kernel_rfl
theorem tQ4:iU (evQ 4)=true:=by kernel_rfl
theorem tQ8:iU (evQ 8)=true:=by kernel_rfl
end Ct
end Go.Proofs.YtjbndifenhihhaaGreatDoor
