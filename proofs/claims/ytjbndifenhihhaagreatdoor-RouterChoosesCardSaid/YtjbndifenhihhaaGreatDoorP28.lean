/- expr.eval: parts, by the kernel (printed by mkev.py). -/
import Derived.Test.YtjbndifenhihhaaGreatDoorP25
namespace Go.Proofs.YtjbndifenhihhaaGreatDoor
open Go Go.Em Go.Ab
set_option maxRecDepth 100000
set_option linter.all false
namespace Ct
theorem tP1:iU (evP 1)=true:=by kernel_rfl
theorem tP5:iU (evP 5)=true:=by kernel_rfl
theorem tP8:iU (evP 8)=true:=by kernel_rfl
theorem zoj:iU (evP 12)=true:=by kernel_rfl
theorem tQ1:iU (evQ 1)=true:=by kernel_rfl
theorem tQ5:iU (evQ 5)=true:=by kernel_rfl
theorem tQ9:iU (evQ 9)=true:=by kernel_rfl
end Ct
end Go.Proofs.YtjbndifenhihhaaGreatDoor
