/- expr.eval: parts, by the kernel (printed by mkev.py). -/
import Derived.Test.YtjbndifenhihhaaGreatDoorP25
namespace Go.Proofs.YtjbndifenhihhaaGreatDoor
open Go Go.Em Go.Ab
set_option maxRecDepth 100000
set_option linter.all false
namespace Ct
theorem zok:iU (evP 11)=true:=by kernel_rfl
theorem tQ3:iU (evQ 3)=true:=by kernel_rfl
theorem tQ7:iU (evQ 7)=true:=by kernel_rfl
theorem zog:iU (evQ 11)=true:=by kernel_rfl
end Ct
end Go.Proofs.YtjbndifenhihhaaGreatDoor
