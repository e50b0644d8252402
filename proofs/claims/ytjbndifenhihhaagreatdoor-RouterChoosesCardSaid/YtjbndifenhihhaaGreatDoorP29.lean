/- expr.eval: parts, by the kernel (printed by mkev.py). -/
import Derived.Test.YtjbndifenhihhaaGreatDoorP25
namespace Go.Proofs.YtjbndifenhihhaaGreatDoor
open Go Go.Em Go.Ab
set_option maxRecDepth 100000
set_option linter.all false
namespace Ct
theorem tP2:iU (evP 2)=true:=by kernel_rfl
theorem tP6:iU (evP 6)=true:=by kernel_rfl
theorem tP9:iU (evP 9)=true:=by kernel_rfl
theorem zoi:iU (evP 13)=true:=by kernel_rfl
theorem tQ2:iU (evQ 2)=true:=by kernel_rfl
theorem tQ6:iU (evQ 6)=true:=by kernel_rfl
theorem zoh:iU (evQ 10)=true:=by kernel_rfl
theorem zjv:Ji tab ⟨T,K,evL,evG,some ⟨1,0⟩,1⟩ evO evB=true:=by kernel_rfl
theorem zgi:Ji tab ⟨T,K,evL,evG,some ⟨1,0⟩,2⟩ evO evC=true:=by kernel_rfl
end Ct
end Go.Proofs.YtjbndifenhihhaaGreatDoor
