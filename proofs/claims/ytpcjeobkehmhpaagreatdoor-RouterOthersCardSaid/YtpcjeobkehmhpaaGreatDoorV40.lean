/-.-/
import Derived.Test.YtpcjeobkehmhpaaGreatDoorV36
set_option linter.all false
namespace Go.Proofs.YtpcjeobkehmhpaaGreatDoor
open Go Go.Em Go.Ab
set_option maxRecDepth 100000
set_option linter.all false
namespace Ct
theorem tP2:jO (evP 2)=true:=by kernel_rfl
theorem tP6:jO (evP 6)=true:=by kernel_rfl
theorem tP9:jO (evP 9)=true:=by kernel_rfl
theorem zvD:jO (evP 13)=true:=by kernel_rfl
theorem tQ2:jO (evQ 2)=true:=by kernel_rfl
theorem tQ6:jO (evQ 6)=true:=by kernel_rfl
theorem zvC:jO (evQ 10)=true:=by kernel_rfl
theorem zqw:ES tab ⟨T,K,evL,evG,some ⟨1,0⟩,1⟩ evO evB=true:=by kernel_rfl
theorem zmH:ES tab ⟨T,K,evL,evG,some ⟨1,0⟩,2⟩ evO evC=true:=by kernel_rfl
end Ct
end Go.Proofs.YtpcjeobkehmhpaaGreatDoor
