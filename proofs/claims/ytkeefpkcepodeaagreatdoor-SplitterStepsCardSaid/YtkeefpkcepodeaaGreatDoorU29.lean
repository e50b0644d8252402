/-.-/
import Derived.Test.YtkeefpkcepodeaaGreatDoorU25
set_option linter.all false
namespace Go.Proofs.YtkeefpkcepodeaaGreatDoor
open Go Go.Em Go.Ab
set_option maxRecDepth 100000
set_option linter.all false
namespace Ct
theorem tP2:jH (evP 2)=true:=by kernel_rfl
theorem tP6:jH (evP 6)=true:=by kernel_rfl
theorem tP9:jH (evP 9)=true:=by kernel_rfl
theorem zwm:jH (evP 13)=true:=by kernel_rfl
theorem tQ2:jH (evQ 2)=true:=by kernel_rfl
theorem tQ6:jH (evQ 6)=true:=by kernel_rfl
theorem zwl:jH (evQ 10)=true:=by kernel_rfl
theorem zqU:Ie tab ⟨T,K,evL,evG,some ⟨1,0⟩,1⟩ evO evB=true:=by kernel_rfl
theorem znb:Ie tab ⟨T,K,evL,evG,some ⟨1,0⟩,2⟩ evO evC=true:=by kernel_rfl
end Ct
end Go.Proofs.YtkeefpkcepodeaaGreatDoor
