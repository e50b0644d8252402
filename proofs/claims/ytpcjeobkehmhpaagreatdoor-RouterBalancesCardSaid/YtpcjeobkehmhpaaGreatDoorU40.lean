/-.-/
import Derived.Test.YtpcjeobkehmhpaaGreatDoorU36
set_option linter.unusedSimpArgs false
set_option linter.unusedVariables false
namespace Go.Proofs.YtpcjeobkehmhpaaGreatDoor
open Go Go.Em Go.Ab
set_option maxRecDepth 100000
set_option linter.all false
namespace Ct
theorem tP2:jI (evP 2)=true:=by kernel_rfl
theorem tP6:jI (evP 6)=true:=by kernel_rfl
theorem tP9:jI (evP 9)=true:=by kernel_rfl
theorem zuM:jI (evP 13)=true:=by kernel_rfl
theorem tQ2:jI (evQ 2)=true:=by kernel_rfl
theorem tQ6:jI (evQ 6)=true:=by kernel_rfl
theorem zuL:jI (evQ 10)=true:=by kernel_rfl
theorem zpC:ER tab ⟨T,K,evL,evG,some ⟨1,0⟩,1⟩ evO evB=true:=by kernel_rfl
theorem zma:ER tab ⟨T,K,evL,evG,some ⟨1,0⟩,2⟩ evO evC=true:=by kernel_rfl
end Ct
end Go.Proofs.YtpcjeobkehmhpaaGreatDoor
