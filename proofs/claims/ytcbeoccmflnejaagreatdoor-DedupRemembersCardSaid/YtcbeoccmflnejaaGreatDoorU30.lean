/-.-/
import Derived.Test.YtcbeoccmflnejaaGreatDoorU26
set_option linter.all false
namespace Go.Proofs.YtcbeoccmflnejaaGreatDoor
open Go Go.Em Go.Ab
set_option maxRecDepth 100000
set_option linter.all false
namespace Ct
theorem tP2:ig (evP 2)=true:=by kernel_rfl
theorem tP6:ig (evP 6)=true:=by kernel_rfl
theorem tP9:ig (evP 9)=true:=by kernel_rfl
theorem zmy:ig (evP 13)=true:=by kernel_rfl
theorem tQ2:ig (evQ 2)=true:=by kernel_rfl
theorem tQ6:ig (evQ 6)=true:=by kernel_rfl
theorem zmx:ig (evQ 10)=true:=by kernel_rfl
theorem zid:AP tab ⟨T,K,evL,evG,some ⟨1,0⟩,1⟩ evO evB=true:=by kernel_rfl
theorem zeW:AP tab ⟨T,K,evL,evG,some ⟨1,0⟩,2⟩ evO evC=true:=by kernel_rfl
end Ct
end Go.Proofs.YtcbeoccmflnejaaGreatDoor
