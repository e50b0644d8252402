/-.-/
import Derived.Test.YtcbeoccmflnejaaGreatDoorU13
set_option linter.all false
namespace Go.Proofs.YtcbeoccmflnejaaGreatDoor
open Go.Em
set_option maxRecDepth 100000
theorem EC (l:List Stp):(gq l).length=l.length:=by simp [gq]
theorem PO {l:List Stp}{j:Nat}(h:j<l.length):(gq l)[j]?=some l[j].cells:=by grind[gq]
section
variable (g:Nat) (l m:qaW) (n j:Nat)
def TJ:St:=⟨[(1,.sl false 2 m),(2,.fn g []),(15,.sl false 2 l),(16,nat n),(17,nat j)],[]⟩
def zgz:St:=⟨[(1,.sl false 2 m),(2,.fn g []),(15,.sl false 2 l),(16,nat n),(17,nat j),(18,boolX false)],[]⟩
theorem JB:canon 0 (TJ g l m n j)=some (TJ g l m n j):=by kernel_rfl
end
end Go.Proofs.YtcbeoccmflnejaaGreatDoor
