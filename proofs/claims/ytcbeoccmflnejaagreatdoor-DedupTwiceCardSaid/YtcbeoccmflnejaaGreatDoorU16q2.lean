/-.-/
import Derived.Test.YtcbeoccmflnejaaGreatDoorU16q2q3
set_option linter.all false
namespace Go.Proofs.YtcbeoccmflnejaaGreatDoor
open Go.Em
set_option maxRecDepth 100000
variable {τ:St}
theorem zdC {a b:Val}(h:cu a b<0):cu b a=1:=by obtain ⟨f,j,l,m,q⟩:=uH a b a;have n:=(uH b a b).2.2.2.2;have e:=kG a;rw [e] at f j l m;omega
end Go.Proofs.YtcbeoccmflnejaaGreatDoor
