/- The example of layer 35 holds. -/
import Derived.Test.YthfchdkjeddijaaGreatDoorK10
namespace Go.Proofs.YthfchdkjeddijaaGreatDoor
open Go.Em
set_option maxRecDepth 100000
theorem known35_at (N : Nat) : Gam.pureD (callF tab ext (N + 400)) 17 [] = some (boolX true) := by kernel_rfl
end Go.Proofs.YthfchdkjeddijaaGreatDoor
