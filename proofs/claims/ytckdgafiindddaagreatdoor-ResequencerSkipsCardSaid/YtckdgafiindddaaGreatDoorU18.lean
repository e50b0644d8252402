/- The example of layer 34 holds: its rounds. -/
import Derived.Test.YtckdgafiindddaaGreatDoorU16
set_option linter.all false
namespace Go.Proofs.YtckdgafiindddaaGreatDoor
open Go.Em
set_option maxRecDepth 100000
theorem k34_2 (N : Nat) : k34r (N + 399) (k34H 2 false [k34s 3 [] []]) = some (k34H 3 false [k34s 3 [k34m 3 4] [k34v 4]]) := by kernel_rfl
end Go.Proofs.YtckdgafiindddaaGreatDoor
