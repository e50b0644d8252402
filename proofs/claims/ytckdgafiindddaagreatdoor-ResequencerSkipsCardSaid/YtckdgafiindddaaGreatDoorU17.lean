/- The example of layer 34 holds: its rounds. -/
import Derived.Test.YtckdgafiindddaaGreatDoorU16
set_option linter.all false
namespace Go.Proofs.YtckdgafiindddaaGreatDoor
open Go.Em
set_option maxRecDepth 100000
theorem k34_1 (N : Nat) : k34r (N + 399) (k34H 1 false [k34s 1 [k34m 1 2] [k34v 2]]) = some (k34H 2 false [k34s 3 [] []]) := by kernel_rfl
end Go.Proofs.YtckdgafiindddaaGreatDoor
