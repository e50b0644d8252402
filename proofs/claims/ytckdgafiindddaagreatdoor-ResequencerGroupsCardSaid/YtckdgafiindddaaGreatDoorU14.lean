/- The example of layer 35 holds. -/
import Derived.Test.YtckdgafiindddaaGreatDoorU10
set_option linter.all false
namespace Go.Proofs.YtckdgafiindddaaGreatDoor
open Go.Em
set_option maxRecDepth 100000
end Go.Proofs.YtckdgafiindddaaGreatDoor
