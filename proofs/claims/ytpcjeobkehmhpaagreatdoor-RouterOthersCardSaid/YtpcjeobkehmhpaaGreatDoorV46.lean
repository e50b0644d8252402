/-.-/
import Derived.Test.YtpcjeobkehmhpaaGreatDoorV13
set_option linter.all false
namespace Go.Proofs.YtpcjeobkehmhpaaGreatDoor
open Go.Em
set_option maxRecDepth 100000
end Go.Proofs.YtpcjeobkehmhpaaGreatDoor
