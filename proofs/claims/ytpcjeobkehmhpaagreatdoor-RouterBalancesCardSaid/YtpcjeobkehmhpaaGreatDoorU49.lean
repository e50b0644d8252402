/-.-/
import Derived.Test.YtpcjeobkehmhpaaGreatDoorU13
set_option linter.unusedSimpArgs false
set_option linter.unusedVariables false
namespace Go.Proofs.YtpcjeobkehmhpaaGreatDoor
open Go.Em
set_option maxRecDepth 100000
end Go.Proofs.YtpcjeobkehmhpaaGreatDoor
