/- The example of layer 35 holds. -/
import Derived.Test.YtejenmhcebfnlaaGreatDoorU10
set_option linter.all false
namespace Go.Proofs.YtejenmhcebfnlaaGreatDoor
open Go.Em
set_option maxRecDepth 100000
end Go.Proofs.YtejenmhcebfnlaaGreatDoor
