/- The example of layer 32 holds. -/
import Derived.Test.YtookihfheacdfaaGreatDoorR10
namespace Go.Proofs.YtookihfheacdfaaGreatDoor
open Go.Em
set_option maxRecDepth 100000
theorem known32_at (N:Nat):Gam.pureD (callF tab ext (N+400)) 8 []=some (boolX true):=by kernel_rfl
end Go.Proofs.YtookihfheacdfaaGreatDoor
