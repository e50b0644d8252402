/-.-/
import Derived.Test.YtkeefpkcepodeaaGreatDoorU18
set_option linter.all false
namespace Go.Proofs.YtkeefpkcepodeaaGreatDoor
open Go Go.Em Go.Ab
set_option maxRecDepth 100000
set_option linter.all false
namespace Ct
def zjF:List Ctr:=[(dO 189 [exp] [] none [(.k .i64 0,[],bd 2 2 2++[aj (.k 0) ⟨6,0⟩]),(.ir .i64 1 100,[],[])]).with [bd 2 2 2]]
theorem Xv:ak T Gm zjF:=hoA K (hpA dD (hpA bH (hpA bG (hpA bZ (hpA bI bC)))))
def zjE:List Ctr:=[(dO 189 [exp] [] none [(.k .i64 0,[],bd 2 3 3++[aj (.k 1) ⟨6,0⟩]),(.ir .i64 1 100,[],[])]).with [bd 2 3 3]]
theorem Xu:ak T Gm zjE:=hoA K (hpA dD (hpA bH (hpA bG (hpA bZ (hpA bI bC)))))
def zjD:List Ctr:=[(dO 189 [exp] [] none [(.k .i64 0,[],bd 2 4 4++[aj (.k 2) ⟨6,0⟩]),(.ir .i64 1 100,[],[])]).with [bd 2 4 4]]
theorem Xt:ak T Gm zjD:=hoA K (hpA dD (hpA bH (hpA bG (hpA bZ (hpA bI bC)))))
def zjC:List Ctr:=[(dO 189 [exp] [] none [(.k .i64 0,[],bd 2 5 5++[aj (.k 2) ⟨6,0⟩]),(.ir .i64 1 100,[],[])]).with [bd 2 5 5]]
theorem Xr:ak T Gm zjC:=hoA K (hpA dD (hpA bH (hpA bG (hpA bZ (hpA bI bC)))))
def zjB:List Ctr:=[(dO 189 [exp] [] none [(.k .i64 0,[],bd 2 6 6++[aj (.k 2) ⟨6,0⟩]),(.ir .i64 1 100,[],[])]).with [bd 2 6 6]]
theorem Xq:ak T Gm zjB:=hoA K (hpA dD (hpA bH (hpA bG (hpA bZ (hpA bI bC)))))
def zjA:List Ctr:=[(dO 189 [exp] [] none [(.k .i64 0,[],bd 2 7 7++[aj (.k 2) ⟨6,0⟩]),(.ir .i64 1 100,[],[])]).with [bd 2 7 7]]
theorem Xp:ak T Gm zjA:=hoA K (hpA dD (hpA bH (hpA bG (hpA bZ (hpA bI bC)))))
def zjz:List Ctr:=[(dO 189 [exp] [] none [(.k .i64 0,[],bd 2 8 8++[aj (.k 2) ⟨6,0⟩]),(.ir .i64 1 100,[],[])]).with [bd 2 8 8]]
theorem Xo:ak T Gm zjz:=hoA K (hpA dD (hpA bH (hpA bG (hpA bZ (hpA bI bC)))))
end Ct
end Go.Proofs.YtkeefpkcepodeaaGreatDoor
