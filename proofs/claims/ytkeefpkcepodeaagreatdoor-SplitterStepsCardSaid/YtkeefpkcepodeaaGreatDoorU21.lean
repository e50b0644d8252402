/-.-/
import Derived.Test.YtkeefpkcepodeaaGreatDoorU18
set_option linter.all false
namespace Go.Proofs.YtkeefpkcepodeaaGreatDoor
open Go Go.Em Go.Ab
set_option maxRecDepth 100000
set_option linter.all false
namespace Ct
def zfi:List Ctr:=[(dO 189 [exp] [] none [(.k .i64 0,[],bd 2 16 16++[aj (.k 1) ⟨6,0⟩]),(.ir .i64 1 100,[],[])]).with [bd 2 16 16]]
theorem QX:ak T Gm zfi:=hoA K (hpA dD (hpA bH (hpA bG (hpA bZ (hpA bI bC)))))
def zfh:List Ctr:=[(dO 189 [exp] [] none [(.k .i64 0,[],bd 2 17 17++[aj (.k 2) ⟨6,0⟩]),(.ir .i64 1 100,[],[])]).with [bd 2 17 17]]
theorem QW:ak T Gm zfh:=hoA K (hpA dD (hpA bH (hpA bG (hpA bZ (hpA bI bC)))))
def zfg:List Ctr:=[(dO 189 [exp] [] none [(.k .i64 0,[],bd 2 18 18++[aj (.k 1) ⟨6,0⟩]),(.ir .i64 1 100,[],[])]).with [bd 2 18 18]]
theorem QV:ak T Gm zfg:=hoA K (hpA dD (hpA bH (hpA bG (hpA bZ (hpA bI bC)))))
def zff:List Ctr:=[(dO 189 [exp] [] none [(.k .i64 0,[],bd 2 19 19++[aj (.k 1) ⟨6,0⟩]),(.ir .i64 1 100,[],[])]).with [bd 2 19 19]]
theorem QU:ak T Gm zff:=hoA K (hpA dD (hpA bH (hpA bG (hpA bZ (hpA bI bC)))))
def zfe:List Ctr:=[(dO 189 [exp] [] none [(.k .i64 0,[],bd 2 20 20++[aj (.k 1) ⟨6,0⟩]),(.ir .i64 1 100,[],[])]).with [bd 2 20 20]]
theorem QT:ak T Gm zfe:=hoA K (hpA dD (hpA bH (hpA bG (hpA bZ (hpA bI bC)))))
def zfd:List Ctr:=[(dO 189 [exp] [] none [(.k .i64 0,[],bd 2 21 21++[aj (.k 3) ⟨6,0⟩]),(.ir .i64 1 100,[],[])]).with [bd 2 21 21]]
theorem QS:ak T Gm zfd:=hoA K (hpA dD (hpA bH (hpA bG (hpA bZ (hpA bI bC)))))
def zfc:List Ctr:=[(dO 189 [exp] [] none [(.k .i64 0,[],bd 2 22 22++[aj (.k 0) ⟨6,0⟩]),(.ir .i64 1 100,[],[])]).with [bd 2 22 22]]
theorem QO:ak T Gm zfc:=hoA K (hpA dD (hpA bH (hpA bG (hpA bZ (hpA bI bC)))))
end Ct
end Go.Proofs.YtkeefpkcepodeaaGreatDoor
