/-.-/
import Derived.Test.YtkeefpkcepodeaaGreatDoorU18
set_option linter.all false
namespace Go.Proofs.YtkeefpkcepodeaaGreatDoor
open Go Go.Em Go.Ab
set_option maxRecDepth 100000
set_option linter.all false
namespace Ct
def zfb:List Ctr:=[(dO 189 [exp] [] none [(.k .i64 0,[],bd 2 23 23++[aj (.k 2) ⟨6,0⟩]),(.ir .i64 1 100,[],[])]).with [bd 2 23 23]]
theorem QN:ak T Gm zfb:=hoA K (hpA dD (hpA bH (hpA bG (hpA bZ (hpA bI bC)))))
def zfa:List Ctr:=[(dO 189 [exp] [] none [(.k .i64 0,[],bd 2 24 24++[aj (.k 3) ⟨6,0⟩]),(.ir .i64 1 100,[],[])]).with [bd 2 24 24]]
theorem QM:ak T Gm zfa:=hoA K (hpA dD (hpA bH (hpA bG (hpA bZ (hpA bI bC)))))
def ze9:List Ctr:=[(dO 189 [exp] [] none [(.k .i64 0,[],bd 2 25 25++[aj (.k 2) ⟨6,0⟩]),(.ir .i64 1 100,[],[])]).with [bd 2 25 25]]
theorem QL:ak T Gm ze9:=hoA K (hpA dD (hpA bH (hpA bG (hpA bZ (hpA bI bC)))))
def ze8:List Ctr:=[(dO 189 [exp] [] none [(.k .i64 0,[],bd 2 26 26++[aj (.k 0) ⟨6,0⟩]),(.ir .i64 1 100,[],[])]).with [bd 2 26 26]]
theorem QK:ak T Gm ze8:=hoA K (hpA dD (hpA bH (hpA bG (hpA bZ (hpA bI bC)))))
def ze7:List Ctr:=[(dO 189 [exp] [] none [(.k .i64 0,[],bd 2 27 27++[aj (.k 1) ⟨6,0⟩]),(.ir .i64 1 100,[],[])]).with [bd 2 27 27]]
theorem QJ:ak T Gm ze7:=hoA K (hpA dD (hpA bH (hpA bG (hpA bZ (hpA bI bC)))))
def ze6:List Ctr:=[(dO 189 [exp] [] none [(.k .i64 0,[],bd 2 28 28++[aj (.k 1) ⟨6,0⟩]),(.ir .i64 1 100,[],[])]).with [bd 2 28 28]]
theorem QI:ak T Gm ze6:=hoA K (hpA dD (hpA bH (hpA bG (hpA bZ (hpA bI bC)))))
end Ct
end Go.Proofs.YtkeefpkcepodeaaGreatDoor
