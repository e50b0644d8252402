/-.-/
import Derived.Test.YtkeefpkcepodeaaGreatDoorU18
set_option linter.all false
namespace Go.Proofs.YtkeefpkcepodeaaGreatDoor
open Go Go.Em Go.Ab
set_option maxRecDepth 100000
set_option linter.all false
namespace Ct
def zjy:List Ctr:=[(dO 189 [exp] [] none [(.k .i64 0,[],bd 2 9 9++[aj (.k 2) ⟨6,0⟩]),(.ir .i64 1 100,[],[])]).with [bd 2 9 9]]
theorem Xn:ak T Gm zjy:=hoA K (hpA dD (hpA bH (hpA bG (hpA bZ (hpA bI bC)))))
def zfo:List Ctr:=[(dO 189 [exp] [] none [(.k .i64 0,[],bd 2 10 10++[aj (.k 2) ⟨6,0⟩]),(.ir .i64 1 100,[],[])]).with [bd 2 10 10]]
theorem Q9:ak T Gm zfo:=hoA K (hpA dD (hpA bH (hpA bG (hpA bZ (hpA bI bC)))))
def zfn:List Ctr:=[(dO 189 [exp] [] none [(.k .i64 0,[],bd 2 11 11++[aj (.k 2) ⟨6,0⟩]),(.ir .i64 1 100,[],[])]).with [bd 2 11 11]]
theorem Q8:ak T Gm zfn:=hoA K (hpA dD (hpA bH (hpA bG (hpA bZ (hpA bI bC)))))
def zfm:List Ctr:=[(dO 189 [exp] [] none [(.k .i64 0,[],bd 2 12 12++[aj (.k 2) ⟨6,0⟩]),(.ir .i64 1 100,[],[])]).with [bd 2 12 12]]
theorem Q7:ak T Gm zfm:=hoA K (hpA dD (hpA bH (hpA bG (hpA bZ (hpA bI bC)))))
def zfl:List Ctr:=[(dO 189 [exp] [] none [(.k .i64 0,[],bd 2 13 13++[aj (.k 2) ⟨6,0⟩]),(.ir .i64 1 100,[],[])]).with [bd 2 13 13]]
theorem Q5:ak T Gm zfl:=hoA K (hpA dD (hpA bH (hpA bG (hpA bZ (hpA bI bC)))))
def zfk:List Ctr:=[(dO 189 [exp] [] none [(.k .i64 0,[],bd 2 14 14++[aj (.k 2) ⟨6,0⟩]),(.ir .i64 1 100,[],[])]).with [bd 2 14 14]]
theorem QZ:ak T Gm zfk:=hoA K (hpA dD (hpA bH (hpA bG (hpA bZ (hpA bI bC)))))
def zfj:List Ctr:=[(dO 189 [exp] [] none [(.k .i64 0,[],bd 2 15 15++[aj (.k 2) ⟨6,0⟩]),(.ir .i64 1 100,[],[])]).with [bd 2 15 15]]
theorem QY:ak T Gm zfj:=hoA K (hpA dD (hpA bH (hpA bG (hpA bZ (hpA bI bC)))))
end Ct
end Go.Proofs.YtkeefpkcepodeaaGreatDoor
