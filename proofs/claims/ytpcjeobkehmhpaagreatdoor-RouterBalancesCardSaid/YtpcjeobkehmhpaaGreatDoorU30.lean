/-.-/
import Derived.Test.YtpcjeobkehmhpaaGreatDoorU28
set_option linter.unusedSimpArgs false
set_option linter.unusedVariables false
namespace Go.Proofs.YtpcjeobkehmhpaaGreatDoor
open Go Go.Em Go.Ab
set_option maxRecDepth 100000
set_option linter.all false
namespace Ct
def ziw:List Ctr:=[(dM 170 [exp] [] none [(.k .i64 0,[],bd 2 9 9++[aj (.k 2) ⟨6,0⟩]),(.ir .i64 1 100,[],[])]).with [bd 2 9 9]]
theorem VO:ay T Gm ziw:=hoA K (hpA dG (hpA bP (hpA bM (hpA dh (hpA bQ bH)))))
def zeu:List Ctr:=[(dM 170 [exp] [] none [(.k .i64 0,[],bd 2 10 10++[aj (.k 2) ⟨6,0⟩]),(.ir .i64 1 100,[],[])]).with [bd 2 10 10]]
theorem PZ:ay T Gm zeu:=hoA K (hpA dG (hpA bP (hpA bM (hpA dh (hpA bQ bH)))))
def zet:List Ctr:=[(dM 170 [exp] [] none [(.k .i64 0,[],bd 2 11 11++[aj (.k 2) ⟨6,0⟩]),(.ir .i64 1 100,[],[])]).with [bd 2 11 11]]
theorem PY:ay T Gm zet:=hoA K (hpA dG (hpA bP (hpA bM (hpA dh (hpA bQ bH)))))
def zes:List Ctr:=[(dM 170 [exp] [] none [(.k .i64 0,[],bd 2 12 12++[aj (.k 2) ⟨6,0⟩]),(.ir .i64 1 100,[],[])]).with [bd 2 12 12]]
theorem PX:ay T Gm zes:=hoA K (hpA dG (hpA bP (hpA bM (hpA dh (hpA bQ bH)))))
def zer:List Ctr:=[(dM 170 [exp] [] none [(.k .i64 0,[],bd 2 13 13++[aj (.k 2) ⟨6,0⟩]),(.ir .i64 1 100,[],[])]).with [bd 2 13 13]]
theorem PW:ay T Gm zer:=hoA K (hpA dG (hpA bP (hpA bM (hpA dh (hpA bQ bH)))))
def zeq:List Ctr:=[(dM 170 [exp] [] none [(.k .i64 0,[],bd 2 14 14++[aj (.k 2) ⟨6,0⟩]),(.ir .i64 1 100,[],[])]).with [bd 2 14 14]]
theorem PV:ay T Gm zeq:=hoA K (hpA dG (hpA bP (hpA bM (hpA dh (hpA bQ bH)))))
def zep:List Ctr:=[(dM 170 [exp] [] none [(.k .i64 0,[],bd 2 15 15++[aj (.k 2) ⟨6,0⟩]),(.ir .i64 1 100,[],[])]).with [bd 2 15 15]]
theorem PU:ay T Gm zep:=hoA K (hpA dG (hpA bP (hpA bM (hpA dh (hpA bQ bH)))))
end Ct
end Go.Proofs.YtpcjeobkehmhpaaGreatDoor
