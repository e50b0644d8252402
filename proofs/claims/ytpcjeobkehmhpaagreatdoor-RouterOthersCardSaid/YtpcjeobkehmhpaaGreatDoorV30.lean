/-.-/
import Derived.Test.YtpcjeobkehmhpaaGreatDoorV28
set_option linter.all false
namespace Go.Proofs.YtpcjeobkehmhpaaGreatDoor
open Go Go.Em Go.Ab
set_option maxRecDepth 100000
set_option linter.all false
namespace Ct
def zi3:List Ctr:=[(dS 170 [exp] [] none [(.k .i64 0,[],bd 2 9 9++[ak (.k 2) ⟨6,0⟩]),(.ir .i64 1 100,[],[])]).with [bd 2 9 9]]
theorem V3:ay T Gm zi3:=hoA K (hpA dI (hpA bP (hpA bM (hpA dD (hpA bQ bH)))))
def zeQ:List Ctr:=[(dS 170 [exp] [] none [(.k .i64 0,[],bd 2 10 10++[ak (.k 2) ⟨6,0⟩]),(.ir .i64 1 100,[],[])]).with [bd 2 10 10]]
theorem P7:ay T Gm zeQ:=hoA K (hpA dI (hpA bP (hpA bM (hpA dD (hpA bQ bH)))))
def zeP:List Ctr:=[(dS 170 [exp] [] none [(.k .i64 0,[],bd 2 11 11++[ak (.k 2) ⟨6,0⟩]),(.ir .i64 1 100,[],[])]).with [bd 2 11 11]]
theorem P6:ay T Gm zeP:=hoA K (hpA dI (hpA bP (hpA bM (hpA dD (hpA bQ bH)))))
def zeO:List Ctr:=[(dS 170 [exp] [] none [(.k .i64 0,[],bd 2 12 12++[ak (.k 2) ⟨6,0⟩]),(.ir .i64 1 100,[],[])]).with [bd 2 12 12]]
theorem P5:ay T Gm zeO:=hoA K (hpA dI (hpA bP (hpA bM (hpA dD (hpA bQ bH)))))
def zeN:List Ctr:=[(dS 170 [exp] [] none [(.k .i64 0,[],bd 2 13 13++[ak (.k 2) ⟨6,0⟩]),(.ir .i64 1 100,[],[])]).with [bd 2 13 13]]
theorem PZ:ay T Gm zeN:=hoA K (hpA dI (hpA bP (hpA bM (hpA dD (hpA bQ bH)))))
def zeM:List Ctr:=[(dS 170 [exp] [] none [(.k .i64 0,[],bd 2 14 14++[ak (.k 2) ⟨6,0⟩]),(.ir .i64 1 100,[],[])]).with [bd 2 14 14]]
theorem PY:ay T Gm zeM:=hoA K (hpA dI (hpA bP (hpA bM (hpA dD (hpA bQ bH)))))
def zeL:List Ctr:=[(dS 170 [exp] [] none [(.k .i64 0,[],bd 2 15 15++[ak (.k 2) ⟨6,0⟩]),(.ir .i64 1 100,[],[])]).with [bd 2 15 15]]
theorem PX:ay T Gm zeL:=hoA K (hpA dI (hpA bP (hpA bM (hpA dD (hpA bQ bH)))))
end Ct
end Go.Proofs.YtpcjeobkehmhpaaGreatDoor
