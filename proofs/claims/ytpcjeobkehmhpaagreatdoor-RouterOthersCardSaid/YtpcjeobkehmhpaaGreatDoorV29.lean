/-.-/
import Derived.Test.YtpcjeobkehmhpaaGreatDoorV28
set_option linter.all false
namespace Go.Proofs.YtpcjeobkehmhpaaGreatDoor
open Go Go.Em Go.Ab
set_option maxRecDepth 100000
set_option linter.all false
namespace Ct
def zja:List Ctr:=[(dS 170 [exp] [] none [(.k .i64 0,[],bd 2 2 2++[ak (.k 0) ⟨6,0⟩]),(.ir .i64 1 100,[],[])]).with [bd 2 2 2]]
theorem Wh:ay T Gm zja:=hoA K (hpA dI (hpA bP (hpA bM (hpA dD (hpA bQ bH)))))
def zi9:List Ctr:=[(dS 170 [exp] [] none [(.k .i64 0,[],bd 2 3 3++[ak (.k 1) ⟨6,0⟩]),(.ir .i64 1 100,[],[])]).with [bd 2 3 3]]
theorem V9:ay T Gm zi9:=hoA K (hpA dI (hpA bP (hpA bM (hpA dD (hpA bQ bH)))))
def zi8:List Ctr:=[(dS 170 [exp] [] none [(.k .i64 0,[],bd 2 4 4++[ak (.k 2) ⟨6,0⟩]),(.ir .i64 1 100,[],[])]).with [bd 2 4 4]]
theorem V8:ay T Gm zi8:=hoA K (hpA dI (hpA bP (hpA bM (hpA dD (hpA bQ bH)))))
def zi7:List Ctr:=[(dS 170 [exp] [] none [(.k .i64 0,[],bd 2 5 5++[ak (.k 2) ⟨6,0⟩]),(.ir .i64 1 100,[],[])]).with [bd 2 5 5]]
theorem V7:ay T Gm zi7:=hoA K (hpA dI (hpA bP (hpA bM (hpA dD (hpA bQ bH)))))
def zi6:List Ctr:=[(dS 170 [exp] [] none [(.k .i64 0,[],bd 2 6 6++[ak (.k 2) ⟨6,0⟩]),(.ir .i64 1 100,[],[])]).with [bd 2 6 6]]
theorem V6:ay T Gm zi6:=hoA K (hpA dI (hpA bP (hpA bM (hpA dD (hpA bQ bH)))))
def zi5:List Ctr:=[(dS 170 [exp] [] none [(.k .i64 0,[],bd 2 7 7++[ak (.k 2) ⟨6,0⟩]),(.ir .i64 1 100,[],[])]).with [bd 2 7 7]]
theorem V5:ay T Gm zi5:=hoA K (hpA dI (hpA bP (hpA bM (hpA dD (hpA bQ bH)))))
def zi4:List Ctr:=[(dS 170 [exp] [] none [(.k .i64 0,[],bd 2 8 8++[ak (.k 2) ⟨6,0⟩]),(.ir .i64 1 100,[],[])]).with [bd 2 8 8]]
theorem V4:ay T Gm zi4:=hoA K (hpA dI (hpA bP (hpA bM (hpA dD (hpA bQ bH)))))
end Ct
end Go.Proofs.YtpcjeobkehmhpaaGreatDoor
