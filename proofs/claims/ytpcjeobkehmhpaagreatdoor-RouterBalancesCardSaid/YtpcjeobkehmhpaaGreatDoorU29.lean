/-.-/
import Derived.Test.YtpcjeobkehmhpaaGreatDoorU28
set_option linter.unusedSimpArgs false
set_option linter.unusedVariables false
namespace Go.Proofs.YtpcjeobkehmhpaaGreatDoor
open Go Go.Em Go.Ab
set_option maxRecDepth 100000
set_option linter.all false
namespace Ct
def ziD:List Ctr:=[(dM 170 [exp] [] none [(.k .i64 0,[],bd 2 2 2++[aj (.k 0) ⟨6,0⟩]),(.ir .i64 1 100,[],[])]).with [bd 2 2 2]]
theorem VX:ay T Gm ziD:=hoA K (hpA dG (hpA bP (hpA bM (hpA dh (hpA bQ bH)))))
def ziC:List Ctr:=[(dM 170 [exp] [] none [(.k .i64 0,[],bd 2 3 3++[aj (.k 1) ⟨6,0⟩]),(.ir .i64 1 100,[],[])]).with [bd 2 3 3]]
theorem VW:ay T Gm ziC:=hoA K (hpA dG (hpA bP (hpA bM (hpA dh (hpA bQ bH)))))
def ziB:List Ctr:=[(dM 170 [exp] [] none [(.k .i64 0,[],bd 2 4 4++[aj (.k 2) ⟨6,0⟩]),(.ir .i64 1 100,[],[])]).with [bd 2 4 4]]
theorem VU:ay T Gm ziB:=hoA K (hpA dG (hpA bP (hpA bM (hpA dh (hpA bQ bH)))))
def ziA:List Ctr:=[(dM 170 [exp] [] none [(.k .i64 0,[],bd 2 5 5++[aj (.k 2) ⟨6,0⟩]),(.ir .i64 1 100,[],[])]).with [bd 2 5 5]]
theorem VT:ay T Gm ziA:=hoA K (hpA dG (hpA bP (hpA bM (hpA dh (hpA bQ bH)))))
def ziz:List Ctr:=[(dM 170 [exp] [] none [(.k .i64 0,[],bd 2 6 6++[aj (.k 2) ⟨6,0⟩]),(.ir .i64 1 100,[],[])]).with [bd 2 6 6]]
theorem VR:ay T Gm ziz:=hoA K (hpA dG (hpA bP (hpA bM (hpA dh (hpA bQ bH)))))
def ziy:List Ctr:=[(dM 170 [exp] [] none [(.k .i64 0,[],bd 2 7 7++[aj (.k 2) ⟨6,0⟩]),(.ir .i64 1 100,[],[])]).with [bd 2 7 7]]
theorem VQ:ay T Gm ziy:=hoA K (hpA dG (hpA bP (hpA bM (hpA dh (hpA bQ bH)))))
def zix:List Ctr:=[(dM 170 [exp] [] none [(.k .i64 0,[],bd 2 8 8++[aj (.k 2) ⟨6,0⟩]),(.ir .i64 1 100,[],[])]).with [bd 2 8 8]]
theorem VP:ay T Gm zix:=hoA K (hpA dG (hpA bP (hpA bM (hpA dh (hpA bQ bH)))))
end Ct
end Go.Proofs.YtpcjeobkehmhpaaGreatDoor
