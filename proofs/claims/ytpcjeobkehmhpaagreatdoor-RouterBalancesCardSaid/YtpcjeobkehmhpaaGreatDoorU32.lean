/-.-/
import Derived.Test.YtpcjeobkehmhpaaGreatDoorU28
set_option linter.unusedSimpArgs false
set_option linter.unusedVariables false
namespace Go.Proofs.YtpcjeobkehmhpaaGreatDoor
open Go Go.Em Go.Ab
set_option maxRecDepth 100000
set_option linter.all false
namespace Ct
def zeh:List Ctr:=[(dM 170 [exp] [] none [(.k .i64 0,[],bd 2 23 23++[aj (.k 2) ⟨6,0⟩]),(.ir .i64 1 100,[],[])]).with [bd 2 23 23]]
theorem PE:ay T Gm zeh:=hoA K (hpA dG (hpA bP (hpA bM (hpA dh (hpA bQ bH)))))
def zeg:List Ctr:=[(dM 170 [exp] [] none [(.k .i64 0,[],bd 2 24 24++[aj (.k 3) ⟨6,0⟩]),(.ir .i64 1 100,[],[])]).with [bd 2 24 24]]
theorem PD:ay T Gm zeg:=hoA K (hpA dG (hpA bP (hpA bM (hpA dh (hpA bQ bH)))))
def zef:List Ctr:=[(dM 170 [exp] [] none [(.k .i64 0,[],bd 2 25 25++[aj (.k 2) ⟨6,0⟩]),(.ir .i64 1 100,[],[])]).with [bd 2 25 25]]
theorem Pz:ay T Gm zef:=hoA K (hpA dG (hpA bP (hpA bM (hpA dh (hpA bQ bH)))))
def zee:List Ctr:=[(dM 170 [exp] [] none [(.k .i64 0,[],bd 2 26 26++[aj (.k 0) ⟨6,0⟩]),(.ir .i64 1 100,[],[])]).with [bd 2 26 26]]
theorem Py:ay T Gm zee:=hoA K (hpA dG (hpA bP (hpA bM (hpA dh (hpA bQ bH)))))
def zed:List Ctr:=[(dM 170 [exp] [] none [(.k .i64 0,[],bd 2 27 27++[aj (.k 1) ⟨6,0⟩]),(.ir .i64 1 100,[],[])]).with [bd 2 27 27]]
theorem Px:ay T Gm zed:=hoA K (hpA dG (hpA bP (hpA bM (hpA dh (hpA bQ bH)))))
def zec:List Ctr:=[(dM 170 [exp] [] none [(.k .i64 0,[],bd 2 28 28++[aj (.k 1) ⟨6,0⟩]),(.ir .i64 1 100,[],[])]).with [bd 2 28 28]]
theorem Pv:ay T Gm zec:=hoA K (hpA dG (hpA bP (hpA bM (hpA dh (hpA bQ bH)))))
end Ct
end Go.Proofs.YtpcjeobkehmhpaaGreatDoor
