/-.-/
import Derived.Test.YtpcjeobkehmhpaaGreatDoorU28
set_option linter.unusedSimpArgs false
set_option linter.unusedVariables false
namespace Go.Proofs.YtpcjeobkehmhpaaGreatDoor
open Go Go.Em Go.Ab
set_option maxRecDepth 100000
set_option linter.all false
namespace Ct
def zeo:List Ctr:=[(dM 170 [exp] [] none [(.k .i64 0,[],bd 2 16 16++[aj (.k 1) ⟨6,0⟩]),(.ir .i64 1 100,[],[])]).with [bd 2 16 16]]
theorem PS:ay T Gm zeo:=hoA K (hpA dG (hpA bP (hpA bM (hpA dh (hpA bQ bH)))))
def zen:List Ctr:=[(dM 170 [exp] [] none [(.k .i64 0,[],bd 2 17 17++[aj (.k 2) ⟨6,0⟩]),(.ir .i64 1 100,[],[])]).with [bd 2 17 17]]
theorem PO:ay T Gm zen:=hoA K (hpA dG (hpA bP (hpA bM (hpA dh (hpA bQ bH)))))
def zem:List Ctr:=[(dM 170 [exp] [] none [(.k .i64 0,[],bd 2 18 18++[aj (.k 1) ⟨6,0⟩]),(.ir .i64 1 100,[],[])]).with [bd 2 18 18]]
theorem PN:ay T Gm zem:=hoA K (hpA dG (hpA bP (hpA bM (hpA dh (hpA bQ bH)))))
def zel:List Ctr:=[(dM 170 [exp] [] none [(.k .i64 0,[],bd 2 19 19++[aj (.k 1) ⟨6,0⟩]),(.ir .i64 1 100,[],[])]).with [bd 2 19 19]]
theorem PL:ay T Gm zel:=hoA K (hpA dG (hpA bP (hpA bM (hpA dh (hpA bQ bH)))))
def zek:List Ctr:=[(dM 170 [exp] [] none [(.k .i64 0,[],bd 2 20 20++[aj (.k 1) ⟨6,0⟩]),(.ir .i64 1 100,[],[])]).with [bd 2 20 20]]
theorem PK:ay T Gm zek:=hoA K (hpA dG (hpA bP (hpA bM (hpA dh (hpA bQ bH)))))
def zej:List Ctr:=[(dM 170 [exp] [] none [(.k .i64 0,[],bd 2 21 21++[aj (.k 3) ⟨6,0⟩]),(.ir .i64 1 100,[],[])]).with [bd 2 21 21]]
theorem PI:ay T Gm zej:=hoA K (hpA dG (hpA bP (hpA bM (hpA dh (hpA bQ bH)))))
def zei:List Ctr:=[(dM 170 [exp] [] none [(.k .i64 0,[],bd 2 22 22++[aj (.k 0) ⟨6,0⟩]),(.ir .i64 1 100,[],[])]).with [bd 2 22 22]]
theorem PG:ay T Gm zei:=hoA K (hpA dG (hpA bP (hpA bM (hpA dh (hpA bQ bH)))))
end Ct
end Go.Proofs.YtpcjeobkehmhpaaGreatDoor
