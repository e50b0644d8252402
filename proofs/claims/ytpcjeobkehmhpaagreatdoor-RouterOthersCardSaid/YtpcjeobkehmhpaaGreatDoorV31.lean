/-.-/
import Derived.Test.YtpcjeobkehmhpaaGreatDoorV28
set_option linter.all false
namespace Go.Proofs.YtpcjeobkehmhpaaGreatDoor
open Go Go.Em Go.Ab
set_option maxRecDepth 100000
set_option linter.all false
namespace Ct
def zeK:List Ctr:=[(dS 170 [exp] [] none [(.k .i64 0,[],bd 2 16 16++[ak (.k 1) ⟨6,0⟩]),(.ir .i64 1 100,[],[])]).with [bd 2 16 16]]
theorem PW:ay T Gm zeK:=hoA K (hpA dI (hpA bP (hpA bM (hpA dD (hpA bQ bH)))))
def zeJ:List Ctr:=[(dS 170 [exp] [] none [(.k .i64 0,[],bd 2 17 17++[ak (.k 2) ⟨6,0⟩]),(.ir .i64 1 100,[],[])]).with [bd 2 17 17]]
theorem PV:ay T Gm zeJ:=hoA K (hpA dI (hpA bP (hpA bM (hpA dD (hpA bQ bH)))))
def zeI:List Ctr:=[(dS 170 [exp] [] none [(.k .i64 0,[],bd 2 18 18++[ak (.k 1) ⟨6,0⟩]),(.ir .i64 1 100,[],[])]).with [bd 2 18 18]]
theorem PU:ay T Gm zeI:=hoA K (hpA dI (hpA bP (hpA bM (hpA dD (hpA bQ bH)))))
def zeH:List Ctr:=[(dS 170 [exp] [] none [(.k .i64 0,[],bd 2 19 19++[ak (.k 1) ⟨6,0⟩]),(.ir .i64 1 100,[],[])]).with [bd 2 19 19]]
theorem PS:ay T Gm zeH:=hoA K (hpA dI (hpA bP (hpA bM (hpA dD (hpA bQ bH)))))
def zeG:List Ctr:=[(dS 170 [exp] [] none [(.k .i64 0,[],bd 2 20 20++[ak (.k 1) ⟨6,0⟩]),(.ir .i64 1 100,[],[])]).with [bd 2 20 20]]
theorem PO:ay T Gm zeG:=hoA K (hpA dI (hpA bP (hpA bM (hpA dD (hpA bQ bH)))))
def zeF:List Ctr:=[(dS 170 [exp] [] none [(.k .i64 0,[],bd 2 21 21++[ak (.k 3) ⟨6,0⟩]),(.ir .i64 1 100,[],[])]).with [bd 2 21 21]]
theorem PN:ay T Gm zeF:=hoA K (hpA dI (hpA bP (hpA bM (hpA dD (hpA bQ bH)))))
def zeE:List Ctr:=[(dS 170 [exp] [] none [(.k .i64 0,[],bd 2 22 22++[ak (.k 0) ⟨6,0⟩]),(.ir .i64 1 100,[],[])]).with [bd 2 22 22]]
theorem PL:ay T Gm zeE:=hoA K (hpA dI (hpA bP (hpA bM (hpA dD (hpA bQ bH)))))
end Ct
end Go.Proofs.YtpcjeobkehmhpaaGreatDoor
