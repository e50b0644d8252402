/-.-/
import Derived.Test.YtpcjeobkehmhpaaGreatDoorV28
set_option linter.all false
namespace Go.Proofs.YtpcjeobkehmhpaaGreatDoor
open Go Go.Em Go.Ab
set_option maxRecDepth 100000
set_option linter.all false
namespace Ct
def zeD:List Ctr:=[(dS 170 [exp] [] none [(.k .i64 0,[],bd 2 23 23++[ak (.k 2) ⟨6,0⟩]),(.ir .i64 1 100,[],[])]).with [bd 2 23 23]]
theorem PK:ay T Gm zeD:=hoA K (hpA dI (hpA bP (hpA bM (hpA dD (hpA bQ bH)))))
def zeC:List Ctr:=[(dS 170 [exp] [] none [(.k .i64 0,[],bd 2 24 24++[ak (.k 3) ⟨6,0⟩]),(.ir .i64 1 100,[],[])]).with [bd 2 24 24]]
theorem PI:ay T Gm zeC:=hoA K (hpA dI (hpA bP (hpA bM (hpA dD (hpA bQ bH)))))
def zeB:List Ctr:=[(dS 170 [exp] [] none [(.k .i64 0,[],bd 2 25 25++[ak (.k 2) ⟨6,0⟩]),(.ir .i64 1 100,[],[])]).with [bd 2 25 25]]
theorem PG:ay T Gm zeB:=hoA K (hpA dI (hpA bP (hpA bM (hpA dD (hpA bQ bH)))))
def zeA:List Ctr:=[(dS 170 [exp] [] none [(.k .i64 0,[],bd 2 26 26++[ak (.k 0) ⟨6,0⟩]),(.ir .i64 1 100,[],[])]).with [bd 2 26 26]]
theorem PE:ay T Gm zeA:=hoA K (hpA dI (hpA bP (hpA bM (hpA dD (hpA bQ bH)))))
def zez:List Ctr:=[(dS 170 [exp] [] none [(.k .i64 0,[],bd 2 27 27++[ak (.k 1) ⟨6,0⟩]),(.ir .i64 1 100,[],[])]).with [bd 2 27 27]]
theorem PD:ay T Gm zez:=hoA K (hpA dI (hpA bP (hpA bM (hpA dD (hpA bQ bH)))))
def zey:List Ctr:=[(dS 170 [exp] [] none [(.k .i64 0,[],bd 2 28 28++[ak (.k 1) ⟨6,0⟩]),(.ir .i64 1 100,[],[])]).with [bd 2 28 28]]
theorem Pz:ay T Gm zey:=hoA K (hpA dI (hpA bP (hpA bM (hpA dD (hpA bQ bH)))))
end Ct
end Go.Proofs.YtpcjeobkehmhpaaGreatDoor
