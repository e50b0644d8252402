/-.-/
import Derived.Test.YtcbeoccmflnejaaGreatDoorU18
set_option linter.all false
namespace Go.Proofs.YtcbeoccmflnejaaGreatDoor
open Go Go.Em Go.Ab
set_option maxRecDepth 100000
set_option linter.all false
namespace Ct
def XF:List Ctr:=[(dF 136 [exp] [] none [(.k .i64 0,[],bd 2 23 23++[au (.k 2) ⟨6,0⟩]),(.ir .i64 1 100,[],[])]).with [bd 2 23 23]]
theorem IL:aB T Gm XF:=hoA K (hpA bQ (hpA bC (hpA bg (hpA bK (hpA bD aZ)))))
def XE:List Ctr:=[(dF 136 [exp] [] none [(.k .i64 0,[],bd 2 24 24++[au (.k 3) ⟨6,0⟩]),(.ir .i64 1 100,[],[])]).with [bd 2 24 24]]
theorem IK:aB T Gm XE:=hoA K (hpA bQ (hpA bC (hpA bg (hpA bK (hpA bD aZ)))))
def XD:List Ctr:=[(dF 136 [exp] [] none [(.k .i64 0,[],bd 2 25 25++[au (.k 2) ⟨6,0⟩]),(.ir .i64 1 100,[],[])]).with [bd 2 25 25]]
theorem IJ:aB T Gm XD:=hoA K (hpA bQ (hpA bC (hpA bg (hpA bK (hpA bD aZ)))))
def XC:List Ctr:=[(dF 136 [exp] [] none [(.k .i64 0,[],bd 2 26 26++[au (.k 0) ⟨6,0⟩]),(.ir .i64 1 100,[],[])]).with [bd 2 26 26]]
theorem II:aB T Gm XC:=hoA K (hpA bQ (hpA bC (hpA bg (hpA bK (hpA bD aZ)))))
def XB:List Ctr:=[(dF 136 [exp] [] none [(.k .i64 0,[],bd 2 27 27++[au (.k 1) ⟨6,0⟩]),(.ir .i64 1 100,[],[])]).with [bd 2 27 27]]
theorem IG:aB T Gm XB:=hoA K (hpA bQ (hpA bC (hpA bg (hpA bK (hpA bD aZ)))))
def XA:List Ctr:=[(dF 136 [exp] [] none [(.k .i64 0,[],bd 2 28 28++[au (.k 1) ⟨6,0⟩]),(.ir .i64 1 100,[],[])]).with [bd 2 28 28]]
theorem IE:aB T Gm XA:=hoA K (hpA bQ (hpA bC (hpA bg (hpA bK (hpA bD aZ)))))
end Ct
end Go.Proofs.YtcbeoccmflnejaaGreatDoor
