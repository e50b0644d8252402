/-.-/
import Derived.Test.YtcbeoccmflnejaaGreatDoorU18
set_option linter.all false
namespace Go.Proofs.YtcbeoccmflnejaaGreatDoor
open Go Go.Em Go.Ab
set_option maxRecDepth 100000
set_option linter.all false
namespace Ct
def XM:List Ctr:=[(dF 136 [exp] [] none [(.k .i64 0,[],bd 2 16 16++[au (.k 1) ⟨6,0⟩]),(.ir .i64 1 100,[],[])]).with [bd 2 16 16]]
theorem IZ:aB T Gm XM:=hoA K (hpA bQ (hpA bC (hpA bg (hpA bK (hpA bD aZ)))))
def XL:List Ctr:=[(dF 136 [exp] [] none [(.k .i64 0,[],bd 2 17 17++[au (.k 2) ⟨6,0⟩]),(.ir .i64 1 100,[],[])]).with [bd 2 17 17]]
theorem IY:aB T Gm XL:=hoA K (hpA bQ (hpA bC (hpA bg (hpA bK (hpA bD aZ)))))
def XK:List Ctr:=[(dF 136 [exp] [] none [(.k .i64 0,[],bd 2 18 18++[au (.k 1) ⟨6,0⟩]),(.ir .i64 1 100,[],[])]).with [bd 2 18 18]]
theorem IX:aB T Gm XK:=hoA K (hpA bQ (hpA bC (hpA bg (hpA bK (hpA bD aZ)))))
def XJ:List Ctr:=[(dF 136 [exp] [] none [(.k .i64 0,[],bd 2 19 19++[au (.k 1) ⟨6,0⟩]),(.ir .i64 1 100,[],[])]).with [bd 2 19 19]]
theorem IW:aB T Gm XJ:=hoA K (hpA bQ (hpA bC (hpA bg (hpA bK (hpA bD aZ)))))
def XI:List Ctr:=[(dF 136 [exp] [] none [(.k .i64 0,[],bd 2 20 20++[au (.k 1) ⟨6,0⟩]),(.ir .i64 1 100,[],[])]).with [bd 2 20 20]]
theorem IV:aB T Gm XI:=hoA K (hpA bQ (hpA bC (hpA bg (hpA bK (hpA bD aZ)))))
def XH:List Ctr:=[(dF 136 [exp] [] none [(.k .i64 0,[],bd 2 21 21++[au (.k 3) ⟨6,0⟩]),(.ir .i64 1 100,[],[])]).with [bd 2 21 21]]
theorem IU:aB T Gm XH:=hoA K (hpA bQ (hpA bC (hpA bg (hpA bK (hpA bD aZ)))))
def XG:List Ctr:=[(dF 136 [exp] [] none [(.k .i64 0,[],bd 2 22 22++[au (.k 0) ⟨6,0⟩]),(.ir .i64 1 100,[],[])]).with [bd 2 22 22]]
theorem IQ:aB T Gm XG:=hoA K (hpA bQ (hpA bC (hpA bg (hpA bK (hpA bD aZ)))))
end Ct
end Go.Proofs.YtcbeoccmflnejaaGreatDoor
