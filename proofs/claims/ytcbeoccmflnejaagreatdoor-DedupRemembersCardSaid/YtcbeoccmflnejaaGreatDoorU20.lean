/-.-/
import Derived.Test.YtcbeoccmflnejaaGreatDoorU18
set_option linter.all false
namespace Go.Proofs.YtcbeoccmflnejaaGreatDoor
open Go Go.Em Go.Ab
set_option maxRecDepth 100000
set_option linter.all false
namespace Ct
def zbN:List Ctr:=[(dF 136 [exp] [] none [(.k .i64 0,[],bd 2 9 9++[au (.k 2) ⟨6,0⟩]),(.ir .i64 1 100,[],[])]).with [bd 2 9 9]]
theorem Og:aB T Gm zbN:=hoA K (hpA bQ (hpA bC (hpA bg (hpA bK (hpA bD aZ)))))
def XU:List Ctr:=[(dF 136 [exp] [] none [(.k .i64 0,[],bd 2 10 10++[au (.k 2) ⟨6,0⟩]),(.ir .i64 1 100,[],[])]).with [bd 2 10 10]]
theorem Ja:aB T Gm XU:=hoA K (hpA bQ (hpA bC (hpA bg (hpA bK (hpA bD aZ)))))
def XT:List Ctr:=[(dF 136 [exp] [] none [(.k .i64 0,[],bd 2 11 11++[au (.k 2) ⟨6,0⟩]),(.ir .i64 1 100,[],[])]).with [bd 2 11 11]]
theorem I9:aB T Gm XT:=hoA K (hpA bQ (hpA bC (hpA bg (hpA bK (hpA bD aZ)))))
def XR:List Ctr:=[(dF 136 [exp] [] none [(.k .i64 0,[],bd 2 12 12++[au (.k 2) ⟨6,0⟩]),(.ir .i64 1 100,[],[])]).with [bd 2 12 12]]
theorem I8:aB T Gm XR:=hoA K (hpA bQ (hpA bC (hpA bg (hpA bK (hpA bD aZ)))))
def XQ:List Ctr:=[(dF 136 [exp] [] none [(.k .i64 0,[],bd 2 13 13++[au (.k 2) ⟨6,0⟩]),(.ir .i64 1 100,[],[])]).with [bd 2 13 13]]
theorem I7:aB T Gm XQ:=hoA K (hpA bQ (hpA bC (hpA bg (hpA bK (hpA bD aZ)))))
def XP:List Ctr:=[(dF 136 [exp] [] none [(.k .i64 0,[],bd 2 14 14++[au (.k 2) ⟨6,0⟩]),(.ir .i64 1 100,[],[])]).with [bd 2 14 14]]
theorem I5:aB T Gm XP:=hoA K (hpA bQ (hpA bC (hpA bg (hpA bK (hpA bD aZ)))))
def XO:List Ctr:=[(dF 136 [exp] [] none [(.k .i64 0,[],bd 2 15 15++[au (.k 2) ⟨6,0⟩]),(.ir .i64 1 100,[],[])]).with [bd 2 15 15]]
theorem I4:aB T Gm XO:=hoA K (hpA bQ (hpA bC (hpA bg (hpA bK (hpA bD aZ)))))
end Ct
end Go.Proofs.YtcbeoccmflnejaaGreatDoor
