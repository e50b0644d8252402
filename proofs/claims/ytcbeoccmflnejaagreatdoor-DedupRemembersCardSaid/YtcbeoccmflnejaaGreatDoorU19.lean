/-.-/
import Derived.Test.YtcbeoccmflnejaaGreatDoorU18
set_option linter.all false
namespace Go.Proofs.YtcbeoccmflnejaaGreatDoor
open Go Go.Em Go.Ab
set_option maxRecDepth 100000
set_option linter.all false
namespace Ct
def zbU:List Ctr:=[(dF 136 [exp] [] none [(.k .i64 0,[],bd 2 2 2++[au (.k 0) ⟨6,0⟩]),(.ir .i64 1 100,[],[])]).with [bd 2 2 2]]
theorem Oq:aB T Gm zbU:=hoA K (hpA bQ (hpA bC (hpA bg (hpA bK (hpA bD aZ)))))
def zbT:List Ctr:=[(dF 136 [exp] [] none [(.k .i64 0,[],bd 2 3 3++[au (.k 1) ⟨6,0⟩]),(.ir .i64 1 100,[],[])]).with [bd 2 3 3]]
theorem Oo:aB T Gm zbT:=hoA K (hpA bQ (hpA bC (hpA bg (hpA bK (hpA bD aZ)))))
def zbS:List Ctr:=[(dF 136 [exp] [] none [(.k .i64 0,[],bd 2 4 4++[au (.k 2) ⟨6,0⟩]),(.ir .i64 1 100,[],[])]).with [bd 2 4 4]]
theorem Om:aB T Gm zbS:=hoA K (hpA bQ (hpA bC (hpA bg (hpA bK (hpA bD aZ)))))
def zbR:List Ctr:=[(dF 136 [exp] [] none [(.k .i64 0,[],bd 2 5 5++[au (.k 2) ⟨6,0⟩]),(.ir .i64 1 100,[],[])]).with [bd 2 5 5]]
theorem Ol:aB T Gm zbR:=hoA K (hpA bQ (hpA bC (hpA bg (hpA bK (hpA bD aZ)))))
def zbQ:List Ctr:=[(dF 136 [exp] [] none [(.k .i64 0,[],bd 2 6 6++[au (.k 2) ⟨6,0⟩]),(.ir .i64 1 100,[],[])]).with [bd 2 6 6]]
theorem Oj:aB T Gm zbQ:=hoA K (hpA bQ (hpA bC (hpA bg (hpA bK (hpA bD aZ)))))
def zbP:List Ctr:=[(dF 136 [exp] [] none [(.k .i64 0,[],bd 2 7 7++[au (.k 2) ⟨6,0⟩]),(.ir .i64 1 100,[],[])]).with [bd 2 7 7]]
theorem Oi:aB T Gm zbP:=hoA K (hpA bQ (hpA bC (hpA bg (hpA bK (hpA bD aZ)))))
def zbO:List Ctr:=[(dF 136 [exp] [] none [(.k .i64 0,[],bd 2 8 8++[au (.k 2) ⟨6,0⟩]),(.ir .i64 1 100,[],[])]).with [bd 2 8 8]]
theorem Oh:aB T Gm zbO:=hoA K (hpA bQ (hpA bC (hpA bg (hpA bK (hpA bD aZ)))))
end Ct
end Go.Proofs.YtcbeoccmflnejaaGreatDoor
