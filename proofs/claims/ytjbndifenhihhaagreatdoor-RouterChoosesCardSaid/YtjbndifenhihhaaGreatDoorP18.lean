/- expr.checkOne by operations, by the kernel (printed). -/
import Derived.Test.YtjbndifenhihhaaGreatDoorP17
namespace Go.Proofs.YtjbndifenhihhaaGreatDoor
open Go Go.Em Go.Ab
set_option maxRecDepth 100000
set_option linter.all false
namespace Ct
def zdp:List Ctr:=[(dN 152 [exp] [] none [(.k .i64 0,[],bd 2 2 2++[ak (.k 0) ⟨6,0⟩]),(.ir .i64 1 100,[],[])]).with [bd 2 2 2]]
theorem Ri:ah T Gm zdp:=aA (L:=(uG++(iJ++(iI++(rF++(iK++gZ)))))) (K:=K) (orc:=(aT [])) (ah.append bW (ah.append bF (ah.append bD (ah.append bT (ah.append bG bg))))) (by kernel_rfl) (by kernel_rfl)
def zdo:List Ctr:=[(dN 152 [exp] [] none [(.k .i64 0,[],bd 2 3 3++[ak (.k 1) ⟨6,0⟩]),(.ir .i64 1 100,[],[])]).with [bd 2 3 3]]
theorem Rh:ah T Gm zdo:=aA (L:=(uG++(iJ++(iI++(rF++(iK++gZ)))))) (K:=K) (orc:=(aT [])) (ah.append bW (ah.append bF (ah.append bD (ah.append bT (ah.append bG bg))))) (by kernel_rfl) (by kernel_rfl)
def zdn:List Ctr:=[(dN 152 [exp] [] none [(.k .i64 0,[],bd 2 4 4++[ak (.k 2) ⟨6,0⟩]),(.ir .i64 1 100,[],[])]).with [bd 2 4 4]]
theorem Rf:ah T Gm zdn:=aA (L:=(uG++(iJ++(iI++(rF++(iK++gZ)))))) (K:=K) (orc:=(aT [])) (ah.append bW (ah.append bF (ah.append bD (ah.append bT (ah.append bG bg))))) (by kernel_rfl) (by kernel_rfl)
def zdm:List Ctr:=[(dN 152 [exp] [] none [(.k .i64 0,[],bd 2 5 5++[ak (.k 2) ⟨6,0⟩]),(.ir .i64 1 100,[],[])]).with [bd 2 5 5]]
theorem Q9:ah T Gm zdm:=aA (L:=(uG++(iJ++(iI++(rF++(iK++gZ)))))) (K:=K) (orc:=(aT [])) (ah.append bW (ah.append bF (ah.append bD (ah.append bT (ah.append bG bg))))) (by kernel_rfl) (by kernel_rfl)
def zdl:List Ctr:=[(dN 152 [exp] [] none [(.k .i64 0,[],bd 2 6 6++[ak (.k 2) ⟨6,0⟩]),(.ir .i64 1 100,[],[])]).with [bd 2 6 6]]
theorem Q8:ah T Gm zdl:=aA (L:=(uG++(iJ++(iI++(rF++(iK++gZ)))))) (K:=K) (orc:=(aT [])) (ah.append bW (ah.append bF (ah.append bD (ah.append bT (ah.append bG bg))))) (by kernel_rfl) (by kernel_rfl)
def zdk:List Ctr:=[(dN 152 [exp] [] none [(.k .i64 0,[],bd 2 7 7++[ak (.k 2) ⟨6,0⟩]),(.ir .i64 1 100,[],[])]).with [bd 2 7 7]]
theorem Q7:ah T Gm zdk:=aA (L:=(uG++(iJ++(iI++(rF++(iK++gZ)))))) (K:=K) (orc:=(aT [])) (ah.append bW (ah.append bF (ah.append bD (ah.append bT (ah.append bG bg))))) (by kernel_rfl) (by kernel_rfl)
def zdj:List Ctr:=[(dN 152 [exp] [] none [(.k .i64 0,[],bd 2 8 8++[ak (.k 2) ⟨6,0⟩]),(.ir .i64 1 100,[],[])]).with [bd 2 8 8]]
theorem Q5:ah T Gm zdj:=aA (L:=(uG++(iJ++(iI++(rF++(iK++gZ)))))) (K:=K) (orc:=(aT [])) (ah.append bW (ah.append bF (ah.append bD (ah.append bT (ah.append bG bg))))) (by kernel_rfl) (by kernel_rfl)
end Ct
end Go.Proofs.YtjbndifenhihhaaGreatDoor
