/- expr.checkOne by operations, by the kernel (printed). -/
import Derived.Test.YtjbndifenhihhaaGreatDoorP17
namespace Go.Proofs.YtjbndifenhihhaaGreatDoor
open Go Go.Em Go.Ab
set_option maxRecDepth 100000
set_option linter.all false
namespace Ct
def zdi:List Ctr:=[(dN 152 [exp] [] none [(.k .i64 0,[],bd 2 9 9++[ak (.k 2) ⟨6,0⟩]),(.ir .i64 1 100,[],[])]).with [bd 2 9 9]]
theorem QZ:ah T Gm zdi:=aA (L:=(uG++(iJ++(iI++(rF++(iK++gZ)))))) (K:=K) (orc:=(aT [])) (ah.append bW (ah.append bF (ah.append bD (ah.append bT (ah.append bG bg))))) (by kernel_rfl) (by kernel_rfl)
def ZY:List Ctr:=[(dN 152 [exp] [] none [(.k .i64 0,[],bd 2 10 10++[ak (.k 2) ⟨6,0⟩]),(.ir .i64 1 100,[],[])]).with [bd 2 10 10]]
theorem Le:ah T Gm ZY:=aA (L:=(uG++(iJ++(iI++(rF++(iK++gZ)))))) (K:=K) (orc:=(aT [])) (ah.append bW (ah.append bF (ah.append bD (ah.append bT (ah.append bG bg))))) (by kernel_rfl) (by kernel_rfl)
def ZX:List Ctr:=[(dN 152 [exp] [] none [(.k .i64 0,[],bd 2 11 11++[ak (.k 2) ⟨6,0⟩]),(.ir .i64 1 100,[],[])]).with [bd 2 11 11]]
theorem Ld:ah T Gm ZX:=aA (L:=(uG++(iJ++(iI++(rF++(iK++gZ)))))) (K:=K) (orc:=(aT [])) (ah.append bW (ah.append bF (ah.append bD (ah.append bT (ah.append bG bg))))) (by kernel_rfl) (by kernel_rfl)
def ZW:List Ctr:=[(dN 152 [exp] [] none [(.k .i64 0,[],bd 2 12 12++[ak (.k 2) ⟨6,0⟩]),(.ir .i64 1 100,[],[])]).with [bd 2 12 12]]
theorem Lc:ah T Gm ZW:=aA (L:=(uG++(iJ++(iI++(rF++(iK++gZ)))))) (K:=K) (orc:=(aT [])) (ah.append bW (ah.append bF (ah.append bD (ah.append bT (ah.append bG bg))))) (by kernel_rfl) (by kernel_rfl)
def ZV:List Ctr:=[(dN 152 [exp] [] none [(.k .i64 0,[],bd 2 13 13++[ak (.k 2) ⟨6,0⟩]),(.ir .i64 1 100,[],[])]).with [bd 2 13 13]]
theorem La:ah T Gm ZV:=aA (L:=(uG++(iJ++(iI++(rF++(iK++gZ)))))) (K:=K) (orc:=(aT [])) (ah.append bW (ah.append bF (ah.append bD (ah.append bT (ah.append bG bg))))) (by kernel_rfl) (by kernel_rfl)
def ZU:List Ctr:=[(dN 152 [exp] [] none [(.k .i64 0,[],bd 2 14 14++[ak (.k 2) ⟨6,0⟩]),(.ir .i64 1 100,[],[])]).with [bd 2 14 14]]
theorem KZ:ah T Gm ZU:=aA (L:=(uG++(iJ++(iI++(rF++(iK++gZ)))))) (K:=K) (orc:=(aT [])) (ah.append bW (ah.append bF (ah.append bD (ah.append bT (ah.append bG bg))))) (by kernel_rfl) (by kernel_rfl)
def ZT:List Ctr:=[(dN 152 [exp] [] none [(.k .i64 0,[],bd 2 15 15++[ak (.k 2) ⟨6,0⟩]),(.ir .i64 1 100,[],[])]).with [bd 2 15 15]]
theorem KY:ah T Gm ZT:=aA (L:=(uG++(iJ++(iI++(rF++(iK++gZ)))))) (K:=K) (orc:=(aT [])) (ah.append bW (ah.append bF (ah.append bD (ah.append bT (ah.append bG bg))))) (by kernel_rfl) (by kernel_rfl)
end Ct
end Go.Proofs.YtjbndifenhihhaaGreatDoor
