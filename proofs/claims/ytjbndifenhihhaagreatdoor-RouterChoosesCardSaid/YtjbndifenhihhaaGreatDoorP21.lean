/- expr.checkOne by operations, by the kernel (printed). -/
import Derived.Test.YtjbndifenhihhaaGreatDoorP17
namespace Go.Proofs.YtjbndifenhihhaaGreatDoor
open Go Go.Em Go.Ab
set_option maxRecDepth 100000
set_option linter.all false
namespace Ct
def ZK:List Ctr:=[(dN 152 [exp] [] none [(.k .i64 0,[],bd 2 23 23++[ak (.k 2) ⟨6,0⟩]),(.ir .i64 1 100,[],[])]).with [bd 2 23 23]]
theorem KO:ah T Gm ZK:=aA (L:=(uG++(iJ++(iI++(rF++(iK++gZ)))))) (K:=K) (orc:=(aT [])) (ah.append bW (ah.append bF (ah.append bD (ah.append bT (ah.append bG bg))))) (by kernel_rfl) (by kernel_rfl)
def ZJ:List Ctr:=[(dN 152 [exp] [] none [(.k .i64 0,[],bd 2 24 24++[ak (.k 3) ⟨6,0⟩]),(.ir .i64 1 100,[],[])]).with [bd 2 24 24]]
theorem KN:ah T Gm ZJ:=aA (L:=(uG++(iJ++(iI++(rF++(iK++gZ)))))) (K:=K) (orc:=(aT [])) (ah.append bW (ah.append bF (ah.append bD (ah.append bT (ah.append bG bg))))) (by kernel_rfl) (by kernel_rfl)
def ZI:List Ctr:=[(dN 152 [exp] [] none [(.k .i64 0,[],bd 2 25 25++[ak (.k 2) ⟨6,0⟩]),(.ir .i64 1 100,[],[])]).with [bd 2 25 25]]
theorem KL:ah T Gm ZI:=aA (L:=(uG++(iJ++(iI++(rF++(iK++gZ)))))) (K:=K) (orc:=(aT [])) (ah.append bW (ah.append bF (ah.append bD (ah.append bT (ah.append bG bg))))) (by kernel_rfl) (by kernel_rfl)
def ZH:List Ctr:=[(dN 152 [exp] [] none [(.k .i64 0,[],bd 2 26 26++[ak (.k 0) ⟨6,0⟩]),(.ir .i64 1 100,[],[])]).with [bd 2 26 26]]
theorem KJ:ah T Gm ZH:=aA (L:=(uG++(iJ++(iI++(rF++(iK++gZ)))))) (K:=K) (orc:=(aT [])) (ah.append bW (ah.append bF (ah.append bD (ah.append bT (ah.append bG bg))))) (by kernel_rfl) (by kernel_rfl)
def ZG:List Ctr:=[(dN 152 [exp] [] none [(.k .i64 0,[],bd 2 27 27++[ak (.k 1) ⟨6,0⟩]),(.ir .i64 1 100,[],[])]).with [bd 2 27 27]]
theorem KI:ah T Gm ZG:=aA (L:=(uG++(iJ++(iI++(rF++(iK++gZ)))))) (K:=K) (orc:=(aT [])) (ah.append bW (ah.append bF (ah.append bD (ah.append bT (ah.append bG bg))))) (by kernel_rfl) (by kernel_rfl)
def ZF:List Ctr:=[(dN 152 [exp] [] none [(.k .i64 0,[],bd 2 28 28++[ak (.k 1) ⟨6,0⟩]),(.ir .i64 1 100,[],[])]).with [bd 2 28 28]]
theorem KH:ah T Gm ZF:=aA (L:=(uG++(iJ++(iI++(rF++(iK++gZ)))))) (K:=K) (orc:=(aT [])) (ah.append bW (ah.append bF (ah.append bD (ah.append bT (ah.append bG bg))))) (by kernel_rfl) (by kernel_rfl)
end Ct
end Go.Proofs.YtjbndifenhihhaaGreatDoor
