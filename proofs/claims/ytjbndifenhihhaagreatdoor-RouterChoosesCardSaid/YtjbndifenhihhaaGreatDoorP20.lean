/- expr.checkOne by operations, by the kernel (printed). -/
import Derived.Test.YtjbndifenhihhaaGreatDoorP17
namespace Go.Proofs.YtjbndifenhihhaaGreatDoor
open Go Go.Em Go.Ab
set_option maxRecDepth 100000
set_option linter.all false
namespace Ct
def ZR:List Ctr:=[(dN 152 [exp] [] none [(.k .i64 0,[],bd 2 16 16++[ak (.k 1) ⟨6,0⟩]),(.ir .i64 1 100,[],[])]).with [bd 2 16 16]]
theorem KX:ah T Gm ZR:=aA (L:=(uG++(iJ++(iI++(rF++(iK++gZ)))))) (K:=K) (orc:=(aT [])) (ah.append bW (ah.append bF (ah.append bD (ah.append bT (ah.append bG bg))))) (by kernel_rfl) (by kernel_rfl)
def ZQ:List Ctr:=[(dN 152 [exp] [] none [(.k .i64 0,[],bd 2 17 17++[ak (.k 2) ⟨6,0⟩]),(.ir .i64 1 100,[],[])]).with [bd 2 17 17]]
theorem KW:ah T Gm ZQ:=aA (L:=(uG++(iJ++(iI++(rF++(iK++gZ)))))) (K:=K) (orc:=(aT [])) (ah.append bW (ah.append bF (ah.append bD (ah.append bT (ah.append bG bg))))) (by kernel_rfl) (by kernel_rfl)
def ZP:List Ctr:=[(dN 152 [exp] [] none [(.k .i64 0,[],bd 2 18 18++[ak (.k 1) ⟨6,0⟩]),(.ir .i64 1 100,[],[])]).with [bd 2 18 18]]
theorem KU:ah T Gm ZP:=aA (L:=(uG++(iJ++(iI++(rF++(iK++gZ)))))) (K:=K) (orc:=(aT [])) (ah.append bW (ah.append bF (ah.append bD (ah.append bT (ah.append bG bg))))) (by kernel_rfl) (by kernel_rfl)
def ZO:List Ctr:=[(dN 152 [exp] [] none [(.k .i64 0,[],bd 2 19 19++[ak (.k 1) ⟨6,0⟩]),(.ir .i64 1 100,[],[])]).with [bd 2 19 19]]
theorem KT:ah T Gm ZO:=aA (L:=(uG++(iJ++(iI++(rF++(iK++gZ)))))) (K:=K) (orc:=(aT [])) (ah.append bW (ah.append bF (ah.append bD (ah.append bT (ah.append bG bg))))) (by kernel_rfl) (by kernel_rfl)
def ZN:List Ctr:=[(dN 152 [exp] [] none [(.k .i64 0,[],bd 2 20 20++[ak (.k 1) ⟨6,0⟩]),(.ir .i64 1 100,[],[])]).with [bd 2 20 20]]
theorem KR:ah T Gm ZN:=aA (L:=(uG++(iJ++(iI++(rF++(iK++gZ)))))) (K:=K) (orc:=(aT [])) (ah.append bW (ah.append bF (ah.append bD (ah.append bT (ah.append bG bg))))) (by kernel_rfl) (by kernel_rfl)
def ZM:List Ctr:=[(dN 152 [exp] [] none [(.k .i64 0,[],bd 2 21 21++[ak (.k 3) ⟨6,0⟩]),(.ir .i64 1 100,[],[])]).with [bd 2 21 21]]
theorem KQ:ah T Gm ZM:=aA (L:=(uG++(iJ++(iI++(rF++(iK++gZ)))))) (K:=K) (orc:=(aT [])) (ah.append bW (ah.append bF (ah.append bD (ah.append bT (ah.append bG bg))))) (by kernel_rfl) (by kernel_rfl)
def ZL:List Ctr:=[(dN 152 [exp] [] none [(.k .i64 0,[],bd 2 22 22++[ak (.k 0) ⟨6,0⟩]),(.ir .i64 1 100,[],[])]).with [bd 2 22 22]]
theorem KP:ah T Gm ZL:=aA (L:=(uG++(iJ++(iI++(rF++(iK++gZ)))))) (K:=K) (orc:=(aT [])) (ah.append bW (ah.append bF (ah.append bD (ah.append bT (ah.append bG bg))))) (by kernel_rfl) (by kernel_rfl)
end Ct
end Go.Proofs.YtjbndifenhihhaaGreatDoor
