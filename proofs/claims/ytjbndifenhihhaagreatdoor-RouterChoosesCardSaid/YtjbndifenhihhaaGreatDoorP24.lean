/- What the evaluation of expressions calls: by the machine over sets of values; printed by gen_proof.py. -/
import Derived.Test.YtjbndifenhihhaaGreatDoorP17
import Derived.Test.YtjbndifenhihhaaGreatDoorP22
import Derived.Test.YtjbndifenhihhaaGreatDoorP23
namespace Go.Proofs.YtjbndifenhihhaaGreatDoor
open Go Go.Em Go.Ab
set_option maxRecDepth 100000
set_option linter.all false
namespace Ct
def zm7:List Ctr:=[mkC 27 [val] [] none [((.kb true),[]),((.kb false),[])]]
theorem V6:ah T Gm zm7:=aA (L:=[]) (K:=K) (orc:=(aT [])) .nil (by kernel_rfl) (by kernel_rfl)
def zkv:List Ctr:=[mkC 201 [int] [] none [((.kb true),[]),((.kb false),[])]]
theorem VX:ah T Gm zkv:=aA (L:=[]) (K:=K) (orc:=(aT [])) .nil (by kernel_rfl) (by kernel_rfl)
def zku:List Ctr:=[mkC 202 [int] [] none [((.kb true),[]),((.kb false),[])]]
theorem VW:ah T Gm zku:=aA (L:=[]) (K:=K) (orc:=(aT [])) .nil (by kernel_rfl) (by kernel_rfl)
def zkt:List Ctr:=[mkC 203 [int] [] none [((.kb true),[]),((.kb false),[])]]
theorem VU:ah T Gm zkt:=aA (L:=[]) (K:=K) (orc:=(aT [])) .nil (by kernel_rfl) (by kernel_rfl)
def zks:List Ctr:=[mkC 204 [int] [] none [((.kb true),[]),((.kb false),[])]]
theorem VT:ah T Gm zks:=aA (L:=[]) (K:=K) (orc:=(aT [])) .nil (by kernel_rfl) (by kernel_rfl)
def zmX:List Ctr:=[mkC 153 [] [] none [(.mp 0,[.map (zoo 201 202 203 204)])]]
theorem zdZ:ah T Gm zmX:=aA (L:=(zkv++(zku++(zkt++zks)))) (K:=K) (orc:=(aT [])) (ah.append VX (ah.append VW (ah.append VU VT))) (by kernel_rfl) (by kernel_rfl)
def h275:List Ctr:=[mkC 159 [.p 0,err] [.lq 0 6 mZ] none [((val),[.lq 0 6 mZ])]]
theorem lQ:ah T Gm h275:=aA (L:=[]) (K:=K) (orc:=(aT [])) .nil (by kernel_rfl) (by kernel_rfl)
def zf0:List Ctr:=[mkC 205 [val] [] none [((.kb true),[]),((.kb false),[])]]
theorem zM:ah T Gm zf0:=aA (L:=[]) (K:=K) (orc:=(aT [])) .nil (by kernel_rfl) (by kernel_rfl)
def zdK:List Ctr:=[mkC 207 [val] [] none [((pJ),[])]]
theorem vC:ah T Gm zdK:=aA (L:=[]) (K:=K) (orc:=(aT [])) .nil (by kernel_rfl) (by kernel_rfl)
def zkB:List Ctr:=[mkC 72 [.s,.s] [] none [((int),[])]]
theorem V4:ah T Gm zkB:=aA (L:=znj) (K:=K) (orc:=(aT [])) zek (by kernel_rfl) (by kernel_rfl)
def zmV:List Ctr:=[mkC 156 [.p 0,val,val] [.lq 0 6 mZ] none [((int),[.lq 0 6 mZ])]]
theorem zdX:ah T Gm zmV:=aA (L:=(zf0++(zdK++(zkH++(h275++(zkB++zi7)))))) (K:=K) (orc:=(aT [])) (ah.append zM (ah.append vC (ah.append Wj (ah.append lQ (ah.append V4 Lu))))) (by kernel_rfl) (by kernel_rfl)
def zmW:List Ctr:=[mkC 155 [.b] [] none [((val),[])]]
theorem zdY:ah T Gm zmW:=aA (L:=[]) (K:=K) (orc:=(aT [])) .nil (by kernel_rfl) (by kernel_rfl)
def h58:List Ctr:=[mkC 67 [int] [] none [((val),[])]]
theorem VK:ah T Gm h58:=aA (L:=[]) (K:=K) (orc:=(aT [])) .nil (by kernel_rfl) (by kernel_rfl)
def zmE:List Ctr:=[mkC 274 [int,int] [] none [((val),[])]]
theorem zdz:ah T Gm zmE:=aA (L:=[]) (K:=K) (orc:=(aT [])) .nil (by kernel_rfl) (by kernel_rfl)
def zi4:List Ctr:=[mkC 213 [.p 0,.b,pJ,err] [.lq 0 6 mZ] none [((val),[.lq 0 6 mZ])]]
theorem Lr:ah T Gm zi4:=aA (L:=(h275++(h58++zmE))) (K:=K) (orc:=(aT [])) (ah.append lQ (ah.append VK zdz)) (by kernel_rfl) (by kernel_rfl)
def zmU:List Ctr:=[mkC 160 [.p 0,znm] [.lq 0 6 mZ] none [(val,[.lq 0 6 mZ])]]
theorem zdW:ah T Gm zmU:=aA (L:=(rF++(znk++(h275++(zf0++(zdK++(zng++(zi4++zkG)))))))) (K:=K) (orc:=(aT [⟨[0,3,4,9,37,38,39],fun e n=>(n+4,[ak ⟨n+0,0⟩ ⟨n+3,0⟩,ak ⟨n+1,0⟩ ⟨n+3,0⟩,ak (.k 0) ⟨n+2,0⟩,ak ⟨n+3,0⟩ ⟨n+0,0⟩,ak ⟨n+3,0⟩ ⟨n+1,0⟩,ak (.k 0) ⟨n+3,0⟩,ak ⟨n+3,0⟩ (e 6)],[(0,.ptr 0 (.k 0) 0),(3,.ptr 1 (.k 0) 0),(4,.ptr 2 (.k 0) 0),(9,.bs 3 (.k 0) ⟨n+0,0⟩),(37,.sl (some false) 6 1 (e 5) (e 6)),(38,.i .i64 (e 6)),(39,.i .i64 ⟨n+1,0⟩)],[.var [.i .i64 (e 9),.i .i64 (e 10),.i .i64 (e 11),.s (e 12),.sl none 6 11 (e 13) (e 14),.sl none 7 12 (e 13) (e 16),.i .i64 (e 17)],.var [.i .i64 (e 18),.i .i64 (e 19),.s (e 20),.sl none 6 1 (e 21) (e 22),.sl none 5 10 (e 21) (e 24)],.var [.i .i64 (.k 0),.i .i64 (.k 0),.i .i64 (.k 0),.x (.v (.string ⟨#[]⟩)),.x (.sl true 6 []),.x (.sl true 7 [])],.row 2 6 ⟨n+2,0⟩ ⟨n+3,0⟩],(e 6,⟨n+0,0⟩))⟩])) (ah.append bT (ah.append zel (ah.append lQ (ah.append zM (ah.append vC (ah.append zeh (ah.append Lr Wi))))))) (by kernel_rfl) (by kernel_rfl)
def nT:List Ctr:=[mkC 28 [val,val] [] (some (1,3)) [(int,[])],mkC 73 [.sl 6 1,.sl 6 1,.fn 28 []] [] (some (1,2)) [(int,[])],mkC 74 [.sl 7 2,.sl 7 2,.fn 75 []] [] (some (1,2)) [(int,[])],mkC 75 [fld,fld] [] (some (1,4)) [(int,[])]]
theorem qX:ah T Gm nT:=OG (L:=(zi7++(zkB++zkD))) (K:=K) (orc:=(aT [⟨[0,1,2,11,12,13],fun e n=>(n+1,[ak (.k 0) ⟨n+0,0⟩,ak ⟨n+0,0⟩ (e 1),ak ⟨n+0,0⟩ (e 3)],[(0,.sl none 6 1 (e 0) (e 1)),(1,.sl none 6 1 (e 2) (e 3)),(2,.fn 28 []),(11,.sl none 6 1 (e 0) (e 1)),(12,.i .i64 (e 1)),(13,.i .i64 ⟨n+0,0⟩)],[],(e 1,⟨n+0,0⟩))⟩,⟨[0,1,2,11,12,13],fun e n=>(n+1,[ak (.k 0) ⟨n+0,0⟩,ak ⟨n+0,0⟩ (e 1),ak ⟨n+0,0⟩ (e 3)],[(0,.sl none 7 2 (e 0) (e 1)),(1,.sl none 7 2 (e 2) (e 3)),(2,.fn 75 []),(11,.sl none 7 2 (e 0) (e 1)),(12,.i .i64 (e 1)),(13,.i .i64 ⟨n+0,0⟩)],[],(e 1,⟨n+0,0⟩))⟩])) (ah.append Lu (ah.append V4 V5)) (by kernel_rfl) (by kernel_rfl) (by kernel_rfl)
def zm6:List Ctr:=[mkC 50 [val,val] [] none [((.kb true),[]),((.kb false),[])]]
theorem zd7:ah T Gm zm6:=aA (L:=nT) (K:=K) (orc:=(aT [])) qX (by kernel_rfl) (by kernel_rfl)
def zmT:List Ctr:=[mkC 162 [.p 0,val,val] [.lq 0 6 mZ] none [((.kb true),[.lq 0 6 mZ]),((.kb false),[.lq 0 6 mZ])]]
theorem zdV:ah T Gm zmT:=aA (L:=(zf0++(zdK++(zkH++(h275++zm6))))) (K:=K) (orc:=(aT [])) (ah.append zM (ah.append vC (ah.append Wj (ah.append lQ zd7)))) (by kernel_rfl) (by kernel_rfl)
def zmS:List Ctr:=[mkC 163 [.p 0,znm,val,val] [.lq 0 6 mZ] none [(val,[.lq 0 6 mZ])]]
theorem zdU:ah T Gm zmS:=aA (L:=(zf0++(h275++(zdK++(zkG++(znf++(zne++(znd++zi4)))))))) (K:=K) (orc:=(aT [])) (ah.append zM (ah.append lQ (ah.append vC (ah.append Wi (ah.append zeg (ah.append zef (ah.append zee Lr))))))) (by kernel_rfl) (by kernel_rfl)
def h358:List Ctr:=[mkC 218 [.s] [] none [((val),[])]]
theorem Ll:ah T Gm h358:=aA (L:=[]) (K:=K) (orc:=(aT [])) .nil (by kernel_rfl) (by kernel_rfl)
def zmR:List Ctr:=[mkC 164 [.p 0,val,val] [.lq 0 6 mZ] none [((val),[.lq 0 6 mZ])]]
theorem zdT:ah T Gm zmR:=aA (L:=(h275++h358)) (K:=K) (orc:=(aT [])) (ah.append lQ Ll) (by kernel_rfl) (by kernel_rfl)
def zmz:List Ctr:=[mkC 332 [.b] [] none [((.s),[])]]
theorem zds:ah T Gm zmz:=aA (L:=[]) (K:=K) (orc:=(aT [])) .nil (by kernel_rfl) (by kernel_rfl)
def zmC:List Ctr:=[mkC 284 [.b] [] none [(.s,[])]]
theorem zdw:ah T Gm zmC:=aA (L:=zmz) (K:=K) (orc:=(aT [])) zds (by kernel_rfl) (by kernel_rfl)
def zmK:List Ctr:=[mkC 222 [.p 0,val] [.lq 0 6 mZ] none [((val),[.lq 0 6 mZ])]]
theorem zdG:ah T Gm zmK:=aA (L:=(zmC++(zdK++(zkF++(zko++(zmB++(h275++h358))))))) (K:=K) (orc:=(aT [])) (ah.append zdw (ah.append vC (ah.append Wh (ah.append VO (ah.append zdv (ah.append lQ Ll)))))) (by kernel_rfl) (by kernel_rfl)
def zmA:List Ctr:=[mkC 288 [.s] [] none [(((.tu [pJ,err])),[])]]
theorem zdu:ah T Gm zmA:=aA (L:=(zky++(zkI++zkF))) (K:=K) (orc:=(aT [])) (ah.append VZ (ah.append Wn Wh)) (by kernel_rfl) (by kernel_rfl)
def zmJ:List Ctr:=[mkC 223 [.p 0,val] [.lq 0 6 mZ] none [((val),[.lq 0 6 mZ])]]
theorem zdF:ah T Gm zmJ:=aA (L:=(h275++(zmA++h58))) (K:=K) (orc:=(aT [])) (ah.append lQ (ah.append zdu VK)) (by kernel_rfl) (by kernel_rfl)
def zmQ:List Ctr:=[mkC 166 [.p 0,int,val] [.lq 0 6 mZ] none [((val),[.lq 0 6 mZ])]]
theorem zdS:ah T Gm zmQ:=aA (L:=(zf0++(h275++(zdK++(zmL++(zi4++(h58++(zmK++(zmJ++(znc++(h358++znb))))))))))) (K:=K) (orc:=(aT [])) (ah.append zM (ah.append lQ (ah.append vC (ah.append zdH (ah.append Lr (ah.append VK (ah.append zdG (ah.append zdF (ah.append zed (ah.append Ll zec)))))))))) (by kernel_rfl) (by kernel_rfl)
end Ct
end Go.Proofs.YtjbndifenhihhaaGreatDoor
