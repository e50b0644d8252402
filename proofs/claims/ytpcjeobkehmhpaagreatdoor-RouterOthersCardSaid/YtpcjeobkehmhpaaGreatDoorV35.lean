/-.-/
import Derived.Test.YtpcjeobkehmhpaaGreatDoorV17
import Derived.Test.YtpcjeobkehmhpaaGreatDoorV19
import Derived.Test.YtpcjeobkehmhpaaGreatDoorV33
import Derived.Test.YtpcjeobkehmhpaaGreatDoorV34
set_option linter.all false
namespace Go.Proofs.YtpcjeobkehmhpaaGreatDoor
open Go Go.Em Go.Ab
set_option maxRecDepth 100000
set_option linter.all false
namespace Ct
def TF:List Ctr:=[mkC 67 [val] [] none [((.kb true),[]),((.kb false),[])]]
theorem yC:ay T Gm TF:=hoA K .nil
def zt9:List Ctr:=[mkC 218 [int] [] none [((.kb true),[]),((.kb false),[])]]
theorem zax:ay T Gm zt9:=hoA K .nil
def zt8:List Ctr:=[mkC 219 [int] [] none [((.kb true),[]),((.kb false),[])]]
theorem zaw:ay T Gm zt8:=hoA K .nil
def zt7:List Ctr:=[mkC 220 [int] [] none [((.kb true),[]),((.kb false),[])]]
theorem zav:ay T Gm zt7:=hoA K .nil
def zt6:List Ctr:=[mkC 221 [int] [] none [((.kb true),[]),((.kb false),[])]]
theorem zau:ay T Gm zt6:=hoA K .nil
def zum:List Ctr:=[mkC 171 [] [] none [(.mp 0,[.map (zvJ 218 219 220 221)])]]
theorem zjU:ay T Gm zum:=hoA K (hpA zax (hpA zaw (hpA zav zau)))
def zuj:List Ctr:=[mkC 176 [.p 0,err] [.mP 0 6 oN] none [((val),[.mP 0 6 oN])]]
theorem nI:ay T Gm zuj:=hoA K .nil
def zwL:List Ctr:=[mkC 222 [val] [] none [((.kb true),[]),((.kb false),[])]]
theorem Dj:ay T Gm zwL:=hoA K .nil
def zwJ:List Ctr:=[mkC 224 [val] [] none [((rV),[])]]
theorem yA:ay T Gm zwJ:=hoA K .nil
def zrK:List Ctr:=[mkC 86 [.s,.s] [] none [((int),[])]]
theorem Jo:ay T Gm zrK:=hoA K zaS
def zuk:List Ctr:=[mkC 174 [.p 0,val,val] [.mP 0 6 oN] none [((int),[.mP 0 6 oN])]]
theorem zjS:ay T Gm zuk:=hoA K (hpA Dj (hpA yA (hpA zaQ (hpA nI (hpA Jo Qm)))))
def zul:List Ctr:=[mkC 173 [.b] [] none [((val),[])]]
theorem zjT:ay T Gm zul:=hoA K .nil
def h58:List Ctr:=[mkC 237 [int] [] none [((val),[])]]
theorem zaf:ay T Gm h58:=hoA K .nil
def zwj:List Ctr:=[mkC 268 [int,int] [] none [((val),[])]]
theorem zjn:ay T Gm zwj:=hoA K .nil
def zwH:List Ctr:=[mkC 228 [.p 0,.b,rV,err] [.mP 0 6 oN] none [((val),[.mP 0 6 oN])]]
theorem Qh:ay T Gm zwH:=hoA K (hpA nI (hpA zaf zjn))
def zui:List Ctr:=[mkC 177 [.p 0,zuu] [.mP 0 6 oN] none [(val,[.mP 0 6 oN])]]
theorem zjR:ay T Gm zui:=hoB K ((iQ [⟨[0,3,4,9,37,38,39],fun e n=>(n+4,[ak ⟨n+0,0⟩ ⟨n+3,0⟩,ak ⟨n+1,0⟩ ⟨n+3,0⟩,ak (.k 0) ⟨n+2,0⟩,ak ⟨n+3,0⟩ ⟨n+0,0⟩,ak ⟨n+3,0⟩ ⟨n+1,0⟩,ak (.k 0) ⟨n+3,0⟩,ak ⟨n+3,0⟩ (e 6)],[(0,.ptr 0 (.k 0) 0),(3,.ptr 1 (.k 0) 0),(4,.ptr 2 (.k 0) 0),(9,.bs 3 (.k 0) ⟨n+0,0⟩),(37,.sl (some false) 6 1 (e 5) (e 6)),(38,.i .i64 (e 6)),(39,.i .i64 ⟨n+1,0⟩)],[.var [.i .i64 (e 9),.i .i64 (e 10),.i .i64 (e 11),.s (e 12),.sl none 6 11 (e 13) (e 14),.sl none 7 12 (e 13) (e 16),.i .i64 (e 17)],.var [.i .i64 (e 18),.i .i64 (e 19),.s (e 20),.sl none 6 1 (e 21) (e 22),.sl none 5 10 (e 21) (e 24)],.var [.i .i64 (.k 0),.i .i64 (.k 0),.i .i64 (.k 0),.x (.v (.string ⟨#[]⟩)),.x (.sl true 6 []),.x (.sl true 7 [])],.row 2 6 ⟨n+2,0⟩ ⟨n+3,0⟩],(e 6,⟨n+0,0⟩))⟩])) (hpA dD (hpA zkh (hpA nI (hpA Dj (hpA yA (hpA zkd (hpA Qh zaP)))))))
def zO:List Ctr:=[mkC 79 [val,val] [] (some (1,3)) [(int,[])],mkC 110 [.sl 6 1,.sl 6 1,.fn 79 []] [] (some (1,2)) [(int,[])],mkC 111 [.sl 7 2,.sl 7 2,.fn 112 []] [] (some (1,2)) [(int,[])],mkC 112 [fld,fld] [] (some (1,4)) [(int,[])]]
theorem uM:ay T Gm zO:=hrA K ((iQ [⟨[0,1,2,11,12,13],fun e n=>(n+1,[ak (.k 0) ⟨n+0,0⟩,ak ⟨n+0,0⟩ (e 1),ak ⟨n+0,0⟩ (e 3)],[(0,.sl none 6 1 (e 0) (e 1)),(1,.sl none 6 1 (e 2) (e 3)),(2,.fn 79 []),(11,.sl none 6 1 (e 0) (e 1)),(12,.i .i64 (e 1)),(13,.i .i64 ⟨n+0,0⟩)],[],(e 1,⟨n+0,0⟩))⟩,⟨[0,1,2,11,12,13],fun e n=>(n+1,[ak (.k 0) ⟨n+0,0⟩,ak ⟨n+0,0⟩ (e 1),ak ⟨n+0,0⟩ (e 3)],[(0,.sl none 7 2 (e 0) (e 1)),(1,.sl none 7 2 (e 2) (e 3)),(2,.fn 112 []),(11,.sl none 7 2 (e 0) (e 1)),(12,.i .i64 (e 1)),(13,.i .i64 ⟨n+0,0⟩)],[],(e 1,⟨n+0,0⟩))⟩])) (hpA Qm (hpA Jo zaE))
def zw3:List Ctr:=[mkC 56 [val,val] [] none [((.kb true),[]),((.kb false),[])]]
theorem zj1:ay T Gm zw3:=hoA K uM
def zuh:List Ctr:=[mkC 179 [.p 0,val,val] [.mP 0 6 oN] none [((.kb true),[.mP 0 6 oN]),((.kb false),[.mP 0 6 oN])]]
theorem zjQ:ay T Gm zuh:=hoA K (hpA Dj (hpA yA (hpA zaQ (hpA nI zj1))))
def zug:List Ctr:=[mkC 180 [.p 0,zuu,val,val] [.mP 0 6 oN] none [(val,[.mP 0 6 oN])]]
theorem zjP:ay T Gm zug:=hoA K (hpA Dj (hpA nI (hpA yA (hpA zaP (hpA zkc (hpA zkb (hpA zka Qh)))))))
def zrD:List Ctr:=[mkC 233 [.s] [] none [((val),[])]]
theorem Qd:ay T Gm zrD:=hoA K .nil
def zuf:List Ctr:=[mkC 181 [.p 0,val,val] [.mP 0 6 oN] none [((val),[.mP 0 6 oN])]]
theorem zjO:ay T Gm zuf:=hoA K (hpA nI Qd)
def zv9:List Ctr:=[mkC 304 [.b] [] none [((.s),[])]]
theorem zjf:ay T Gm zv9:=hoA K .nil
def zwe:List Ctr:=[mkC 277 [.b] [] none [(.s,[])]]
theorem zjk:ay T Gm zwe:=hoA K zjf
def zwB:List Ctr:=[mkC 238 [.p 0,val] [.mP 0 6 oN] none [((val),[.mP 0 6 oN])]]
theorem zjy:ay T Gm zwB:=hoA K (hpA zjk (hpA yA (hpA zaM (hpA zam (hpA zjj (hpA nI Qd))))))
def zwb:List Ctr:=[mkC 281 [.s] [] none [(((.tu [rV,err])),[])]]
theorem zji:ay T Gm zwb:=hoA K (hpA zaz (hpA zaR zaM))
def zwA:List Ctr:=[mkC 239 [.p 0,val] [.mP 0 6 oN] none [((val),[.mP 0 6 oN])]]
theorem zjx:ay T Gm zwA:=hoA K (hpA nI (hpA zji zaf))
def zue:List Ctr:=[mkC 183 [.p 0,int,val] [.mP 0 6 oN] none [((val),[.mP 0 6 oN])]]
theorem zjN:ay T Gm zue:=hoA K (hpA Dj (hpA nI (hpA yA (hpA zjz (hpA Qh (hpA zaf (hpA zjy (hpA zjx (hpA zj9 (hpA Qd zj8))))))))))
end Ct
end Go.Proofs.YtpcjeobkehmhpaaGreatDoor
