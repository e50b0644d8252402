/-.-/
import Derived.Test.YtcbeoccmflnejaaGreatDoorU24
set_option linter.all false
namespace Go.Proofs.YtcbeoccmflnejaaGreatDoor
open Go Go.Em Go.Ab
set_option maxRecDepth 100000
set_option linter.all false
namespace Ct
def jT:List Ctr:=[mkC 26 [val] [] none [((.kb true),[]),((.kb false),[])]]
theorem zcx:aB T Gm jT:=hoA K .nil
def zk6:List Ctr:=[mkC 172 [int] [] none [((.kb true),[]),((.kb false),[])]]
theorem RX:aB T Gm zk6:=hoA K .nil
def zk5:List Ctr:=[mkC 173 [int] [] none [((.kb true),[]),((.kb false),[])]]
theorem RV:aB T Gm zk5:=hoA K .nil
def zk4:List Ctr:=[mkC 174 [int] [] none [((.kb true),[]),((.kb false),[])]]
theorem RU:aB T Gm zk4:=hoA K .nil
def zk3:List Ctr:=[mkC 175 [int] [] none [((.kb true),[]),((.kb false),[])]]
theorem RS:aB T Gm zk3:=hoA K .nil
def zlf:List Ctr:=[mkC 137 [] [] none [(.mp 0,[.map (zmD 172 173 174 175)])]]
theorem zcp:aB T Gm zlf:=hoA K (hpA RX (hpA RV (hpA RU RS)))
def zlc:List Ctr:=[mkC 143 [.p 0,err] [.jD 0 6 kM] none [((val),[.jD 0 6 kM])]]
theorem jP:aB T Gm zlc:=hoA K .nil
def znq:List Ctr:=[mkC 176 [val] [] none [((.kb true),[]),((.kb false),[])]]
theorem xI:aB T Gm znq:=hoA K .nil
def zno:List Ctr:=[mkC 178 [val] [] none [((mP),[])]]
theorem rU:aB T Gm zno:=hoA K .nil
def zli:List Ctr:=[mkC 67 [.s,.s] [] none [((int),[])]]
theorem Si:aB T Gm zli:=hoA K zcL
def zld:List Ctr:=[mkC 140 [.p 0,val,val] [.jD 0 6 kM] none [((int),[.jD 0 6 kM])]]
theorem zcn:aB T Gm zld:=hoA K (hpA xI (hpA rU (hpA SG (hpA jP (hpA Si Jh)))))
def zle:List Ctr:=[mkC 139 [.b] [] none [((val),[])]]
theorem zco:aB T Gm zle:=hoA K .nil
def h58:List Ctr:=[mkC 62 [int] [] none [((val),[])]]
theorem RG:aB T Gm h58:=hoA K .nil
def zm6:List Ctr:=[mkC 228 [int,int] [] none [((val),[])]]
theorem zb2:aB T Gm zm6:=hoA K .nil
def znm:List Ctr:=[mkC 184 [.p 0,.b,mP,err] [.jD 0 6 kM] none [((val),[.jD 0 6 kM])]]
theorem Jg:aB T Gm znm:=hoA K (hpA jP (hpA RG zb2))
def zlb:List Ctr:=[mkC 144 [.p 0,zlp] [.jD 0 6 kM] none [(val,[.jD 0 6 kM])]]
theorem zcm:aB T Gm zlb:=hoB K ((pU [⟨[0,3,4,9,37,38,39],fun e n=>(n+4,[au ⟨n+0,0⟩ ⟨n+3,0⟩,au ⟨n+1,0⟩ ⟨n+3,0⟩,au (.k 0) ⟨n+2,0⟩,au ⟨n+3,0⟩ ⟨n+0,0⟩,au ⟨n+3,0⟩ ⟨n+1,0⟩,au (.k 0) ⟨n+3,0⟩,au ⟨n+3,0⟩ (e 6)],[(0,.ptr 0 (.k 0) 0),(3,.ptr 1 (.k 0) 0),(4,.ptr 2 (.k 0) 0),(9,.bs 3 (.k 0) ⟨n+0,0⟩),(37,.sl (some false) 6 1 (e 5) (e 6)),(38,.i .i64 (e 6)),(39,.i .i64 ⟨n+1,0⟩)],[.var [.i .i64 (e 9),.i .i64 (e 10),.i .i64 (e 11),.s (e 12),.sl none 6 11 (e 13) (e 14),.sl none 7 12 (e 13) (e 16),.i .i64 (e 17)],.var [.i .i64 (e 18),.i .i64 (e 19),.s (e 20),.sl none 6 1 (e 21) (e 22),.sl none 5 10 (e 21) (e 24)],.var [.i .i64 (.k 0),.i .i64 (.k 0),.i .i64 (.k 0),.x (.v (.string ⟨#[]⟩)),.x (.sl true 6 []),.x (.sl true 7 [])],.row 2 6 ⟨n+2,0⟩ ⟨n+3,0⟩],(e 6,⟨n+0,0⟩))⟩])) (hpA bK (hpA zcM (hpA jP (hpA xI (hpA rU (hpA zcI (hpA Jg SE)))))))
def uM:List Ctr:=[mkC 27 [val,val] [] (some (1,3)) [(int,[])],mkC 68 [.sl 6 1,.sl 6 1,.fn 27 []] [] (some (1,2)) [(int,[])],mkC 69 [.sl 7 2,.sl 7 2,.fn 70 []] [] (some (1,2)) [(int,[])],mkC 70 [fld,fld] [] (some (1,4)) [(int,[])]]
theorem oD:aB T Gm uM:=hrA K ((pU [⟨[0,1,2,11,12,13],fun e n=>(n+1,[au (.k 0) ⟨n+0,0⟩,au ⟨n+0,0⟩ (e 1),au ⟨n+0,0⟩ (e 3)],[(0,.sl none 6 1 (e 0) (e 1)),(1,.sl none 6 1 (e 2) (e 3)),(2,.fn 27 []),(11,.sl none 6 1 (e 0) (e 1)),(12,.i .i64 (e 1)),(13,.i .i64 ⟨n+0,0⟩)],[],(e 1,⟨n+0,0⟩))⟩,⟨[0,1,2,11,12,13],fun e n=>(n+1,[au (.k 0) ⟨n+0,0⟩,au ⟨n+0,0⟩ (e 1),au ⟨n+0,0⟩ (e 3)],[(0,.sl none 7 2 (e 0) (e 1)),(1,.sl none 7 2 (e 2) (e 3)),(2,.fn 70 []),(11,.sl none 7 2 (e 0) (e 1)),(12,.i .i64 (e 1)),(13,.i .i64 ⟨n+0,0⟩)],[],(e 1,⟨n+0,0⟩))⟩])) (hpA Jh (hpA Si Sj))
def znE:List Ctr:=[mkC 51 [val,val] [] none [((.kb true),[]),((.kb false),[])]]
theorem zcw:aB T Gm znE:=hoA K oD
def zla:List Ctr:=[mkC 146 [.p 0,val,val] [.jD 0 6 kM] none [((.kb true),[.jD 0 6 kM]),((.kb false),[.jD 0 6 kM])]]
theorem zcl:aB T Gm zla:=hoA K (hpA xI (hpA rU (hpA SG (hpA jP zcw))))
def zk9:List Ctr:=[mkC 147 [.p 0,zlp,val,val] [.jD 0 6 kM] none [(val,[.jD 0 6 kM])]]
theorem zck:aB T Gm zk9:=hoA K (hpA xI (hpA jP (hpA rU (hpA SE (hpA zcH (hpA zcG (hpA zcF Jg)))))))
def zi1:List Ctr:=[mkC 189 [.s] [] none [((val),[])]]
theorem Jd:aB T Gm zi1:=hoA K .nil
def zk8:List Ctr:=[mkC 148 [.p 0,val,val] [.jD 0 6 kM] none [((val),[.jD 0 6 kM])]]
theorem zcj:aB T Gm zk8:=hoA K (hpA jP Jd)
def zmX:List Ctr:=[mkC 270 [.b] [] none [((.s),[])]]
theorem zbX:aB T Gm zmX:=hoA K .nil
def zm2:List Ctr:=[mkC 238 [.b] [] none [(.s,[])]]
theorem zb0:aB T Gm zm2:=hoA K zbX
def znf:List Ctr:=[mkC 193 [.p 0,val] [.jD 0 6 kM] none [((val),[.jD 0 6 kM])]]
theorem zb8:aB T Gm znf:=hoA K (hpA zb0 (hpA rU (hpA SC (hpA RJ (hpA zbZ (hpA jP Jd))))))
def zmZ:List Ctr:=[mkC 242 [.s] [] none [(((.tu [mP,err])),[])]]
theorem zbY:aB T Gm zmZ:=hoA K (hpA RY (hpA SH SC))
def zne:List Ctr:=[mkC 194 [.p 0,val] [.jD 0 6 kM] none [((val),[.jD 0 6 kM])]]
theorem zb7:aB T Gm zne:=hoA K (hpA jP (hpA zbY RG))
def zk7:List Ctr:=[mkC 150 [.p 0,int,val] [.jD 0 6 kM] none [((val),[.jD 0 6 kM])]]
theorem zci:aB T Gm zk7:=hoA K (hpA xI (hpA jP (hpA rU (hpA zb9 (hpA Jg (hpA RG (hpA zb8 (hpA zb7 (hpA zcE (hpA Jd zcD))))))))))
end Ct
end Go.Proofs.YtcbeoccmflnejaaGreatDoor
