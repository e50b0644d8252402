/-.-/
import Derived.Test.YtkeefpkcepodeaaGreatDoorU23
set_option linter.all false
namespace Go.Proofs.YtkeefpkcepodeaaGreatDoor
open Go Go.Em Go.Ab
set_option maxRecDepth 100000
set_option linter.all false
namespace Ct
def UG:List Ctr:=[mkC 65 [val] [] none [((.kb true),[]),((.kb false),[])]]
theorem FY:ak T Gm UG:=hoA K .nil
def zuS:List Ctr:=[mkC 235 [int] [] none [((.kb true),[]),((.kb false),[])]]
theorem za9:ak T Gm zuS:=hoA K .nil
def zuR:List Ctr:=[mkC 236 [int] [] none [((.kb true),[]),((.kb false),[])]]
theorem za8:ak T Gm zuR:=hoA K .nil
def zuQ:List Ctr:=[mkC 237 [int] [] none [((.kb true),[]),((.kb false),[])]]
theorem za7:ak T Gm zuQ:=hoA K .nil
def zuP:List Ctr:=[mkC 238 [int] [] none [((.kb true),[]),((.kb false),[])]]
theorem za6:ak T Gm zuP:=hoA K .nil
def zu4:List Ctr:=[mkC 190 [] [] none [(.mp 0,[.map (zwx 235 236 237 238)])]]
theorem zkp:ak T Gm zu4:=hoA K (hpA za9 (hpA za8 (hpA za7 za6)))
def zu0:List Ctr:=[mkC 194 [.p 0,err] [.nI 0 6 pJ] none [((val),[.nI 0 6 pJ])]]
theorem nZ:ak T Gm zu0:=hoA K .nil
def zxD:List Ctr:=[mkC 239 [val] [] none [((.kb true),[]),((.kb false),[])]]
theorem FW:ak T Gm zxD:=hoA K .nil
def zxB:List Ctr:=[mkC 241 [val] [] none [((uq),[])]]
theorem A8:ak T Gm zxB:=hoA K .nil
def zso:List Ctr:=[mkC 68 [.s,.s] [] none [((int),[])]]
theorem KR:ak T Gm zso:=hoA K zbp
def zu1:List Ctr:=[mkC 193 [.p 0,val,val] [.nI 0 6 pJ] none [((int),[.nI 0 6 pJ])]]
theorem zkn:ak T Gm zu1:=hoA K (hpA FW (hpA A8 (hpA zbn (hpA nZ (hpA KR Rx)))))
def zu3:List Ctr:=[mkC 192 [.b] [] none [((val),[])]]
theorem zko:ak T Gm zu3:=hoA K .nil
def h58:List Ctr:=[mkC 30 [int] [] none [((val),[])]]
theorem zaT:ak T Gm h58:=hoA K .nil
def zxc:List Ctr:=[mkC 274 [int,int] [] none [((val),[])]]
theorem zjS:ak T Gm zxc:=hoA K .nil
def zxz:List Ctr:=[mkC 243 [.p 0,.b,uq,err] [.nI 0 6 pJ] none [((val),[.nI 0 6 pJ])]]
theorem Rq:ak T Gm zxz:=hoA K (hpA nZ (hpA zaT zjS))
def zuZ:List Ctr:=[mkC 195 [.p 0,zvc] [.nI 0 6 pJ] none [(val,[.nI 0 6 pJ])]]
theorem zkm:ak T Gm zuZ:=hoB K ((iQ [⟨[0,3,4,9,37,38,39],fun e n=>(n+4,[aj ⟨n+0,0⟩ ⟨n+3,0⟩,aj ⟨n+1,0⟩ ⟨n+3,0⟩,aj (.k 0) ⟨n+2,0⟩,aj ⟨n+3,0⟩ ⟨n+0,0⟩,aj ⟨n+3,0⟩ ⟨n+1,0⟩,aj (.k 0) ⟨n+3,0⟩,aj ⟨n+3,0⟩ (e 6)],[(0,.ptr 0 (.k 0) 0),(3,.ptr 1 (.k 0) 0),(4,.ptr 2 (.k 0) 0),(9,.bs 3 (.k 0) ⟨n+0,0⟩),(37,.sl (some false) 6 1 (e 5) (e 6)),(38,.i .i64 (e 6)),(39,.i .i64 ⟨n+1,0⟩)],[.var [.i .i64 (e 9),.i .i64 (e 10),.i .i64 (e 11),.s (e 12),.sl none 6 11 (e 13) (e 14),.sl none 7 12 (e 13) (e 16),.i .i64 (e 17)],.var [.i .i64 (e 18),.i .i64 (e 19),.s (e 20),.sl none 6 1 (e 21) (e 22),.sl none 5 10 (e 21) (e 24)],.var [.i .i64 (.k 0),.i .i64 (.k 0),.i .i64 (.k 0),.x (.v (.string ⟨#[]⟩)),.x (.sl true 6 []),.x (.sl true 7 [])],.row 2 6 ⟨n+2,0⟩ ⟨n+3,0⟩],(e 6,⟨n+0,0⟩))⟩])) (hpA bZ (hpA zkL (hpA nZ (hpA FW (hpA A8 (hpA zkH (hpA Rq zbm)))))))
def Du:List Ctr:=[mkC 87 [val,val] [] (some (1,3)) [(int,[])],mkC 127 [.sl 6 1,.sl 6 1,.fn 87 []] [] (some (1,2)) [(int,[])],mkC 128 [.sl 7 2,.sl 7 2,.fn 129 []] [] (some (1,2)) [(int,[])],mkC 129 [fld,fld] [] (some (1,4)) [(int,[])]]
theorem xw:ak T Gm Du:=hrA K ((iQ [⟨[0,1,2,11,12,13],fun e n=>(n+1,[aj (.k 0) ⟨n+0,0⟩,aj ⟨n+0,0⟩ (e 1),aj ⟨n+0,0⟩ (e 3)],[(0,.sl none 6 1 (e 0) (e 1)),(1,.sl none 6 1 (e 2) (e 3)),(2,.fn 87 []),(11,.sl none 6 1 (e 0) (e 1)),(12,.i .i64 (e 1)),(13,.i .i64 ⟨n+0,0⟩)],[],(e 1,⟨n+0,0⟩))⟩,⟨[0,1,2,11,12,13],fun e n=>(n+1,[aj (.k 0) ⟨n+0,0⟩,aj ⟨n+0,0⟩ (e 1),aj ⟨n+0,0⟩ (e 3)],[(0,.sl none 7 2 (e 0) (e 1)),(1,.sl none 7 2 (e 2) (e 3)),(2,.fn 129 []),(11,.sl none 7 2 (e 0) (e 1)),(12,.i .i64 (e 1)),(13,.i .i64 ⟨n+0,0⟩)],[],(e 1,⟨n+0,0⟩))⟩])) (hpA Rx (hpA KR zbe))
def zxS:List Ctr:=[mkC 42 [val,val] [] none [((.kb true),[]),((.kb false),[])]]
theorem zkv:ak T Gm zxS:=hoA K xw
def zuY:List Ctr:=[mkC 197 [.p 0,val,val] [.nI 0 6 pJ] none [((.kb true),[.nI 0 6 pJ]),((.kb false),[.nI 0 6 pJ])]]
theorem zkl:ak T Gm zuY:=hoA K (hpA FW (hpA A8 (hpA zbn (hpA nZ zkv))))
def zuX:List Ctr:=[mkC 198 [.p 0,zvc,val,val] [.nI 0 6 pJ] none [(val,[.nI 0 6 pJ])]]
theorem zkk:ak T Gm zuX:=hoA K (hpA FW (hpA nZ (hpA A8 (hpA zbm (hpA zkG (hpA zkF (hpA zkE Rq)))))))
def zsj:List Ctr:=[mkC 248 [.s] [] none [((val),[])]]
theorem Rl:ak T Gm zsj:=hoA K .nil
def zuW:List Ctr:=[mkC 199 [.p 0,val,val] [.nI 0 6 pJ] none [((val),[.nI 0 6 pJ])]]
theorem zkj:ak T Gm zuW:=hoA K (hpA nZ Rl)
def zw2:List Ctr:=[mkC 302 [.b] [] none [((.s),[])]]
theorem zjK:ak T Gm zw2:=hoA K .nil
def zw7:List Ctr:=[mkC 283 [.b] [] none [(.s,[])]]
theorem zjP:ak T Gm zw7:=hoA K zjK
def zxt:List Ctr:=[mkC 252 [.p 0,val] [.nI 0 6 pJ] none [((val),[.nI 0 6 pJ])]]
theorem zj2:ak T Gm zxt:=hoA K (hpA zjP (hpA A8 (hpA zbj (hpA zaZ (hpA zjO (hpA nZ Rl))))))
def zw4:List Ctr:=[mkC 287 [.s] [] none [(((.tu [uq,err])),[])]]
theorem zjN:ak T Gm zw4:=hoA K (hpA zba (hpA zbo zbj))
def zxs:List Ctr:=[mkC 253 [.p 0,val] [.nI 0 6 pJ] none [((val),[.nI 0 6 pJ])]]
theorem zj1:ak T Gm zxs:=hoA K (hpA nZ (hpA zjN zaT))
def zuV:List Ctr:=[mkC 201 [.p 0,int,val] [.nI 0 6 pJ] none [((val),[.nI 0 6 pJ])]]
theorem zki:ak T Gm zuV:=hoA K (hpA FW (hpA nZ (hpA A8 (hpA zj3 (hpA Rq (hpA zaT (hpA zj2 (hpA zj1 (hpA zkD (hpA Rl zkC))))))))))
end Ct
end Go.Proofs.YtkeefpkcepodeaaGreatDoor
