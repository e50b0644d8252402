/-.-/
import Derived.Test.YtkeefpkcepodeaaGreatDoorU31
set_option linter.all false
namespace Go.Proofs.YtkeefpkcepodeaaGreatDoor
open Go Go.Em Go.Ab
set_option maxRecDepth 100000
namespace Ct.Dd
def UG:List Ctr:=[mkC 65 [val] [] none [((.kb true),[]),((.kb false),[])]]
theorem FY:ak T Gm UG:=hoA K2 .nil
def zsn:List Ctr:=[mkC 96 [fld,.dp [.s]] [] none [(.kb true,[]),(.kb false,[])]]
theorem FX:ak T Gm zsn:=hoA K2 .nil
def zxn:List Ctr:=[mkC 148 [fld,.dp [.s]] [] none [(.kb true,[]),(.kb false,[])]]
theorem za4:ak T Gm zxn:=hoA K2 .nil
def zoH:List Ctr:=[dO 95 [.sl 7 2,.fn 96 [.dp [.s]]] [] none [(.ir .i64 (-1) 1000100,[],[lt 4 1 2])],dO 95 [.sl 7 2,.fn 148 [.dp [.s]]] [] none [(.ir .i64 (-1) 1000100,[],[lt 4 1 2])]]
theorem Bc:ak T Gm zoH:=hoB K2 ((iQ [⟨[0,1,7,8],fun e n=>(n+1,[aj (.k 0) ⟨n+0,0⟩,aj ⟨n+0,0⟩ (e 1)],[(0,.sl none 7 2 (e 0) (e 1)),(1,.fn 96 [.dp [.s (e 2)]]),(7,.i .i64 (e 1)),(8,.i .i64 ⟨n+0,0⟩)],[],(e 1,⟨n+0,0⟩))⟩,⟨[0,1,7,8],fun e n=>(n+1,[aj (.k 0) ⟨n+0,0⟩,aj ⟨n+0,0⟩ (e 1)],[(0,.sl none 7 2 (e 0) (e 1)),(1,.fn 148 [.dp [.s (e 2)]]),(7,.i .i64 (e 1)),(8,.i .i64 ⟨n+0,0⟩)],[],(e 1,⟨n+0,0⟩))⟩])) (hpA FX za4)
def zsp:List Ctr:=[dO 62 [val,.s] [] none [(.ir .i64 (-1) 1000100,[],[lt 9 1 7])]]
theorem KT:ak T Gm zsp:=hoA K2 (hpA FX Bc)
def zcJ:List Ctr:=[dO 60 [val] [] (some (1,0)) [(.ag [int,int,int,.s,.bs 0,.bs 1],[.DL 6 1 1 12,.DL 7 2 1 13],[lt 12 0 6,lt 6 0 12,lt 13 0 7,lt 7 0 13])]]
theorem uh:ak T Gm zcJ:=hrA K2 ((iQ [⟨[1,2,3,12,13,14],fun e n=>(n+4,[aj ⟨n+0,0⟩ ⟨n+3,0⟩,aj ⟨n+1,0⟩ ⟨n+3,0⟩,aj (.k 0) ⟨n+2,0⟩,aj ⟨n+2,0⟩ (e 3),aj ⟨n+3,0⟩ ⟨n+0,0⟩,aj ⟨n+3,0⟩ ⟨n+1,0⟩,aj (.k 0) ⟨n+3,0⟩,aj ⟨n+3,0⟩ (e 4)],[(1,.ptr 0 (.k 0) 0),(2,.ptr 1 (.k 0) 0),(3,.ptr 2 (.k 0) 0),(12,.sl none 6 1 (e 3) (e 4)),(13,.i .i64 (e 4)),(14,.i .i64 ⟨n+0,0⟩)],[.var [.i .i64 (e 7),.i .i64 (e 8),.i .i64 (e 9),.s (e 10),.sl none 6 1 (e 3) (e 4),.sl none 7 2 (e 3) (e 14)],.var [.i .i64 (.k 0),.i .i64 (.k 0),.i .i64 (.k 0),.x (.v (.string ⟨#[]⟩)),.x (.sl true 6 []),.x (.sl true 7 [])],.var [.i .i64 (e 7),.i .i64 (e 8),.i .i64 (e 9),.s (e 10),.bs 3 (.k 0) ⟨n+1,0⟩,.x (.sl true 7 [])],.row 6 1 ⟨n+2,0⟩ ⟨n+3,0⟩],(e 4,⟨n+0,0⟩))⟩,⟨[2,3,27,28,29],fun e n=>(n+4,[aj ⟨n+0,0⟩ ⟨n+3,0⟩,aj ⟨n+1,0⟩ ⟨n+3,0⟩,aj (.k 0) ⟨n+2,0⟩,aj ⟨n+2,0⟩ (e 2),aj ⟨n+3,0⟩ ⟨n+0,0⟩,aj ⟨n+3,0⟩ ⟨n+1,0⟩,aj (.k 0) ⟨n+3,0⟩,aj ⟨n+3,0⟩ (e 3)],[(2,.ptr 0 (.k 0) 0),(3,.ptr 1 (.k 0) 0),(27,.sl none 7 2 (e 2) (e 3)),(28,.i .i64 (e 3)),(29,.i .i64 ⟨n+0,0⟩)],[.var [.i .i64 (.k 0),.i .i64 (.k 0),.i .i64 (.k 0),.x (.v (.string ⟨#[]⟩)),.x (.sl true 6 []),.x (.sl true 7 [])],.var [.i .i64 (e 9),.i .i64 (e 10),.i .i64 (e 11),.s (e 12),.bs 2 (.k 0) (e 14),.bs 3 (.k 0) ⟨n+1,0⟩],.row 6 1 (e 17) (e 18),.row 7 2 ⟨n+2,0⟩ ⟨n+3,0⟩],(e 3,⟨n+0,0⟩))⟩])) .nil
def h73:List Ctr:=[mkC 31 [val,.s] [] none [(.tu [val,.kb true],[]),(.tu [val,.kb false],[])]]
theorem zaS:ak T Gm h73:=hoA K2 (hpA KT uh)
def zsm:List Ctr:=[mkC 122 [.s] [] none [((.kb true),[]),((.kb false),[])]]
theorem Ru:ak T Gm zsm:=hoB K2 ((iQ [⟨[23,24,25],fun e n=>(n+1,[aj (.k 0) ⟨n+0,0⟩,aj ⟨n+0,0⟩ (e 1)],[(23,.sl (some false) 1 4 (.k 1) (e 1)),(24,.i .i64 (e 1)),(25,.i .i64 ⟨n+0,0⟩)],[],(e 1,⟨n+0,0⟩))⟩])) .nil
def zxK:List Ctr:=[mkC 110 [val,.s,val] [] none [(.tu [.rc [int,int,int,.s,.bs 0,.bs 1],err],[.DL 6 1 16 21,.DL 7 2 16 22]),(.tu [val,err],[])]]
theorem zkd:ak T Gm zxK:=hoA K2 (hpA KT (hpA Ru (hpA FY (hpA uh (hpA za4 (hpA Bc zbl))))))
def Xx:List Ctr:=[mkC 79 [val,.slr 3 7 1 1000000,val] [] (some (9,0)) [(.tu [val,err],[])]]
theorem zkr:ak T Gm Xx:=hrA K2 ((iQ [])) (hpA FY (hpA zaS (hpA zkN zkd)))
def zxo:List Ctr:=[mkC 147 [tfd,.dp [.s]] [] none [(.kb true,[]),(.kb false,[])]]
theorem Rk:ak T Gm zxo:=hoA K2 .nil
def zsh:List Ctr:=[dO 202 [.slr 11 15 0 100,.fn 147 [.dp [.s]]] [] none [(.ir .i64 (-1) 100,[],[lt 4 1 2])]]
theorem Rh:ak T Gm zsh:=hoB K2 ((iQ [⟨[0,1,7,8],fun e n=>(n+1,[aj (.k 0) ⟨n+0,0⟩,aj ⟨n+0,0⟩ (e 1)],[(0,.sl none 11 15 (e 0) (e 1)),(1,.fn 147 [.dp [.s (e 2)]]),(7,.i .i64 (e 1)),(8,.i .i64 ⟨n+0,0⟩)],[],(e 1,⟨n+0,0⟩))⟩])) Rk
def zfp:List Ctr:=[mkC 203 [tfd] [] (some (1,1)) [(.rc [int,.s,int,int,int,int,int,.slh 1 5,.slh 7 14,.zQ 11 15 0 100,.bs 0],[.DL 6 1 13 24])],mkC 256 [typ] [] (some (1,0)) [(.rc [int,int,int,int,.slh 1 5,.bs 0,.bsr 1 0 100],[.DL 7 14 9 15,.DL 11 15 9 16])]]
theorem Rf:ak T Gm zfp:=hrA K2 ((iQ [⟨[1,2,3,15,16,17],fun e n=>(n+4,[aj ⟨n+0,0⟩ ⟨n+3,0⟩,aj ⟨n+1,0⟩ ⟨n+3,0⟩,aj (.k 0) ⟨n+2,-1⟩,aj ⟨n+3,0⟩ ⟨n+0,0⟩,aj ⟨n+3,0⟩ ⟨n+1,0⟩,aj (.k 0) ⟨n+3,0⟩,aj ⟨n+3,0⟩ (e 5)],[(1,.ptr 0 (.k 0) 0),(2,.ptr 1 (.k 0) 0),(3,.bs 2 (.k 0) ⟨n+0,0⟩),(15,.sl none 6 1 (e 4) (e 5)),(16,.i .i64 (e 5)),(17,.i .i64 ⟨n+1,0⟩)],[.var [.i .i64 (e 8),.s (e 9),.i .i64 (e 10),.i .i64 (e 11),.i .i64 (e 12),.i .i64 (e 13),.i .i64 (e 14),.sl (some false) 1 5 (e 15) (e 16),.sl (some false) 7 14 (e 15) (e 18),.sl (some false) 11 15 (e 15) (e 20),.sl none 6 1 (e 4) (e 5)],.var [.i .i64 (.k 0),.x (.v (.string ⟨#[]⟩)),.i .i64 (.k 0),.i .i64 (.k 0),.i .i64 (.k 0),.i .i64 (.k 0),.i .i64 (.k 0),.x (.sl true 1 []),.x (.sl true 7 []),.x (.sl true 11 []),.x (.sl true 6 [])],.row 6 1 ⟨n+2,0⟩ ⟨n+3,0⟩],(e 5,⟨n+0,0⟩))⟩,⟨[1,2,3,14,15,16],fun e n=>(n+4,[aj ⟨n+0,0⟩ ⟨n+3,0⟩,aj ⟨n+1,0⟩ ⟨n+3,0⟩,aj (.k 0) ⟨n+2,-1⟩,aj ⟨n+3,0⟩ ⟨n+0,0⟩,aj ⟨n+3,0⟩ ⟨n+1,0⟩,aj (.k 0) ⟨n+3,0⟩,aj ⟨n+3,0⟩ (e 5)],[(1,.ptr 0 (.k 0) 0),(2,.ptr 1 (.k 0) 0),(3,.bs 2 (.k 0) ⟨n+0,0⟩),(14,.sl none 7 14 (e 4) (e 5)),(15,.i .i64 (e 5)),(16,.i .i64 ⟨n+1,0⟩)],[.var [.i .i64 (e 8),.i .i64 (e 9),.i .i64 (e 10),.i .i64 (e 11),.sl none 1 5 (e 4) (e 13),.sl none 7 14 (e 4) (e 5),.sl none 11 15 (e 4) (e 17)],.var [.i .i64 (.k 0),.i .i64 (.k 0),.i .i64 (.k 0),.i .i64 (.k 0),.x (.sl true 1 []),.x (.sl true 7 []),.x (.sl true 11 [])],.row 7 14 ⟨n+2,0⟩ ⟨n+3,0⟩],(e 5,⟨n+0,0⟩))⟩,⟨[1,2,3,6,31,32,33],fun e n=>(n+4,[aj ⟨n+0,0⟩ ⟨n+3,0⟩,aj ⟨n+1,0⟩ ⟨n+3,0⟩,aj (.k 0) ⟨n+2,-1⟩,aj ⟨n+3,0⟩ ⟨n+0,0⟩,aj ⟨n+3,0⟩ ⟨n+1,0⟩,aj (.k 0) ⟨n+3,0⟩,aj ⟨n+3,0⟩ (e 7)],[(1,.ptr 0 (.k 0) 0),(2,.ptr 1 (.k 0) 0),(3,.bs 2 (.k 0) (e 3)),(6,.bs 3 (.k 0) ⟨n+0,0⟩),(31,.sl none 11 15 (e 6) (e 7)),(32,.i .i64 (e 7)),(33,.i .i64 ⟨n+1,0⟩)],[.var [.i .i64 (e 10),.i .i64 (e 11),.i .i64 (e 12),.i .i64 (e 13),.sl none 1 5 (e 6) (e 15),.sl none 7 14 (e 6) (e 17),.sl none 11 15 (e 6) (e 7)],.var [.i .i64 (.k 0),.i .i64 (.k 0),.i .i64 (.k 0),.i .i64 (.k 0),.x (.sl true 1 []),.x (.sl true 7 []),.x (.sl true 11 [])],.row 7 14 (e 24) (e 25),.row 11 15 ⟨n+2,0⟩ ⟨n+3,0⟩],(e 7,⟨n+0,0⟩))⟩])) (hpA uh zkx)
def zxp:List Ctr:=[mkC 146 [typ,.fn 147 [.dp [.s]]] [] none [(.tu [tfd,.kb true],[]),(.tu [tfd,.kb false],[])]]
theorem zjY:ak T Gm zxp:=hoA K2 (hpA Rh (hpA Rf Rk))
def zxL:List Ctr:=[mkC 109 [typ,.s] [] none [(((.tu [tfd,.kb true])),[]),(((.tu [tfd,.kb false])),[])]]
theorem zke:ak T Gm zxL:=hoA K2 (hpA Rk zjY)
def zcI:List Ctr:=[mkC 78 [typ,.sl 3 7] [] none [((.kb true),[]),((.kb false),[])]]
theorem zks:ak T Gm zcI:=hoB K2 ((iQ [⟨[1,2,9,10,11],fun e n=>(n+11,[aj (.k 0) ⟨n+0,0⟩,aj ⟨n+0,0⟩ (e 1),aj ⟨n+5,0⟩ ⟨n+9,0⟩,aj ⟨n+6,0⟩ (.k 1000000),aj (.k 0) ⟨n+6,0⟩,aj ⟨n+7,0⟩ ⟨n+9,0⟩,aj ⟨n+8,0⟩ (.k 1000000),aj (.k 0) ⟨n+8,0⟩,aj ⟨n+9,0⟩ ⟨n+5,0⟩,aj ⟨n+9,0⟩ ⟨n+7,0⟩,aj (.k 0) ⟨n+9,0⟩,aj ⟨n+10,0⟩ (.k 100),aj (.k 0) ⟨n+10,0⟩],[(1,.sl none 3 7 (e 0) (e 1)),(2,.ptr 0 (.k 0) 0),(9,.sl none 3 7 (e 0) (e 1)),(10,.i .i64 (e 1)),(11,.i .i64 ⟨n+0,0⟩)],[.var [.i .i64 ⟨n+1,0⟩,.i .i64 ⟨n+2,0⟩,.i .i64 ⟨n+3,0⟩,.i .i64 ⟨n+4,0⟩,.sl none 1 5 ⟨n+5,0⟩ ⟨n+6,0⟩,.sl none 7 14 ⟨n+7,0⟩ ⟨n+8,0⟩,.sl none 11 15 ⟨n+9,0⟩ ⟨n+10,0⟩]],(e 1,⟨n+0,0⟩))⟩])) zke
def zxq:List Ctr:=[mkC 143 [.sl 3 7,.sl 3 7] [] none [((.kb true),[]),((.kb false),[])]]
theorem zjZ:ak T Gm zxq:=hoB K2 ((iQ [⟨[0,1,12,13],fun e n=>(n+1,[aj (.k 0) ⟨n+0,0⟩,aj ⟨n+0,0⟩ (e 3)],[(0,.sl none 3 7 (e 0) (e 1)),(1,.sl none 3 7 (e 2) (e 3)),(12,.i .i64 (e 1)),(13,.i .i64 ⟨n+0,0⟩)],[],(e 1,⟨n+0,0⟩))⟩])) .nil
def zxM:List Ctr:=[mkC 105 [.sl 3 7,.sl 3 7] [] none [((.kb true),[]),((.kb false),[])]]
theorem zkf:ak T Gm zxM:=hoA K2 zjZ
def zxO:List Ctr:=[mkC 102 [part] [] none [(.kb true,[]),(.kb false,[])]]
theorem zbc:ak T Gm zxO:=hoA K2 .nil
def zxN:List Ctr:=[mkC 104 [.sl 3 7,.dp [.sl 3 7]] [] none [(.kb true,[]),(.kb false,[])]]
theorem zbb:ak T Gm zxN:=hoA K2 zkf
def zxr:List Ctr:=[mkC 142 [.sl 1 13,.fn 104 [.dp [.sl 3 7]]] [] none [(int,[])]]
theorem zj0:ak T Gm zxr:=hoB K2 ((iQ [⟨[0,1,7,8],fun e n=>(n+1,[aj (.k 0) ⟨n+0,0⟩,aj ⟨n+0,0⟩ (e 1)],[(0,.sl none 1 13 (e 0) (e 1)),(1,.fn 104 [.dp [.sl none 3 7 (e 2) (e 3)]]),(7,.i .i64 (e 1)),(8,.i .i64 ⟨n+0,0⟩)],[],(e 1,⟨n+0,0⟩))⟩])) zbb
def zqq:List Ctr:=[mkC 103 [.sl 1 13,.fn 104 [.dp [.sl 3 7]]] [] none [(.kb true,[]),(.kb false,[])]]
theorem zkg:ak T Gm zqq:=hoA K2 (hpA zj0 zbb)
def zuU:List Ctr:=[mkC 101 [.sl 3 7,.fn 102 []] [] none [(int,[])]]
theorem zkh:ak T Gm zuU:=hoB K2 ((iQ [⟨[0,1,7,8],fun e n=>(n+1,[aj (.k 0) ⟨n+0,0⟩,aj ⟨n+0,0⟩ (e 1)],[(0,.sl none 3 7 (e 0) (e 1)),(1,.fn 102 []),(7,.i .i64 (e 1)),(8,.i .i64 ⟨n+0,0⟩)],[],(e 1,⟨n+0,0⟩))⟩])) zbc
def zU:List Ctr:=[mkC 73 [.sl 3 7,.fn 102 []] [] none [(.kb true,[]),(.kb false,[])]]
theorem zkt:ak T Gm zU:=hoA K2 (hpA zkh zbc)
end Ct.Dd
end Go.Proofs.YtkeefpkcepodeaaGreatDoor
