/-.-/
import Derived.Test.YtpcjeobkehmhpaaGreatDoorU17
set_option linter.unusedSimpArgs false
set_option linter.unusedVariables false
namespace Go.Proofs.YtpcjeobkehmhpaaGreatDoor
open Go Go.Em Go.Ab
set_option maxRecDepth 100000
namespace Ct.Dd
def Tj:List Ctr:=[mkC 67 [val] [] none [((.kb true),[]),((.kb false),[])]]
theorem yw:ay T Gm Tj:=hoA K2 .nil
def zqM:List Ctr:=[mkC 195 [fld,.dp [.s]] [] none [(.kb true,[]),(.kb false,[])]]
theorem Df:ay T Gm zqM:=hoA K2 .nil
def zvH:List Ctr:=[mkC 131 [fld,.dp [.s]] [] none [(.kb true,[]),(.kb false,[])]]
theorem zae:ay T Gm zvH:=hoA K2 .nil
def znx:List Ctr:=[dM 115 [.sl 7 2,.fn 195 [.dp [.s]]] [] none [(.ir .i64 (-1) 1000100,[],[lt 4 1 2])],dM 115 [.sl 7 2,.fn 131 [.dp [.s]]] [] none [(.ir .i64 (-1) 1000100,[],[lt 4 1 2])]]
theorem yu:ay T Gm znx:=hoB K2 ((iM [⟨[0,1,7,8],fun e n=>(n+1,[aj (.k 0) ⟨n+0,0⟩,aj ⟨n+0,0⟩ (e 1)],[(0,.sl none 7 2 (e 0) (e 1)),(1,.fn 195 [.dp [.s (e 2)]]),(7,.i .i64 (e 1)),(8,.i .i64 ⟨n+0,0⟩)],[],(e 1,⟨n+0,0⟩))⟩,⟨[0,1,7,8],fun e n=>(n+1,[aj (.k 0) ⟨n+0,0⟩,aj ⟨n+0,0⟩ (e 1)],[(0,.sl none 7 2 (e 0) (e 1)),(1,.fn 131 [.dp [.s (e 2)]]),(7,.i .i64 (e 1)),(8,.i .i64 ⟨n+0,0⟩)],[],(e 1,⟨n+0,0⟩))⟩])) (hpA Df zae)
def zqO:List Ctr:=[dM 129 [val,.s] [] none [(.ir .i64 (-1) 1000100,[],[lt 9 1 7])]]
theorem Jz:ay T Gm zqO:=hoA K2 (hpA Df yu)
def zb0:List Ctr:=[dM 46 [val] [] (some (1,0)) [(.ag [int,int,int,.s,.bs 0,.bs 1],[.yX 6 1 1 12,.yX 7 2 1 13],[lt 12 0 6,lt 6 0 12,lt 13 0 7,lt 7 0 13])]]
theorem pO:ay T Gm zb0:=hrA K2 ((iM [⟨[1,2,3,12,13,14],fun e n=>(n+4,[aj ⟨n+0,0⟩ ⟨n+3,0⟩,aj ⟨n+1,0⟩ ⟨n+3,0⟩,aj (.k 0) ⟨n+2,0⟩,aj ⟨n+2,0⟩ (e 3),aj ⟨n+3,0⟩ ⟨n+0,0⟩,aj ⟨n+3,0⟩ ⟨n+1,0⟩,aj (.k 0) ⟨n+3,0⟩,aj ⟨n+3,0⟩ (e 4)],[(1,.ptr 0 (.k 0) 0),(2,.ptr 1 (.k 0) 0),(3,.ptr 2 (.k 0) 0),(12,.sl none 6 1 (e 3) (e 4)),(13,.i .i64 (e 4)),(14,.i .i64 ⟨n+0,0⟩)],[.var [.i .i64 (e 7),.i .i64 (e 8),.i .i64 (e 9),.s (e 10),.sl none 6 1 (e 3) (e 4),.sl none 7 2 (e 3) (e 14)],.var [.i .i64 (.k 0),.i .i64 (.k 0),.i .i64 (.k 0),.x (.v (.string ⟨#[]⟩)),.x (.sl true 6 []),.x (.sl true 7 [])],.var [.i .i64 (e 7),.i .i64 (e 8),.i .i64 (e 9),.s (e 10),.bs 3 (.k 0) ⟨n+1,0⟩,.x (.sl true 7 [])],.row 6 1 ⟨n+2,0⟩ ⟨n+3,0⟩],(e 4,⟨n+0,0⟩))⟩,⟨[2,3,27,28,29],fun e n=>(n+4,[aj ⟨n+0,0⟩ ⟨n+3,0⟩,aj ⟨n+1,0⟩ ⟨n+3,0⟩,aj (.k 0) ⟨n+2,0⟩,aj ⟨n+2,0⟩ (e 2),aj ⟨n+3,0⟩ ⟨n+0,0⟩,aj ⟨n+3,0⟩ ⟨n+1,0⟩,aj (.k 0) ⟨n+3,0⟩,aj ⟨n+3,0⟩ (e 3)],[(2,.ptr 0 (.k 0) 0),(3,.ptr 1 (.k 0) 0),(27,.sl none 7 2 (e 2) (e 3)),(28,.i .i64 (e 3)),(29,.i .i64 ⟨n+0,0⟩)],[.var [.i .i64 (.k 0),.i .i64 (.k 0),.i .i64 (.k 0),.x (.v (.string ⟨#[]⟩)),.x (.sl true 6 []),.x (.sl true 7 [])],.var [.i .i64 (e 9),.i .i64 (e 10),.i .i64 (e 11),.s (e 12),.bs 2 (.k 0) (e 14),.bs 3 (.k 0) ⟨n+1,0⟩],.row 6 1 (e 17) (e 18),.row 7 2 ⟨n+2,0⟩ ⟨n+3,0⟩],(e 3,⟨n+0,0⟩))⟩])) .nil
def h73:List Ctr:=[mkC 98 [val,.s] [] none [(.tu [val,.kb true],[]),(.tu [val,.kb false],[])]]
theorem ZW:ay T Gm h73:=hoA K2 (hpA Jz pO)
def zqK:List Ctr:=[mkC 130 [.s] [] none [((.kb true),[]),((.kb false),[])]]
theorem Qh:ay T Gm zqK:=hoB K2 ((iM [⟨[23,24,25],fun e n=>(n+1,[aj (.k 0) ⟨n+0,0⟩,aj ⟨n+0,0⟩ (e 1)],[(23,.sl (some false) 1 4 (.k 1) (e 1)),(24,.i .i64 (e 1)),(25,.i .i64 ⟨n+0,0⟩)],[],(e 1,⟨n+0,0⟩))⟩])) .nil
def zv5:List Ctr:=[mkC 99 [val,.s,val] [] none [(.tu [.rc [int,int,int,.s,.bs 0,.bs 1],err],[.yX 6 1 16 21,.yX 7 2 16 22]),(.tu [val,err],[])]]
theorem zjb:ay T Gm zv5:=hoA K2 (hpA Jz (hpA Qh (hpA yw (hpA pO (hpA zae (hpA yu zaC))))))
def VZ:List Ctr:=[mkC 69 [val,.slr 3 7 1 1000000,val] [] (some (9,0)) [(.tu [val,err],[])]]
theorem zjq:ay T Gm VZ:=hrA K2 ((iM [])) (hpA yw (hpA ZW (hpA zjM zjb)))
def zvI:List Ctr:=[mkC 128 [tfd,.dp [.s]] [] none [(.kb true,[]),(.kb false,[])]]
theorem P9:ay T Gm zvI:=hoA K2 .nil
def zqE:List Ctr:=[dM 193 [.slr 11 15 0 100,.fn 128 [.dp [.s]]] [] none [(.ir .i64 (-1) 100,[],[lt 4 1 2])]]
theorem P6:ay T Gm zqE:=hoB K2 ((iM [⟨[0,1,7,8],fun e n=>(n+1,[aj (.k 0) ⟨n+0,0⟩,aj ⟨n+0,0⟩ (e 1)],[(0,.sl none 11 15 (e 0) (e 1)),(1,.fn 128 [.dp [.s (e 2)]]),(7,.i .i64 (e 1)),(8,.i .i64 ⟨n+0,0⟩)],[],(e 1,⟨n+0,0⟩))⟩])) P9
def zev:List Ctr:=[mkC 194 [tfd] [] (some (1,1)) [(.rc [int,.s,int,int,int,int,int,.slh 1 5,.slh 7 14,.wW 11 15 0 100,.bs 0],[.yX 6 1 13 24])],mkC 254 [typ] [] (some (1,0)) [(.rc [int,int,int,int,.slh 1 5,.bs 0,.bsr 1 0 100],[.yX 7 14 9 15,.yX 11 15 9 16])]]
theorem P5:ay T Gm zev:=hrA K2 ((iM [⟨[1,2,3,15,16,17],fun e n=>(n+4,[aj ⟨n+0,0⟩ ⟨n+3,0⟩,aj ⟨n+1,0⟩ ⟨n+3,0⟩,aj (.k 0) ⟨n+2,-1⟩,aj ⟨n+3,0⟩ ⟨n+0,0⟩,aj ⟨n+3,0⟩ ⟨n+1,0⟩,aj (.k 0) ⟨n+3,0⟩,aj ⟨n+3,0⟩ (e 5)],[(1,.ptr 0 (.k 0) 0),(2,.ptr 1 (.k 0) 0),(3,.bs 2 (.k 0) ⟨n+0,0⟩),(15,.sl none 6 1 (e 4) (e 5)),(16,.i .i64 (e 5)),(17,.i .i64 ⟨n+1,0⟩)],[.var [.i .i64 (e 8),.s (e 9),.i .i64 (e 10),.i .i64 (e 11),.i .i64 (e 12),.i .i64 (e 13),.i .i64 (e 14),.sl (some false) 1 5 (e 15) (e 16),.sl (some false) 7 14 (e 15) (e 18),.sl (some false) 11 15 (e 15) (e 20),.sl none 6 1 (e 4) (e 5)],.var [.i .i64 (.k 0),.x (.v (.string ⟨#[]⟩)),.i .i64 (.k 0),.i .i64 (.k 0),.i .i64 (.k 0),.i .i64 (.k 0),.i .i64 (.k 0),.x (.sl true 1 []),.x (.sl true 7 []),.x (.sl true 11 []),.x (.sl true 6 [])],.row 6 1 ⟨n+2,0⟩ ⟨n+3,0⟩],(e 5,⟨n+0,0⟩))⟩,⟨[1,2,3,14,15,16],fun e n=>(n+4,[aj ⟨n+0,0⟩ ⟨n+3,0⟩,aj ⟨n+1,0⟩ ⟨n+3,0⟩,aj (.k 0) ⟨n+2,-1⟩,aj ⟨n+3,0⟩ ⟨n+0,0⟩,aj ⟨n+3,0⟩ ⟨n+1,0⟩,aj (.k 0) ⟨n+3,0⟩,aj ⟨n+3,0⟩ (e 5)],[(1,.ptr 0 (.k 0) 0),(2,.ptr 1 (.k 0) 0),(3,.bs 2 (.k 0) ⟨n+0,0⟩),(14,.sl none 7 14 (e 4) (e 5)),(15,.i .i64 (e 5)),(16,.i .i64 ⟨n+1,0⟩)],[.var [.i .i64 (e 8),.i .i64 (e 9),.i .i64 (e 10),.i .i64 (e 11),.sl none 1 5 (e 4) (e 13),.sl none 7 14 (e 4) (e 5),.sl none 11 15 (e 4) (e 17)],.var [.i .i64 (.k 0),.i .i64 (.k 0),.i .i64 (.k 0),.i .i64 (.k 0),.x (.sl true 1 []),.x (.sl true 7 []),.x (.sl true 11 [])],.row 7 14 ⟨n+2,0⟩ ⟨n+3,0⟩],(e 5,⟨n+0,0⟩))⟩,⟨[1,2,3,6,31,32,33],fun e n=>(n+4,[aj ⟨n+0,0⟩ ⟨n+3,0⟩,aj ⟨n+1,0⟩ ⟨n+3,0⟩,aj (.k 0) ⟨n+2,-1⟩,aj ⟨n+3,0⟩ ⟨n+0,0⟩,aj ⟨n+3,0⟩ ⟨n+1,0⟩,aj (.k 0) ⟨n+3,0⟩,aj ⟨n+3,0⟩ (e 7)],[(1,.ptr 0 (.k 0) 0),(2,.ptr 1 (.k 0) 0),(3,.bs 2 (.k 0) (e 3)),(6,.bs 3 (.k 0) ⟨n+0,0⟩),(31,.sl none 11 15 (e 6) (e 7)),(32,.i .i64 (e 7)),(33,.i .i64 ⟨n+1,0⟩)],[.var [.i .i64 (e 10),.i .i64 (e 11),.i .i64 (e 12),.i .i64 (e 13),.sl none 1 5 (e 6) (e 15),.sl none 7 14 (e 6) (e 17),.sl none 11 15 (e 6) (e 7)],.var [.i .i64 (.k 0),.i .i64 (.k 0),.i .i64 (.k 0),.i .i64 (.k 0),.x (.sl true 1 []),.x (.sl true 7 []),.x (.sl true 11 [])],.row 7 14 (e 24) (e 25),.row 11 15 ⟨n+2,0⟩ ⟨n+3,0⟩],(e 7,⟨n+0,0⟩))⟩])) (hpA pO zjw)
def zvJ:List Ctr:=[mkC 127 [typ,.fn 128 [.dp [.s]]] [] none [(.tu [tfd,.kb true],[]),(.tu [tfd,.kb false],[])]]
theorem ziW:ay T Gm zvJ:=hoA K2 (hpA P6 (hpA P5 P9))
def zv6:List Ctr:=[mkC 97 [typ,.s] [] none [(((.tu [tfd,.kb true])),[]),(((.tu [tfd,.kb false])),[])]]
theorem zjc:ay T Gm zv6:=hoA K2 (hpA P9 ziW)
def zbZ:List Ctr:=[mkC 68 [typ,.sl 3 7] [] none [((.kb true),[]),((.kb false),[])]]
theorem zjr:ay T Gm zbZ:=hoB K2 ((iM [⟨[1,2,9,10,11],fun e n=>(n+11,[aj (.k 0) ⟨n+0,0⟩,aj ⟨n+0,0⟩ (e 1),aj ⟨n+5,0⟩ ⟨n+9,0⟩,aj ⟨n+6,0⟩ (.k 1000000),aj (.k 0) ⟨n+6,0⟩,aj ⟨n+7,0⟩ ⟨n+9,0⟩,aj ⟨n+8,0⟩ (.k 1000000),aj (.k 0) ⟨n+8,0⟩,aj ⟨n+9,0⟩ ⟨n+5,0⟩,aj ⟨n+9,0⟩ ⟨n+7,0⟩,aj (.k 0) ⟨n+9,0⟩,aj ⟨n+10,0⟩ (.k 100),aj (.k 0) ⟨n+10,0⟩],[(1,.sl none 3 7 (e 0) (e 1)),(2,.ptr 0 (.k 0) 0),(9,.sl none 3 7 (e 0) (e 1)),(10,.i .i64 (e 1)),(11,.i .i64 ⟨n+0,0⟩)],[.var [.i .i64 ⟨n+1,0⟩,.i .i64 ⟨n+2,0⟩,.i .i64 ⟨n+3,0⟩,.i .i64 ⟨n+4,0⟩,.sl none 1 5 ⟨n+5,0⟩ ⟨n+6,0⟩,.sl none 7 14 ⟨n+7,0⟩ ⟨n+8,0⟩,.sl none 11 15 ⟨n+9,0⟩ ⟨n+10,0⟩]],(e 1,⟨n+0,0⟩))⟩])) zjc
def zvK:List Ctr:=[mkC 126 [.sl 3 7,.sl 3 7] [] none [((.kb true),[]),((.kb false),[])]]
theorem ziX:ay T Gm zvK:=hoB K2 ((iM [⟨[0,1,12,13],fun e n=>(n+1,[aj (.k 0) ⟨n+0,0⟩,aj ⟨n+0,0⟩ (e 3)],[(0,.sl none 3 7 (e 0) (e 1)),(1,.sl none 3 7 (e 2) (e 3)),(12,.i .i64 (e 1)),(13,.i .i64 ⟨n+0,0⟩)],[],(e 1,⟨n+0,0⟩))⟩])) .nil
def zv7:List Ctr:=[mkC 94 [.sl 3 7,.sl 3 7] [] none [((.kb true),[]),((.kb false),[])]]
theorem zjd:ay T Gm zv7:=hoA K2 ziX
def zv9:List Ctr:=[mkC 91 [part] [] none [(.kb true,[]),(.kb false,[])]]
theorem zao:ay T Gm zv9:=hoA K2 .nil
def zv8:List Ctr:=[mkC 93 [.sl 3 7,.dp [.sl 3 7]] [] none [(.kb true,[]),(.kb false,[])]]
theorem zan:ay T Gm zv8:=hoA K2 zjd
def zvL:List Ctr:=[mkC 125 [.sl 1 13,.fn 93 [.dp [.sl 3 7]]] [] none [(int,[])]]
theorem ziY:ay T Gm zvL:=hoB K2 ((iM [⟨[0,1,7,8],fun e n=>(n+1,[aj (.k 0) ⟨n+0,0⟩,aj ⟨n+0,0⟩ (e 1)],[(0,.sl none 1 13 (e 0) (e 1)),(1,.fn 93 [.dp [.sl none 3 7 (e 2) (e 3)]]),(7,.i .i64 (e 1)),(8,.i .i64 ⟨n+0,0⟩)],[],(e 1,⟨n+0,0⟩))⟩])) zan
def zo7:List Ctr:=[mkC 92 [.sl 1 13,.fn 93 [.dp [.sl 3 7]]] [] none [(.kb true,[]),(.kb false,[])]]
theorem zje:ay T Gm zo7:=hoA K2 (hpA ziY zan)
def zqI:List Ctr:=[mkC 124 [.sl 3 7,.fn 91 []] [] none [(int,[])]]
theorem Qg:ay T Gm zqI:=hoB K2 ((iM [⟨[0,1,7,8],fun e n=>(n+1,[aj (.k 0) ⟨n+0,0⟩,aj ⟨n+0,0⟩ (e 1)],[(0,.sl none 3 7 (e 0) (e 1)),(1,.fn 91 []),(7,.i .i64 (e 1)),(8,.i .i64 ⟨n+0,0⟩)],[],(e 1,⟨n+0,0⟩))⟩])) zao
def zjs:List Ctr:=[mkC 90 [.sl 3 7,.fn 91 []] [] none [(.kb true,[]),(.kb false,[])]]
theorem Qj:ay T Gm zjs:=hoA K2 (hpA Qg zao)
end Ct.Dd
end Go.Proofs.YtpcjeobkehmhpaaGreatDoor
