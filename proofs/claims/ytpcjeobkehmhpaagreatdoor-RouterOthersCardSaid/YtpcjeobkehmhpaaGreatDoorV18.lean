/-.-/
import Derived.Test.YtpcjeobkehmhpaaGreatDoorV17
set_option linter.all false
namespace Go.Proofs.YtpcjeobkehmhpaaGreatDoor
open Go Go.Em Go.Ab
set_option maxRecDepth 100000
namespace Ct.Dd
def TF:List Ctr:=[mkC 67 [val] [] none [((.kb true),[]),((.kb false),[])]]
theorem yC:ay T Gm TF:=hoA K2 .nil
def zrJ:List Ctr:=[mkC 195 [fld,.dp [.s]] [] none [(.kb true,[]),(.kb false,[])]]
theorem Dk:ay T Gm zrJ:=hoA K2 .nil
def zwv:List Ctr:=[mkC 131 [fld,.dp [.s]] [] none [(.kb true,[]),(.kb false,[])]]
theorem zas:ay T Gm zwv:=hoA K2 .nil
def zom:List Ctr:=[dS 115 [.sl 7 2,.fn 195 [.dp [.s]]] [] none [(.ir .i64 (-1) 1000100,[],[lt 4 1 2])],dS 115 [.sl 7 2,.fn 131 [.dp [.s]]] [] none [(.ir .i64 (-1) 1000100,[],[lt 4 1 2])]]
theorem yB:ay T Gm zom:=hoB K2 ((iQ [⟨[0,1,7,8],fun e n=>(n+1,[ak (.k 0) ⟨n+0,0⟩,ak ⟨n+0,0⟩ (e 1)],[(0,.sl none 7 2 (e 0) (e 1)),(1,.fn 195 [.dp [.s (e 2)]]),(7,.i .i64 (e 1)),(8,.i .i64 ⟨n+0,0⟩)],[],(e 1,⟨n+0,0⟩))⟩,⟨[0,1,7,8],fun e n=>(n+1,[ak (.k 0) ⟨n+0,0⟩,ak ⟨n+0,0⟩ (e 1)],[(0,.sl none 7 2 (e 0) (e 1)),(1,.fn 131 [.dp [.s (e 2)]]),(7,.i .i64 (e 1)),(8,.i .i64 ⟨n+0,0⟩)],[],(e 1,⟨n+0,0⟩))⟩])) (hpA Dk zas)
def zrM:List Ctr:=[dS 129 [val,.s] [] none [(.ir .i64 (-1) 1000100,[],[lt 9 1 7])]]
theorem Jp:ay T Gm zrM:=hoA K2 (hpA Dk yB)
def zci:List Ctr:=[dS 46 [val] [] (some (1,0)) [(.ag [int,int,int,.s,.bs 0,.bs 1],[.y7 6 1 1 12,.y7 7 2 1 13],[lt 12 0 6,lt 6 0 12,lt 13 0 7,lt 7 0 13])]]
theorem pV:ay T Gm zci:=hrA K2 ((iQ [⟨[1,2,3,12,13,14],fun e n=>(n+4,[ak ⟨n+0,0⟩ ⟨n+3,0⟩,ak ⟨n+1,0⟩ ⟨n+3,0⟩,ak (.k 0) ⟨n+2,0⟩,ak ⟨n+2,0⟩ (e 3),ak ⟨n+3,0⟩ ⟨n+0,0⟩,ak ⟨n+3,0⟩ ⟨n+1,0⟩,ak (.k 0) ⟨n+3,0⟩,ak ⟨n+3,0⟩ (e 4)],[(1,.ptr 0 (.k 0) 0),(2,.ptr 1 (.k 0) 0),(3,.ptr 2 (.k 0) 0),(12,.sl none 6 1 (e 3) (e 4)),(13,.i .i64 (e 4)),(14,.i .i64 ⟨n+0,0⟩)],[.var [.i .i64 (e 7),.i .i64 (e 8),.i .i64 (e 9),.s (e 10),.sl none 6 1 (e 3) (e 4),.sl none 7 2 (e 3) (e 14)],.var [.i .i64 (.k 0),.i .i64 (.k 0),.i .i64 (.k 0),.x (.v (.string ⟨#[]⟩)),.x (.sl true 6 []),.x (.sl true 7 [])],.var [.i .i64 (e 7),.i .i64 (e 8),.i .i64 (e 9),.s (e 10),.bs 3 (.k 0) ⟨n+1,0⟩,.x (.sl true 7 [])],.row 6 1 ⟨n+2,0⟩ ⟨n+3,0⟩],(e 4,⟨n+0,0⟩))⟩,⟨[2,3,27,28,29],fun e n=>(n+4,[ak ⟨n+0,0⟩ ⟨n+3,0⟩,ak ⟨n+1,0⟩ ⟨n+3,0⟩,ak (.k 0) ⟨n+2,0⟩,ak ⟨n+2,0⟩ (e 2),ak ⟨n+3,0⟩ ⟨n+0,0⟩,ak ⟨n+3,0⟩ ⟨n+1,0⟩,ak (.k 0) ⟨n+3,0⟩,ak ⟨n+3,0⟩ (e 3)],[(2,.ptr 0 (.k 0) 0),(3,.ptr 1 (.k 0) 0),(27,.sl none 7 2 (e 2) (e 3)),(28,.i .i64 (e 3)),(29,.i .i64 ⟨n+0,0⟩)],[.var [.i .i64 (.k 0),.i .i64 (.k 0),.i .i64 (.k 0),.x (.v (.string ⟨#[]⟩)),.x (.sl true 6 []),.x (.sl true 7 [])],.var [.i .i64 (e 9),.i .i64 (e 10),.i .i64 (e 11),.s (e 12),.bs 2 (.k 0) (e 14),.bs 3 (.k 0) ⟨n+1,0⟩],.row 6 1 (e 17) (e 18),.row 7 2 ⟨n+2,0⟩ ⟨n+3,0⟩],(e 3,⟨n+0,0⟩))⟩])) .nil
def h73:List Ctr:=[mkC 98 [val,.s] [] none [(.tu [val,.kb true],[]),(.tu [val,.kb false],[])]]
theorem zae:ay T Gm h73:=hoA K2 (hpA Jp pV)
def zrH:List Ctr:=[mkC 130 [.s] [] none [((.kb true),[]),((.kb false),[])]]
theorem Qk:ay T Gm zrH:=hoB K2 ((iQ [⟨[23,24,25],fun e n=>(n+1,[ak (.k 0) ⟨n+0,0⟩,ak ⟨n+0,0⟩ (e 1)],[(23,.sl (some false) 1 4 (.k 1) (e 1)),(24,.i .i64 (e 1)),(25,.i .i64 ⟨n+0,0⟩)],[],(e 1,⟨n+0,0⟩))⟩])) .nil
def zwT:List Ctr:=[mkC 99 [val,.s,val] [] none [(.tu [.rc [int,int,int,.s,.bs 0,.bs 1],err],[.y7 6 1 16 21,.y7 7 2 16 22]),(.tu [val,err],[])]]
theorem zjJ:ay T Gm zwT:=hoA K2 (hpA Jp (hpA Qk (hpA yC (hpA pV (hpA zas (hpA yB zaO))))))
def Wj:List Ctr:=[mkC 69 [val,.slr 3 7 1 1000000,val] [] (some (9,0)) [(.tu [val,err],[])]]
theorem zjX:ay T Gm Wj:=hrA K2 ((iQ [])) (hpA yC (hpA zae (hpA zkj zjJ)))
def zww:List Ctr:=[mkC 128 [tfd,.dp [.s]] [] none [(.kb true,[]),(.kb false,[])]]
theorem Qc:ay T Gm zww:=hoA K2 .nil
def zrB:List Ctr:=[dS 193 [.slr 11 15 0 100,.fn 128 [.dp [.s]]] [] none [(.ir .i64 (-1) 100,[],[lt 4 1 2])]]
theorem P9:ay T Gm zrB:=hoB K2 ((iQ [⟨[0,1,7,8],fun e n=>(n+1,[ak (.k 0) ⟨n+0,0⟩,ak ⟨n+0,0⟩ (e 1)],[(0,.sl none 11 15 (e 0) (e 1)),(1,.fn 128 [.dp [.s (e 2)]]),(7,.i .i64 (e 1)),(8,.i .i64 ⟨n+0,0⟩)],[],(e 1,⟨n+0,0⟩))⟩])) Qc
def zeR:List Ctr:=[mkC 194 [tfd] [] (some (1,1)) [(.rc [int,.s,int,int,int,int,int,.slh 1 5,.slh 7 14,.xq 11 15 0 100,.bs 0],[.y7 6 1 13 24])],mkC 254 [typ] [] (some (1,0)) [(.rc [int,int,int,int,.slh 1 5,.bs 0,.bsr 1 0 100],[.y7 7 14 9 15,.y7 11 15 9 16])]]
theorem P8:ay T Gm zeR:=hrA K2 ((iQ [⟨[1,2,3,15,16,17],fun e n=>(n+4,[ak ⟨n+0,0⟩ ⟨n+3,0⟩,ak ⟨n+1,0⟩ ⟨n+3,0⟩,ak (.k 0) ⟨n+2,-1⟩,ak ⟨n+3,0⟩ ⟨n+0,0⟩,ak ⟨n+3,0⟩ ⟨n+1,0⟩,ak (.k 0) ⟨n+3,0⟩,ak ⟨n+3,0⟩ (e 5)],[(1,.ptr 0 (.k 0) 0),(2,.ptr 1 (.k 0) 0),(3,.bs 2 (.k 0) ⟨n+0,0⟩),(15,.sl none 6 1 (e 4) (e 5)),(16,.i .i64 (e 5)),(17,.i .i64 ⟨n+1,0⟩)],[.var [.i .i64 (e 8),.s (e 9),.i .i64 (e 10),.i .i64 (e 11),.i .i64 (e 12),.i .i64 (e 13),.i .i64 (e 14),.sl (some false) 1 5 (e 15) (e 16),.sl (some false) 7 14 (e 15) (e 18),.sl (some false) 11 15 (e 15) (e 20),.sl none 6 1 (e 4) (e 5)],.var [.i .i64 (.k 0),.x (.v (.string ⟨#[]⟩)),.i .i64 (.k 0),.i .i64 (.k 0),.i .i64 (.k 0),.i .i64 (.k 0),.i .i64 (.k 0),.x (.sl true 1 []),.x (.sl true 7 []),.x (.sl true 11 []),.x (.sl true 6 [])],.row 6 1 ⟨n+2,0⟩ ⟨n+3,0⟩],(e 5,⟨n+0,0⟩))⟩,⟨[1,2,3,14,15,16],fun e n=>(n+4,[ak ⟨n+0,0⟩ ⟨n+3,0⟩,ak ⟨n+1,0⟩ ⟨n+3,0⟩,ak (.k 0) ⟨n+2,-1⟩,ak ⟨n+3,0⟩ ⟨n+0,0⟩,ak ⟨n+3,0⟩ ⟨n+1,0⟩,ak (.k 0) ⟨n+3,0⟩,ak ⟨n+3,0⟩ (e 5)],[(1,.ptr 0 (.k 0) 0),(2,.ptr 1 (.k 0) 0),(3,.bs 2 (.k 0) ⟨n+0,0⟩),(14,.sl none 7 14 (e 4) (e 5)),(15,.i .i64 (e 5)),(16,.i .i64 ⟨n+1,0⟩)],[.var [.i .i64 (e 8),.i .i64 (e 9),.i .i64 (e 10),.i .i64 (e 11),.sl none 1 5 (e 4) (e 13),.sl none 7 14 (e 4) (e 5),.sl none 11 15 (e 4) (e 17)],.var [.i .i64 (.k 0),.i .i64 (.k 0),.i .i64 (.k 0),.i .i64 (.k 0),.x (.sl true 1 []),.x (.sl true 7 []),.x (.sl true 11 [])],.row 7 14 ⟨n+2,0⟩ ⟨n+3,0⟩],(e 5,⟨n+0,0⟩))⟩,⟨[1,2,3,6,31,32,33],fun e n=>(n+4,[ak ⟨n+0,0⟩ ⟨n+3,0⟩,ak ⟨n+1,0⟩ ⟨n+3,0⟩,ak (.k 0) ⟨n+2,-1⟩,ak ⟨n+3,0⟩ ⟨n+0,0⟩,ak ⟨n+3,0⟩ ⟨n+1,0⟩,ak (.k 0) ⟨n+3,0⟩,ak ⟨n+3,0⟩ (e 7)],[(1,.ptr 0 (.k 0) 0),(2,.ptr 1 (.k 0) 0),(3,.bs 2 (.k 0) (e 3)),(6,.bs 3 (.k 0) ⟨n+0,0⟩),(31,.sl none 11 15 (e 6) (e 7)),(32,.i .i64 (e 7)),(33,.i .i64 ⟨n+1,0⟩)],[.var [.i .i64 (e 10),.i .i64 (e 11),.i .i64 (e 12),.i .i64 (e 13),.sl none 1 5 (e 6) (e 15),.sl none 7 14 (e 6) (e 17),.sl none 11 15 (e 6) (e 7)],.var [.i .i64 (.k 0),.i .i64 (.k 0),.i .i64 (.k 0),.i .i64 (.k 0),.x (.sl true 1 []),.x (.sl true 7 []),.x (.sl true 11 [])],.row 7 14 (e 24) (e 25),.row 11 15 ⟨n+2,0⟩ ⟨n+3,0⟩],(e 7,⟨n+0,0⟩))⟩])) (hpA pV zj3)
def zwx:List Ctr:=[mkC 127 [typ,.fn 128 [.dp [.s]]] [] none [(.tu [tfd,.kb true],[]),(.tu [tfd,.kb false],[])]]
theorem zju:ay T Gm zwx:=hoA K2 (hpA P9 (hpA P8 Qc))
def zwU:List Ctr:=[mkC 97 [typ,.s] [] none [(((.tu [tfd,.kb true])),[]),(((.tu [tfd,.kb false])),[])]]
theorem zjK:ay T Gm zwU:=hoA K2 (hpA Qc zju)
def zch:List Ctr:=[mkC 68 [typ,.sl 3 7] [] none [((.kb true),[]),((.kb false),[])]]
theorem zjY:ay T Gm zch:=hoB K2 ((iQ [⟨[1,2,9,10,11],fun e n=>(n+11,[ak (.k 0) ⟨n+0,0⟩,ak ⟨n+0,0⟩ (e 1),ak ⟨n+5,0⟩ ⟨n+9,0⟩,ak ⟨n+6,0⟩ (.k 1000000),ak (.k 0) ⟨n+6,0⟩,ak ⟨n+7,0⟩ ⟨n+9,0⟩,ak ⟨n+8,0⟩ (.k 1000000),ak (.k 0) ⟨n+8,0⟩,ak ⟨n+9,0⟩ ⟨n+5,0⟩,ak ⟨n+9,0⟩ ⟨n+7,0⟩,ak (.k 0) ⟨n+9,0⟩,ak ⟨n+10,0⟩ (.k 100),ak (.k 0) ⟨n+10,0⟩],[(1,.sl none 3 7 (e 0) (e 1)),(2,.ptr 0 (.k 0) 0),(9,.sl none 3 7 (e 0) (e 1)),(10,.i .i64 (e 1)),(11,.i .i64 ⟨n+0,0⟩)],[.var [.i .i64 ⟨n+1,0⟩,.i .i64 ⟨n+2,0⟩,.i .i64 ⟨n+3,0⟩,.i .i64 ⟨n+4,0⟩,.sl none 1 5 ⟨n+5,0⟩ ⟨n+6,0⟩,.sl none 7 14 ⟨n+7,0⟩ ⟨n+8,0⟩,.sl none 11 15 ⟨n+9,0⟩ ⟨n+10,0⟩]],(e 1,⟨n+0,0⟩))⟩])) zjK
def zwy:List Ctr:=[mkC 126 [.sl 3 7,.sl 3 7] [] none [((.kb true),[]),((.kb false),[])]]
theorem zjv:ay T Gm zwy:=hoB K2 ((iQ [⟨[0,1,12,13],fun e n=>(n+1,[ak (.k 0) ⟨n+0,0⟩,ak ⟨n+0,0⟩ (e 3)],[(0,.sl none 3 7 (e 0) (e 1)),(1,.sl none 3 7 (e 2) (e 3)),(12,.i .i64 (e 1)),(13,.i .i64 ⟨n+0,0⟩)],[],(e 1,⟨n+0,0⟩))⟩])) .nil
def zwV:List Ctr:=[mkC 94 [.sl 3 7,.sl 3 7] [] none [((.kb true),[]),((.kb false),[])]]
theorem zjL:ay T Gm zwV:=hoA K2 zjv
def zwX:List Ctr:=[mkC 91 [part] [] none [(.kb true,[]),(.kb false,[])]]
theorem zaB:ay T Gm zwX:=hoA K2 .nil
def zwW:List Ctr:=[mkC 93 [.sl 3 7,.dp [.sl 3 7]] [] none [(.kb true,[]),(.kb false,[])]]
theorem zaA:ay T Gm zwW:=hoA K2 zjL
def zwz:List Ctr:=[mkC 125 [.sl 1 13,.fn 93 [.dp [.sl 3 7]]] [] none [(int,[])]]
theorem zjw:ay T Gm zwz:=hoB K2 ((iQ [⟨[0,1,7,8],fun e n=>(n+1,[ak (.k 0) ⟨n+0,0⟩,ak ⟨n+0,0⟩ (e 1)],[(0,.sl none 1 13 (e 0) (e 1)),(1,.fn 93 [.dp [.sl none 3 7 (e 2) (e 3)]]),(7,.i .i64 (e 1)),(8,.i .i64 ⟨n+0,0⟩)],[],(e 1,⟨n+0,0⟩))⟩])) zaA
def zpZ:List Ctr:=[mkC 92 [.sl 1 13,.fn 93 [.dp [.sl 3 7]]] [] none [(.kb true,[]),(.kb false,[])]]
theorem zjM:ay T Gm zpZ:=hoA K2 (hpA zjw zaA)
def zrF:List Ctr:=[mkC 124 [.sl 3 7,.fn 91 []] [] none [(int,[])]]
theorem Qj:ay T Gm zrF:=hoB K2 ((iQ [⟨[0,1,7,8],fun e n=>(n+1,[ak (.k 0) ⟨n+0,0⟩,ak ⟨n+0,0⟩ (e 1)],[(0,.sl none 3 7 (e 0) (e 1)),(1,.fn 91 []),(7,.i .i64 (e 1)),(8,.i .i64 ⟨n+0,0⟩)],[],(e 1,⟨n+0,0⟩))⟩])) zaB
def zjZ:List Ctr:=[mkC 90 [.sl 3 7,.fn 91 []] [] none [(.kb true,[]),(.kb false,[])]]
theorem Ql:ay T Gm zjZ:=hoA K2 (hpA Qj zaB)
end Ct.Dd
end Go.Proofs.YtpcjeobkehmhpaaGreatDoor
