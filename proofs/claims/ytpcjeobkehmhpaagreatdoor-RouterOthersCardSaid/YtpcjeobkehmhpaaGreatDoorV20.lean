/-.-/
import Derived.Test.YtpcjeobkehmhpaaGreatDoorV19
set_option linter.all false
namespace Go.Proofs.YtpcjeobkehmhpaaGreatDoor
open Go Go.Em Go.Ab
set_option maxRecDepth 100000
namespace Ct.Ff
def zeS:List Ctr:=[dS 100 [typ,val] [] (some (1,1)) (oV 16 (.bsr 0 0 1000100)),(dS 134 [typ,val,.fn 100 []] [] (some (1,0)) oI).with [[ak ⟨2,0⟩ (.k 9)],[ak (.k 11) ⟨2,0⟩],bd 2 10 10++bd 14 1 1]]
theorem Qi:ay T Gm zeS:=hrA K3 ((iQ [⟨[4,5,29,30,31],fun e n=>(n+4,[ak (.k 0) ⟨n+0,0⟩,ak ⟨n+1,0⟩ ⟨n+0,1000000⟩,ak ⟨n+1,0⟩ ⟨n+3,0⟩,ak (e 16) ⟨n+1,0⟩,ak (.k 0) ⟨n+2,0⟩,ak ⟨n+3,0⟩ ⟨n+1,0⟩,ak ⟨n+0,0⟩ (.k 100)],[(4,.ptr 0 (.k 0) 0),(5,.ptr 1 (.k 0) 0),(29,.sl none 11 15 (e 2) (e 3)),(30,.i .i64 (e 3)),(31,.i .i64 ⟨n+0,0⟩)],[.var [.i .i64 (.k 0),.i .i64 (.k 0),.i .i64 (.k 0),.x (.v (.string ⟨#[]⟩)),.x (.sl true 6 []),.x (.sl true 7 [])],.var [.i .i64 (e 9),.i .i64 (e 10),.i .i64 (e 11),.s (e 12),.sl none 6 21 (e 13) (e 14),.bs 2 (.k 0) ⟨n+1,0⟩],.row 7 22 ⟨n+2,0⟩ ⟨n+3,0⟩],(e 3,⟨n+0,0⟩))⟩,⟨[2,3,6,7,29,30,31],fun e n=>(n+4,[ak ⟨n+0,0⟩ ⟨n+3,0⟩,ak ⟨n+1,0⟩ ⟨n+3,0⟩,ak (e 14) ⟨n+2,1⟩,ak ⟨n+3,0⟩ ⟨n+0,0⟩,ak ⟨n+3,0⟩ ⟨n+1,0⟩,ak ⟨n+3,0⟩ (e 4),ak (e 14) ⟨n+3,1⟩],[(2,.fn 100 []),(3,.ptr 0 (.k 0) 0),(6,.ptr 1 (.k 0) 0),(7,.ptr 2 (.k 0) 0),(29,.sl none 6 1 (e 3) (e 4)),(30,.i .i64 (e 4)),(31,.i .i64 ⟨n+0,0⟩)],[.var [.i .i64 (e 7),.i .i64 (e 8),.i .i64 (e 9),.i .i64 (e 10),.sl none 1 5 (e 11) (e 12),.sl none 7 14 (e 11) (e 14),.sl none 11 15 (e 11) (e 16)],.var [.i .i64 (.k 0),.i .i64 (.k 0),.i .i64 (.k 0),.x (.v (.string ⟨#[]⟩)),.x (.sl true 6 []),.x (.sl true 7 [])],.var [.i .i64 (e 20),.i .i64 (e 21),.i .i64 (e 22),.s (e 23),.bs 3 (.k 0) ⟨n+1,0⟩,.sl none 7 2 (e 3) (e 27)],.row 6 21 ⟨n+2,0⟩ ⟨n+3,0⟩],(e 4,⟨n+0,0⟩))⟩,⟨[2,3,6,7,54,55,56],fun e n=>(n+4,[ak ⟨n+0,0⟩ ⟨n+3,0⟩,ak ⟨n+1,0⟩ ⟨n+3,0⟩,ak (e 7) ⟨n+2,9⟩,ak ⟨n+3,0⟩ ⟨n+0,0⟩,ak ⟨n+3,0⟩ ⟨n+1,0⟩,ak ⟨n+3,0⟩ (e 4),ak (e 7) ⟨n+3,9⟩],[(2,.fn 100 []),(3,.ptr 0 (.k 0) 0),(6,.ptr 1 (.k 0) 0),(7,.ptr 2 (.k 0) 0),(54,.sl none 7 2 (e 3) (e 4)),(55,.i .i64 (e 4)),(56,.i .i64 ⟨n+0,0⟩)],[.var [.i .i64 (e 7),.i .i64 (e 8),.i .i64 (e 9),.i .i64 (e 10),.sl none 1 5 (e 11) (e 12),.sl none 7 14 (e 11) (e 14),.sl none 11 15 (e 11) (e 16)],.var [.i .i64 (.k 0),.i .i64 (.k 0),.i .i64 (.k 0),.x (.v (.string ⟨#[]⟩)),.x (.sl true 6 []),.x (.sl true 7 [])],.var [.i .i64 (e 20),.i .i64 (e 21),.i .i64 (e 22),.s (e 23),.sl none 6 1 (e 3) (e 25),.bs 3 (.k 0) ⟨n+1,0⟩],.row 7 22 ⟨n+2,0⟩ ⟨n+3,0⟩],(e 4,⟨n+0,0⟩))⟩])) (hpA zaN (hpA zj7 (hpA zar (hpA zaO zal))))
def zwr:List Ctr:=[mkC 137 [.ag [.sr 0 100000000,int],.p 0] [.var [.b]] none [(.kb false,[.var [.b]])]]
theorem zaq:ay T Gm zwr:=hoA K3 .nil
def zt3:List Ctr:=[mkC 200 [.p 0,.sr 0 100000000,int] fnd none [(.tu [],fnd)]]
theorem zak:ay T Gm zt3:=hoA K3 zaq
def zt2:List Ctr:=[mkC 201 [.p 0,typ,.sr 0 100000000,int] fnd none [(.tu [],fnd)]]
theorem zjh:ay T Gm zt2:=hoA K3 zak
def zv5:List Ctr:=[mkC 257 [.sl 1 5,.s] [] none [(int,[])]]
theorem zjd:ay T Gm zv5:=hoB K3 ((iQ [⟨[0,1,7,8],fun e n=>(n+1,[ak (.k 0) ⟨n+0,0⟩,ak ⟨n+0,0⟩ (e 1)],[(0,.sl none 1 5 (e 0) (e 1)),(1,.s (e 2)),(7,.i .i64 (e 1)),(8,.i .i64 ⟨n+0,0⟩)],[],(e 1,⟨n+0,0⟩))⟩])) .nil
def zt1:List Ctr:=[mkC 202 [.sl 1 5,.s] [] none [((.kb true),[]),((.kb false),[])]]
theorem zjg:ay T Gm zt1:=hoA K3 zjd
def zrJ:List Ctr:=[mkC 195 [zkN,.dp [.s]] [] none [(.kb true,[]),(.kb false,[])]]
theorem Dk:ay T Gm zrJ:=hoA K3 .nil
def zom:List Ctr:=[dS 115 [.slr 7 22 0 1000100,.fn 195 [.dp [.s]]] [] none [(.ir .i64 (-1) 1000100,[],[lt 4 1 2])]]
theorem yB:ay T Gm zom:=hoB K3 ((iQ [⟨[0,1,7,8],fun e n=>(n+1,[ak (.k 0) ⟨n+0,0⟩,ak ⟨n+0,0⟩ (e 1)],[(0,.sl none 7 22 (e 0) (e 1)),(1,.fn 195 [.dp [.s (e 2)]]),(7,.i .i64 (e 1)),(8,.i .i64 ⟨n+0,0⟩)],[],(e 1,⟨n+0,0⟩))⟩])) Dk
def zrM:List Ctr:=[dS 129 [vg,.s] [] none [(.ir .i64 (-1) 1000100,[],[lt 9 1 7])]]
theorem Jp:ay T Gm zrM:=hoA K3 (hpA Dk yB)
def zci:List Ctr:=[mkC 46 [vg] [] (some (1,0)) [(.ag [int,int,int,.s,.bs 0,.bsr 1 0 1000100],[.y7 6 21 1 12,.y7 7 22 1 13])]]
theorem pV:ay T Gm zci:=hrA K3 ((iQ [⟨[1,2,3,12,13,14],fun e n=>(n+4,[ak ⟨n+0,0⟩ ⟨n+3,0⟩,ak ⟨n+1,0⟩ ⟨n+3,0⟩,ak (.k 0) ⟨n+2,0⟩,ak ⟨n+2,0⟩ (e 3),ak ⟨n+3,0⟩ ⟨n+0,0⟩,ak ⟨n+3,0⟩ ⟨n+1,0⟩,ak (.k 0) ⟨n+3,0⟩,ak ⟨n+3,0⟩ (e 4)],[(1,.ptr 0 (.k 0) 0),(2,.ptr 1 (.k 0) 0),(3,.ptr 2 (.k 0) 0),(12,.sl none 6 21 (e 3) (e 4)),(13,.i .i64 (e 4)),(14,.i .i64 ⟨n+0,0⟩)],[.var [.i .i64 (e 7),.i .i64 (e 8),.i .i64 (e 9),.s (e 10),.sl none 6 21 (e 3) (e 4),.sl none 7 22 (e 3) (e 14)],.var [.i .i64 (.k 0),.i .i64 (.k 0),.i .i64 (.k 0),.x (.v (.string ⟨#[]⟩)),.x (.sl true 6 []),.x (.sl true 7 [])],.var [.i .i64 (e 7),.i .i64 (e 8),.i .i64 (e 9),.s (e 10),.bs 3 (.k 0) ⟨n+1,0⟩,.x (.sl true 7 [])],.row 6 21 ⟨n+2,0⟩ ⟨n+3,0⟩],(e 4,⟨n+0,0⟩))⟩,⟨[2,3,27,28,29],fun e n=>(n+4,[ak ⟨n+0,0⟩ ⟨n+3,0⟩,ak ⟨n+1,0⟩ ⟨n+3,0⟩,ak (.k 0) ⟨n+2,0⟩,ak ⟨n+2,0⟩ (e 2),ak ⟨n+3,0⟩ ⟨n+0,0⟩,ak ⟨n+3,0⟩ ⟨n+1,0⟩,ak (.k 0) ⟨n+3,0⟩,ak ⟨n+3,0⟩ (e 3)],[(2,.ptr 0 (.k 0) 0),(3,.ptr 1 (.k 0) 0),(27,.sl none 7 22 (e 2) (e 3)),(28,.i .i64 (e 3)),(29,.i .i64 ⟨n+0,0⟩)],[.var [.i .i64 (.k 0),.i .i64 (.k 0),.i .i64 (.k 0),.x (.v (.string ⟨#[]⟩)),.x (.sl true 6 []),.x (.sl true 7 [])],.var [.i .i64 (e 9),.i .i64 (e 10),.i .i64 (e 11),.s (e 12),.bs 2 (.k 0) (e 14),.bs 3 (.k 0) ⟨n+1,0⟩],.row 6 21 (e 17) (e 18),.row 7 22 ⟨n+2,0⟩ ⟨n+3,0⟩],(e 3,⟨n+0,0⟩))⟩])) .nil
def h73:List Ctr:=[mkC 98 [vg,.s] [] none [(.tu [vg,.kb true],[]),(.tu [vg,.kb false],[])]]
theorem zae:ay T Gm h73:=hoA K3 (hpA Jp pV)
def zt0:List Ctr:=[dS 258 [.sr 0 100000000,.s] [] none [(.sr 0 101000001,[],[lt 3 (-1000001) 1])]]
theorem zjc:ay T Gm zt0:=hoA K3 .nil
end Ct.Ff
end Go.Proofs.YtpcjeobkehmhpaaGreatDoor
