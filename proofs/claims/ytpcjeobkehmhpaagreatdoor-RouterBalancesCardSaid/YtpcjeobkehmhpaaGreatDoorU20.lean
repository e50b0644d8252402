/-.-/
import Derived.Test.YtpcjeobkehmhpaaGreatDoorU19
set_option linter.unusedSimpArgs false
set_option linter.unusedVariables false
namespace Go.Proofs.YtpcjeobkehmhpaaGreatDoor
open Go Go.Em Go.Ab
set_option maxRecDepth 100000
namespace Ct.Ff
def zew:List Ctr:=[dM 100 [typ,val] [] (some (1,1)) (oV 16 (.bsr 0 0 1000100)),(dM 134 [typ,val,.fn 100 []] [] (some (1,0)) oI).with [[aj ⟨2,0⟩ (.k 9)],[aj (.k 11) ⟨2,0⟩],bd 2 10 10++bd 14 1 1]]
theorem Qe:ay T Gm zew:=hrA K3 ((iM [⟨[4,5,29,30,31],fun e n=>(n+4,[aj (.k 0) ⟨n+0,0⟩,aj ⟨n+1,0⟩ ⟨n+0,1000000⟩,aj ⟨n+1,0⟩ ⟨n+3,0⟩,aj (e 16) ⟨n+1,0⟩,aj (.k 0) ⟨n+2,0⟩,aj ⟨n+3,0⟩ ⟨n+1,0⟩,aj ⟨n+0,0⟩ (.k 100)],[(4,.ptr 0 (.k 0) 0),(5,.ptr 1 (.k 0) 0),(29,.sl none 11 15 (e 2) (e 3)),(30,.i .i64 (e 3)),(31,.i .i64 ⟨n+0,0⟩)],[.var [.i .i64 (.k 0),.i .i64 (.k 0),.i .i64 (.k 0),.x (.v (.string ⟨#[]⟩)),.x (.sl true 6 []),.x (.sl true 7 [])],.var [.i .i64 (e 9),.i .i64 (e 10),.i .i64 (e 11),.s (e 12),.sl none 6 21 (e 13) (e 14),.bs 2 (.k 0) ⟨n+1,0⟩],.row 7 22 ⟨n+2,0⟩ ⟨n+3,0⟩],(e 3,⟨n+0,0⟩))⟩,⟨[2,3,6,7,29,30,31],fun e n=>(n+4,[aj ⟨n+0,0⟩ ⟨n+3,0⟩,aj ⟨n+1,0⟩ ⟨n+3,0⟩,aj (e 14) ⟨n+2,1⟩,aj ⟨n+3,0⟩ ⟨n+0,0⟩,aj ⟨n+3,0⟩ ⟨n+1,0⟩,aj ⟨n+3,0⟩ (e 4),aj (e 14) ⟨n+3,1⟩],[(2,.fn 100 []),(3,.ptr 0 (.k 0) 0),(6,.ptr 1 (.k 0) 0),(7,.ptr 2 (.k 0) 0),(29,.sl none 6 1 (e 3) (e 4)),(30,.i .i64 (e 4)),(31,.i .i64 ⟨n+0,0⟩)],[.var [.i .i64 (e 7),.i .i64 (e 8),.i .i64 (e 9),.i .i64 (e 10),.sl none 1 5 (e 11) (e 12),.sl none 7 14 (e 11) (e 14),.sl none 11 15 (e 11) (e 16)],.var [.i .i64 (.k 0),.i .i64 (.k 0),.i .i64 (.k 0),.x (.v (.string ⟨#[]⟩)),.x (.sl true 6 []),.x (.sl true 7 [])],.var [.i .i64 (e 20),.i .i64 (e 21),.i .i64 (e 22),.s (e 23),.bs 3 (.k 0) ⟨n+1,0⟩,.sl none 7 2 (e 3) (e 27)],.row 6 21 ⟨n+2,0⟩ ⟨n+3,0⟩],(e 4,⟨n+0,0⟩))⟩,⟨[2,3,6,7,54,55,56],fun e n=>(n+4,[aj ⟨n+0,0⟩ ⟨n+3,0⟩,aj ⟨n+1,0⟩ ⟨n+3,0⟩,aj (e 7) ⟨n+2,9⟩,aj ⟨n+3,0⟩ ⟨n+0,0⟩,aj ⟨n+3,0⟩ ⟨n+1,0⟩,aj ⟨n+3,0⟩ (e 4),aj (e 7) ⟨n+3,9⟩],[(2,.fn 100 []),(3,.ptr 0 (.k 0) 0),(6,.ptr 1 (.k 0) 0),(7,.ptr 2 (.k 0) 0),(54,.sl none 7 2 (e 3) (e 4)),(55,.i .i64 (e 4)),(56,.i .i64 ⟨n+0,0⟩)],[.var [.i .i64 (e 7),.i .i64 (e 8),.i .i64 (e 9),.i .i64 (e 10),.sl none 1 5 (e 11) (e 12),.sl none 7 14 (e 11) (e 14),.sl none 11 15 (e 11) (e 16)],.var [.i .i64 (.k 0),.i .i64 (.k 0),.i .i64 (.k 0),.x (.v (.string ⟨#[]⟩)),.x (.sl true 6 []),.x (.sl true 7 [])],.var [.i .i64 (e 20),.i .i64 (e 21),.i .i64 (e 22),.s (e 23),.sl none 6 1 (e 3) (e 25),.bs 3 (.k 0) ⟨n+1,0⟩],.row 7 22 ⟨n+2,0⟩ ⟨n+3,0⟩],(e 4,⟨n+0,0⟩))⟩])) (hpA zaB (hpA zjA (hpA zad (hpA zaC Z8))))
def zvE:List Ctr:=[mkC 137 [.ag [.sr 0 100000000,int],.p 0] [.var [.b]] none [(.kb false,[.var [.b]])]]
theorem zac:ay T Gm zvE:=hoA K3 .nil
def ztb:List Ctr:=[mkC 200 [.p 0,.sr 0 100000000,int] fnd none [(.tu [],fnd)]]
theorem Z7:ay T Gm ztb:=hoA K3 zac
def zta:List Ctr:=[mkC 201 [.p 0,typ,.sr 0 100000000,int] fnd none [(.tu [],fnd)]]
theorem ziK:ay T Gm zta:=hoA K3 Z7
def zvi:List Ctr:=[mkC 257 [.sl 1 5,.s] [] none [(int,[])]]
theorem ziG:ay T Gm zvi:=hoB K3 ((iM [⟨[0,1,7,8],fun e n=>(n+1,[aj (.k 0) ⟨n+0,0⟩,aj ⟨n+0,0⟩ (e 1)],[(0,.sl none 1 5 (e 0) (e 1)),(1,.s (e 2)),(7,.i .i64 (e 1)),(8,.i .i64 ⟨n+0,0⟩)],[],(e 1,⟨n+0,0⟩))⟩])) .nil
def zs9:List Ctr:=[mkC 202 [.sl 1 5,.s] [] none [((.kb true),[]),((.kb false),[])]]
theorem ziJ:ay T Gm zs9:=hoA K3 ziG
def zqM:List Ctr:=[mkC 195 [zkg,.dp [.s]] [] none [(.kb true,[]),(.kb false,[])]]
theorem Df:ay T Gm zqM:=hoA K3 .nil
def znx:List Ctr:=[dM 115 [.slr 7 22 0 1000100,.fn 195 [.dp [.s]]] [] none [(.ir .i64 (-1) 1000100,[],[lt 4 1 2])]]
theorem yu:ay T Gm znx:=hoB K3 ((iM [⟨[0,1,7,8],fun e n=>(n+1,[aj (.k 0) ⟨n+0,0⟩,aj ⟨n+0,0⟩ (e 1)],[(0,.sl none 7 22 (e 0) (e 1)),(1,.fn 195 [.dp [.s (e 2)]]),(7,.i .i64 (e 1)),(8,.i .i64 ⟨n+0,0⟩)],[],(e 1,⟨n+0,0⟩))⟩])) Df
def zqO:List Ctr:=[dM 129 [uU,.s] [] none [(.ir .i64 (-1) 1000100,[],[lt 9 1 7])]]
theorem Jz:ay T Gm zqO:=hoA K3 (hpA Df yu)
def zb0:List Ctr:=[mkC 46 [uU] [] (some (1,0)) [(.ag [int,int,int,.s,.bs 0,.bsr 1 0 1000100],[.yX 6 21 1 12,.yX 7 22 1 13])]]
theorem pO:ay T Gm zb0:=hrA K3 ((iM [⟨[1,2,3,12,13,14],fun e n=>(n+4,[aj ⟨n+0,0⟩ ⟨n+3,0⟩,aj ⟨n+1,0⟩ ⟨n+3,0⟩,aj (.k 0) ⟨n+2,0⟩,aj ⟨n+2,0⟩ (e 3),aj ⟨n+3,0⟩ ⟨n+0,0⟩,aj ⟨n+3,0⟩ ⟨n+1,0⟩,aj (.k 0) ⟨n+3,0⟩,aj ⟨n+3,0⟩ (e 4)],[(1,.ptr 0 (.k 0) 0),(2,.ptr 1 (.k 0) 0),(3,.ptr 2 (.k 0) 0),(12,.sl none 6 21 (e 3) (e 4)),(13,.i .i64 (e 4)),(14,.i .i64 ⟨n+0,0⟩)],[.var [.i .i64 (e 7),.i .i64 (e 8),.i .i64 (e 9),.s (e 10),.sl none 6 21 (e 3) (e 4),.sl none 7 22 (e 3) (e 14)],.var [.i .i64 (.k 0),.i .i64 (.k 0),.i .i64 (.k 0),.x (.v (.string ⟨#[]⟩)),.x (.sl true 6 []),.x (.sl true 7 [])],.var [.i .i64 (e 7),.i .i64 (e 8),.i .i64 (e 9),.s (e 10),.bs 3 (.k 0) ⟨n+1,0⟩,.x (.sl true 7 [])],.row 6 21 ⟨n+2,0⟩ ⟨n+3,0⟩],(e 4,⟨n+0,0⟩))⟩,⟨[2,3,27,28,29],fun e n=>(n+4,[aj ⟨n+0,0⟩ ⟨n+3,0⟩,aj ⟨n+1,0⟩ ⟨n+3,0⟩,aj (.k 0) ⟨n+2,0⟩,aj ⟨n+2,0⟩ (e 2),aj ⟨n+3,0⟩ ⟨n+0,0⟩,aj ⟨n+3,0⟩ ⟨n+1,0⟩,aj (.k 0) ⟨n+3,0⟩,aj ⟨n+3,0⟩ (e 3)],[(2,.ptr 0 (.k 0) 0),(3,.ptr 1 (.k 0) 0),(27,.sl none 7 22 (e 2) (e 3)),(28,.i .i64 (e 3)),(29,.i .i64 ⟨n+0,0⟩)],[.var [.i .i64 (.k 0),.i .i64 (.k 0),.i .i64 (.k 0),.x (.v (.string ⟨#[]⟩)),.x (.sl true 6 []),.x (.sl true 7 [])],.var [.i .i64 (e 9),.i .i64 (e 10),.i .i64 (e 11),.s (e 12),.bs 2 (.k 0) (e 14),.bs 3 (.k 0) ⟨n+1,0⟩],.row 6 21 (e 17) (e 18),.row 7 22 ⟨n+2,0⟩ ⟨n+3,0⟩],(e 3,⟨n+0,0⟩))⟩])) .nil
def h73:List Ctr:=[mkC 98 [uU,.s] [] none [(.tu [uU,.kb true],[]),(.tu [uU,.kb false],[])]]
theorem ZW:ay T Gm h73:=hoA K3 (hpA Jz pO)
def zs8:List Ctr:=[dM 258 [.sr 0 100000000,.s] [] none [(.sr 0 101000001,[],[lt 3 (-1000001) 1])]]
theorem ziF:ay T Gm zs8:=hoA K3 .nil
end Ct.Ff
end Go.Proofs.YtpcjeobkehmhpaaGreatDoor
