/-.-/
import Derived.Test.YtkeefpkcepodeaaGreatDoorU33
set_option linter.all false
namespace Go.Proofs.YtkeefpkcepodeaaGreatDoor
open Go Go.Em Go.Ab
set_option maxRecDepth 100000
namespace Ct.Ff
def zfq:List Ctr:=[dO 111 [typ,val] [] (some (1,1)) (oV 16 (.bsr 0 0 1000100)),(dO 151 [typ,val,.fn 111 []] [] (some (1,0)) oI).with [[aj ⟨2,0⟩ (.k 9)],[aj (.k 11) ⟨2,0⟩],bd 2 10 10++bd 14 1 1]]
theorem Rt:ak T Gm zfq:=hrA K3 ((iQ [⟨[4,5,29,30,31],fun e n=>(n+4,[aj (.k 0) ⟨n+0,0⟩,aj ⟨n+1,0⟩ ⟨n+0,1000000⟩,aj ⟨n+1,0⟩ ⟨n+3,0⟩,aj (e 16) ⟨n+1,0⟩,aj (.k 0) ⟨n+2,0⟩,aj ⟨n+3,0⟩ ⟨n+1,0⟩,aj ⟨n+0,0⟩ (.k 100)],[(4,.ptr 0 (.k 0) 0),(5,.ptr 1 (.k 0) 0),(29,.sl none 11 15 (e 2) (e 3)),(30,.i .i64 (e 3)),(31,.i .i64 ⟨n+0,0⟩)],[.var [.i .i64 (.k 0),.i .i64 (.k 0),.i .i64 (.k 0),.x (.v (.string ⟨#[]⟩)),.x (.sl true 6 []),.x (.sl true 7 [])],.var [.i .i64 (e 9),.i .i64 (e 10),.i .i64 (e 11),.s (e 12),.sl none 6 21 (e 13) (e 14),.bs 2 (.k 0) ⟨n+1,0⟩],.row 7 22 ⟨n+2,0⟩ ⟨n+3,0⟩],(e 3,⟨n+0,0⟩))⟩,⟨[2,3,6,7,29,30,31],fun e n=>(n+4,[aj ⟨n+0,0⟩ ⟨n+3,0⟩,aj ⟨n+1,0⟩ ⟨n+3,0⟩,aj (e 14) ⟨n+2,1⟩,aj ⟨n+3,0⟩ ⟨n+0,0⟩,aj ⟨n+3,0⟩ ⟨n+1,0⟩,aj ⟨n+3,0⟩ (e 4),aj (e 14) ⟨n+3,1⟩],[(2,.fn 111 []),(3,.ptr 0 (.k 0) 0),(6,.ptr 1 (.k 0) 0),(7,.ptr 2 (.k 0) 0),(29,.sl none 6 1 (e 3) (e 4)),(30,.i .i64 (e 4)),(31,.i .i64 ⟨n+0,0⟩)],[.var [.i .i64 (e 7),.i .i64 (e 8),.i .i64 (e 9),.i .i64 (e 10),.sl none 1 5 (e 11) (e 12),.sl none 7 14 (e 11) (e 14),.sl none 11 15 (e 11) (e 16)],.var [.i .i64 (.k 0),.i .i64 (.k 0),.i .i64 (.k 0),.x (.v (.string ⟨#[]⟩)),.x (.sl true 6 []),.x (.sl true 7 [])],.var [.i .i64 (e 20),.i .i64 (e 21),.i .i64 (e 22),.s (e 23),.bs 3 (.k 0) ⟨n+1,0⟩,.sl none 7 2 (e 3) (e 27)],.row 6 21 ⟨n+2,0⟩ ⟨n+3,0⟩],(e 4,⟨n+0,0⟩))⟩,⟨[2,3,6,7,54,55,56],fun e n=>(n+4,[aj ⟨n+0,0⟩ ⟨n+3,0⟩,aj ⟨n+1,0⟩ ⟨n+3,0⟩,aj (e 7) ⟨n+2,9⟩,aj ⟨n+3,0⟩ ⟨n+0,0⟩,aj ⟨n+3,0⟩ ⟨n+1,0⟩,aj ⟨n+3,0⟩ (e 4),aj (e 7) ⟨n+3,9⟩],[(2,.fn 111 []),(3,.ptr 0 (.k 0) 0),(6,.ptr 1 (.k 0) 0),(7,.ptr 2 (.k 0) 0),(54,.sl none 7 2 (e 3) (e 4)),(55,.i .i64 (e 4)),(56,.i .i64 ⟨n+0,0⟩)],[.var [.i .i64 (e 7),.i .i64 (e 8),.i .i64 (e 9),.i .i64 (e 10),.sl none 1 5 (e 11) (e 12),.sl none 7 14 (e 11) (e 14),.sl none 11 15 (e 11) (e 16)],.var [.i .i64 (.k 0),.i .i64 (.k 0),.i .i64 (.k 0),.x (.v (.string ⟨#[]⟩)),.x (.sl true 6 []),.x (.sl true 7 [])],.var [.i .i64 (e 20),.i .i64 (e 21),.i .i64 (e 22),.s (e 23),.sl none 6 1 (e 3) (e 25),.bs 3 (.k 0) ⟨n+1,0⟩],.row 7 22 ⟨n+2,0⟩ ⟨n+3,0⟩],(e 4,⟨n+0,0⟩))⟩])) (hpA zbk (hpA zkB (hpA za3 (hpA zbl zaY))))
def zxk:List Ctr:=[mkC 154 [.ag [.sr 0 100000000,int],.p 0] [.var [.b]] none [(.kb false,[.var [.b]])]]
theorem za2:ak T Gm zxk:=hoA K3 .nil
def zuM:List Ctr:=[mkC 208 [.p 0,.sr 0 100000000,int] fnd none [(.tu [],fnd)]]
theorem zaX:ak T Gm zuM:=hoA K3 za2
def zuL:List Ctr:=[mkC 209 [.p 0,typ,.sr 0 100000000,int] fnd none [(.tu [],fnd)]]
theorem zjM:ak T Gm zuL:=hoA K3 zaX
def zwY:List Ctr:=[mkC 259 [.sl 1 5,.s] [] none [(int,[])]]
theorem zjI:ak T Gm zwY:=hoB K3 ((iQ [⟨[0,1,7,8],fun e n=>(n+1,[aj (.k 0) ⟨n+0,0⟩,aj ⟨n+0,0⟩ (e 1)],[(0,.sl none 1 5 (e 0) (e 1)),(1,.s (e 2)),(7,.i .i64 (e 1)),(8,.i .i64 ⟨n+0,0⟩)],[],(e 1,⟨n+0,0⟩))⟩])) .nil
def zuK:List Ctr:=[mkC 210 [.sl 1 5,.s] [] none [((.kb true),[]),((.kb false),[])]]
theorem zjL:ak T Gm zuK:=hoA K3 zjI
def zsn:List Ctr:=[mkC 96 [zlg,.dp [.s]] [] none [(.kb true,[]),(.kb false,[])]]
theorem FX:ak T Gm zsn:=hoA K3 .nil
def zoH:List Ctr:=[dO 95 [.slr 7 22 0 1000100,.fn 96 [.dp [.s]]] [] none [(.ir .i64 (-1) 1000100,[],[lt 4 1 2])]]
theorem Bc:ak T Gm zoH:=hoB K3 ((iQ [⟨[0,1,7,8],fun e n=>(n+1,[aj (.k 0) ⟨n+0,0⟩,aj ⟨n+0,0⟩ (e 1)],[(0,.sl none 7 22 (e 0) (e 1)),(1,.fn 96 [.dp [.s (e 2)]]),(7,.i .i64 (e 1)),(8,.i .i64 ⟨n+0,0⟩)],[],(e 1,⟨n+0,0⟩))⟩])) FX
def zsp:List Ctr:=[dO 62 [xQ,.s] [] none [(.ir .i64 (-1) 1000100,[],[lt 9 1 7])]]
theorem KT:ak T Gm zsp:=hoA K3 (hpA FX Bc)
def zcJ:List Ctr:=[mkC 60 [xQ] [] (some (1,0)) [(.ag [int,int,int,.s,.bs 0,.bsr 1 0 1000100],[.DL 6 21 1 12,.DL 7 22 1 13])]]
theorem uh:ak T Gm zcJ:=hrA K3 ((iQ [⟨[1,2,3,12,13,14],fun e n=>(n+4,[aj ⟨n+0,0⟩ ⟨n+3,0⟩,aj ⟨n+1,0⟩ ⟨n+3,0⟩,aj (.k 0) ⟨n+2,0⟩,aj ⟨n+2,0⟩ (e 3),aj ⟨n+3,0⟩ ⟨n+0,0⟩,aj ⟨n+3,0⟩ ⟨n+1,0⟩,aj (.k 0) ⟨n+3,0⟩,aj ⟨n+3,0⟩ (e 4)],[(1,.ptr 0 (.k 0) 0),(2,.ptr 1 (.k 0) 0),(3,.ptr 2 (.k 0) 0),(12,.sl none 6 21 (e 3) (e 4)),(13,.i .i64 (e 4)),(14,.i .i64 ⟨n+0,0⟩)],[.var [.i .i64 (e 7),.i .i64 (e 8),.i .i64 (e 9),.s (e 10),.sl none 6 21 (e 3) (e 4),.sl none 7 22 (e 3) (e 14)],.var [.i .i64 (.k 0),.i .i64 (.k 0),.i .i64 (.k 0),.x (.v (.string ⟨#[]⟩)),.x (.sl true 6 []),.x (.sl true 7 [])],.var [.i .i64 (e 7),.i .i64 (e 8),.i .i64 (e 9),.s (e 10),.bs 3 (.k 0) ⟨n+1,0⟩,.x (.sl true 7 [])],.row 6 21 ⟨n+2,0⟩ ⟨n+3,0⟩],(e 4,⟨n+0,0⟩))⟩,⟨[2,3,27,28,29],fun e n=>(n+4,[aj ⟨n+0,0⟩ ⟨n+3,0⟩,aj ⟨n+1,0⟩ ⟨n+3,0⟩,aj (.k 0) ⟨n+2,0⟩,aj ⟨n+2,0⟩ (e 2),aj ⟨n+3,0⟩ ⟨n+0,0⟩,aj ⟨n+3,0⟩ ⟨n+1,0⟩,aj (.k 0) ⟨n+3,0⟩,aj ⟨n+3,0⟩ (e 3)],[(2,.ptr 0 (.k 0) 0),(3,.ptr 1 (.k 0) 0),(27,.sl none 7 22 (e 2) (e 3)),(28,.i .i64 (e 3)),(29,.i .i64 ⟨n+0,0⟩)],[.var [.i .i64 (.k 0),.i .i64 (.k 0),.i .i64 (.k 0),.x (.v (.string ⟨#[]⟩)),.x (.sl true 6 []),.x (.sl true 7 [])],.var [.i .i64 (e 9),.i .i64 (e 10),.i .i64 (e 11),.s (e 12),.bs 2 (.k 0) (e 14),.bs 3 (.k 0) ⟨n+1,0⟩],.row 6 21 (e 17) (e 18),.row 7 22 ⟨n+2,0⟩ ⟨n+3,0⟩],(e 3,⟨n+0,0⟩))⟩])) .nil
def h73:List Ctr:=[mkC 31 [xQ,.s] [] none [(.tu [xQ,.kb true],[]),(.tu [xQ,.kb false],[])]]
theorem zaS:ak T Gm h73:=hoA K3 (hpA KT uh)
def zuJ:List Ctr:=[dO 260 [.sr 0 100000000,.s] [] none [(.sr 0 101000001,[],[lt 3 (-1000001) 1])]]
theorem zjH:ak T Gm zuJ:=hoA K3 .nil
end Ct.Ff
end Go.Proofs.YtkeefpkcepodeaaGreatDoor
