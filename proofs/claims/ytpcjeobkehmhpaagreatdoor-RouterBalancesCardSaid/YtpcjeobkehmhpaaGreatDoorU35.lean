/-.-/
import Derived.Test.YtpcjeobkehmhpaaGreatDoorU17
import Derived.Test.YtpcjeobkehmhpaaGreatDoorU19
import Derived.Test.YtpcjeobkehmhpaaGreatDoorU33
import Derived.Test.YtpcjeobkehmhpaaGreatDoorU34
set_option linter.unusedSimpArgs false
set_option linter.unusedVariables false
namespace Go.Proofs.YtpcjeobkehmhpaaGreatDoor
open Go Go.Em Go.Ab
set_option maxRecDepth 100000
set_option linter.all false
namespace Ct
def Tj:List Ctr:=[mkC 67 [val] [] none [((.kb true),[]),((.kb false),[])]]
theorem yw:ay T Gm Tj:=hoA K .nil
def zth:List Ctr:=[mkC 218 [int] [] none [((.kb true),[]),((.kb false),[])]]
theorem zak:ay T Gm zth:=hoA K .nil
def ztg:List Ctr:=[mkC 219 [int] [] none [((.kb true),[]),((.kb false),[])]]
theorem zaj:ay T Gm ztg:=hoA K .nil
def ztf:List Ctr:=[mkC 220 [int] [] none [((.kb true),[]),((.kb false),[])]]
theorem zai:ay T Gm ztf:=hoA K .nil
def zte:List Ctr:=[mkC 221 [int] [] none [((.kb true),[]),((.kb false),[])]]
theorem zah:ay T Gm zte:=hoA K .nil
def ztr:List Ctr:=[mkC 171 [] [] none [(.mp 0,[.map (zuT 218 219 220 221)])]]
theorem zjm:ay T Gm ztr:=hoA K (hpA zak (hpA zaj (hpA zai zah)))
def zto:List Ctr:=[mkC 176 [.p 0,err] [.l9 0 6 oL] none [((val),[.l9 0 6 oL])]]
theorem ni:ay T Gm zto:=hoA K .nil
def zvX:List Ctr:=[mkC 222 [val] [] none [((.kb true),[]),((.kb false),[])]]
theorem Dc:ay T Gm zvX:=hoA K .nil
def zvV:List Ctr:=[mkC 224 [val] [] none [((rJ),[])]]
theorem yt:ay T Gm zvV:=hoA K .nil
def zqN:List Ctr:=[mkC 86 [.s,.s] [] none [((int),[])]]
theorem Jy:ay T Gm zqN:=hoA K zaG
def ztp:List Ctr:=[mkC 174 [.p 0,val,val] [.l9 0 6 oL] none [((int),[.l9 0 6 oL])]]
theorem zjk:ay T Gm ztp:=hoA K (hpA Dc (hpA yt (hpA zaE (hpA ni (hpA Jy Qk)))))
def ztq:List Ctr:=[mkC 173 [.b] [] none [((val),[])]]
theorem zjl:ay T Gm ztq:=hoA K .nil
def h58:List Ctr:=[mkC 237 [int] [] none [((val),[])]]
theorem ZX:ay T Gm h58:=hoA K .nil
def zvw:List Ctr:=[mkC 268 [int,int] [] none [((val),[])]]
theorem ziQ:ay T Gm zvw:=hoA K .nil
def zvT:List Ctr:=[mkC 228 [.p 0,.b,rJ,err] [.l9 0 6 oL] none [((val),[.l9 0 6 oL])]]
theorem Qd:ay T Gm zvT:=hoA K (hpA ni (hpA ZX ziQ))
def ztn:List Ctr:=[mkC 177 [.p 0,ztA] [.l9 0 6 oL] none [(val,[.l9 0 6 oL])]]
theorem zjj:ay T Gm ztn:=hoB K ((iM [⟨[0,3,4,9,37,38,39],fun e n=>(n+4,[aj ⟨n+0,0⟩ ⟨n+3,0⟩,aj ⟨n+1,0⟩ ⟨n+3,0⟩,aj (.k 0) ⟨n+2,0⟩,aj ⟨n+3,0⟩ ⟨n+0,0⟩,aj ⟨n+3,0⟩ ⟨n+1,0⟩,aj (.k 0) ⟨n+3,0⟩,aj ⟨n+3,0⟩ (e 6)],[(0,.ptr 0 (.k 0) 0),(3,.ptr 1 (.k 0) 0),(4,.ptr 2 (.k 0) 0),(9,.bs 3 (.k 0) ⟨n+0,0⟩),(37,.sl (some false) 6 1 (e 5) (e 6)),(38,.i .i64 (e 6)),(39,.i .i64 ⟨n+1,0⟩)],[.var [.i .i64 (e 9),.i .i64 (e 10),.i .i64 (e 11),.s (e 12),.sl none 6 11 (e 13) (e 14),.sl none 7 12 (e 13) (e 16),.i .i64 (e 17)],.var [.i .i64 (e 18),.i .i64 (e 19),.s (e 20),.sl none 6 1 (e 21) (e 22),.sl none 5 10 (e 21) (e 24)],.var [.i .i64 (.k 0),.i .i64 (.k 0),.i .i64 (.k 0),.x (.v (.string ⟨#[]⟩)),.x (.sl true 6 []),.x (.sl true 7 [])],.row 2 6 ⟨n+2,0⟩ ⟨n+3,0⟩],(e 6,⟨n+0,0⟩))⟩])) (hpA dh (hpA zjK (hpA ni (hpA Dc (hpA yt (hpA zjG (hpA Qd zaD)))))))
def zM:List Ctr:=[mkC 79 [val,val] [] (some (1,3)) [(int,[])],mkC 110 [.sl 6 1,.sl 6 1,.fn 79 []] [] (some (1,2)) [(int,[])],mkC 111 [.sl 7 2,.sl 7 2,.fn 112 []] [] (some (1,2)) [(int,[])],mkC 112 [fld,fld] [] (some (1,4)) [(int,[])]]
theorem uF:ay T Gm zM:=hrA K ((iM [⟨[0,1,2,11,12,13],fun e n=>(n+1,[aj (.k 0) ⟨n+0,0⟩,aj ⟨n+0,0⟩ (e 1),aj ⟨n+0,0⟩ (e 3)],[(0,.sl none 6 1 (e 0) (e 1)),(1,.sl none 6 1 (e 2) (e 3)),(2,.fn 79 []),(11,.sl none 6 1 (e 0) (e 1)),(12,.i .i64 (e 1)),(13,.i .i64 ⟨n+0,0⟩)],[],(e 1,⟨n+0,0⟩))⟩,⟨[0,1,2,11,12,13],fun e n=>(n+1,[aj (.k 0) ⟨n+0,0⟩,aj ⟨n+0,0⟩ (e 1),aj ⟨n+0,0⟩ (e 3)],[(0,.sl none 7 2 (e 0) (e 1)),(1,.sl none 7 2 (e 2) (e 3)),(2,.fn 112 []),(11,.sl none 7 2 (e 0) (e 1)),(12,.i .i64 (e 1)),(13,.i .i64 ⟨n+0,0⟩)],[],(e 1,⟨n+0,0⟩))⟩])) (hpA Qk (hpA Jy zas))
def zwg:List Ctr:=[mkC 56 [val,val] [] none [((.kb true),[]),((.kb false),[])]]
theorem zju:ay T Gm zwg:=hoA K uF
def ztm:List Ctr:=[mkC 179 [.p 0,val,val] [.l9 0 6 oL] none [((.kb true),[.l9 0 6 oL]),((.kb false),[.l9 0 6 oL])]]
theorem zji:ay T Gm ztm:=hoA K (hpA Dc (hpA yt (hpA zaE (hpA ni zju))))
def ztl:List Ctr:=[mkC 180 [.p 0,ztA,val,val] [.l9 0 6 oL] none [(val,[.l9 0 6 oL])]]
theorem zjh:ay T Gm ztl:=hoA K (hpA Dc (hpA ni (hpA yt (hpA zaD (hpA zjF (hpA zjE (hpA zjD Qd)))))))
def zqG:List Ctr:=[mkC 233 [.s] [] none [((val),[])]]
theorem Qa:ay T Gm zqG:=hoA K .nil
def ztk:List Ctr:=[mkC 181 [.p 0,val,val] [.l9 0 6 oL] none [((val),[.l9 0 6 oL])]]
theorem zjg:ay T Gm ztk:=hoA K (hpA ni Qa)
def zvm:List Ctr:=[mkC 304 [.b] [] none [((.s),[])]]
theorem ziI:ay T Gm zvm:=hoA K .nil
def zvr:List Ctr:=[mkC 277 [.b] [] none [(.s,[])]]
theorem ziN:ay T Gm zvr:=hoA K ziI
def zvN:List Ctr:=[mkC 238 [.p 0,val] [.l9 0 6 oL] none [((val),[.l9 0 6 oL])]]
theorem zi0:ay T Gm zvN:=hoA K (hpA ziN (hpA yt (hpA zaA (hpA Z9 (hpA ziM (hpA ni Qa))))))
def zvo:List Ctr:=[mkC 281 [.s] [] none [(((.tu [rJ,err])),[])]]
theorem ziL:ay T Gm zvo:=hoA K (hpA zam (hpA zaF zaA))
def zvM:List Ctr:=[mkC 239 [.p 0,val] [.l9 0 6 oL] none [((val),[.l9 0 6 oL])]]
theorem ziZ:ay T Gm zvM:=hoA K (hpA ni (hpA ziL ZX))
def ztj:List Ctr:=[mkC 183 [.p 0,int,val] [.l9 0 6 oL] none [((val),[.l9 0 6 oL])]]
theorem zjf:ay T Gm ztj:=hoA K (hpA Dc (hpA ni (hpA yt (hpA zi1 (hpA Qd (hpA ZX (hpA zi0 (hpA ziZ (hpA zjC (hpA Qa zjB))))))))))
end Ct
end Go.Proofs.YtpcjeobkehmhpaaGreatDoor
