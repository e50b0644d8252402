/-.-/
import Derived.Test.YtkeefpkcepodeaaGreatDoorU24
set_option linter.all false
namespace Go.Proofs.YtkeefpkcepodeaaGreatDoor
open Go Go.Em Go.Ab
set_option maxRecDepth 100000
set_option linter.all false
namespace Ct
def evA:Ctr:=mkC 145 [.p 0,.el 10] [.nI 0 6 pJ] (some (1,0)) [(val,[.nI 0 6 pJ])]
def evB:Ctr:=mkC 191 [.p 0,.el 10] [.nI 0 6 pJ] (some (1,1)) [(val,[.nI 0 6 pJ])]
def evC:Ctr:=mkC 196 [.p 0,.el 10] [.nI 0 6 pJ] (some (1,2)) [(.kb true,[.nI 0 6 pJ]),(.kb false,[.nI 0 6 pJ])]
def evG:List Ctr:=[evA,evB,evC]
def evL:List Ctr:=(zu4++(zu1++(zu3++(zcJ++(zvb++(zva++(zu0++(zuZ++(zuY++(zuX++(zuW++(zu8++(UG++(zuV++(zuS++(zuR++(zuQ++zuP)))))))))))))))))
theorem zoW:ak T Gm evL:=(hpA zkp (hpA zkn (hpA zko (hpA uh (hpA bZ (hpA zkM (hpA nZ (hpA zkm (hpA zkl (hpA zkk (hpA zkj (hpA zkJ (hpA FY (hpA zki (hpA za9 (hpA za8 (hpA za7 za6)))))))))))))))))
def evO:Orc:=iQ [⟨[0,4,15,16,17,188,189,190],fun e n=>(n+13,[aj ⟨n+0,0⟩ ⟨n+12,0⟩,aj ⟨n+1,0⟩ ⟨n+12,0⟩,aj ⟨n+5,0⟩ (.k 1000000),aj (.k 0) ⟨n+5,0⟩,aj ⟨n+6,0⟩ ⟨n+8,0⟩,aj ⟨n+7,0⟩ (.k 6),aj (.k 0) ⟨n+7,0⟩,aj ⟨n+8,0⟩ ⟨n+6,0⟩,aj ⟨n+8,0⟩ (.k 6),aj (.k 0) ⟨n+8,0⟩,aj ⟨n+9,0⟩ (.k 6),aj (.k 0) ⟨n+9,0⟩,aj ⟨n+10,0⟩ (.k 100),aj (.k 0) ⟨n+10,0⟩,aj (.k 0) ⟨n+11,0⟩,aj ⟨n+12,0⟩ ⟨n+0,0⟩,aj ⟨n+12,0⟩ ⟨n+1,0⟩,aj (.k 0) ⟨n+12,0⟩,aj ⟨n+12,0⟩ (e 6)],[(0,.ptr 0 (.k 0) 0),(4,.ptr 1 (.k 0) 0),(15,.ptr 2 (.k 0) 0),(16,cb false),(17,.bs 3 (.k 0) ⟨n+0,0⟩),(188,.sl none 5 10 (e 5) (e 6)),(189,.i .i64 (e 6)),(190,.i .i64 ⟨n+1,0⟩)],[.var [.i .i64 ⟨n+2,0⟩,.i .i64 ⟨n+3,0⟩,.i .i64 ⟨n+4,0⟩,.s ⟨n+5,0⟩,.sl none 6 11 ⟨n+6,0⟩ ⟨n+7,0⟩,.sl none 7 12 ⟨n+8,0⟩ ⟨n+9,0⟩,.i .i64 ⟨n+10,0⟩],.var [.i .i64 (.k 0),.i .i64 (.k 0),.i .i64 (.k 0),.x (.v (.string ⟨#[]⟩)),.x (.sl true 6 []),.x (.sl true 7 [])],.var [.i .i64 (e 21),.i .i64 (e 22),.i .i64 (e 23),.s (e 24),.sl none 6 1 (e 25) (e 26),.sl none 7 2 (e 25) (e 28)],.row 6 1 ⟨n+11,0⟩ ⟨n+12,0⟩],((e 6).up (1),⟨n+0,0⟩))⟩,
 ⟨[0,4,15,16,17,20],fun e n=>(n+10,[aj (.k 0) ⟨n+0,0⟩,aj ⟨n+0,0⟩ (e 27),aj ⟨n+4,0⟩ (.k 1000000),aj (.k 0) ⟨n+4,0⟩,aj ⟨n+5,0⟩ ⟨n+7,0⟩,aj ⟨n+6,0⟩ (.k 6),aj (.k 0) ⟨n+6,0⟩,aj ⟨n+7,0⟩ ⟨n+5,0⟩,aj ⟨n+7,0⟩ (.k 6),aj (.k 0) ⟨n+7,0⟩,aj ⟨n+8,0⟩ (.k 6),aj (.k 0) ⟨n+8,0⟩,aj ⟨n+9,0⟩ (.k 100),aj (.k 0) ⟨n+9,0⟩],[(0,.ptr 0 (.k 0) 0),(4,.ptr 1 (.k 0) 0),(15,.ptr 2 (.k 0) 0),(16,.b [] []),(17,.bs 3 (.k 0) (e 4)),(20,.i .i64 ⟨n+0,0⟩)],[.var [.i .i64 ⟨n+1,0⟩,.i .i64 ⟨n+2,0⟩,.i .i64 ⟨n+3,0⟩,.s ⟨n+4,0⟩,.sl none 6 11 ⟨n+5,0⟩ ⟨n+6,0⟩,.sl none 7 12 ⟨n+7,0⟩ ⟨n+8,0⟩,.i .i64 ⟨n+9,0⟩],.var [.i .i64 (.k 0),.i .i64 (.k 0),.i .i64 (.k 0),.x (.v (.string ⟨#[]⟩)),.x (.sl true 6 []),.x (.sl true 7 [])],.var [.i .i64 (e 18),.i .i64 (e 19),.i .i64 (e 20),.s (e 21),.sl none 6 1 (e 22) (e 23),.sl none 7 2 (e 22) (e 25)],.row 6 1 (e 26) (e 27)],(e 4,⟨n+0,0⟩))⟩]
def ev0:Ctr:=mkC 145 [.p 0,zym] [.nI 0 6 pJ] none [(val,[.nI 0 6 pJ])]
def evP (k:Nat):Ctr:=ev0.with [YD.getD k []]
def JH:List (List Fact):=(List.range 12).map fun i:Nat=>bd 2 ((i:Int)+4) ((i:Int)+4)++[aj (.k 0) ⟨5,0⟩,aj (.k 2) ⟨6,0⟩]
def evQ (i:Nat):Ctr:=ev0.with [JH.getD i []]
noncomputable def jH (c:Ctr):Bool:=Ie tab ⟨T,K,evL,evG,some ⟨1,1⟩,0⟩ evO c
end Ct
end Go.Proofs.YtkeefpkcepodeaaGreatDoor
