/-.-/
import Derived.Test.YtcbeoccmflnejaaGreatDoorU25
set_option linter.all false
namespace Go.Proofs.YtcbeoccmflnejaaGreatDoor
open Go Go.Em Go.Ab
set_option maxRecDepth 100000
set_option linter.all false
namespace Ct
def evA:Ctr:=mkC 92 [.p 0,.el 10] [.jD 0 6 kM] (some (1,0)) [(val,[.jD 0 6 kM])]
def evB:Ctr:=mkC 138 [.p 0,.el 10] [.jD 0 6 kM] (some (1,1)) [(val,[.jD 0 6 kM])]
def evC:Ctr:=mkC 145 [.p 0,.el 10] [.jD 0 6 kM] (some (1,2)) [(.kb true,[.jD 0 6 kM]),(.kb false,[.jD 0 6 kM])]
def evG:List Ctr:=[evA,evB,evC]
def evL:List Ctr:=(zlf++(zld++(zle++(zhN++(zlo++(zln++(zlc++(zlb++(zla++(zk9++(zk8++(zlm++(jT++(zk7++(zk6++(zk5++(zk4++zk3)))))))))))))))))
theorem zgp:aB T Gm evL:=(hpA zcp (hpA zcn (hpA zco (hpA zcv (hpA bK (hpA zcN (hpA jP (hpA zcm (hpA zcl (hpA zck (hpA zcj (hpA zcK (hpA zcx (hpA zci (hpA RX (hpA RV (hpA RU RS)))))))))))))))))
def evO:Orc:=pU [⟨[0,4,15,16,17,188,189,190],fun e n=>(n+13,[au ⟨n+0,0⟩ ⟨n+12,0⟩,au ⟨n+1,0⟩ ⟨n+12,0⟩,au ⟨n+5,0⟩ (.k 1000000),au (.k 0) ⟨n+5,0⟩,au ⟨n+6,0⟩ ⟨n+8,0⟩,au ⟨n+7,0⟩ (.k 6),au (.k 0) ⟨n+7,0⟩,au ⟨n+8,0⟩ ⟨n+6,0⟩,au ⟨n+8,0⟩ (.k 6),au (.k 0) ⟨n+8,0⟩,au ⟨n+9,0⟩ (.k 6),au (.k 0) ⟨n+9,0⟩,au ⟨n+10,0⟩ (.k 100),au (.k 0) ⟨n+10,0⟩,au (.k 0) ⟨n+11,0⟩,au ⟨n+12,0⟩ ⟨n+0,0⟩,au ⟨n+12,0⟩ ⟨n+1,0⟩,au (.k 0) ⟨n+12,0⟩,au ⟨n+12,0⟩ (e 6)],[(0,.ptr 0 (.k 0) 0),(4,.ptr 1 (.k 0) 0),(15,.ptr 2 (.k 0) 0),(16,cb false),(17,.bs 3 (.k 0) ⟨n+0,0⟩),(188,.sl none 5 10 (e 5) (e 6)),(189,.i .i64 (e 6)),(190,.i .i64 ⟨n+1,0⟩)],[.var [.i .i64 ⟨n+2,0⟩,.i .i64 ⟨n+3,0⟩,.i .i64 ⟨n+4,0⟩,.s ⟨n+5,0⟩,.sl none 6 11 ⟨n+6,0⟩ ⟨n+7,0⟩,.sl none 7 12 ⟨n+8,0⟩ ⟨n+9,0⟩,.i .i64 ⟨n+10,0⟩],.var [.i .i64 (.k 0),.i .i64 (.k 0),.i .i64 (.k 0),.x (.v (.string ⟨#[]⟩)),.x (.sl true 6 []),.x (.sl true 7 [])],.var [.i .i64 (e 21),.i .i64 (e 22),.i .i64 (e 23),.s (e 24),.sl none 6 1 (e 25) (e 26),.sl none 7 2 (e 25) (e 28)],.row 6 1 ⟨n+11,0⟩ ⟨n+12,0⟩],((e 6).up (1),⟨n+0,0⟩))⟩,
 ⟨[0,4,15,16,17,20],fun e n=>(n+10,[au (.k 0) ⟨n+0,0⟩,au ⟨n+0,0⟩ (e 27),au ⟨n+4,0⟩ (.k 1000000),au (.k 0) ⟨n+4,0⟩,au ⟨n+5,0⟩ ⟨n+7,0⟩,au ⟨n+6,0⟩ (.k 6),au (.k 0) ⟨n+6,0⟩,au ⟨n+7,0⟩ ⟨n+5,0⟩,au ⟨n+7,0⟩ (.k 6),au (.k 0) ⟨n+7,0⟩,au ⟨n+8,0⟩ (.k 6),au (.k 0) ⟨n+8,0⟩,au ⟨n+9,0⟩ (.k 100),au (.k 0) ⟨n+9,0⟩],[(0,.ptr 0 (.k 0) 0),(4,.ptr 1 (.k 0) 0),(15,.ptr 2 (.k 0) 0),(16,.b [] []),(17,.bs 3 (.k 0) (e 4)),(20,.i .i64 ⟨n+0,0⟩)],[.var [.i .i64 ⟨n+1,0⟩,.i .i64 ⟨n+2,0⟩,.i .i64 ⟨n+3,0⟩,.s ⟨n+4,0⟩,.sl none 6 11 ⟨n+5,0⟩ ⟨n+6,0⟩,.sl none 7 12 ⟨n+7,0⟩ ⟨n+8,0⟩,.i .i64 ⟨n+9,0⟩],.var [.i .i64 (.k 0),.i .i64 (.k 0),.i .i64 (.k 0),.x (.v (.string ⟨#[]⟩)),.x (.sl true 6 []),.x (.sl true 7 [])],.var [.i .i64 (e 18),.i .i64 (e 19),.i .i64 (e 20),.s (e 21),.sl none 6 1 (e 22) (e 23),.sl none 7 2 (e 22) (e 25)],.row 6 1 (e 26) (e 27)],(e 4,⟨n+0,0⟩))⟩]
def ev0:Ctr:=mkC 92 [.p 0,zn4] [.jD 0 6 kM] none [(val,[.jD 0 6 kM])]
def evP (k:Nat):Ctr:=ev0.with [O9.getD k []]
def Bf:List (List Fact):=(List.range 12).map fun i:Nat=>bd 2 ((i:Int)+4) ((i:Int)+4)++[au (.k 0) ⟨5,0⟩,au (.k 2) ⟨6,0⟩]
def evQ (i:Nat):Ctr:=ev0.with [Bf.getD i []]
noncomputable def ig (c:Ctr):Bool:=AP tab ⟨T,K,evL,evG,some ⟨1,1⟩,0⟩ evO c
end Ct
end Go.Proofs.YtcbeoccmflnejaaGreatDoor
