/-.-/
import Derived.Test.YtpcjeobkehmhpaaGreatDoorV35
set_option linter.all false
namespace Go.Proofs.YtpcjeobkehmhpaaGreatDoor
open Go Go.Em Go.Ab
set_option maxRecDepth 100000
set_option linter.all false
namespace Ct
def evA:Ctr:=mkC 120 [.p 0,.el 10] [.mP 0 6 oN] (some (1,0)) [(val,[.mP 0 6 oN])]
def evB:Ctr:=mkC 172 [.p 0,.el 10] [.mP 0 6 oN] (some (1,1)) [(val,[.mP 0 6 oN])]
def evC:Ctr:=mkC 178 [.p 0,.el 10] [.mP 0 6 oN] (some (1,2)) [(.kb true,[.mP 0 6 oN]),(.kb false,[.mP 0 6 oN])]
def evG:List Ctr:=[evA,evB,evC]
def evL:List Ctr:=(zum++(zuk++(zul++(zci++(zut++(zus++(zuj++(zui++(zuh++(zug++(zuf++(zuq++(TF++(zue++(zt9++(zt8++(zt7++zt6)))))))))))))))))
theorem zoA:ay T Gm evL:=(hpA zjU (hpA zjS (hpA zjT (hpA pV (hpA dD (hpA zki (hpA nI (hpA zjR (hpA zjQ (hpA zjP (hpA zjO (hpA zkf (hpA yC (hpA zjN (hpA zax (hpA zaw (hpA zav zau)))))))))))))))))
def evO:Orc:=iQ [⟨[0,4,15,16,17,188,189,190],fun e n=>(n+13,[ak ⟨n+0,0⟩ ⟨n+12,0⟩,ak ⟨n+1,0⟩ ⟨n+12,0⟩,ak ⟨n+5,0⟩ (.k 1000000),ak (.k 0) ⟨n+5,0⟩,ak ⟨n+6,0⟩ ⟨n+8,0⟩,ak ⟨n+7,0⟩ (.k 6),ak (.k 0) ⟨n+7,0⟩,ak ⟨n+8,0⟩ ⟨n+6,0⟩,ak ⟨n+8,0⟩ (.k 6),ak (.k 0) ⟨n+8,0⟩,ak ⟨n+9,0⟩ (.k 6),ak (.k 0) ⟨n+9,0⟩,ak ⟨n+10,0⟩ (.k 100),ak (.k 0) ⟨n+10,0⟩,ak (.k 0) ⟨n+11,0⟩,ak ⟨n+12,0⟩ ⟨n+0,0⟩,ak ⟨n+12,0⟩ ⟨n+1,0⟩,ak (.k 0) ⟨n+12,0⟩,ak ⟨n+12,0⟩ (e 6)],[(0,.ptr 0 (.k 0) 0),(4,.ptr 1 (.k 0) 0),(15,.ptr 2 (.k 0) 0),(16,cb false),(17,.bs 3 (.k 0) ⟨n+0,0⟩),(188,.sl none 5 10 (e 5) (e 6)),(189,.i .i64 (e 6)),(190,.i .i64 ⟨n+1,0⟩)],[.var [.i .i64 ⟨n+2,0⟩,.i .i64 ⟨n+3,0⟩,.i .i64 ⟨n+4,0⟩,.s ⟨n+5,0⟩,.sl none 6 11 ⟨n+6,0⟩ ⟨n+7,0⟩,.sl none 7 12 ⟨n+8,0⟩ ⟨n+9,0⟩,.i .i64 ⟨n+10,0⟩],.var [.i .i64 (.k 0),.i .i64 (.k 0),.i .i64 (.k 0),.x (.v (.string ⟨#[]⟩)),.x (.sl true 6 []),.x (.sl true 7 [])],.var [.i .i64 (e 21),.i .i64 (e 22),.i .i64 (e 23),.s (e 24),.sl none 6 1 (e 25) (e 26),.sl none 7 2 (e 25) (e 28)],.row 6 1 ⟨n+11,0⟩ ⟨n+12,0⟩],((e 6).up (1),⟨n+0,0⟩))⟩,
 ⟨[0,4,15,16,17,20],fun e n=>(n+10,[ak (.k 0) ⟨n+0,0⟩,ak ⟨n+0,0⟩ (e 27),ak ⟨n+4,0⟩ (.k 1000000),ak (.k 0) ⟨n+4,0⟩,ak ⟨n+5,0⟩ ⟨n+7,0⟩,ak ⟨n+6,0⟩ (.k 6),ak (.k 0) ⟨n+6,0⟩,ak ⟨n+7,0⟩ ⟨n+5,0⟩,ak ⟨n+7,0⟩ (.k 6),ak (.k 0) ⟨n+7,0⟩,ak ⟨n+8,0⟩ (.k 6),ak (.k 0) ⟨n+8,0⟩,ak ⟨n+9,0⟩ (.k 100),ak (.k 0) ⟨n+9,0⟩],[(0,.ptr 0 (.k 0) 0),(4,.ptr 1 (.k 0) 0),(15,.ptr 2 (.k 0) 0),(16,.b [] []),(17,.bs 3 (.k 0) (e 4)),(20,.i .i64 ⟨n+0,0⟩)],[.var [.i .i64 ⟨n+1,0⟩,.i .i64 ⟨n+2,0⟩,.i .i64 ⟨n+3,0⟩,.s ⟨n+4,0⟩,.sl none 6 11 ⟨n+5,0⟩ ⟨n+6,0⟩,.sl none 7 12 ⟨n+7,0⟩ ⟨n+8,0⟩,.i .i64 ⟨n+9,0⟩],.var [.i .i64 (.k 0),.i .i64 (.k 0),.i .i64 (.k 0),.x (.v (.string ⟨#[]⟩)),.x (.sl true 6 []),.x (.sl true 7 [])],.var [.i .i64 (e 18),.i .i64 (e 19),.i .i64 (e 20),.s (e 21),.sl none 6 1 (e 22) (e 23),.sl none 7 2 (e 22) (e 25)],.row 6 1 (e 26) (e 27)],(e 4,⟨n+0,0⟩))⟩]
def ev0:Ctr:=mkC 120 [.p 0,zxw] [.mP 0 6 oN] none [(val,[.mP 0 6 oN])]
def evP (k:Nat):Ctr:=ev0.with [XE.getD k []]
def Ia:List (List Fact):=(List.range 12).map fun i:Nat=>bd 2 ((i:Int)+4) ((i:Int)+4)++[ak (.k 0) ⟨5,0⟩,ak (.k 2) ⟨6,0⟩]
def evQ (i:Nat):Ctr:=ev0.with [Ia.getD i []]
noncomputable def jO (c:Ctr):Bool:=ES tab ⟨T,K,evL,evG,some ⟨1,1⟩,0⟩ evO c
end Ct
end Go.Proofs.YtpcjeobkehmhpaaGreatDoor
