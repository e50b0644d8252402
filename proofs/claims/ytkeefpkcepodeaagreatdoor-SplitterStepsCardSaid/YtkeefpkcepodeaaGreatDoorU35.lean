/-.-/
import Derived.Test.YtkeefpkcepodeaaGreatDoorU34
set_option linter.all false
namespace Go.Proofs.YtkeefpkcepodeaaGreatDoor
open Go Go.Em Go.Ab
set_option maxRecDepth 100000
namespace Ct.Ff
def fiF:Ctr:=(mkC 155 [.p 0,typ,xQ,.sr 0 100000000] fnd (some (1,1)) [(.tu [],fnd)]).with xA
def fiR:Ctr:=(mkC 211 [.p 0,typ,xQ,.sr 0 100000000] fnd (some (1,0)) [(.tu [],fnd)]).with xA
def fiG:List Ctr:=[fiF,fiR]
def fiL:List Ctr:=(zuM++(zu7++(zuL++(zuK++(zu9++(zuN++(h73++zuJ)))))))
theorem zoR:ak T Gm fiL:=(hpA zaX (hpA zbk (hpA zjM (hpA zjL (hpA KW (hpA zaY (hpA zaS zjH)))))))
def fiO:Orc:=iQ [⟨[0,3,5,110,111,112],fun e n=>(n+1,[aj (.k 0) ⟨n+0,0⟩,aj ⟨n+0,0⟩ (e 4)],[(0,.ptr 0 (.k 0) 0),(3,.s (e 1)),(5,.ptr 2 (.k 0) 0),(110,.sl none 6 21 (e 3) (e 4)),(111,.i .i64 (e 4)),(112,.i .i64 ⟨n+0,0⟩)],[.var [.fn 154 [.ptr 1 (.k 0) 0],.b [] []],.var [.b [] []],.var [.i .i64 (e 8),.i .i64 (e 9),.i .i64 (e 10),.i .i64 (e 11),.sl none 1 5 (e 12) (e 13),.sl none 7 14 (e 12) (e 15),.sl none 11 15 (e 12) (e 17)]],(e 4,⟨n+0,0⟩))⟩,⟨[0,3,5,6,17,18,19],fun e n=>(n+1,[aj (.k 0) ⟨n+0,0⟩,aj ⟨n+0,0⟩ (e 5)],[(0,.ptr 0 (.k 0) 0),(3,.s (e 1)),(5,.ptr 2 (.k 0) 0),(6,.ptr 3 (.k 0) 0),(17,.sl none 11 15 (e 4) (e 5)),(18,.i .i64 (e 5)),(19,.i .i64 ⟨n+0,0⟩)],[.var [.fn 154 [.ptr 1 (.k 0) 0],.b [] []],.var [.b [] []],.var [.i .i64 (e 9),.i .i64 (e 10),.i .i64 (e 11),.i .i64 (e 12),.sl none 1 5 (e 4) (e 14),.sl none 7 14 (e 4) (e 16),.sl none 11 15 (e 4) (e 5)],.var [.i .i64 (e 19),.i .i64 (e 20),.i .i64 (e 21),.s (e 22),.sl none 6 21 (e 23) (e 24),.sl none 7 22 (e 23) (e 26)]],(e 5,⟨n+0,0⟩))⟩,⟨[0,3,5,51,52,53],fun e n=>(n+1,[aj (.k 0) ⟨n+0,0⟩,aj ⟨n+0,0⟩ (e 4)],[(0,.ptr 0 (.k 0) 0),(3,.s (e 1)),(5,.ptr 2 (.k 0) 0),(51,.sl none 7 22 (e 3) (e 4)),(52,.i .i64 (e 4)),(53,.i .i64 ⟨n+0,0⟩)],[.var [.fn 154 [.ptr 1 (.k 0) 0],.b [] []],.var [.b [] []],.var [.i .i64 (e 8),.i .i64 (e 9),.i .i64 (e 10),.i .i64 (e 11),.sl none 1 5 (e 12) (e 13),.sl none 7 14 (e 12) (e 15),.sl none 11 15 (e 12) (e 17)]],(e 4,⟨n+0,0⟩))⟩]
noncomputable def o9 (c:Ctr)(k:Nat):Bool:=Ie tab ⟨T,K3,fiL,fiG,some ⟨1,0⟩,c.rank⟩ fiO (c.with [xA.getD k []])
end Ct.Ff
end Go.Proofs.YtkeefpkcepodeaaGreatDoor
