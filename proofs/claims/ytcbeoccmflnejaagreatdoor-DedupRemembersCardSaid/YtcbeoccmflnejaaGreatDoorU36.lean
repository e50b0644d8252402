/-.-/
import Derived.Test.YtcbeoccmflnejaaGreatDoorU25
set_option linter.all false
namespace Go.Proofs.YtcbeoccmflnejaaGreatDoor
open Go Go.Em Go.Ab
set_option maxRecDepth 100000
namespace Ct
def Pj (a b c:Int)(s:qaX)(l f:qaW):List X:=[num a,num b,num c,strX s,.sl false 6 l,.sl false 7 f]
end Ct
namespace Ct.Ff
def zli:List Ctr:=[mkC 67 [.s,.s] [] none [((int),[])]]
end Ct.Ff
end Go.Proofs.YtcbeoccmflnejaaGreatDoor
