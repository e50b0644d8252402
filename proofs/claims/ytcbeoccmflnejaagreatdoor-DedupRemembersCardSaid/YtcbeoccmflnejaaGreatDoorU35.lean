/-.-/
import Derived.Test.YtcbeoccmflnejaaGreatDoorU25
set_option linter.all false
namespace Go.Proofs.YtcbeoccmflnejaaGreatDoor
open Go Go.Em Go.Ab
set_option maxRecDepth 100000
namespace Ct.Dd
def jT:List Ctr:=[mkC 26 [val] [] none [((.kb true),[]),((.kb false),[])]]
def zi4:List Ctr:=[dF 155 [.sl 7 2,.fn 999226 [.dp [.s]]] [] none [(.ir .i64 (-1) 1000100,[],[lt 4 1 2])],dF 155 [.sl 7 2,.fn 999377 [.dp [.s]]] [] none [(.ir .i64 (-1) 1000100,[],[lt 4 1 2])]]
def zhN:List Ctr:=[dF 56 [val] [] (some (1,0)) [(.ag [int,int,int,.s,.bs 0,.bs 1],[.OX 6 1 1 12,.OX 7 2 1 13],[lt 12 0 6,lt 6 0 12,lt 13 0 7,lt 7 0 13])]]
def zlg:List Ctr:=[mkC 116 [.s] [] none [((.kb true),[]),((.kb false),[])]]
end Ct.Dd
end Go.Proofs.YtcbeoccmflnejaaGreatDoor
