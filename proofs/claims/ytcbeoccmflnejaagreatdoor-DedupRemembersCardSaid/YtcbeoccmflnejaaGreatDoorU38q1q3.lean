/-.-/
import Derived.WalkKit
import Derived.Deep.LoopGhost
import Derived.Shelf.Spec.SlicesInsertGrow
import Derived.Laws.Bits64
import Derived.Test.YtcbeoccmflnejaaGreatDoorU18
set_option linter.all false
namespace Go.Proofs.YtcbeoccmflnejaaGreatDoor
open Go Go.Em Go.Ab
set_option maxRecDepth 100000
open Go.Em
theorem FM (i:Inp)(hk:(i.kind==1)=true):({i with kind:=1}:Inp)=i:=by have:=eq_of_beq hk;rw [<-this]
open Go.Em Go.RowKit Go.Lib
end Go.Proofs.YtcbeoccmflnejaaGreatDoor
