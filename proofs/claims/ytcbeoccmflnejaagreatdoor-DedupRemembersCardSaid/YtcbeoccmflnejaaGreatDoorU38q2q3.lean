/-.-/
import Derived.Test.YtcbeoccmflnejaaGreatDoorU38
set_option linter.all false
namespace Go.Proofs.YtcbeoccmflnejaaGreatDoor
open Go Go.Em Go.Ab
set_option maxRecDepth 100000
open Go.Em
namespace Ct
theorem Ap {k:Val}{e:Int}(h:0<=e/\e<=100):0<=keyE k e/\keyE k e<=100:=by
 unfold keyE;split;·decide
 exact h
end Ct
open Go.Em Go.RowKit Go.Lib
end Go.Proofs.YtcbeoccmflnejaaGreatDoor
