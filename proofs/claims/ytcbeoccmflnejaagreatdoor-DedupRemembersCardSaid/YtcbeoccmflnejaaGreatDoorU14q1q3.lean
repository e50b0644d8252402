/-.-/
import Derived.Test.YtcbeoccmflnejaaGreatDoorU14
set_option linter.all false
namespace Go.Proofs.YtcbeoccmflnejaaGreatDoor
open Go.Em
set_option maxRecDepth 100000
variable {p:List Int}{args:List X}{B:Nat}{v:Val}
theorem uT (N:Nat)(s:Stt)(h:s.ok)(hN:190010<=N):Gam.pureD (callF tab ext N) 15 [.agg s.cells,.agg s.cells]=some (boolX true):=by obtain ⟨M,rfl⟩:∃M,N=M+2:=⟨N-2,by omega⟩;have q:=h.slots;have l:=zgs M 50 s.slots (fun a m=>BK M a (h.slot a m) (by omega)) (by omega) (by omega);obtain ⟨f,j,n⟩:=s;exact puA [(9,.b true),(15,.b true),(22,.p (boolX true))] (pf3 (eq_self f) (eq_self j) l) (boolX true)
end Go.Proofs.YtcbeoccmflnejaaGreatDoor
