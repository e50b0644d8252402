/-.-/
import Derived.Test.YtcbeoccmflnejaaGreatDoorU34
set_option linter.all false
namespace Go.Proofs.YtcbeoccmflnejaaGreatDoor
open Go.Em
set_option maxRecDepth 100000
open Go Go.Em Go.Ab
theorem KG (k:Val)(hk:k.wide)(w:Int)(N:Nat)(hN:3*k.size+100<=N):Gam.pureD (callF tab ext N) 50 [.agg (newS k w).cells,.agg (newS k w).cells]=some (boolX true):=by obtain ⟨M,rfl⟩:∃M,N=M+51:=⟨N-51,by omega⟩;have h:=EY (M+50) k (by omega) hk;obtain ⟨a,f,j,l,m,n⟩:=k;exact puA [(9,.p (boolX true)),(15,.b true)] (pf2 h (eq_self w)) (boolX true)
theorem Ez (M:Nat)(s:Stt)(hl:s.slots.length<=60000)(hN:60001<=M)(hr:∀x,x∈s.slots->Gam.pureD (callF tab ext M) 50 [.agg x.cells,.agg x.cells]=some (boolX true)):Gam.pureD (callF tab ext (M+2)) 15 [.agg s.cells,.agg s.cells]=some (boolX true):=by have h:=zgs M 50 s.slots hr (by omega) (by omega);obtain ⟨a,f,j⟩:=s;exact puA [(9,.b true),(15,.b true),(22,.p (boolX true))] (pf3 (eq_self a) (eq_self f) h) (boolX true)
end Go.Proofs.YtcbeoccmflnejaaGreatDoor
