/-.-/
import Derived.Laws.Bits64
import Derived.Test.YtcbeoccmflnejaaGreatDoorU18
set_option linter.all false
namespace Go.Proofs.YtcbeoccmflnejaaGreatDoor
open Go.Em
set_option maxRecDepth 100000
def UG (s:Stt):Ocm:=⟨s,[],[],[]⟩
theorem Fg (N:Nat)(hN:190020<=N)(s:Stt)(hs:s.ok):Gam.pureD (callF tab ext N) 33 [.agg s.cells,.sl false 1 []]=some (.agg (UG s).cells):=by obtain ⟨M,rfl⟩:=pR_ N;have h:=iJ M s hs (by omega);obtain ⟨K,rfl⟩:∃K,M=K+5:=⟨M-5,by omega⟩;obtain ⟨a,b,f⟩:=s;exact puA [(9,.p (.agg (Stt.mk a b f).cells))] (pf1 h) (.agg [num a,num b,.sl false 10 (ak f),.sl true 11 [],.sl true 11 [],.sl true 6 [],.sl true 10 []])
theorem step_other (N:Nat)(hN:190030<=N)(nd:Nod)(s:Stt)(hs:s.ok)(i:Inp)(hk:(!(i.kind==1))=true):Gam.pureD (callF tab ext N) 10 [.agg nd.cells,.agg s.cells,.agg i.cells]=some (.agg (UG s).cells):=by obtain ⟨M,rfl⟩:=pR_ N;have h:=Fg M (by omega) s hs;obtain ⟨a,b,f⟩:=s;obtain ⟨L,tm,⟨P,Q⟩,⟨⟨e,p⟩,O,o,⟨j,l,m,n,q,u⟩⟩,x,w,y,⟨A,B,E,F,H,J⟩⟩:=i;exact puA [(16,.b true),(18,.p (.agg (UG ⟨a,b,f⟩).cells))] (pf2 hk h) (.agg (UG ⟨a,b,f⟩).cells)
open Go Go.Em Go.Ab
end Go.Proofs.YtcbeoccmflnejaaGreatDoor
