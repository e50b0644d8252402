/-.-/
import Derived.Test.YtcbeoccmflnejaaGreatDoorU18
set_option linter.all false
namespace Go.Proofs.YtcbeoccmflnejaaGreatDoor
set_option maxRecDepth 100000
section
open Go.Em
theorem Ag {c:List X}(h:isNode c):∃nd nd':Nod,c=nd.cells/\nd'.small/\∀N,220<=N->Gam.pureD (callF tab ext N) 19 [.agg nd.cells]=some (.agg nd'.cells):=by obtain ⟨j,B,E,F,H,J,L,l,T,W,S,V,Q,U,rfl,hT,A,u,y,q⟩:=h;obtain ⟨a,b,c,d,w,e,f,Y,Z,c',d',w',e',f',P,n,O,m,M,rfl,hs,hc⟩:=zH j l B E F H J L T W S V Q U hT A u y q;exact ⟨⟨j,B,E,F,H,J,L,l,(a,b,c,d),w,e,f,W,S,Q,V,U⟩,⟨dQ 60 j,B,E,F,H,J,L,dQ 60 l,(Y,Z,c',d'),w',e',f',P,n,m,O,M⟩,rfl,hs,hc⟩
end
end Go.Proofs.YtcbeoccmflnejaaGreatDoor
