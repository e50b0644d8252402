/-.-/
import Derived.Test.YtcbeoccmflnejaaGreatDoorU18
set_option linter.all false
namespace Go.Proofs.YtcbeoccmflnejaaGreatDoor
set_option maxRecDepth 100000
section
open Go.Em Go.RowKit
variable {n:Nat} {xs:List X}
theorem yY (h:Shape Tryz.prog n 34 xs):∀z,xs[4]?=some (num z)->z<=9223372036854775807:=by obtain ⟨m,U,Z,x1,x2,x3,x4,x5,x6,x7,T,x9,H,J,L,M,rfl,j,l,A,B,E,N,O,P,Q,S,q,u,w,y⟩:=zJ h;obtain ⟨f,rfl⟩:=dh j;obtain ⟨V,rfl⟩:=aP l;obtain ⟨W,rfl⟩:=aP A;obtain ⟨Y,rfl⟩:=aP B;obtain ⟨F,rfl,a⟩:=shape_int Zm E;intro z hz;have e:some (num F)=some (num z):=hz;simp only [num,qah,X.v.injEq,Value.int.injEq,true_and] at e;subst e;simp only [Lit.wf,qab,qaI] at a;exact a.2
end
end Go.Proofs.YtcbeoccmflnejaaGreatDoor
