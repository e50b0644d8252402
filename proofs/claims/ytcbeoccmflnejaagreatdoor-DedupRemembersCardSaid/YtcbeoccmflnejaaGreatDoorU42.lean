/-.-/
import Derived.Test.YtcbeoccmflnejaaGreatDoorU38
set_option linter.all false
namespace Go.Proofs.YtcbeoccmflnejaaGreatDoor
open Go Go.Em Go.Ab
set_option maxRecDepth 100000
variable {ss:List Slt}{B:Nat}{x:Slt}
def Slt.cloned:Slt->X×List Bx
 |⟨.mk k i s t l f,n,d,ms,vs⟩=>(.agg [num k,num i,num s,strX t,.sl false 6 (ah l),.sl false 7 (aj f),num n,num d,.bs 0 0 (aA ms).length,.bs 1 0 (ah vs).length],[.row 10 (aA ms),.row 6 (ah vs)])
structure Slt.good (B:Nat) (x:Slt):Prop where
 cmp:∀(key:Val) (N:Nat),B<=N->Gam.pureD (callF tab ext N) 132 [.agg x.cells,.agg key.cells]=some (num (cu x.key key))
 clone:∀N,B<=N->callF tab ext N (.fn 84) [.agg x.cells] []=some x.cloned
 refl:∀N,B<=N->Gam.pureD (callF tab ext N) 50 [.agg x.cells,.agg x.cells]=some (boolX true)
theorem Slt.good.mono {B':Nat}(h:x.good B)(hb:B<=B'):x.good B':=⟨fun k N a=>h.cmp k N (by omega),fun N a=>h.clone N (by omega),fun N a=>h.refl N (by omega)⟩
structure Stt.good (B:Nat) (s:Stt):Prop where
 len:s.slots.length<=100
 slot:∀x,x∈s.slots->x.good B
open Go.Em
def Ae (x:Slt):Bool:=(!(x.t==0))||decide (0<x.items.length+x.vals.length)
def nAt (ss:List Slt)(j:Nat):Int:=(ss[j]?.map Slt.n).getD 0
def badR (a:Int)(ss:List Slt)(j:Nat):Bool:=decide (nAt ss j<1)||decide (nAt ss j>a)
def zgA (ss:List Slt)(j:Nat):Bool:=(List.range j).any fun k=>nAt ss k==nAt ss j
def YP (a:Int)(ss:List Slt)(j:Nat):Bool:=badR a ss j||zgA ss j
def ents (l:List Int):List (Value×X):=l.map fun z=>(.int .i64 z,boolX true)
def sc (ss:List Slt)(a b:Int):List X:=[num a,num b,.sl false 10 (ak ss)]
structure zhk (n:Nod) (s:Stt):Prop where
 st:StP s
 lo:0<=s.n
 hi:s.n<=1099511627776
 t:s.t=0
 plain:∀x,x∈s.slots->Ae x=false
 nums:∀j,j<s.slots.length->YP s.n s.slots j=false
end Go.Proofs.YtcbeoccmflnejaaGreatDoor
