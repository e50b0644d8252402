/-.-/
import Derived.Test.YtonnphbfclaigaaGreatDoorP12
set_option linter.all false
namespace Go.Proofs.YtonnphbfclaigaaGreatDoor
open Go.Em
set_option maxRecDepth 100000
def typC (a b c d:Int)(w e f:qbI):List X:=[num a,num b,num c,num d,.sl false 1 w,.sl false 7 e,.sl false 11 f]
def fldC (x:Int)(t:qbJ)(y a b c d:Int)(w e f de:qbI):List X:=[num x,strX t,num y,num a,num b,num c,num d,.sl false 1 w,.sl false 7 e,.sl false 11 f,.sl false 6 de]
def isTxt (c:List X):Prop:=∃t,c=[strX t]
def isTyp:Nat->List X->Prop
 |0,c=>∃a b c' d w e f,c=typC a b c' d w e f/\∀x,x∈w->isTxt x
 |n+1,c=>∃a b c' d w e f,c=typC a b c' d w e f/\(∀x,x∈w->isTxt x)/\(∀x,x∈e->isTyp n x)/\∀x,x∈f->∃p t y T de,x=num p::strX t::num y::(T++[.sl false 6 de])/\isTyp n T/\∀v,v∈de->isVal v
def sT:Nat->List X->Prop
 |0,_=>False
 |h+1,x=>∃a b c d w e f,x=typC a b c d w e f/\w.length<=6/\(∀v,v∈w->∃t:qbJ,v=[strX t]/\t.size<=40)/\e.length<=2/\(∀y,y∈e->sT h y)/\f.length<=6/\∀y,y∈f->∃p t q a b c d w e f de,y=fldC p t q a b c d w e f de/\t.size<=40/\sT h (typC a b c d w e f)/\de.length<=2/\∀v,v∈de->∃u:Val,v=(shortV 2 u).cells
section
variable (n:Nat) (a b c d:Int) (w e f:qbI) (acc:qbI) (j:Nat) (x:List X)
end
section
variable (n:Nat) (a b c d:Int) (w e f acc0:qbI) (m:Nat) (acc:qbI) (j:Nat) (x:List X)
end
section
variable (n:Nat) (a b c d:Int) (w e f acc0 acc1 acc2:qbI) (m q z:Nat) (x0:Int) (t0:qbJ) (y0 p1 p2 p3 p4:Int) (pw pe pf de:qbI) (acc:qbI) (j:Nat) (x:List X)
end
section
variable (n:Nat) (a b c d:Int) (w e f acc0 acc1:qbI) (m q:Nat) (acc:qbI) (j:Nat) (x:List X)
end
def isCall (c:List X):Prop:=∃t l,c=[strX t,.sl false 6 l]/\∀x,x∈l->isRule x
section
variable (name text:qbJ) (k1 k2 k3 k4 k5 k6 a b c d:Int) (w e f ty ex ru ca ne:qbI) (acc:qbI) (j:Nat) (x:List X)
end
section
variable (name text:qbJ) (k1 k2 k3 k4 k5 k6 a b c d:Int) (w e f ty ru ca ne acc0:qbI) (acc:qbI) (j:Nat) (x:List X)
end
section
variable (name text:qbJ) (k1 k2 k3 k4 k5 k6 a b c d:Int) (w e f ty ru ca ne acc0:qbI) (m:Nat) (acc:qbI) (j:Nat) (x:List X)
end
section
variable (name text:qbJ) (k1 k2 k3 k4 k5 k6 a b c d:Int) (w e f ty ru ca ne acc0 acc1:qbI) (m q:Nat) (acc:qbI) (j:Nat) (x:List X)
end
end Go.Proofs.YtonnphbfclaigaaGreatDoor
