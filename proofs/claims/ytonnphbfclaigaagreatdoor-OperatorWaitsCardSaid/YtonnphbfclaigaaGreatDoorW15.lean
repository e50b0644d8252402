/-.-/
import Derived.Test.YtonnphbfclaigaaGreatDoorW14
set_option linter.all false
namespace Go.Proofs.YtonnphbfclaigaaGreatDoor
open Go.Em
set_option maxRecDepth 100000
variable {τ:St}
def typC (a b c d:Int)(w e f:qaV):List X:=[num a,num b,num c,num d,.sl false 1 w,.sl false 7 e,.sl false 11 f]
def zTyp:List X:=[num 0,num 0,num 0,num 0,.sl true 1 [],.sl true 7 [],.sl true 11 []]
def fldC (x:Int)(t:qaW)(y a b c d:Int)(w e f de:qaV):List X:=[num x,strX t,num y,num a,num b,num c,num d,.sl false 1 w,.sl false 7 e,.sl false 11 f,.sl false 6 de]
def isTxt (c:List X):Prop:=∃t,c=[strX t]
def isTyp:Nat->List X->Prop
 |0,c=>∃a b c' d w e f,c=typC a b c' d w e f/\∀x,x∈w->isTxt x
 |n+1,c=>∃a b c' d w e f,c=typC a b c' d w e f/\(∀x,x∈w->isTxt x)/\(∀x,x∈e->isTyp n x)/\∀x,x∈f->∃p t y T de,x=num p::strX t::num y::(T++[.sl false 6 de])/\isTyp n T/\∀v,v∈de->isVal v
def sT:Nat->List X->Prop
 |0,_=>False
 |h+1,x=>∃a b c d w e f,x=typC a b c d w e f/\w.length<=6/\(∀v,v∈w->∃t:qaW,v=[strX t]/\t.size<=40)/\e.length<=2/\(∀y,y∈e->sT h y)/\f.length<=6/\∀y,y∈f->∃p t q a b c d w e f de,y=fldC p t q a b c d w e f de/\t.size<=40/\sT h (typC a b c d w e f)/\de.length<=2/\∀v,v∈de->∃u:Val,v=(shortV 2 u).cells
def sF (h:Nat)(y:List X):Prop:=∃p t q a b c d w e f de,y=fldC p t q a b c d w e f de/\t.size<=40/\sT h (typC a b c d w e f)/\de.length<=2/\∀v,v∈de->∃u:Val,v=(shortV 2 u).cells
section
variable (n:Nat) (a b c d:Int) (w e f:qaV) (acc:qaV) (j:Nat) (x:List X)
def twH:St:=⟨[(1,num (Int.ofNat (n+1))),(2,.ptr 0 0 0),(4,.ptr 1 0 0),(5,.bs 2 0 j),(6,.sl true 7 []),(7,.sl true 11 []),(8,nat j)],[.var (typC a b c d w e f),.var zTyp,.row 1 acc]⟩
def twN:St:=⟨[(1,num (Int.ofNat (n+1))),(2,.ptr 0 0 0),(4,.ptr 1 0 0),(5,.bs 3 0 (j+1)),(6,.sl true 7 []),(7,.sl true 11 []),(8,nat (j+1))],[.var (typC a b c d w e f),.var zTyp,.dead,.row 1 (acc++[x])]⟩
def twE:St:=⟨[(1,num (Int.ofNat (n+1))),(2,.ptr 0 0 0),(4,.ptr 1 0 0),(5,.bs 2 0 j),(6,.sl true 7 []),(7,.sl true 11 []),(8,nat j),(22,boolX false)],[.var (typC a b c d w e f),.var zTyp,.row 1 acc]⟩
theorem tw_canon:canon 0 (twN n a b c d w e f acc j x)=some (twH n a b c d w e f (acc++[x]) (j+1)):=by kernel_rfl
end
theorem tw_loop (n:Nat)(a b c d:Int)(w e f:qaV)(hl:∀x,x∈w->isTxt x)(hτ:canon 0 τ=some (twH n a b c d w e f [] 0)):∃acc,acc.length=min w.length 6/\(∀x,x∈acc->(fun x=>∃t:qaW,x=[strX t]/\t.size<=40) x)/\∀M,40<=M->run (callF tab ext M) 0 M (.loop (loopAt 49 0)) τ=some (.exit 0,twE n a b c d w e f acc (min w.length 6)):=by
 have hK:min w.length 6<=6:=by exact Nat.min_le_right _ _
 have key:∃acc:qaV,acc.length=min w.length 6/\(∀x,x∈acc->(fun x=>∃t:qaW,x=[strX t]/\t.size<=40) x)/\∀M,40<=M->min w.length 6<M->run (callF tab ext M) 0 M (.loop (loopAt 49 0)) τ=some (.exit 0,twE n a b c d w e f acc (min w.length 6)):=?_
 ·grind
 refine loop_acc (nIn:=0) (b:=loopAt 49 0) (B:=40) (H:=fun j acc=>twH n a b c d w e f acc j) (k:=min w.length 6) (e:=.exit 0) (E:=fun acc=>twE n a b c d w e f acc (min w.length 6)) (fun x=>∃t:qaW,x=[strX t]/\t.size<=40) hτ (fun j acc hj hacc=>?_) (fun acc hacc M hM=>?_) (by simp)
 ·have hj1:j<w.length:=by omega
  have hj2:j<6:=by omega
  obtain ⟨v,hv⟩:=hl _ (qal hj1);have hg:w[j]?=some [strX v]:=by rw [qad hj1,hv]
  exact ⟨[strX (cutT 40 v)],twN n a b c d w e f acc j ([strX (cutT 40 v)]),⟨_,rfl,cutT_le 40 v⟩,tw_canon ..,fun M hM=>run_of [(18,.b true),(21,.b true),(29,.e [strX v]),(34,.e [strX v]),(37,.i (Int.ofNat (min v.size 40))),(38,.cut),(40,.app),(24,.i (Int.ofNat (j+1)))] [] (pf8 (lt_nat (j:=j) (k:=w.length) hj1) (lt_lit hj2) hg hg (min_int v.size 40) (cut_ok v.size 40) (app_ok (acc:=acc) j 2 16 hacc.symm (by omega) (by omega)) (next_nat (j:=j) (by omega))) (lo':=[]) (by kernel_rfl)⟩
 generalize hq:min w.length 6=q;by_cases h6:q<w.length;·exact run_of [(18,.b true),(21,.b false)] [] (pf2 (lt_nat (j:=q) (k:=w.length) h6) (nlt_nat (j:=q) (k:=6) (by omega))) (lo':=[]) (by kernel_rfl)
 exact run_of [(18,.b false)] [] (pf1 (nlt_nat (j:=q) (k:=w.length) h6)) (lo':=[]) (by kernel_rfl)
section
variable (n:Nat) (a b c d:Int) (w e f acc0:qaV) (m:Nat) (acc:qaV) (j:Nat) (x:List X)
def teH:St:=⟨[(1,num (Int.ofNat (n+1))),(2,.ptr 0 0 0),(4,.ptr 1 0 0),(5,.bs 2 0 m),(6,.bs 3 0 j),(7,.sl true 11 []),(9,nat j)],[.var (typC a b c d w e f),.var zTyp,.row 1 acc0,.row 7 acc]⟩
def teN:St:=⟨[(1,num (Int.ofNat (n+1))),(2,.ptr 0 0 0),(4,.ptr 1 0 0),(5,.bs 2 0 m),(6,.bs 4 0 (j+1)),(7,.sl true 11 []),(9,nat (j+1))],[.var (typC a b c d w e f),.var zTyp,.row 1 acc0,.dead,.row 7 (acc++[x])]⟩
def teE:St:=⟨[(1,num (Int.ofNat (n+1))),(2,.ptr 0 0 0),(4,.ptr 1 0 0),(5,.bs 2 0 m),(6,.bs 3 0 j),(7,.sl true 11 []),(9,nat j),(53,boolX false)],[.var (typC a b c d w e f),.var zTyp,.row 1 acc0,.row 7 acc]⟩
theorem te_canon:canon 0 (teN n a b c d w e f acc0 m acc j x)=some (teH n a b c d w e f acc0 m (acc++[x]) (j+1)):=by kernel_rfl
end
theorem te_loop (n:Nat)(a b c d:Int)(w e f acc0:qaV)(m:Nat)(hn:n<1000)(h54:∀m,n=m+1->∀x,x∈e->∃a b c d w e f a' b' c' d' w' e' f',x=typC a b c d w e f/\sT n (typC a' b' c' d' w' e' f')/\∀N,200+n<=N->Gam.pureD (callF tab ext N) 49 [.agg (typC a b c d w e f),nat (m+1)]=some (.agg (typC a' b' c' d' w' e' f')))(hτ:canon 0 τ=some (teH n a b c d w e f acc0 m [] 0)):∃acc,acc.length=kOf n e.length 2/\(∀x,x∈acc->(sT n) x)/\∀M,(200+n)<=M->run (callF tab ext M) 0 M (.loop (loopAt 49 1)) τ=some (.exit 2,teE n a b c d w e f acc0 m acc (kOf n e.length 2)):=by
 have hkk:kOf n e.length 2<=e.length/\kOf n e.length 2<=2:=kOf_le ..;have hK:kOf n e.length 2<=2:=by omega
 have key:∃acc:qaV,acc.length=kOf n e.length 2/\(∀x,x∈acc->(sT n) x)/\∀M,(200+n)<=M->kOf n e.length 2<M->run (callF tab ext M) 0 M (.loop (loopAt 49 1)) τ=some (.exit 2,teE n a b c d w e f acc0 m acc (kOf n e.length 2)):=?_
 ·grind
 refine loop_acc (nIn:=0) (b:=loopAt 49 1) (B:=(200+n)) (H:=fun j acc=>teH n a b c d w e f acc0 m acc j) (k:=kOf n e.length 2) (e:=.exit 2) (E:=fun acc=>teE n a b c d w e f acc0 m acc (kOf n e.length 2)) (sT n) hτ (fun j acc hj hacc=>?_) (fun acc hacc M hM=>?_) (by simp)
 ·have hj1:j<e.length:=by omega
  have hj2:j<2:=by omega
  obtain ⟨n,rfl⟩:∃m,n=m+1:=by
   cases n with
   |zero=>grind[kOf]
   |succ m=>grind
  obtain ⟨a1,b1,c1,d1,w1,e1,f1,a2,b2,c2,d2,w2,e2,f2,hv,hs,hc⟩:=h54 n rfl _ (qal hj1);have hg:e[j]?=some (typC a1 b1 c1 d1 w1 e1 f1):=by rw [qad hj1,hv]
  exact ⟨(typC a2 b2 c2 d2 w2 e2 f2),teN (n+1) a b c d w e f acc0 m acc j ((typC a2 b2 c2 d2 w2 e2 f2)),hs,te_canon ..,fun M hM=>run_of [(45,.b true),(48,.b true),(52,.b true),(60,.e (typC a1 b1 c1 d1 w1 e1 f1)),(63,.i (Int.ofNat (n+1))),(64,.p (.agg (typC a2 b2 c2 d2 w2 e2 f2))),(66,.app),(55,.i (Int.ofNat (j+1)))] [] (pf8 (lt_nat (j:=j) (k:=e.length) hj1) (lt_lit hj2) (gt_one n) hg (dec_nat (j:=n+1) (by omega)) (hc M (by omega)) (app_ok (acc:=acc) j 3 104 hacc.symm (by omega) (by omega)) (next_nat (j:=j) (by omega))) (lo':=[]) (by kernel_rfl)⟩
 cases n with
 |zero=>
  have e0:kOf 0 e.length 2=0:=rfl;rw [e0];cases h1:decide (Int.ofNat 0<Int.ofNat e.length) with
  |true=>exact run_of [(45,.b true)] [] (pf1 h1) (lo':=[]) (by kernel_rfl)
  |false=>exact run_of [(45,.b false)] [] (pf1 h1) (lo':=[]) (by kernel_rfl)
 |succ n=>
  have e1:kOf (n+1) e.length 2=min e.length 2:=rfl;rw [e1];generalize hq:min e.length 2=q;by_cases h6:q<e.length;·exact run_of [(45,.b true),(48,.b false)] [] (pf2 (lt_nat (j:=q) (k:=e.length) h6) (nlt_nat (j:=q) (k:=2) (by omega))) (lo':=[]) (by kernel_rfl)
  exact run_of [(45,.b false)] [] (pf1 (nlt_nat (j:=q) (k:=e.length) h6)) (lo':=[]) (by kernel_rfl)
section
variable (n:Nat) (a b c d:Int) (w e f acc0 acc1 acc2:qaV) (m q z:Nat) (x0:Int) (t0:qaW) (y0 p1 p2 p3 p4:Int) (pw pe pf de:qaV) (acc:qaV) (j:Nat) (x:List X)
def tdH:St:=⟨[(1,num (Int.ofNat (n+1))),(2,.ptr 0 0 0),(4,.ptr 1 0 0),(5,.bs 2 0 m),(6,.bs 3 0 q),(7,.bs 4 0 z),(10,nat z),(11,.ptr 5 0 0),(12,.bs 6 0 j),(13,nat j)],[.var (typC a b c d w e f),.var zTyp,.row 1 acc0,.row 7 acc1,.row 11 acc2,.var (fldC x0 t0 y0 p1 p2 p3 p4 pw pe pf de),.row 6 acc]⟩
def tdN:St:=⟨[(1,num (Int.ofNat (n+1))),(2,.ptr 0 0 0),(4,.ptr 1 0 0),(5,.bs 2 0 m),(6,.bs 3 0 q),(7,.bs 4 0 z),(10,nat z),(11,.ptr 5 0 0),(12,.bs 7 0 (j+1)),(13,nat (j+1))],[.var (typC a b c d w e f),.var zTyp,.row 1 acc0,.row 7 acc1,.row 11 acc2,.var (fldC x0 t0 y0 p1 p2 p3 p4 pw pe pf de),.dead,.row 6 (acc++[x])]⟩
def tdE:St:=⟨[(1,num (Int.ofNat (n+1))),(2,.ptr 0 0 0),(4,.ptr 1 0 0),(5,.bs 2 0 m),(6,.bs 3 0 q),(7,.bs 4 0 z),(10,nat z),(11,.ptr 5 0 0),(12,.bs 6 0 j),(13,nat j),(95,boolX false)],[.var (typC a b c d w e f),.var zTyp,.row 1 acc0,.row 7 acc1,.row 11 acc2,.var (fldC x0 t0 y0 p1 p2 p3 p4 pw pe pf de),.row 6 acc]⟩
theorem td_canon:canon 0 (tdN n a b c d w e f acc0 acc1 acc2 m q z x0 t0 y0 p1 p2 p3 p4 pw pe pf de acc j x)=some (tdH n a b c d w e f acc0 acc1 acc2 m q z x0 t0 y0 p1 p2 p3 p4 pw pe pf de (acc++[x]) (j+1)):=by kernel_rfl
end
theorem td_loop (n:Nat)(a b c d:Int)(w e f acc0 acc1 acc2:qaV)(m q z:Nat)(x0:Int)(t0:qaW)(y0 p1 p2 p3 p4:Int)(pw pe pf de:qaV)(hl:∀x,x∈de->isVal x)(hτ:canon 0 τ=some (tdH n a b c d w e f acc0 acc1 acc2 m q z x0 t0 y0 p1 p2 p3 p4 pw pe pf de [] 0)):∃acc,acc.length=min de.length 2/\(∀x,x∈acc->(fun x=>∃u:Val,x=(shortV 2 u).cells) x)/\∀M,40<=M->run (callF tab ext M) 0 M (.loop (loopAt 49 3)) τ=some (.exit 6,tdE n a b c d w e f acc0 acc1 acc2 m q z x0 t0 y0 p1 p2 p3 p4 pw pe pf de acc (min de.length 2)):=by
 have hK:min de.length 2<=2:=by exact Nat.min_le_right _ _
 have key:∃acc:qaV,acc.length=min de.length 2/\(∀x,x∈acc->(fun x=>∃u:Val,x=(shortV 2 u).cells) x)/\∀M,40<=M->min de.length 2<M->run (callF tab ext M) 0 M (.loop (loopAt 49 3)) τ=some (.exit 6,tdE n a b c d w e f acc0 acc1 acc2 m q z x0 t0 y0 p1 p2 p3 p4 pw pe pf de acc (min de.length 2)):=?_
 ·grind
 refine loop_acc (nIn:=0) (b:=loopAt 49 3) (B:=40) (H:=fun j acc=>tdH n a b c d w e f acc0 acc1 acc2 m q z x0 t0 y0 p1 p2 p3 p4 pw pe pf de acc j) (k:=min de.length 2) (e:=.exit 6) (E:=fun acc=>tdE n a b c d w e f acc0 acc1 acc2 m q z x0 t0 y0 p1 p2 p3 p4 pw pe pf de acc (min de.length 2)) (fun x=>∃u:Val,x=(shortV 2 u).cells) hτ (fun j acc hj hacc=>?_) (fun acc hacc M hM=>?_) (by simp)
 ·have hj1:j<de.length:=by omega
  have hj2:j<2:=by omega
  obtain ⟨v,hv⟩:=hl _ (qal hj1);have hg:de[j]?=some v.cells:=by rw [qad hj1,hv]
  have hc:=short_val 2 v;generalize hw:shortV 2 v=w1 at hc;obtain ⟨a1,a2,a3,a4,a5,a6⟩:=v;obtain ⟨b1,b2,b3,b4,b5,b6⟩:=w1;exact ⟨(Val.mk b1 b2 b3 b4 b5 b6).cells,tdN n a b c d w e f acc0 acc1 acc2 m q z x0 t0 y0 p1 p2 p3 p4 pw pe pf de acc j ((Val.mk b1 b2 b3 b4 b5 b6).cells),⟨_,by rw [hw]⟩,td_canon ..,fun M hM=>run_of [(91,.b true),(94,.b true),(102,.e (Val.mk a1 a2 a3 a4 a5 a6).cells),(104,.p (.agg (Val.mk b1 b2 b3 b4 b5 b6).cells)),(106,.app),(97,.i (Int.ofNat (j+1)))] [] (pf6 (lt_nat (j:=j) (k:=de.length) hj1) (lt_lit hj2) hg (hc M (by omega) (by omega)) (app_ok (acc:=acc) j 6 88 hacc.symm (by omega) (by omega)) (next_nat (j:=j) (by omega))) (lo':=[]) (by kernel_rfl)⟩
 generalize hq:min de.length 2=q;by_cases h6:q<de.length;·exact run_of [(91,.b true),(94,.b false)] [] (pf2 (lt_nat (j:=q) (k:=de.length) h6) (nlt_nat (j:=q) (k:=2) (by omega))) (lo':=[]) (by kernel_rfl)
 exact run_of [(91,.b false)] [] (pf1 (nlt_nat (j:=q) (k:=de.length) h6)) (lo':=[]) (by kernel_rfl)
section
variable (n:Nat) (a b c d:Int) (w e f acc0 acc1:qaV) (m q:Nat) (acc:qaV) (j:Nat) (x:List X)
def tfH:St:=⟨[(1,num (Int.ofNat (n+1))),(2,.ptr 0 0 0),(4,.ptr 1 0 0),(5,.bs 2 0 m),(6,.bs 3 0 q),(7,.bs 4 0 j),(10,nat j)],[.var (typC a b c d w e f),.var zTyp,.row 1 acc0,.row 7 acc1,.row 11 acc]⟩
def tfN:St:=⟨[(1,num (Int.ofNat (n+1))),(2,.ptr 0 0 0),(4,.ptr 1 0 0),(5,.bs 2 0 m),(6,.bs 3 0 q),(7,.bs 7 0 (j+1)),(10,nat (j+1))],[.var (typC a b c d w e f),.var zTyp,.row 1 acc0,.row 7 acc1,.dead,.var x,.dead,.row 11 (acc++[x])]⟩
def tfE:St:=⟨[(1,num (Int.ofNat (n+1))),(2,.ptr 0 0 0),(4,.ptr 1 0 0),(5,.bs 2 0 m),(6,.bs 3 0 q),(7,.bs 4 0 j),(10,nat j),(79,boolX false)],[.var (typC a b c d w e f),.var zTyp,.row 1 acc0,.row 7 acc1,.row 11 acc]⟩
theorem tf_canon:canon 0 (tfN n a b c d w e f acc0 acc1 m q acc j x)=some (tfH n a b c d w e f acc0 acc1 m q (acc++[x]) (j+1)):=by kernel_rfl
end
theorem tf_loop (n:Nat)(a b c d:Int)(w e f acc0 acc1:qaV)(m q:Nat)(hn:n<1000)(h54:∀m,n=m+1->∀x,x∈f->∃p t y T de,x=num p::strX t::num y::(T++[.sl false 6 de])/\(∀v,v∈de->isVal v)/\∃a b c d w e f a' b' c' d' w' e' f',T=typC a b c d w e f/\sT n (typC a' b' c' d' w' e' f')/\∀N,200+n<=N->Gam.pureD (callF tab ext N) 49 [.agg (typC a b c d w e f),nat (m+1)]=some (.agg (typC a' b' c' d' w' e' f')))(hτ:canon 0 τ=some (tfH n a b c d w e f acc0 acc1 m q [] 0)):∃acc,acc.length=kOf n f.length 6/\(∀x,x∈acc->(sF n) x)/\∀M,(200+n)<=M->run (callF tab ext M) 0 M (.loop (loopAt 49 2)) τ=some (.exit 4,tfE n a b c d w e f acc0 acc1 m q acc (kOf n f.length 6)):=by
 have hkk:kOf n f.length 6<=f.length/\kOf n f.length 6<=6:=kOf_le ..;have hK:kOf n f.length 6<=6:=by omega
 have key:∃acc:qaV,acc.length=kOf n f.length 6/\(∀x,x∈acc->(sF n) x)/\∀M,(200+n)<=M->kOf n f.length 6<M->run (callF tab ext M) 0 M (.loop (loopAt 49 2)) τ=some (.exit 4,tfE n a b c d w e f acc0 acc1 m q acc (kOf n f.length 6)):=?_
 ·grind
 refine loop_acc (nIn:=0) (b:=loopAt 49 2) (B:=(200+n)) (H:=fun j acc=>tfH n a b c d w e f acc0 acc1 m q acc j) (k:=kOf n f.length 6) (e:=.exit 4) (E:=fun acc=>tfE n a b c d w e f acc0 acc1 m q acc (kOf n f.length 6)) (sF n) hτ (fun j acc hj hacc=>?_) (fun acc hacc M hM=>?_) (by simp)
 ·have hj1:j<f.length:=by omega
  have hj2:j<6:=by omega
  obtain ⟨n,rfl⟩:∃m,n=m+1:=by
   cases n with
   |zero=>grind[kOf]
   |succ m=>grind
  obtain ⟨x0,t0,y0,T0,de,hv,hde,a1,b1,c1,d1,w1,e1,f1,a2,b2,c2,d2,w2,e2,f2,rfl,hs,hc⟩:=h54 n rfl _ (qal hj1);have hg:f[j]?=some (fldC x0 t0 y0 a1 b1 c1 d1 w1 e1 f1 de):=by rw [qad hj1,hv];rfl
  obtain ⟨acc4,i1,i3,i2⟩:=td_loop (n+1) a b c d w e f acc0 acc1 acc m q j x0 t0 y0 a1 b1 c1 d1 w1 e1 f1 de hde (τ:=⟨[(1,num (Int.ofNat (n+1+1))),(2,.ptr 0 0 0),(4,.ptr 1 0 0),(5,.bs 2 0 m),(6,.bs 3 0 q),(7,.bs 4 0 j),(10,nat j),(11,.ptr 5 0 0),(12,.bs 6 0 0),(13,nat 0)],[.var (typC a b c d w e f),.var zTyp,.row 1 acc0,.row 7 acc1,.row 11 acc,.var (fldC x0 t0 y0 a1 b1 c1 d1 w1 e1 f1 de),.row 6 []]⟩) (by kernel_rfl);have i4:min de.length 2<=2:=Nat.min_le_right _ _;generalize min de.length 2=z at i1 i2 i4;exact ⟨(fldC x0 (cutT 40 t0) y0 a2 b2 c2 d2 w2 e2 f2 (acc4.take z)),tfN (n+1) a b c d w e f acc0 acc1 m q acc j ((fldC x0 (cutT 40 t0) y0 a2 b2 c2 d2 w2 e2 f2 (acc4.take z))),⟨_,_,_,_,_,_,_,_,_,_,_,rfl,cutT_le 40 t0,hs,by grind,fun v hv=>i3 v (List.mem_of_mem_take hv)⟩,tf_canon ..,fun M hM=>run_of [(71,.b true),(74,.b true),(78,.b true),(85,.e (fldC x0 t0 y0 a1 b1 c1 d1 w1 e1 f1 de)),(112,.i (Int.ofNat (min t0.size 40))),(113,.cut),(117,.i (Int.ofNat (n+1))),(118,.p (.agg (typC a2 b2 c2 d2 w2 e2 f2))),(126,.app),(81,.i (Int.ofNat (j+1)))] [(.exit 6,tdE (n+1) a b c d w e f acc0 acc1 acc m q j x0 t0 y0 a1 b1 c1 d1 w1 e1 f1 de acc4 z)] (pf12 (lt_nat (j:=j) (k:=f.length) hj1) (lt_lit hj2) (gt_one n) hg (i2 M (by omega)) (min_int t0.size 40) (cut_ok t0.size 40) (dec_nat (j:=n+1) (by omega)) (hc M (by omega)) (show 0+z<=acc4.length by omega) (app_ok (acc:=acc) j 4 160 hacc.symm (by omega) (by omega)) (next_nat (j:=j) (by omega))) (lo':=[]) (by kernel_rfl)⟩
 cases n with
 |zero=>
  have e0:kOf 0 f.length 6=0:=rfl;rw [e0];cases h1:decide (Int.ofNat 0<Int.ofNat f.length) with
  |true=>exact run_of [(71,.b true)] [] (pf1 h1) (lo':=[]) (by kernel_rfl)
  |false=>exact run_of [(71,.b false)] [] (pf1 h1) (lo':=[]) (by kernel_rfl)
 |succ n=>
  have e1:kOf (n+1) f.length 6=min f.length 6:=rfl;rw [e1];generalize hq:min f.length 6=q;by_cases h6:q<f.length;·exact run_of [(71,.b true),(74,.b false)] [] (pf2 (lt_nat (j:=q) (k:=f.length) h6) (nlt_nat (j:=q) (k:=6) (by omega))) (lo':=[]) (by kernel_rfl)
  exact run_of [(71,.b false)] [] (pf1 (nlt_nat (j:=q) (k:=f.length) h6)) (lo':=[]) (by kernel_rfl)
theorem typ_fin (n:Nat)(a b c d:Int)(w e f acc acc1 acc2:qaV)(m q z:Nat)(h1:acc.length=m)(h2:acc1.length=q)(h3:acc2.length=z)(M:Nat)
  (g1:run (callF tab ext M) 0 M (.loop (loopAt 49 0)) (twH n a b c d w e f [] 0)=some (.exit 0,twE n a b c d w e f acc m)) (g2:run (callF tab ext M) 0 M (.loop (loopAt 49 1)) (teH n a b c d w e f acc m [] 0)=some (.exit 2,teE n a b c d w e f acc m acc1 q))
  (g3:run (callF tab ext M) 0 M (.loop (loopAt 49 2)) (tfH n a b c d w e f acc acc1 m q [] 0)=some (.exit 4,tfE n a b c d w e f acc acc1 m q acc2 z)):
  Gam.pureD (callF tab ext (M+1)) 49 [.agg (typC a b c d w e f),nat (n+1)]=some (.agg (typC a b c d acc acc1 acc2)):=by
 have hd:(X.agg [num a,num b,num c,num d,.bs 0 0 m,.bs 1 0 q,.bs 2 0 z]).data [.row 1 acc,.row 7 acc1,.row 11 acc2] false=some (.agg (typC a b c d acc acc1 acc2)):=by subst h1 h2 h3;simp [X.data,dataL,rowOf,num,typC]
 exact pure_of [] [(.exit 0,twE n a b c d w e f acc m),(.exit 2,teE n a b c d w e f acc m acc1 q),(.exit 4,tfE n a b c d w e f acc acc1 m q acc2 z)] (pf3 g1 g2 g3) (x:=.agg [num a,num b,num c,num d,.bs 0 0 m,.bs 1 0 q,.bs 2 0 z]) (bx:=[.row 1 acc,.row 7 acc1,.row 11 acc2]) (by kernel_rfl) hd
theorem short_typ:∀(n:Nat) (c:List X),n<1000->isTyp n c->∃a b c' d w e f a' b' c'' d' w' e' f',c=typC a b c' d w e f/\sT (n+1) (typC a' b' c'' d' w' e' f')/\∀N,200+(n+1)<=N->Gam.pureD (callF tab ext N) 49 [.agg (typC a b c' d w e f),nat (n+1)]=some (.agg (typC a' b' c'' d' w' e' f')):=by
 intro n;induction n with
 |zero=>
  rintro _ hn ⟨a,b,c,d,w,e,f,rfl,hw⟩
  obtain ⟨acc,h1,p1,g1⟩:=tw_loop 0 a b c d w e f hw (τ:=twH 0 a b c d w e f [] 0) (by kernel_rfl);have q1:min w.length 6<=6:=Nat.min_le_right _ _;generalize min w.length 6=m at h1 g1 q1;obtain ⟨acc1,h2,p2,g2⟩:=te_loop 0 a b c d w e f acc m (by omega) (fun m hm=>by omega) (τ:=teH 0 a b c d w e f acc m [] 0) (by kernel_rfl);have q2:=(kOf_le 0 e.length 2).2;generalize kOf 0 e.length 2=q at h2 g2 q2;obtain ⟨acc2,h3,p3,g3⟩:=tf_loop 0 a b c d w e f acc acc1 m q (by omega) (fun m hm=>by omega) (τ:=tfH 0 a b c d w e f acc acc1 m q [] 0) (by kernel_rfl);have q3:=(kOf_le 0 f.length 6).2;generalize kOf 0 f.length 6=z at h3 g3 q3;refine ⟨a,b,c,d,w,e,f,a,b,c,d,acc,acc1,acc2,rfl,⟨a,b,c,d,acc,acc1,acc2,rfl,by omega,p1,by omega,p2,by omega,p3⟩,fun N hN=>?_⟩;obtain ⟨M,rfl⟩:∃M,N=M+1:=⟨N-1,by omega⟩
  grind[typ_fin]
 |succ n ih=>
  rintro _ hn ⟨a,b,c,d,w,e,f,rfl,hw,he,hf⟩
  obtain ⟨acc,h1,p1,g1⟩:=tw_loop (n+1) a b c d w e f hw (τ:=twH (n+1) a b c d w e f [] 0) (by kernel_rfl);have q1:min w.length 6<=6:=Nat.min_le_right _ _;generalize min w.length 6=m at h1 g1 q1;obtain ⟨acc1,h2,p2,g2⟩:=te_loop (n+1) a b c d w e f acc m (by omega) (fun m hm x hx=>by grind) (τ:=teH (n+1) a b c d w e f acc m [] 0) (by kernel_rfl);have q2:=(kOf_le (n+1) e.length 2).2;generalize kOf (n+1) e.length 2=q at h2 g2 q2;obtain ⟨acc2,h3,p3,g3⟩:=tf_loop (n+1) a b c d w e f acc acc1 m q (by omega) (fun m hm x hx=>by
   obtain rfl:n=m:=by omega
   obtain ⟨p,t,y,T,de,h1,h2,h3⟩:=hf x hx;exact ⟨p,t,y,T,de,h1,h3,ih T (by omega) h2⟩) (τ:=tfH (n+1) a b c d w e f acc acc1 m q [] 0) (by kernel_rfl)
  have q3:=(kOf_le (n+1) f.length 6).2;generalize kOf (n+1) f.length 6=z at h3 g3 q3;refine ⟨a,b,c,d,w,e,f,a,b,c,d,acc,acc1,acc2,rfl,⟨a,b,c,d,acc,acc1,acc2,rfl,by omega,p1,by omega,p2,by omega,p3⟩,fun N hN=>?_⟩;obtain ⟨M,rfl⟩:∃M,N=M+1:=⟨N-1,by omega⟩
  grind[typ_fin]
def nodC (name text:qaW)(k1 k2 k3 k4 k5 k6 a b c d:Int)(w e f ty ex ru ca ne:qaV):List X:=[strX name,num k1,num k2,num k3,num k4,num k5,num k6,strX text,num a,num b,num c,num d,.sl false 1 w,.sl false 7 e,.sl false 11 f,.sl false 7 ty,.sl false 5 ex,.sl false 6 ru,.sl false 2 ca,.sl false 1 ne]
def nodB (name text:qaW)(k1 k2 k3 k4 k5 k6 a b c d:Int)(w e f ty ru ca ne:qaV)(i m:Nat):List X:=[strX name,num k1,num k2,num k3,num k4,num k5,num k6,strX text,num a,num b,num c,num d,.sl false 1 w,.sl false 7 e,.sl false 11 f,.sl false 7 ty,.bs i 0 m,.sl false 6 ru,.sl false 2 ca,.sl false 1 ne]
def zNod:List X:=[noText,num 0,num 0,num 0,num 0,num 0,num 0,noText,num 0,num 0,num 0,num 0,.sl true 1 [],.sl true 7 [],.sl true 11 [],.sl true 7 [],.sl true 5 [],.sl true 6 [],.sl true 2 [],.sl true 1 []]
def isCall (c:List X):Prop:=∃t l,c=[strX t,.sl false 6 l]/\∀x,x∈l->isRule x
section
variable (name text:qaW) (k1 k2 k3 k4 k5 k6 a b c d:Int) (w e f ty ex ru ca ne:qaV) (acc:qaV) (j:Nat) (x:List X)
def qaH:St:=⟨[(1,.ptr 0 0 0),(2,.ptr 1 0 0),(3,.ptr 2 0 0),(4,nat j)],[.var (nodC name text k1 k2 k3 k4 k5 k6 a b c d w e f ty ex ru ca ne),.var zNod,.var [.bs 3 0 j],.row 6 acc]⟩
def qaN:St:=⟨[(1,.ptr 0 0 0),(2,.ptr 1 0 0),(3,.ptr 2 0 0),(4,nat (j+1))],[.var (nodC name text k1 k2 k3 k4 k5 k6 a b c d w e f ty ex ru ca ne),.var zNod,.var [.bs 4 0 (j+1)],.dead,.row 6 (acc++[x])]⟩
def qaE:St:=⟨[(1,.ptr 0 0 0),(2,.ptr 1 0 0),(3,.ptr 2 0 0),(4,nat j),(18,boolX false)],[.var (nodC name text k1 k2 k3 k4 k5 k6 a b c d w e f ty ex ru ca ne),.var zNod,.var [.bs 3 0 j],.row 6 acc]⟩
theorem qa_canon:canon 0 (qaN name text k1 k2 k3 k4 k5 k6 a b c d w e f ty ex ru ca ne acc j x)=some (qaH name text k1 k2 k3 k4 k5 k6 a b c d w e f ty ex ru ca ne (acc++[x]) (j+1)):=by kernel_rfl
end
theorem qa_loop (name text:qaW)(k1 k2 k3 k4 k5 k6 a b c d:Int)(w e f ty ex ru ca ne:qaV)(hl:∀x,x∈ex->isExp 3 x)(hτ:canon 0 τ=some (qaH name text k1 k2 k3 k4 k5 k6 a b c d w e f ty ex ru ca ne [] 0)):∃acc,acc.length=min ex.length 4/\(∀x,x∈acc->(isRule) x)/\∀M,40<=M->run (callF tab ext M) 0 M (.loop (loopAt 16 0)) τ=some (.exit 0,qaE name text k1 k2 k3 k4 k5 k6 a b c d w e f ty ex ru ca ne acc (min ex.length 4)):=by
 have hK:min ex.length 4<=4:=by exact Nat.min_le_right _ _
 have key:∃acc:qaV,acc.length=min ex.length 4/\(∀x,x∈acc->(isRule) x)/\∀M,40<=M->min ex.length 4<M->run (callF tab ext M) 0 M (.loop (loopAt 16 0)) τ=some (.exit 0,qaE name text k1 k2 k3 k4 k5 k6 a b c d w e f ty ex ru ca ne acc (min ex.length 4)):=?_
 ·grind
 refine loop_acc (nIn:=0) (b:=loopAt 16 0) (B:=40) (H:=fun j acc=>qaH name text k1 k2 k3 k4 k5 k6 a b c d w e f ty ex ru ca ne acc j) (k:=min ex.length 4) (e:=.exit 0) (E:=fun acc=>qaE name text k1 k2 k3 k4 k5 k6 a b c d w e f ty ex ru ca ne acc (min ex.length 4)) (isRule) hτ (fun j acc hj hacc=>?_) (fun acc hacc M hM=>?_) (by simp)
 ·have hj1:j<ex.length:=by omega
  have hj2:j<4:=by omega
  have he:=hl _ (qal hj1);obtain ⟨o1,i1,t1,v1,e1,hv,_⟩:=isExp_zero he;rw [hv] at he;have hg:ex[j]?=some (expC o1 i1 t1 v1 e1):=by rw [qad hj1,hv];rfl
  exact ⟨(noText::expC o1 i1 t1 v1 e1),qaN name text k1 k2 k3 k4 k5 k6 a b c d w e f ty ex ru ca ne acc j ((noText::expC o1 i1 t1 v1 e1)),⟨⟨#[]⟩,_,rfl,he⟩,qa_canon ..,fun M hM=>run_of [(14,.b true),(17,.b true),(26,.e (expC o1 i1 t1 v1 e1)),(30,.app),(20,.i (Int.ofNat (j+1)))] [] (pf5 (lt_nat (j:=j) (k:=ex.length) hj1) (lt_lit hj2) hg (app_ok (acc:=acc) j 3 96 hacc.symm (by omega) (by omega)) (next_nat (j:=j) (by omega))) (lo':=[]) (by kernel_rfl)⟩
 generalize hq:min ex.length 4=q;by_cases h6:q<ex.length;·exact run_of [(14,.b true),(17,.b false)] [] (pf2 (lt_nat (j:=q) (k:=ex.length) h6) (nlt_nat (j:=q) (k:=4) (by omega))) (lo':=[]) (by kernel_rfl)
 exact run_of [(14,.b false)] [] (pf1 (nlt_nat (j:=q) (k:=ex.length) h6)) (lo':=[]) (by kernel_rfl)
section
variable (name text:qaW) (k1 k2 k3 k4 k5 k6 a b c d:Int) (w e f ty ru ca ne acc0:qaV) (acc:qaV) (j:Nat) (x:List X)
def qbH:St:=⟨[(1,.ptr 0 0 0),(2,.ptr 1 0 0),(3,.ptr 2 0 0),(5,nat j)],[.var (nodB name text k1 k2 k3 k4 k5 k6 a b c d w e f ty ru ca ne 3 j),.var zNod,.var [.sl false 6 acc0],.row 5 acc]⟩
def qbN:St:=⟨[(1,.ptr 0 0 0),(2,.ptr 1 0 0),(3,.ptr 2 0 0),(5,nat (j+1))],[.var (nodB name text k1 k2 k3 k4 k5 k6 a b c d w e f ty ru ca ne 4 (j+1)),.var zNod,.var [.sl false 6 acc0],.dead,.row 5 (acc++[x])]⟩
def qbE:St:=⟨[(1,.ptr 0 0 0),(2,.ptr 1 0 0),(3,.ptr 2 0 0),(5,nat j),(39,boolX false)],[.var (nodB name text k1 k2 k3 k4 k5 k6 a b c d w e f ty ru ca ne 3 j),.var zNod,.var [.sl false 6 acc0],.row 5 acc]⟩
theorem qb_canon:canon 0 (qbN name text k1 k2 k3 k4 k5 k6 a b c d w e f ty ru ca ne acc0 acc j x)=some (qbH name text k1 k2 k3 k4 k5 k6 a b c d w e f ty ru ca ne acc0 (acc++[x]) (j+1)):=by kernel_rfl
end
theorem qb_loop (name text:qaW)(k1 k2 k3 k4 k5 k6 a b c d:Int)(w e f ty ru ca ne acc0:qaV)(hl8:acc0.length<=8)(hl:∀x,x∈acc0->isRul0 x)(hτ:canon 0 τ=some (qbH name text k1 k2 k3 k4 k5 k6 a b c d w e f ty ru ca ne acc0 [] 0)):∃acc,acc.length=min acc0.length 8/\(∀x,x∈acc->(sE 4) x)/\∀M,40<=M->run (callF tab ext M) 0 M (.loop (loopAt 16 1)) τ=some (.exit 2,qbE name text k1 k2 k3 k4 k5 k6 a b c d w e f ty ru ca ne acc0 acc (min acc0.length 8)):=by
 have hK:min acc0.length 8<=8:=by exact Nat.min_le_right _ _
 have key:∃acc:qaV,acc.length=min acc0.length 8/\(∀x,x∈acc->(sE 4) x)/\∀M,40<=M->min acc0.length 8<M->run (callF tab ext M) 0 M (.loop (loopAt 16 1)) τ=some (.exit 2,qbE name text k1 k2 k3 k4 k5 k6 a b c d w e f ty ru ca ne acc0 acc (min acc0.length 8)):=?_
 ·grind
 refine loop_acc (nIn:=0) (b:=loopAt 16 1) (B:=40) (H:=fun j acc=>qbH name text k1 k2 k3 k4 k5 k6 a b c d w e f ty ru ca ne acc0 acc j) (k:=min acc0.length 8) (e:=.exit 2) (E:=fun acc=>qbE name text k1 k2 k3 k4 k5 k6 a b c d w e f ty ru ca ne acc0 acc (min acc0.length 8)) (sE 4) hτ (fun j acc hj hacc=>?_) (fun acc hacc M hM=>?_) (by simp)
 ·have hj1:j<acc0.length:=by omega
  have hj2:j<8:=by omega
  obtain ⟨s0,o1,i1,t1,v1,e1,hv,_,hs⟩:=hl _ (qal hj1);have hg:acc0[j]?=some (ruleC s0 o1 i1 t1 v1 e1):=by rw [qad hj1,hv];rfl
  exact ⟨(expC o1 i1 t1 v1 e1),qbN name text k1 k2 k3 k4 k5 k6 a b c d w e f ty ru ca ne acc0 acc j ((expC o1 i1 t1 v1 e1)),hs,qb_canon ..,fun M hM=>run_of [(39,.b true),(47,.e (ruleC s0 o1 i1 t1 v1 e1)),(51,.app),(41,.i (Int.ofNat (j+1)))] [] (pf4 (lt_nat (j:=j) (k:=acc0.length) hj1) hg (app_ok (acc:=acc) j 3 80 hacc.symm (by omega) (by omega)) (next_nat (j:=j) (by omega))) (lo':=[]) (by kernel_rfl)⟩
 generalize hq:min acc0.length 8=q;exact run_of [(39,.b false)] [] (pf1 (nlt_nat (j:=q) (k:=acc0.length) (by omega))) (lo':=[]) (by kernel_rfl)
section
variable (name text:qaW) (k1 k2 k3 k4 k5 k6 a b c d:Int) (w e f ty ru ca ne acc0:qaV) (m:Nat) (acc:qaV) (j:Nat) (x:List X)
def qcH:St:=⟨[(1,.ptr 0 0 0),(2,.ptr 1 0 0),(6,.bs 2 0 j),(7,nat j)],[.var (nodB name text k1 k2 k3 k4 k5 k6 a b c d w e f ty ru ca ne 3 m),.var zNod,.row 2 acc,.row 5 acc0]⟩
def qcN:St:=⟨[(1,.ptr 0 0 0),(2,.ptr 1 0 0),(6,.bs 4 0 (j+1)),(7,nat (j+1))],[.var (nodB name text k1 k2 k3 k4 k5 k6 a b c d w e f ty ru ca ne 3 m),.var zNod,.dead,.row 5 acc0,.row 2 (acc++[x])]⟩
def qcE:St:=⟨[(1,.ptr 0 0 0),(2,.ptr 1 0 0),(6,.bs 2 0 j),(7,nat j),(61,boolX false)],[.var (nodB name text k1 k2 k3 k4 k5 k6 a b c d w e f ty ru ca ne 3 m),.var zNod,.row 2 acc,.row 5 acc0]⟩
theorem qc_canon:canon 0 (qcN name text k1 k2 k3 k4 k5 k6 a b c d w e f ty ru ca ne acc0 m acc j x)=some (qcH name text k1 k2 k3 k4 k5 k6 a b c d w e f ty ru ca ne acc0 m (acc++[x]) (j+1)):=by kernel_rfl
end
theorem qc_loop (name text:qaW)(k1 k2 k3 k4 k5 k6 a b c d:Int)(w e f ty ru ca ne acc0:qaV)(m:Nat)(hl:∀x,x∈ca->isCall x)(hτ:canon 0 τ=some (qcH name text k1 k2 k3 k4 k5 k6 a b c d w e f ty ru ca ne acc0 m [] 0)):∃acc,acc.length=min ca.length 4/\(∀x,x∈acc->(fun _=>True) x)/\∀M,110<=M->run (callF tab ext M) 0 M (.loop (loopAt 16 2)) τ=some (.exit 4,qcE name text k1 k2 k3 k4 k5 k6 a b c d w e f ty ru ca ne acc0 m acc (min ca.length 4)):=by
 have hK:min ca.length 4<=4:=by exact Nat.min_le_right _ _
 have key:∃acc:qaV,acc.length=min ca.length 4/\(∀x,x∈acc->(fun _=>True) x)/\∀M,110<=M->min ca.length 4<M->run (callF tab ext M) 0 M (.loop (loopAt 16 2)) τ=some (.exit 4,qcE name text k1 k2 k3 k4 k5 k6 a b c d w e f ty ru ca ne acc0 m acc (min ca.length 4)):=?_
 ·grind
 refine loop_acc (nIn:=0) (b:=loopAt 16 2) (B:=110) (H:=fun j acc=>qcH name text k1 k2 k3 k4 k5 k6 a b c d w e f ty ru ca ne acc0 m acc j) (k:=min ca.length 4) (e:=.exit 4) (E:=fun acc=>qcE name text k1 k2 k3 k4 k5 k6 a b c d w e f ty ru ca ne acc0 m acc (min ca.length 4)) (fun _=>True) hτ (fun j acc hj hacc=>?_) (fun acc hacc M hM=>?_) (by simp)
 ·have hj1:j<ca.length:=by omega
  have hj2:j<4:=by omega
  obtain ⟨s0,l0,hv,hl0⟩:=hl _ (qal hj1);obtain ⟨l1,_,_,hc⟩:=short_map l0 hl0;have hg:ca[j]?=some [strX s0,.sl false 6 l0]:=by rw [qad hj1,hv]
  exact ⟨[strX (cutT 60 s0),.sl false 6 l1],qcN name text k1 k2 k3 k4 k5 k6 a b c d w e f ty ru ca ne acc0 m acc j ([strX (cutT 60 s0),.sl false 6 l1]),trivial,qc_canon ..,fun M hM=>run_of [(57,.b true),(60,.b true),(68,.e [strX s0,.sl false 6 l0]),(74,.e [strX s0,.sl false 6 l0]),(78,.i (Int.ofNat (min s0.size 60))),(79,.cut),(83,.e [strX s0,.sl false 6 l0]),(86,.p (.agg [.sl false 6 l1])),(89,.app),(63,.i (Int.ofNat (j+1)))] [] (pf10 (lt_nat (j:=j) (k:=ca.length) hj1) (lt_lit hj2) hg hg (min_int s0.size 60) (cut_ok s0.size 60) hg (hc M (by omega)) (app_ok (acc:=acc) j 2 40 hacc.symm (by omega) (by omega)) (next_nat (j:=j) (by omega))) (lo':=[]) (by kernel_rfl)⟩
 generalize hq:min ca.length 4=q;by_cases h6:q<ca.length;·exact run_of [(57,.b true),(60,.b false)] [] (pf2 (lt_nat (j:=q) (k:=ca.length) h6) (nlt_nat (j:=q) (k:=4) (by omega))) (lo':=[]) (by kernel_rfl)
 exact run_of [(57,.b false)] [] (pf1 (nlt_nat (j:=q) (k:=ca.length) h6)) (lo':=[]) (by kernel_rfl)
section
variable (name text:qaW) (k1 k2 k3 k4 k5 k6 a b c d:Int) (w e f ty ru ca ne acc0 acc1:qaV) (m q:Nat) (acc:qaV) (j:Nat) (x:List X)
def qdH:St:=⟨[(1,.ptr 0 0 0),(2,.ptr 1 0 0),(6,.bs 2 0 q),(8,.bs 3 0 j),(9,nat j)],[.var (nodB name text k1 k2 k3 k4 k5 k6 a b c d w e f ty ru ca ne 4 m),.var zNod,.row 2 acc1,.row 7 acc,.row 5 acc0]⟩
def qdN:St:=⟨[(1,.ptr 0 0 0),(2,.ptr 1 0 0),(6,.bs 2 0 q),(8,.bs 5 0 (j+1)),(9,nat (j+1))],[.var (nodB name text k1 k2 k3 k4 k5 k6 a b c d w e f ty ru ca ne 4 m),.var zNod,.row 2 acc1,.dead,.row 5 acc0,.row 7 (acc++[x])]⟩
def qdE:St:=⟨[(1,.ptr 0 0 0),(2,.ptr 1 0 0),(6,.bs 2 0 q),(8,.bs 3 0 j),(9,nat j),(98,boolX false)],[.var (nodB name text k1 k2 k3 k4 k5 k6 a b c d w e f ty ru ca ne 4 m),.var zNod,.row 2 acc1,.row 7 acc,.row 5 acc0]⟩
theorem qd_canon:canon 0 (qdN name text k1 k2 k3 k4 k5 k6 a b c d w e f ty ru ca ne acc0 acc1 m q acc j x)=some (qdH name text k1 k2 k3 k4 k5 k6 a b c d w e f ty ru ca ne acc0 acc1 m q (acc++[x]) (j+1)):=by kernel_rfl
end
theorem qd_loop (name text:qaW)(k1 k2 k3 k4 k5 k6 a b c d:Int)(w e f ty ru ca ne acc0 acc1:qaV)(m q:Nat)(hl:∀x,x∈ty->isTyp 3 x)(hτ:canon 0 τ=some (qdH name text k1 k2 k3 k4 k5 k6 a b c d w e f ty ru ca ne acc0 acc1 m q [] 0)):∃acc,acc.length=min ty.length 8/\(∀x,x∈acc->(sT 4) x)/\∀M,210<=M->run (callF tab ext M) 0 M (.loop (loopAt 16 3)) τ=some (.exit 6,qdE name text k1 k2 k3 k4 k5 k6 a b c d w e f ty ru ca ne acc0 acc1 m q acc (min ty.length 8)):=by
 have hK:min ty.length 8<=8:=by exact Nat.min_le_right _ _
 have key:∃acc:qaV,acc.length=min ty.length 8/\(∀x,x∈acc->(sT 4) x)/\∀M,210<=M->min ty.length 8<M->run (callF tab ext M) 0 M (.loop (loopAt 16 3)) τ=some (.exit 6,qdE name text k1 k2 k3 k4 k5 k6 a b c d w e f ty ru ca ne acc0 acc1 m q acc (min ty.length 8)):=?_
 ·grind
 refine loop_acc (nIn:=0) (b:=loopAt 16 3) (B:=210) (H:=fun j acc=>qdH name text k1 k2 k3 k4 k5 k6 a b c d w e f ty ru ca ne acc0 acc1 m q acc j) (k:=min ty.length 8) (e:=.exit 6) (E:=fun acc=>qdE name text k1 k2 k3 k4 k5 k6 a b c d w e f ty ru ca ne acc0 acc1 m q acc (min ty.length 8)) (sT 4) hτ (fun j acc hj hacc=>?_) (fun acc hacc M hM=>?_) (by simp)
 ·have hj1:j<ty.length:=by omega
  have hj2:j<8:=by omega
  obtain ⟨a1,b1,c1,d1,w1,e1,f1,a2,b2,c2,d2,w2,e2,f2,hv,hs,hc⟩:=short_typ 3 _ (by omega) (hl _ (qal hj1));have hg:ty[j]?=some (typC a1 b1 c1 d1 w1 e1 f1):=by rw [qad hj1,hv]
  exact ⟨(typC a2 b2 c2 d2 w2 e2 f2),qdN name text k1 k2 k3 k4 k5 k6 a b c d w e f ty ru ca ne acc0 acc1 m q acc j ((typC a2 b2 c2 d2 w2 e2 f2)),hs,qd_canon ..,fun M hM=>run_of [(94,.b true),(97,.b true),(105,.e (typC a1 b1 c1 d1 w1 e1 f1)),(107,.p (.agg (typC a2 b2 c2 d2 w2 e2 f2))),(109,.app),(100,.i (Int.ofNat (j+1)))] [] (pf6 (lt_nat (j:=j) (k:=ty.length) hj1) (lt_lit hj2) hg (hc M (by omega)) (app_ok (acc:=acc) j 3 104 hacc.symm (by omega) (by omega)) (next_nat (j:=j) (by omega))) (lo':=[]) (by kernel_rfl)⟩
 generalize hq:min ty.length 8=q;by_cases h6:q<ty.length;·exact run_of [(94,.b true),(97,.b false)] [] (pf2 (lt_nat (j:=q) (k:=ty.length) h6) (nlt_nat (j:=q) (k:=8) (by omega))) (lo':=[]) (by kernel_rfl)
 exact run_of [(94,.b false)] [] (pf1 (nlt_nat (j:=q) (k:=ty.length) h6)) (lo':=[]) (by kernel_rfl)
theorem short_node (name text:qaW)(k1 k2 k3 k4 k5 k6:Int)(T:List X)(ty ex ru ca ne:qaV)(hT:isTyp 3 T)(hty:∀x,x∈ty->isTyp 3 x)(hex:∀x,x∈ex->isExp 3 x)(hru:∀x,x∈ru->isRule x)(hca:∀x,x∈ca->isCall x):
  ∃a b c d w e f a' b' c' d' w' e' f' ty' ex' ru' ca' ne',T=typC a b c d w e f/\((cutT 60 name).size<=60/\(cutT 60 text).size<=60/\sT 4 (typC a' b' c' d' w' e' f')/\ex'.length<=8/\(∀x,x∈ex'->sE 4 x)/\ru'.length<=8/\∀x,x∈ru'->isRul0 x)/\∀N,220<=N->Gam.pureD (callF tab ext N) 16 [.agg (nodC name text k1 k2 k3 k4 k5 k6 a b c d w e f ty ex ru ca ne)]=some (.agg (nodC (cutT 60 name) (cutT 60 text) k1 k2 k3 k4 k5 k6 a' b' c' d' w' e' f' ty' ex' ru' ca' ne')):=by
 obtain ⟨a,b,c,d,w,e,f,a',b',c',d',w',e',f',rfl,hs,hc⟩:=short_typ 3 T (by omega) hT;obtain ⟨acc,h1,hr,g1⟩:=qa_loop name text k1 k2 k3 k4 k5 k6 a b c d w e f ty ex ru ca ne hex (τ:=qaH name text k1 k2 k3 k4 k5 k6 a b c d w e f ty ex ru ca ne [] 0) (by kernel_rfl);generalize min ex.length 4=m0 at h1 g1;obtain ⟨r1,hl8,hr1,hc1⟩:=short_map acc hr;obtain ⟨r2,hr8,hr2,hc2⟩:=short_map ru hru;obtain ⟨acc1,h2,p2,g2⟩:=qb_loop name text k1 k2 k3 k4 k5 k6 a b c d w e f ty ru ca ne r1 hl8 hr1 (τ:=⟨[(1,.ptr 0 0 0),(2,.ptr 1 0 0),(3,.ptr 2 0 0),(5,num 0)],[.var (nodB name text k1 k2 k3 k4 k5 k6 a b c d w e f ty ru ca ne 4 0),.var zNod,.var [.sl false 6 r1],.dead,.row 5 []]⟩) (by kernel_rfl);have q8:min r1.length 8<=8:=Nat.min_le_right _ _;generalize min r1.length 8=m1 at h2 g2 q8;obtain ⟨acc2,h3,_,g3⟩:=qc_loop name text k1 k2 k3 k4 k5 k6 a b c d w e f ty ru ca ne acc1 m1 hca (τ:=⟨[(1,.ptr 0 0 0),(2,.ptr 1 0 0),(6,.bs 4 0 0),(7,num 0)],[.var (nodB name text k1 k2 k3 k4 k5 k6 a b c d w e f ty ru ca ne 3 m1),.var zNod,.var [.sl false 6 r1],.row 5 acc1,.row 2 []]⟩) (by kernel_rfl);generalize min ca.length 4=m2 at h3 g3;obtain ⟨acc3,h4,_,g4⟩:=qd_loop name text k1 k2 k3 k4 k5 k6 a b c d w e f ty ru ca ne acc1 acc2 m1 m2 hty (τ:=⟨[(1,.ptr 0 0 0),(2,.ptr 1 0 0),(6,.bs 2 0 m2),(8,.bs 4 0 0),(9,num 0)],[.var (nodB name text k1 k2 k3 k4 k5 k6 a b c d w e f ty ru ca ne 3 m1),.var zNod,.row 2 acc2,.row 5 acc1,.row 7 []]⟩) (by kernel_rfl);generalize min ty.length 8=m3 at h4 g4;refine ⟨a,b,c,d,w,e,f,a',b',c',d',w',e',f',acc3,acc1,r2,acc2,ne.take (min ne.length 70),rfl,⟨cutT_le 60 name,cutT_le 60 text,hs,by omega,p2,hr8,hr2⟩,fun N hN=>?_⟩;obtain ⟨M,rfl⟩:∃M,N=M+1:=⟨N-1,by omega⟩;have hd:(X.agg [strX (cutT 60 name),num k1,num k2,num k3,num k4,num k5,num k6,strX (cutT 60 text),num a',num b',num c',num d',.sl false 1 w',.sl false 7 e',.sl false 11 f',.bs 0 0 m3,.bs 1 0 m1,.sl false 6 r2,.bs 2 0 m2,.sl false 1 (ne.take (min ne.length 70))]).data [.row 7 acc3,.row 5 acc1,.row 2 acc2] false
   =some (.agg (nodC (cutT 60 name) (cutT 60 text) k1 k2 k3 k4 k5 k6 a' b' c' d' w' e' f' acc3 acc1 r2 acc2 (ne.take (min ne.length 70)))):=by
  subst h2 h3 h4;simp [X.data,dataL,rowOf,num,strX,nodC]
 exact pure_of [(33,.p (.agg [.sl false 6 r1])),(114,.p (.agg [.sl false 6 r2])),(117,.p (.agg (typC a' b' c' d' w' e' f'))),(127,.i (Int.ofNat (min name.size 60))),(128,.cut),(134,.i (Int.ofNat (min text.size 60))),(135,.cut),(141,.i (Int.ofNat (min ne.length 70))),(142,.cut)]
  [(.exit 0,qaE name text k1 k2 k3 k4 k5 k6 a b c d w e f ty ex ru ca ne acc m0),(.exit 2,qbE name text k1 k2 k3 k4 k5 k6 a b c d w e f ty ru ca ne r1 acc1 m1),(.exit 4,qcE name text k1 k2 k3 k4 k5 k6 a b c d w e f ty ru ca ne acc1 m1 acc2 m2),(.exit 6,qdE name text k1 k2 k3 k4 k5 k6 a b c d w e f ty ru ca ne acc1 acc2 m1 m2 acc3 m3)]
  (pf14 (g1 M (by omega)) (show 0+m0<=acc.length by omega) (show Gam.pureD (callF tab ext M) 48 [.agg [.sl false 6 (acc.take m0)]]=some (.agg [.sl false 6 r1]) by grind) (g2 M (by omega)) (g3 M (by omega)) (g4 M (by omega)) (hc2 M (by omega)) (hc M (by omega)) (min_int name.size 60) (cut_ok name.size 60) (min_int text.size 60) (cut_ok text.size 60) (min_int ne.length 70) (cut_ok ne.length 70))
  (x:=.agg [strX (cutT 60 name),num k1,num k2,num k3,num k4,num k5,num k6,strX (cutT 60 text),num a',num b',num c',num d',.sl false 1 w',.sl false 7 e',.sl false 11 f',.bs 0 0 m3,.bs 1 0 m1,.sl false 6 r2,.bs 2 0 m2,.sl false 1 (ne.take (min ne.length 70))]) (bx:=[.row 7 acc3,.row 5 acc1,.row 2 acc2]) (by kernel_rfl) hd
end Go.Proofs.YtonnphbfclaigaaGreatDoor
