/-.-/
import Derived.Test.YtpcjeobkehmhpaaGreatDoorV15
set_option linter.all false
namespace Go.Proofs.YtpcjeobkehmhpaaGreatDoor
open Go.Em
set_option maxRecDepth 100000
variable {τ:St}
def dK (a b c d:Int)(w e f:qaX):List X:=[num a,num b,num c,num d,.sl false 1 w,.sl false 7 e,.sl false 11 f]
def Ut:List X:=[num 0,num 0,num 0,num 0,.sl true 1 [],.sl true 7 [],.sl true 11 []]
def zcj (x:Int)(t:qaY)(y a b c d:Int)(w e f de:qaX):List X:=[num x,aF t,num y,num a,num b,num c,num d,.sl false 1 w,.sl false 7 e,.sl false 11 f,.sl false 6 de]
def ziX (c:List X):Prop:=∃t,c=[aF t]
def Jg:Nat->List X->Prop
 |0,c=>∃a b c' d w e f,c=dK a b c' d w e f/\∀x,x∈w->ziX x
 |n+1,c=>∃a b c' d w e f,c=dK a b c' d w e f/\(∀x,x∈w->ziX x)/\(∀x,x∈e->Jg n x)/\∀x,x∈f->∃p t y T de,x=num p::aF t::num y::(T++[.sl false 6 de])/\Jg n T/\∀v,v∈de->isVal v
def sT:Nat->List X->Prop
 |0,_=>False
 |h+1,x=>∃a b c d w e f,x=dK a b c d w e f/\w.length<=6/\(∀v,v∈w->∃t:qaY,v=[aF t]/\t.size<=40)/\e.length<=2/\(∀y,y∈e->sT h y)/\f.length<=6/\∀y,y∈f->∃p t q a b c d w e f de,y=zcj p t q a b c d w e f de/\t.size<=40/\sT h (dK a b c d w e f)/\de.length<=2/\∀v,v∈de->∃u:Val,v=(aV 2 u).cells
def sF (h:Nat)(y:List X):Prop:=∃p t q a b c d w e f de,y=zcj p t q a b c d w e f de/\t.size<=40/\sT h (dK a b c d w e f)/\de.length<=2/\∀v,v∈de->∃u:Val,v=(aV 2 u).cells
section
variable (n:Nat) (a b c d:Int) (w e f:qaX) (acc:qaX) (j:Nat) (x:List X)
def twH:St:=⟨[(1,num (Int.ofNat (n+1))),(2,.ptr 0 0 0),(4,.ptr 1 0 0),(5,.bs 2 0 j),(6,.sl true 7 []),(7,.sl true 11 []),(8,nat j)],[.var (dK a b c d w e f),.var Ut,.row 1 acc]⟩
def twN:St:=⟨[(1,num (Int.ofNat (n+1))),(2,.ptr 0 0 0),(4,.ptr 1 0 0),(5,.bs 3 0 (j+1)),(6,.sl true 7 []),(7,.sl true 11 []),(8,nat (j+1))],[.var (dK a b c d w e f),.var Ut,.dead,.row 1 (acc++[x])]⟩
def twE:St:=⟨[(1,num (Int.ofNat (n+1))),(2,.ptr 0 0 0),(4,.ptr 1 0 0),(5,.bs 2 0 j),(6,.sl true 7 []),(7,.sl true 11 []),(8,nat j),(22,aj false)],[.var (dK a b c d w e f),.var Ut,.row 1 acc]⟩
theorem zcS:canon 0 (twN n a b c d w e f acc j x)=some (twH n a b c d w e f (acc++[x]) (j+1)):=by kernel_rfl
end
theorem XM (n:Nat)(a b c d:Int)(w e f:qaX)(hl:∀x,x∈w->ziX x)(hτ:canon 0 τ=some (twH n a b c d w e f [] 0)):∃acc,acc.length=min w.length 6/\(∀x,x∈acc->(fun x=>∃t:qaY,x=[aF t]/\t.size<=40) x)/\∀M,40<=M->run (ah tab ext M) 0 M (.loop (aH 40 0)) τ=some (.exit 0,twE n a b c d w e f acc (min w.length 6)):=by
 have N:min w.length 6<=6:=by exact Nat.min_le_right _ _
 have J:∃acc:qaX,acc.length=min w.length 6/\(∀x,x∈acc->(fun x=>∃t:qaY,x=[aF t]/\t.size<=40) x)/\∀M,40<=M->min w.length 6<M->run (ah tab ext M) 0 M (.loop (aH 40 0)) τ=some (.exit 0,twE n a b c d w e f acc (min w.length 6)):=?_
 ·grind
 refine jq (nIn:=0) (b:=aH 40 0) (B:=40) (H:=fun j acc=>twH n a b c d w e f acc j) (k:=min w.length 6) (e:=.exit 0) (E:=fun acc=>twE n a b c d w e f acc (min w.length 6)) (fun x=>∃t:qaY,x=[aF t]/\t.size<=40) hτ (fun j acc O h=>?_) (fun acc h M A=>?_) (by simp)
 ·have l:j<w.length:=by omega
  have m:j<6:=by omega
  obtain ⟨v,F⟩:=hl _ (qag l);have u:w[j]?=some [aF v]:=by rw [qad l,F]
  exact ⟨[aF (gV 40 v)],twN n a b c d w e f acc j ([aF (gV 40 v)]),⟨_,rfl,jP 40 v⟩,zcS ..,fun M A=>ruA [(18,.b true),(21,.b true),(29,.e [aF v]),(34,.e [aF v]),(37,.i (Int.ofNat (min v.size 40))),(38,.cut),(40,.app),(24,.i (Int.ofNat (j+1)))] (pf8 (aK (j:=j) (k:=w.length) l) (lM m) u u (jo v.size 40) (ng v.size 40) (dO (acc:=acc) j 2 16 h.symm (by omega) (by omega)) (aB (j:=j) (by omega)))⟩
 generalize L:min w.length 6=q;by_cases y:q<w.length;·exact ruA [(18,.b true),(21,.b false)] (pf2 (aK (j:=q) (k:=w.length) y) (aN (j:=q) (k:=6) (by omega)))
 exact ruA [(18,.b false)] (pf1 (aN (j:=q) (k:=w.length) y))
section
variable (n:Nat) (a b c d:Int) (w e f acc0:qaX) (m:Nat) (acc:qaX) (j:Nat) (x:List X)
def teH:St:=⟨[(1,num (Int.ofNat (n+1))),(2,.ptr 0 0 0),(4,.ptr 1 0 0),(5,.bs 2 0 m),(6,.bs 3 0 j),(7,.sl true 11 []),(9,nat j)],[.var (dK a b c d w e f),.var Ut,.row 1 acc0,.row 7 acc]⟩
def teN:St:=⟨[(1,num (Int.ofNat (n+1))),(2,.ptr 0 0 0),(4,.ptr 1 0 0),(5,.bs 2 0 m),(6,.bs 4 0 (j+1)),(7,.sl true 11 []),(9,nat (j+1))],[.var (dK a b c d w e f),.var Ut,.row 1 acc0,.dead,.row 7 (acc++[x])]⟩
def teE:St:=⟨[(1,num (Int.ofNat (n+1))),(2,.ptr 0 0 0),(4,.ptr 1 0 0),(5,.bs 2 0 m),(6,.bs 3 0 j),(7,.sl true 11 []),(9,nat j),(53,aj false)],[.var (dK a b c d w e f),.var Ut,.row 1 acc0,.row 7 acc]⟩
theorem zcW:canon 0 (teN n a b c d w e f acc0 m acc j x)=some (teH n a b c d w e f acc0 m (acc++[x]) (j+1)):=by kernel_rfl
end
theorem XU (n:Nat)(a b c d:Int)(w e f acc0:qaX)(m:Nat)(hn:n<1000)(h54:∀m,n=m+1->∀x,x∈e->∃a b c d w e f a' b' c' d' w' e' f',x=dK a b c d w e f/\sT n (dK a' b' c' d' w' e' f')/\∀N,200+n<=N->Gam.aC (ah tab ext N) 40 [.agg (dK a b c d w e f),nat (m+1)]=some (.agg (dK a' b' c' d' w' e' f')))(hτ:canon 0 τ=some (teH n a b c d w e f acc0 m [] 0)):∃acc,acc.length=kOf n e.length 2/\(∀x,x∈acc->(sT n) x)/\∀M,(200+n)<=M->run (ah tab ext M) 0 M (.loop (aH 40 1)) τ=some (.exit 2,teE n a b c d w e f acc0 m acc (kOf n e.length 2)):=by
 have pa:kOf n e.length 2<=e.length/\kOf n e.length 2<=2:=wH ..;have hK:kOf n e.length 2<=2:=by omega
 have pb:∃acc:qaX,acc.length=kOf n e.length 2/\(∀x,x∈acc->(sT n) x)/\∀M,(200+n)<=M->kOf n e.length 2<M->run (ah tab ext M) 0 M (.loop (aH 40 1)) τ=some (.exit 2,teE n a b c d w e f acc0 m acc (kOf n e.length 2)):=?_
 ·grind
 refine jq (nIn:=0) (b:=aH 40 1) (B:=(200+n)) (H:=fun j acc=>teH n a b c d w e f acc0 m acc j) (k:=kOf n e.length 2) (e:=.exit 2) (E:=fun acc=>teE n a b c d w e f acc0 m acc (kOf n e.length 2)) (sT n) hτ (fun j acc hj h=>?_) (fun acc h M hM=>?_) (by simp)
 ·have l:j<e.length:=by omega
  have y:j<2:=by omega
  obtain ⟨n,rfl⟩:∃m,n=m+1:=by
   cases n with
   |zero=>grind[kOf]
   |succ m=>grind
  obtain ⟨S,V,Z,d1,Y,u,U,A,P,L,O,Q,J,F,hv,hs,hc⟩:=h54 n rfl _ (qag l);have hg:e[j]?=some (dK S V Z d1 Y u U):=by rw [qad l,hv]
  exact ⟨(dK A P L O Q J F),teN (n+1) a b c d w e f acc0 m acc j ((dK A P L O Q J F)),hs,zcW ..,fun M hM=>ruA [(45,.b true),(48,.b true),(52,.b true),(60,.e (dK S V Z d1 Y u U)),(63,.i (Int.ofNat (n+1))),(64,.p (.agg (dK A P L O Q J F))),(66,.app),(55,.i (Int.ofNat (j+1)))] (pf8 (aK (j:=j) (k:=e.length) l) (lM y) (MW n) hg (JI (j:=n+1) (by omega)) (hc M (by omega)) (dO (acc:=acc) j 3 104 h.symm (by omega) (by omega)) (aB (j:=j) (by omega)))⟩
 cases n with
 |zero=>
  have e0:kOf 0 e.length 2=0:=rfl;rw [e0];cases h1:decide (Int.ofNat 0<Int.ofNat e.length) with
  |true=>exact ruA [(45,.b true)] (pf1 h1)
  |false=>exact ruA [(45,.b false)] (pf1 h1)
 |succ n=>
  have u:kOf (n+1) e.length 2=min e.length 2:=rfl;rw [u];generalize hq:min e.length 2=q;by_cases W:q<e.length;·exact ruA [(45,.b true),(48,.b false)] (pf2 (aK (j:=q) (k:=e.length) W) (aN (j:=q) (k:=2) (by omega)))
  exact ruA [(45,.b false)] (pf1 (aN (j:=q) (k:=e.length) W))
section
variable (n:Nat) (a b c d:Int) (w e f acc0 gU jA:qaX) (m q z:Nat) (x0:Int) (t0:qaY) (y0 p1 p2 p3 p4:Int) (pw pe pf de:qaX) (acc:qaX) (j:Nat) (x:List X)
def tdH:St:=⟨[(1,num (Int.ofNat (n+1))),(2,.ptr 0 0 0),(4,.ptr 1 0 0),(5,.bs 2 0 m),(6,.bs 3 0 q),(7,.bs 4 0 z),(10,nat z),(11,.ptr 5 0 0),(12,.bs 6 0 j),(13,nat j)],[.var (dK a b c d w e f),.var Ut,.row 1 acc0,.row 7 gU,.row 11 jA,.var (zcj x0 t0 y0 p1 p2 p3 p4 pw pe pf de),.row 6 acc]⟩
def tdN:St:=⟨[(1,num (Int.ofNat (n+1))),(2,.ptr 0 0 0),(4,.ptr 1 0 0),(5,.bs 2 0 m),(6,.bs 3 0 q),(7,.bs 4 0 z),(10,nat z),(11,.ptr 5 0 0),(12,.bs 7 0 (j+1)),(13,nat (j+1))],[.var (dK a b c d w e f),.var Ut,.row 1 acc0,.row 7 gU,.row 11 jA,.var (zcj x0 t0 y0 p1 p2 p3 p4 pw pe pf de),.dead,.row 6 (acc++[x])]⟩
def tdE:St:=⟨[(1,num (Int.ofNat (n+1))),(2,.ptr 0 0 0),(4,.ptr 1 0 0),(5,.bs 2 0 m),(6,.bs 3 0 q),(7,.bs 4 0 z),(10,nat z),(11,.ptr 5 0 0),(12,.bs 6 0 j),(13,nat j),(95,aj false)],[.var (dK a b c d w e f),.var Ut,.row 1 acc0,.row 7 gU,.row 11 jA,.var (zcj x0 t0 y0 p1 p2 p3 p4 pw pe pf de),.row 6 acc]⟩
theorem zcX:canon 0 (tdN n a b c d w e f acc0 gU jA m q z x0 t0 y0 p1 p2 p3 p4 pw pe pf de acc j x)=some (tdH n a b c d w e f acc0 gU jA m q z x0 t0 y0 p1 p2 p3 p4 pw pe pf de (acc++[x]) (j+1)):=by kernel_rfl
end
theorem zhq (n:Nat)(a b c d:Int)(w e f acc0 gU jA:qaX)(m q z:Nat)(x0:Int)(t0:qaY)(y0 p1 p2 p3 p4:Int)(pw pe pf de:qaX)(hl:∀x,x∈de->isVal x)(hτ:canon 0 τ=some (tdH n a b c d w e f acc0 gU jA m q z x0 t0 y0 p1 p2 p3 p4 pw pe pf de [] 0)):∃acc,acc.length=min de.length 2/\(∀x,x∈acc->(fun x=>∃u:Val,x=(aV 2 u).cells) x)/\∀M,40<=M->run (ah tab ext M) 0 M (.loop (aH 40 3)) τ=some (.exit 6,tdE n a b c d w e f acc0 gU jA m q z x0 t0 y0 p1 p2 p3 p4 pw pe pf de acc (min de.length 2)):=by
 have hK:min de.length 2<=2:=by exact Nat.min_le_right _ _
 have pa:∃acc:qaX,acc.length=min de.length 2/\(∀x,x∈acc->(fun x=>∃u:Val,x=(aV 2 u).cells) x)/\∀M,40<=M->min de.length 2<M->run (ah tab ext M) 0 M (.loop (aH 40 3)) τ=some (.exit 6,tdE n a b c d w e f acc0 gU jA m q z x0 t0 y0 p1 p2 p3 p4 pw pe pf de acc (min de.length 2)):=?_
 ·grind
 refine jq (nIn:=0) (b:=aH 40 3) (B:=40) (H:=fun j acc=>tdH n a b c d w e f acc0 gU jA m q z x0 t0 y0 p1 p2 p3 p4 pw pe pf de acc j) (k:=min de.length 2) (e:=.exit 6) (E:=fun acc=>tdE n a b c d w e f acc0 gU jA m q z x0 t0 y0 p1 p2 p3 p4 pw pe pf de acc (min de.length 2)) (fun x=>∃u:Val,x=(aV 2 u).cells) hτ (fun j acc hj h=>?_) (fun acc h M S=>?_) (by simp)
 ·have l:j<de.length:=by omega
  have y:j<2:=by omega
  obtain ⟨v,V⟩:=hl _ (qag l);have Z:de[j]?=some v.cells:=by rw [qad l,V]
  have P:=jX 2 v;generalize hw:aV 2 v=w1 at P;obtain ⟨U,W,a3,a4,a5,Y⟩:=v;obtain ⟨J,O,F,N,A,L⟩:=w1;exact ⟨(Val.mk J O F N A L).cells,tdN n a b c d w e f acc0 gU jA m q z x0 t0 y0 p1 p2 p3 p4 pw pe pf de acc j ((Val.mk J O F N A L).cells),⟨_,by rw [hw]⟩,zcX ..,fun M S=>ruA [(91,.b true),(94,.b true),(102,.e (Val.mk U W a3 a4 a5 Y).cells),(104,.p (.agg (Val.mk J O F N A L).cells)),(106,.app),(97,.i (Int.ofNat (j+1)))] (pf6 (aK (j:=j) (k:=de.length) l) (lM y) Z (P M (by omega) (by omega)) (dO (acc:=acc) j 6 88 h.symm (by omega) (by omega)) (aB (j:=j) (by omega)))⟩
 generalize hq:min de.length 2=q;by_cases Q:q<de.length;·exact ruA [(91,.b true),(94,.b false)] (pf2 (aK (j:=q) (k:=de.length) Q) (aN (j:=q) (k:=2) (by omega)))
 exact ruA [(91,.b false)] (pf1 (aN (j:=q) (k:=de.length) Q))
section
variable (n:Nat) (a b c d:Int) (w e f acc0 gU:qaX) (m q:Nat) (acc:qaX) (j:Nat) (x:List X)
def tfH:St:=⟨[(1,num (Int.ofNat (n+1))),(2,.ptr 0 0 0),(4,.ptr 1 0 0),(5,.bs 2 0 m),(6,.bs 3 0 q),(7,.bs 4 0 j),(10,nat j)],[.var (dK a b c d w e f),.var Ut,.row 1 acc0,.row 7 gU,.row 11 acc]⟩
def tfN:St:=⟨[(1,num (Int.ofNat (n+1))),(2,.ptr 0 0 0),(4,.ptr 1 0 0),(5,.bs 2 0 m),(6,.bs 3 0 q),(7,.bs 7 0 (j+1)),(10,nat (j+1))],[.var (dK a b c d w e f),.var Ut,.row 1 acc0,.row 7 gU,.dead,.var x,.dead,.row 11 (acc++[x])]⟩
def tfE:St:=⟨[(1,num (Int.ofNat (n+1))),(2,.ptr 0 0 0),(4,.ptr 1 0 0),(5,.bs 2 0 m),(6,.bs 3 0 q),(7,.bs 4 0 j),(10,nat j),(79,aj false)],[.var (dK a b c d w e f),.var Ut,.row 1 acc0,.row 7 gU,.row 11 acc]⟩
theorem zcV:canon 0 (tfN n a b c d w e f acc0 gU m q acc j x)=some (tfH n a b c d w e f acc0 gU m q (acc++[x]) (j+1)):=by kernel_rfl
end
theorem XR (n:Nat)(a b c d:Int)(w e f acc0 gU:qaX)(m q:Nat)(hn:n<1000)(h54:∀m,n=m+1->∀x,x∈f->∃p t y T de,x=num p::aF t::num y::(T++[.sl false 6 de])/\(∀v,v∈de->isVal v)/\∃a b c d w e f a' b' c' d' w' e' f',T=dK a b c d w e f/\sT n (dK a' b' c' d' w' e' f')/\∀N,200+n<=N->Gam.aC (ah tab ext N) 40 [.agg (dK a b c d w e f),nat (m+1)]=some (.agg (dK a' b' c' d' w' e' f')))(hτ:canon 0 τ=some (tfH n a b c d w e f acc0 gU m q [] 0)):∃acc,acc.length=kOf n f.length 6/\(∀x,x∈acc->(sF n) x)/\∀M,(200+n)<=M->run (ah tab ext M) 0 M (.loop (aH 40 2)) τ=some (.exit 4,tfE n a b c d w e f acc0 gU m q acc (kOf n f.length 6)):=by
 have pc:kOf n f.length 6<=f.length/\kOf n f.length 6<=6:=wH ..;have hK:kOf n f.length 6<=6:=by omega
 have pd:∃acc:qaX,acc.length=kOf n f.length 6/\(∀x,x∈acc->(sF n) x)/\∀M,(200+n)<=M->kOf n f.length 6<M->run (ah tab ext M) 0 M (.loop (aH 40 2)) τ=some (.exit 4,tfE n a b c d w e f acc0 gU m q acc (kOf n f.length 6)):=?_
 ·grind
 refine jq (nIn:=0) (b:=aH 40 2) (B:=(200+n)) (H:=fun j acc=>tfH n a b c d w e f acc0 gU m q acc j) (k:=kOf n f.length 6) (e:=.exit 4) (E:=fun acc=>tfE n a b c d w e f acc0 gU m q acc (kOf n f.length 6)) (sF n) hτ (fun j acc hj u=>?_) (fun acc u M hM=>?_) (by simp)
 ·have F:j<f.length:=by omega
  have pb:j<6:=by omega
  obtain ⟨n,rfl⟩:∃m,n=m+1:=by
   cases n with
   |zero=>grind[kOf]
   |succ m=>grind
  obtain ⟨A,h,L,T0,de,W,pa,S,O,V,Q,P,J,U,a2,b2,Y,Z,w2,e2,f2,rfl,hs,hc⟩:=h54 n rfl _ (qag F);have hg:f[j]?=some (zcj A h L S O V Q P J U de):=by rw [qad F,W];rfl
  obtain ⟨l,i1,i3,i2⟩:=zhq (n+1) a b c d w e f acc0 gU acc m q j A h L S O V Q P J U de pa (τ:=⟨[(1,num (Int.ofNat (n+1+1))),(2,.ptr 0 0 0),(4,.ptr 1 0 0),(5,.bs 2 0 m),(6,.bs 3 0 q),(7,.bs 4 0 j),(10,nat j),(11,.ptr 5 0 0),(12,.bs 6 0 0),(13,nat 0)],[.var (dK a b c d w e f),.var Ut,.row 1 acc0,.row 7 gU,.row 11 acc,.var (zcj A h L S O V Q P J U de),.row 6 []]⟩) (by kernel_rfl);have i4:min de.length 2<=2:=Nat.min_le_right _ _;generalize min de.length 2=z at i1 i2 i4;exact ⟨(zcj A (gV 40 h) L a2 b2 Y Z w2 e2 f2 (l.take z)),tfN (n+1) a b c d w e f acc0 gU m q acc j ((zcj A (gV 40 h) L a2 b2 Y Z w2 e2 f2 (l.take z))),⟨_,_,_,_,_,_,_,_,_,_,_,rfl,jP 40 h,hs,by grind,fun v W=>i3 v (List.mem_of_mem_take W)⟩,zcV ..,fun M hM=>ruB [(71,.b true),(74,.b true),(78,.b true),(85,.e (zcj A h L S O V Q P J U de)),(112,.i (Int.ofNat (min h.size 40))),(113,.cut),(117,.i (Int.ofNat (n+1))),(118,.p (.agg (dK a2 b2 Y Z w2 e2 f2))),(126,.app),(81,.i (Int.ofNat (j+1)))] [(.exit 6,tdE (n+1) a b c d w e f acc0 gU acc m q j A h L S O V Q P J U de l z)] (zpC (aK (j:=j) (k:=f.length) F) (lM pb) (MW n) hg (i2 M (by omega)) (jo h.size 40) (ng h.size 40) (JI (j:=n+1) (by omega)) (hc M (by omega)) (show 0+z<=l.length by omega) (dO (acc:=acc) j 4 160 u.symm (by omega) (by omega)) (aB (j:=j) (by omega)))⟩
 cases n with
 |zero=>
  have e0:kOf 0 f.length 6=0:=rfl;rw [e0];cases h1:decide (Int.ofNat 0<Int.ofNat f.length) with
  |true=>exact ruA [(71,.b true)] (pf1 h1)
  |false=>exact ruA [(71,.b false)] (pf1 h1)
 |succ n=>
  have J:kOf (n+1) f.length 6=min f.length 6:=rfl;rw [J];generalize hq:min f.length 6=q;by_cases h6:q<f.length;·exact ruA [(71,.b true),(74,.b false)] (pf2 (aK (j:=q) (k:=f.length) h6) (aN (j:=q) (k:=6) (by omega)))
  exact ruA [(71,.b false)] (pf1 (aN (j:=q) (k:=f.length) h6))
theorem XL (n:Nat)(a b c d:Int)(w e f acc gU jA:qaX)(m q z:Nat)(h1:acc.length=m)(h2:gU.length=q)(h3:jA.length=z)(M:Nat)
  (g1:run (ah tab ext M) 0 M (.loop (aH 40 0)) (twH n a b c d w e f [] 0)=some (.exit 0,twE n a b c d w e f acc m)) (g2:run (ah tab ext M) 0 M (.loop (aH 40 1)) (teH n a b c d w e f acc m [] 0)=some (.exit 2,teE n a b c d w e f acc m gU q))
  (g3:run (ah tab ext M) 0 M (.loop (aH 40 2)) (tfH n a b c d w e f acc gU m q [] 0)=some (.exit 4,tfE n a b c d w e f acc gU m q jA z)):
  Gam.aC (ah tab ext (M+1)) 40 [.agg (dK a b c d w e f),nat (n+1)]=some (.agg (dK a b c d acc gU jA)):=by
 have h:(X.agg [num a,num b,num c,num d,.bs 0 0 m,.bs 1 0 q,.bs 2 0 z]).data [.row 1 acc,.row 7 gU,.row 11 jA] false=some (.agg (dK a b c d acc gU jA)):=by subst h1 h2 h3;simp [X.data,eG,rowOf,num,dK]
 exact eU [] [(.exit 0,twE n a b c d w e f acc m),(.exit 2,teE n a b c d w e f acc m gU q),(.exit 4,tfE n a b c d w e f acc gU m q jA z)] (pf3 g1 g2 g3) (x:=.agg [num a,num b,num c,num d,.bs 0 0 m,.bs 1 0 q,.bs 2 0 z]) (bx:=[.row 1 acc,.row 7 gU,.row 11 jA]) (by kernel_rfl) h
theorem KY:∀(n:Nat) (c:List X),n<1000->Jg n c->∃a b c' d w e f a' b' c'' d' w' e' f',c=dK a b c' d w e f/\sT (n+1) (dK a' b' c'' d' w' e' f')/\∀N,200+(n+1)<=N->Gam.aC (ah tab ext N) 40 [.agg (dK a b c' d w e f),nat (n+1)]=some (.agg (dK a' b' c'' d' w' e' f')):=by
 intro n;induction n with
 |zero=>
  rintro _ hn ⟨a,b,c,d,w,e,f,rfl,S⟩
  obtain ⟨h,B,F,P⟩:=XM 0 a b c d w e f S (τ:=twH 0 a b c d w e f [] 0) (by kernel_rfl);have J:min w.length 6<=6:=Nat.min_le_right _ _;generalize min w.length 6=m at B P J;obtain ⟨j,A,O,U⟩:=XU 0 a b c d w e f h m (by omega) (fun m H=>by omega) (τ:=teH 0 a b c d w e f h m [] 0) (by kernel_rfl);have V:=(wH 0 e.length 2).2;generalize kOf 0 e.length 2=q at A U V;obtain ⟨l,u,Q,E⟩:=XR 0 a b c d w e f h j m q (by omega) (fun m H=>by omega) (τ:=tfH 0 a b c d w e f h j m q [] 0) (by kernel_rfl);have L:=(wH 0 f.length 6).2;generalize kOf 0 f.length 6=z at u E L;refine ⟨a,b,c,d,w,e,f,a,b,c,d,h,j,l,rfl,⟨a,b,c,d,h,j,l,rfl,by omega,F,by omega,O,by omega,Q⟩,fun N Z=>?_⟩;obtain ⟨M,rfl⟩:=pR_ N
  grind[XL]
 |succ n ih=>
  rintro _ hn ⟨a,b,c,d,w,e,f,rfl,S,he,Y⟩
  obtain ⟨h,B,F,P⟩:=XM (n+1) a b c d w e f S (τ:=twH (n+1) a b c d w e f [] 0) (by kernel_rfl);have J:min w.length 6<=6:=Nat.min_le_right _ _;generalize min w.length 6=m at B P J;obtain ⟨j,A,O,U⟩:=XU (n+1) a b c d w e f h m (by omega) (fun m H x W=>by grind) (τ:=teH (n+1) a b c d w e f h m [] 0) (by kernel_rfl);have V:=(wH (n+1) e.length 2).2;generalize kOf (n+1) e.length 2=q at A U V;obtain ⟨l,u,Q,E⟩:=XR (n+1) a b c d w e f h j m q (by omega) (fun m H x W=>by
   obtain rfl:n=m:=by omega
   obtain ⟨p,t,y,T,de,B,A,u⟩:=Y x W;exact ⟨p,t,y,T,de,B,u,ih T (by omega) A⟩) (τ:=tfH (n+1) a b c d w e f h j m q [] 0) (by kernel_rfl)
  have L:=(wH (n+1) f.length 6).2;generalize kOf (n+1) f.length 6=z at u E L;refine ⟨a,b,c,d,w,e,f,a,b,c,d,h,j,l,rfl,⟨a,b,c,d,h,j,l,rfl,by omega,F,by omega,O,by omega,Q⟩,fun N Z=>?_⟩;obtain ⟨M,rfl⟩:=pR_ N
  grind[XL]
def ziz (name text:qaY)(k1 k2 k3 k4 k5 k6 a b c d:Int)(w e f ty ex ru ca ne:qaX):List X:=[aF name,num k1,num k2,num k3,num k4,num k5,num k6,aF text,num a,num b,num c,num d,.sl false 1 w,.sl false 7 e,.sl false 11 f,.sl false 7 ty,.sl false 5 ex,.sl false 6 ru,.sl false 2 ca,.sl false 1 ne]
def Xp (name text:qaY)(k1 k2 k3 k4 k5 k6 a b c d:Int)(w e f ty ru ca ne:qaX)(i m:Nat):List X:=[aF name,num k1,num k2,num k3,num k4,num k5,num k6,aF text,num a,num b,num c,num d,.sl false 1 w,.sl false 7 e,.sl false 11 f,.sl false 7 ty,.bs i 0 m,.sl false 6 ru,.sl false 2 ca,.sl false 1 ne]
def N9:List X:=[bD,num 0,num 0,num 0,num 0,num 0,num 0,bD,num 0,num 0,num 0,num 0,.sl true 1 [],.sl true 7 [],.sl true 11 [],.sl true 7 [],.sl true 5 [],.sl true 6 [],.sl true 2 [],.sl true 1 []]
def Tj (c:List X):Prop:=∃t l,c=[aF t,.sl false 6 l]/\∀x,x∈l->ug x
section
variable (name text:qaY) (k1 k2 k3 k4 k5 k6 a b c d:Int) (w e f ty ex ru ca ne:qaX) (acc:qaX) (j:Nat) (x:List X)
def qaH:St:=⟨[(1,.ptr 0 0 0),(2,.ptr 1 0 0),(3,.ptr 2 0 0),(4,nat j)],[.var (ziz name text k1 k2 k3 k4 k5 k6 a b c d w e f ty ex ru ca ne),.var N9,.var [.bs 3 0 j],.row 6 acc]⟩
def qaN:St:=⟨[(1,.ptr 0 0 0),(2,.ptr 1 0 0),(3,.ptr 2 0 0),(4,nat (j+1))],[.var (ziz name text k1 k2 k3 k4 k5 k6 a b c d w e f ty ex ru ca ne),.var N9,.var [.bs 4 0 (j+1)],.dead,.row 6 (acc++[x])]⟩
def qaE:St:=⟨[(1,.ptr 0 0 0),(2,.ptr 1 0 0),(3,.ptr 2 0 0),(4,nat j),(18,aj false)],[.var (ziz name text k1 k2 k3 k4 k5 k6 a b c d w e f ty ex ru ca ne),.var N9,.var [.bs 3 0 j],.row 6 acc]⟩
theorem zdv:canon 0 (qaN name text k1 k2 k3 k4 k5 k6 a b c d w e f ty ex ru ca ne acc j x)=some (qaH name text k1 k2 k3 k4 k5 k6 a b c d w e f ty ex ru ca ne (acc++[x]) (j+1)):=by kernel_rfl
end
theorem zic (name text:qaY)(k1 k2 k3 k4 k5 k6 a b c d:Int)(w e f ty ex ru ca ne:qaX)(hl:∀x,x∈ex->Ji 3 x)(hτ:canon 0 τ=some (qaH name text k1 k2 k3 k4 k5 k6 a b c d w e f ty ex ru ca ne [] 0)):∃acc,acc.length=min ex.length 4/\(∀x,x∈acc->(ug) x)/\∀M,40<=M->run (ah tab ext M) 0 M (.loop (aH 14 0)) τ=some (.exit 0,qaE name text k1 k2 k3 k4 k5 k6 a b c d w e f ty ex ru ca ne acc (min ex.length 4)):=by
 have V:min ex.length 4<=4:=by exact Nat.min_le_right _ _
 have Q:∃acc:qaX,acc.length=min ex.length 4/\(∀x,x∈acc->(ug) x)/\∀M,40<=M->min ex.length 4<M->run (ah tab ext M) 0 M (.loop (aH 14 0)) τ=some (.exit 0,qaE name text k1 k2 k3 k4 k5 k6 a b c d w e f ty ex ru ca ne acc (min ex.length 4)):=?_
 ·grind
 refine jq (nIn:=0) (b:=aH 14 0) (B:=40) (H:=fun j acc=>qaH name text k1 k2 k3 k4 k5 k6 a b c d w e f ty ex ru ca ne acc j) (k:=min ex.length 4) (e:=.exit 0) (E:=fun acc=>qaE name text k1 k2 k3 k4 k5 k6 a b c d w e f ty ex ru ca ne acc (min ex.length 4)) (ug) hτ (fun j acc U h=>?_) (fun acc h M O=>?_) (by simp)
 ·have l:j<ex.length:=by omega
  have J:j<4:=by omega
  have F:=hl _ (qag l);obtain ⟨n,A,u,y,m,L,_⟩:=VR F;rw [L] at F;have P:ex[j]?=some (jw n A u y m):=by rw [qad l,L];rfl
  exact ⟨(bD::jw n A u y m),qaN name text k1 k2 k3 k4 k5 k6 a b c d w e f ty ex ru ca ne acc j ((bD::jw n A u y m)),⟨⟨#[]⟩,_,rfl,F⟩,zdv ..,fun M O=>ruA [(14,.b true),(17,.b true),(26,.e (jw n A u y m)),(30,.app),(20,.i (Int.ofNat (j+1)))] (pf5 (aK (j:=j) (k:=ex.length) l) (lM J) P (dO (acc:=acc) j 3 96 h.symm (by omega) (by omega)) (aB (j:=j) (by omega)))⟩
 generalize S:min ex.length 4=q;by_cases N:q<ex.length;·exact ruA [(14,.b true),(17,.b false)] (pf2 (aK (j:=q) (k:=ex.length) N) (aN (j:=q) (k:=4) (by omega)))
 exact ruA [(14,.b false)] (pf1 (aN (j:=q) (k:=ex.length) N))
section
variable (name text:qaY) (k1 k2 k3 k4 k5 k6 a b c d:Int) (w e f ty ru ca ne acc0:qaX) (acc:qaX) (j:Nat) (x:List X)
def qbH:St:=⟨[(1,.ptr 0 0 0),(2,.ptr 1 0 0),(3,.ptr 2 0 0),(5,nat j)],[.var (Xp name text k1 k2 k3 k4 k5 k6 a b c d w e f ty ru ca ne 3 j),.var N9,.var [.sl false 6 acc0],.row 5 acc]⟩
def qbN:St:=⟨[(1,.ptr 0 0 0),(2,.ptr 1 0 0),(3,.ptr 2 0 0),(5,nat (j+1))],[.var (Xp name text k1 k2 k3 k4 k5 k6 a b c d w e f ty ru ca ne 4 (j+1)),.var N9,.var [.sl false 6 acc0],.dead,.row 5 (acc++[x])]⟩
def qbE:St:=⟨[(1,.ptr 0 0 0),(2,.ptr 1 0 0),(3,.ptr 2 0 0),(5,nat j),(39,aj false)],[.var (Xp name text k1 k2 k3 k4 k5 k6 a b c d w e f ty ru ca ne 3 j),.var N9,.var [.sl false 6 acc0],.row 5 acc]⟩
theorem zdu:canon 0 (qbN name text k1 k2 k3 k4 k5 k6 a b c d w e f ty ru ca ne acc0 acc j x)=some (qbH name text k1 k2 k3 k4 k5 k6 a b c d w e f ty ru ca ne acc0 (acc++[x]) (j+1)):=by kernel_rfl
end
theorem zib (name text:qaY)(k1 k2 k3 k4 k5 k6 a b c d:Int)(w e f ty ru ca ne acc0:qaX)(hl8:acc0.length<=8)(hl:∀x,x∈acc0->wI x)(hτ:canon 0 τ=some (qbH name text k1 k2 k3 k4 k5 k6 a b c d w e f ty ru ca ne acc0 [] 0)):∃acc,acc.length=min acc0.length 8/\(∀x,x∈acc->(sE 4) x)/\∀M,40<=M->run (ah tab ext M) 0 M (.loop (aH 14 1)) τ=some (.exit 2,qbE name text k1 k2 k3 k4 k5 k6 a b c d w e f ty ru ca ne acc0 acc (min acc0.length 8)):=by
 have V:min acc0.length 8<=8:=by exact Nat.min_le_right _ _
 have Q:∃acc:qaX,acc.length=min acc0.length 8/\(∀x,x∈acc->(sE 4) x)/\∀M,40<=M->min acc0.length 8<M->run (ah tab ext M) 0 M (.loop (aH 14 1)) τ=some (.exit 2,qbE name text k1 k2 k3 k4 k5 k6 a b c d w e f ty ru ca ne acc0 acc (min acc0.length 8)):=?_
 ·grind
 refine jq (nIn:=0) (b:=aH 14 1) (B:=40) (H:=fun j acc=>qbH name text k1 k2 k3 k4 k5 k6 a b c d w e f ty ru ca ne acc0 acc j) (k:=min acc0.length 8) (e:=.exit 2) (E:=fun acc=>qbE name text k1 k2 k3 k4 k5 k6 a b c d w e f ty ru ca ne acc0 acc (min acc0.length 8)) (sE 4) hτ (fun j acc U h=>?_) (fun acc h M J=>?_) (by simp)
 ·have l:j<acc0.length:=by omega
  have N:j<8:=by omega
  obtain ⟨F,u,A,n,y,m,O,_,L⟩:=hl _ (qag l);have P:acc0[j]?=some (fQ F u A n y m):=by rw [qad l,O];rfl
  exact ⟨(jw u A n y m),qbN name text k1 k2 k3 k4 k5 k6 a b c d w e f ty ru ca ne acc0 acc j ((jw u A n y m)),L,zdu ..,fun M J=>ruA [(39,.b true),(47,.e (fQ F u A n y m)),(51,.app),(41,.i (Int.ofNat (j+1)))] (pf4 (aK (j:=j) (k:=acc0.length) l) P (dO (acc:=acc) j 3 80 h.symm (by omega) (by omega)) (aB (j:=j) (by omega)))⟩
 generalize S:min acc0.length 8=q;exact ruA [(39,.b false)] (pf1 (aN (j:=q) (k:=acc0.length) (by omega)))
section
variable (name text:qaY) (k1 k2 k3 k4 k5 k6 a b c d:Int) (w e f ty ru ca ne acc0:qaX) (m:Nat) (acc:qaX) (j:Nat) (x:List X)
def qcH:St:=⟨[(1,.ptr 0 0 0),(2,.ptr 1 0 0),(6,.bs 2 0 j),(7,nat j)],[.var (Xp name text k1 k2 k3 k4 k5 k6 a b c d w e f ty ru ca ne 3 m),.var N9,.row 2 acc,.row 5 acc0]⟩
def qcN:St:=⟨[(1,.ptr 0 0 0),(2,.ptr 1 0 0),(6,.bs 4 0 (j+1)),(7,nat (j+1))],[.var (Xp name text k1 k2 k3 k4 k5 k6 a b c d w e f ty ru ca ne 3 m),.var N9,.dead,.row 5 acc0,.row 2 (acc++[x])]⟩
def qcE:St:=⟨[(1,.ptr 0 0 0),(2,.ptr 1 0 0),(6,.bs 2 0 j),(7,nat j),(61,aj false)],[.var (Xp name text k1 k2 k3 k4 k5 k6 a b c d w e f ty ru ca ne 3 m),.var N9,.row 2 acc,.row 5 acc0]⟩
theorem zds:canon 0 (qcN name text k1 k2 k3 k4 k5 k6 a b c d w e f ty ru ca ne acc0 m acc j x)=some (qcH name text k1 k2 k3 k4 k5 k6 a b c d w e f ty ru ca ne acc0 m (acc++[x]) (j+1)):=by kernel_rfl
end
theorem zia (name text:qaY)(k1 k2 k3 k4 k5 k6 a b c d:Int)(w e f ty ru ca ne acc0:qaX)(m:Nat)(hl:∀x,x∈ca->Tj x)(hτ:canon 0 τ=some (qcH name text k1 k2 k3 k4 k5 k6 a b c d w e f ty ru ca ne acc0 m [] 0)):∃acc,acc.length=min ca.length 4/\(∀x,x∈acc->(fun _=>True) x)/\∀M,110<=M->run (ah tab ext M) 0 M (.loop (aH 14 2)) τ=some (.exit 4,qcE name text k1 k2 k3 k4 k5 k6 a b c d w e f ty ru ca ne acc0 m acc (min ca.length 4)):=by
 have V:min ca.length 4<=4:=by exact Nat.min_le_right _ _
 have Q:∃acc:qaX,acc.length=min ca.length 4/\(∀x,x∈acc->(fun _=>True) x)/\∀M,110<=M->min ca.length 4<M->run (ah tab ext M) 0 M (.loop (aH 14 2)) τ=some (.exit 4,qcE name text k1 k2 k3 k4 k5 k6 a b c d w e f ty ru ca ne acc0 m acc (min ca.length 4)):=?_
 ·grind
 refine jq (nIn:=0) (b:=aH 14 2) (B:=110) (H:=fun j acc=>qcH name text k1 k2 k3 k4 k5 k6 a b c d w e f ty ru ca ne acc0 m acc j) (k:=min ca.length 4) (e:=.exit 4) (E:=fun acc=>qcE name text k1 k2 k3 k4 k5 k6 a b c d w e f ty ru ca ne acc0 m acc (min ca.length 4)) (fun _=>True) hτ (fun j acc U l=>?_) (fun acc l M N=>?_) (by simp)
 ·have n:j<ca.length:=by omega
  have y:j<4:=by omega
  obtain ⟨h,u,O,J⟩:=hl _ (qag n);obtain ⟨F,_,_,P⟩:=Bc u J;have A:ca[j]?=some [aF h,.sl false 6 u]:=by rw [qad n,O]
  exact ⟨[aF (gV 60 h),.sl false 6 F],qcN name text k1 k2 k3 k4 k5 k6 a b c d w e f ty ru ca ne acc0 m acc j ([aF (gV 60 h),.sl false 6 F]),trivial,zds ..,fun M N=>ruA [(57,.b true),(60,.b true),(68,.e [aF h,.sl false 6 u]),(74,.e [aF h,.sl false 6 u]),(78,.i (Int.ofNat (min h.size 60))),(79,.cut),(83,.e [aF h,.sl false 6 u]),(86,.p (.agg [.sl false 6 F])),(89,.app),(63,.i (Int.ofNat (j+1)))] (znC (aK (j:=j) (k:=ca.length) n) (lM y) A A (jo h.size 60) (ng h.size 60) A (P M (by omega)) (dO (acc:=acc) j 2 40 l.symm (by omega) (by omega)) (aB (j:=j) (by omega)))⟩
 generalize S:min ca.length 4=q;by_cases L:q<ca.length;·exact ruA [(57,.b true),(60,.b false)] (pf2 (aK (j:=q) (k:=ca.length) L) (aN (j:=q) (k:=4) (by omega)))
 exact ruA [(57,.b false)] (pf1 (aN (j:=q) (k:=ca.length) L))
section
variable (name text:qaY) (k1 k2 k3 k4 k5 k6 a b c d:Int) (w e f ty ru ca ne acc0 gU:qaX) (m q:Nat) (acc:qaX) (j:Nat) (x:List X)
def qdH:St:=⟨[(1,.ptr 0 0 0),(2,.ptr 1 0 0),(6,.bs 2 0 q),(8,.bs 3 0 j),(9,nat j)],[.var (Xp name text k1 k2 k3 k4 k5 k6 a b c d w e f ty ru ca ne 4 m),.var N9,.row 2 gU,.row 7 acc,.row 5 acc0]⟩
def qdN:St:=⟨[(1,.ptr 0 0 0),(2,.ptr 1 0 0),(6,.bs 2 0 q),(8,.bs 5 0 (j+1)),(9,nat (j+1))],[.var (Xp name text k1 k2 k3 k4 k5 k6 a b c d w e f ty ru ca ne 4 m),.var N9,.row 2 gU,.dead,.row 5 acc0,.row 7 (acc++[x])]⟩
def qdE:St:=⟨[(1,.ptr 0 0 0),(2,.ptr 1 0 0),(6,.bs 2 0 q),(8,.bs 3 0 j),(9,nat j),(98,aj false)],[.var (Xp name text k1 k2 k3 k4 k5 k6 a b c d w e f ty ru ca ne 4 m),.var N9,.row 2 gU,.row 7 acc,.row 5 acc0]⟩
theorem zdr:canon 0 (qdN name text k1 k2 k3 k4 k5 k6 a b c d w e f ty ru ca ne acc0 gU m q acc j x)=some (qdH name text k1 k2 k3 k4 k5 k6 a b c d w e f ty ru ca ne acc0 gU m q (acc++[x]) (j+1)):=by kernel_rfl
end
theorem zh9 (name text:qaY)(k1 k2 k3 k4 k5 k6 a b c d:Int)(w e f ty ru ca ne acc0 gU:qaX)(m q:Nat)(hl:∀x,x∈ty->Jg 3 x)(hτ:canon 0 τ=some (qdH name text k1 k2 k3 k4 k5 k6 a b c d w e f ty ru ca ne acc0 gU m q [] 0)):∃acc,acc.length=min ty.length 8/\(∀x,x∈acc->(sT 4) x)/\∀M,210<=M->run (ah tab ext M) 0 M (.loop (aH 14 3)) τ=some (.exit 6,qdE name text k1 k2 k3 k4 k5 k6 a b c d w e f ty ru ca ne acc0 gU m q acc (min ty.length 8)):=by
 have hK:min ty.length 8<=8:=by exact Nat.min_le_right _ _
 have pa:∃acc:qaX,acc.length=min ty.length 8/\(∀x,x∈acc->(sT 4) x)/\∀M,210<=M->min ty.length 8<M->run (ah tab ext M) 0 M (.loop (aH 14 3)) τ=some (.exit 6,qdE name text k1 k2 k3 k4 k5 k6 a b c d w e f ty ru ca ne acc0 gU m q acc (min ty.length 8)):=?_
 ·grind
 refine jq (nIn:=0) (b:=aH 14 3) (B:=210) (H:=fun j acc=>qdH name text k1 k2 k3 k4 k5 k6 a b c d w e f ty ru ca ne acc0 gU m q acc j) (k:=min ty.length 8) (e:=.exit 6) (E:=fun acc=>qdE name text k1 k2 k3 k4 k5 k6 a b c d w e f ty ru ca ne acc0 gU m q acc (min ty.length 8)) (sT 4) hτ (fun j acc hj h=>?_) (fun acc h M Z=>?_) (by simp)
 ·have l:j<ty.length:=by omega
  have n:j<8:=by omega
  obtain ⟨P,S,W,Y,V,O,Q,u,L,F,J,N,A,y,hv,hs,hc⟩:=KY 3 _ (by omega) (hl _ (qag l));have hg:ty[j]?=some (dK P S W Y V O Q):=by rw [qad l,hv]
  exact ⟨(dK u L F J N A y),qdN name text k1 k2 k3 k4 k5 k6 a b c d w e f ty ru ca ne acc0 gU m q acc j ((dK u L F J N A y)),hs,zdr ..,fun M Z=>ruA [(94,.b true),(97,.b true),(105,.e (dK P S W Y V O Q)),(107,.p (.agg (dK u L F J N A y))),(109,.app),(100,.i (Int.ofNat (j+1)))] (pf6 (aK (j:=j) (k:=ty.length) l) (lM n) hg (hc M (by omega)) (dO (acc:=acc) j 3 104 h.symm (by omega) (by omega)) (aB (j:=j) (by omega)))⟩
 generalize hq:min ty.length 8=q;by_cases U:q<ty.length;·exact ruA [(94,.b true),(97,.b false)] (pf2 (aK (j:=q) (k:=ty.length) U) (aN (j:=q) (k:=8) (by omega)))
 exact ruA [(94,.b false)] (pf1 (aN (j:=q) (k:=ty.length) U))
theorem UL (name text:qaY)(k1 k2 k3 k4 k5 k6:Int)(T:List X)(ty ex ru ca ne:qaX)(hT:Jg 3 T)(hty:∀x,x∈ty->Jg 3 x)(hex:∀x,x∈ex->Ji 3 x)(hru:∀x,x∈ru->ug x)(hca:∀x,x∈ca->Tj x):
  ∃a b c d w e f a' b' c' d' w' e' f' ty' ex' ru' ca' ne',T=dK a b c d w e f/\((gV 60 name).size<=60/\(gV 60 text).size<=60/\sT 4 (dK a' b' c' d' w' e' f')/\ex'.length<=8/\(∀x,x∈ex'->sE 4 x)/\ru'.length<=8/\∀x,x∈ru'->wI x)/\∀N,220<=N->Gam.aC (ah tab ext N) 14 [.agg (ziz name text k1 k2 k3 k4 k5 k6 a b c d w e f ty ex ru ca ne)]=some (.agg (ziz (gV 60 name) (gV 60 text) k1 k2 k3 k4 k5 k6 a' b' c' d' w' e' f' ty' ex' ru' ca' ne')):=by
 obtain ⟨a,b,c,d,w,e,f,a',b',c',d',w',e',f',rfl,S,U⟩:=KY 3 T (by omega) hT;obtain ⟨l,h1,V,O⟩:=zic name text k1 k2 k3 k4 k5 k6 a b c d w e f ty ex ru ca ne hex (τ:=qaH name text k1 k2 k3 k4 k5 k6 a b c d w e f ty ex ru ca ne [] 0) (by kernel_rfl);generalize min ex.length 4=m0 at h1 O;obtain ⟨m,E,y,W⟩:=Bc l V;obtain ⟨q,u,A,B⟩:=Bc ru hru;obtain ⟨j,L,Z,Q⟩:=zib name text k1 k2 k3 k4 k5 k6 a b c d w e f ty ru ca ne m E y (τ:=⟨[(1,.ptr 0 0 0),(2,.ptr 1 0 0),(3,.ptr 2 0 0),(5,num 0)],[.var (Xp name text k1 k2 k3 k4 k5 k6 a b c d w e f ty ru ca ne 4 0),.var N9,.var [.sl false 6 m],.dead,.row 5 []]⟩) (by kernel_rfl);have Y:min m.length 8<=8:=Nat.min_le_right _ _;generalize min m.length 8=m1 at L Q Y;obtain ⟨n,J,_,F⟩:=zia name text k1 k2 k3 k4 k5 k6 a b c d w e f ty ru ca ne j m1 hca (τ:=⟨[(1,.ptr 0 0 0),(2,.ptr 1 0 0),(6,.bs 4 0 0),(7,num 0)],[.var (Xp name text k1 k2 k3 k4 k5 k6 a b c d w e f ty ru ca ne 3 m1),.var N9,.var [.sl false 6 m],.row 5 j,.row 2 []]⟩) (by kernel_rfl);generalize min ca.length 4=m2 at J F;obtain ⟨h,P,_,H⟩:=zh9 name text k1 k2 k3 k4 k5 k6 a b c d w e f ty ru ca ne j n m1 m2 hty (τ:=⟨[(1,.ptr 0 0 0),(2,.ptr 1 0 0),(6,.bs 2 0 m2),(8,.bs 4 0 0),(9,num 0)],[.var (Xp name text k1 k2 k3 k4 k5 k6 a b c d w e f ty ru ca ne 3 m1),.var N9,.row 2 n,.row 5 j,.row 7 []]⟩) (by kernel_rfl);generalize min ty.length 8=m3 at P H;refine ⟨a,b,c,d,w,e,f,a',b',c',d',w',e',f',h,j,q,n,ne.take (min ne.length 70),rfl,⟨jP 60 name,jP 60 text,S,by omega,Z,u,A⟩,fun N hN=>?_⟩;obtain ⟨M,rfl⟩:=pR_ N;have hd:(X.agg [aF (gV 60 name),num k1,num k2,num k3,num k4,num k5,num k6,aF (gV 60 text),num a',num b',num c',num d',.sl false 1 w',.sl false 7 e',.sl false 11 f',.bs 0 0 m3,.bs 1 0 m1,.sl false 6 q,.bs 2 0 m2,.sl false 1 (ne.take (min ne.length 70))]).data [.row 7 h,.row 5 j,.row 2 n] false
   =some (.agg (ziz (gV 60 name) (gV 60 text) k1 k2 k3 k4 k5 k6 a' b' c' d' w' e' f' h j q n (ne.take (min ne.length 70)))):=by
  subst L J P;simp [X.data,eG,rowOf,num,aF,ziz]
 exact eU [(33,.p (.agg [.sl false 6 m])),(114,.p (.agg [.sl false 6 q])),(117,.p (.agg (dK a' b' c' d' w' e' f'))),(127,.i (Int.ofNat (min name.size 60))),(128,.cut),(134,.i (Int.ofNat (min text.size 60))),(135,.cut),(141,.i (Int.ofNat (min ne.length 70))),(142,.cut)]
  [(.exit 0,qaE name text k1 k2 k3 k4 k5 k6 a b c d w e f ty ex ru ca ne l m0),(.exit 2,qbE name text k1 k2 k3 k4 k5 k6 a b c d w e f ty ru ca ne m j m1),(.exit 4,qcE name text k1 k2 k3 k4 k5 k6 a b c d w e f ty ru ca ne j m1 n m2),(.exit 6,qdE name text k1 k2 k3 k4 k5 k6 a b c d w e f ty ru ca ne j n m1 m2 h m3)]
  (ztF (O M (by omega)) (show 0+m0<=l.length by omega) (show Gam.aC (ah tab ext M) 39 [.agg [.sl false 6 (l.take m0)]]=some (.agg [.sl false 6 m]) by grind) (Q M (by omega)) (F M (by omega)) (H M (by omega)) (B M (by omega)) (U M (by omega)) (jo name.size 60) (ng name.size 60) (jo text.size 60) (ng text.size 60) (jo ne.length 70) (ng ne.length 70))
  (x:=.agg [aF (gV 60 name),num k1,num k2,num k3,num k4,num k5,num k6,aF (gV 60 text),num a',num b',num c',num d',.sl false 1 w',.sl false 7 e',.sl false 11 f',.bs 0 0 m3,.bs 1 0 m1,.sl false 6 q,.bs 2 0 m2,.sl false 1 (ne.take (min ne.length 70))]) (bx:=[.row 7 h,.row 5 j,.row 2 n]) (by kernel_rfl) hd
end Go.Proofs.YtpcjeobkehmhpaaGreatDoor
