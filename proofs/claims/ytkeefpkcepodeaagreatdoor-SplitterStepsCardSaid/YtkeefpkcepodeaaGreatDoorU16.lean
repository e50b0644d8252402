/-.-/
import Derived.Test.YtkeefpkcepodeaaGreatDoorU15
set_option linter.all false
namespace Go.Proofs.YtkeefpkcepodeaaGreatDoor
open Go.Em
set_option maxRecDepth 100000
variable {τ:St}
def dB (a b c d:Int)(w e f:qaV):List X:=[num a,num b,num c,num d,.sl false 1 w,.sl false 7 e,.sl false 11 f]
def Vx:List X:=[num 0,num 0,num 0,num 0,.sl true 1 [],.sl true 7 [],.sl true 11 []]
def zcL (x:Int)(t:qaW)(y a b c d:Int)(w e f de:qaV):List X:=[num x,strX t,num y,num a,num b,num c,num d,.sl false 1 w,.sl false 7 e,.sl false 11 f,.sl false 6 de]
def zjs (c:List X):Prop:=∃t,c=[strX t]
def KJ:Nat->List X->Prop
 |0,c=>∃a b c' d w e f,c=dB a b c' d w e f/\∀x,x∈w->zjs x
 |n+1,c=>∃a b c' d w e f,c=dB a b c' d w e f/\(∀x,x∈w->zjs x)/\(∀x,x∈e->KJ n x)/\∀x,x∈f->∃p t y T de,x=num p::strX t::num y::(T++[.sl false 6 de])/\KJ n T/\∀v,v∈de->isVal v
def sT:Nat->List X->Prop
 |0,_=>False
 |h+1,x=>∃a b c d w e f,x=dB a b c d w e f/\w.length<=6/\(∀v,v∈w->∃t:qaW,v=[strX t]/\t.size<=40)/\e.length<=2/\(∀y,y∈e->sT h y)/\f.length<=6/\∀y,y∈f->∃p t q a b c d w e f de,y=zcL p t q a b c d w e f de/\t.size<=40/\sT h (dB a b c d w e f)/\de.length<=2/\∀v,v∈de->∃u:Val,v=(aO 2 u).cells
def sF (h:Nat)(y:List X):Prop:=∃p t q a b c d w e f de,y=zcL p t q a b c d w e f de/\t.size<=40/\sT h (dB a b c d w e f)/\de.length<=2/\∀v,v∈de->∃u:Val,v=(aO 2 u).cells
section
variable (n:Nat) (a b c d:Int) (w e f:qaV) (acc:qaV) (j:Nat) (x:List X)
def twH:St:=⟨[(1,num (Int.ofNat (n+1))),(2,.ptr 0 0 0),(4,.ptr 1 0 0),(5,.bs 2 0 j),(6,.sl true 7 []),(7,.sl true 11 []),(8,nat j)],[.var (dB a b c d w e f),.var Vx,.row 1 acc]⟩
def twN:St:=⟨[(1,num (Int.ofNat (n+1))),(2,.ptr 0 0 0),(4,.ptr 1 0 0),(5,.bs 3 0 (j+1)),(6,.sl true 7 []),(7,.sl true 11 []),(8,nat (j+1))],[.var (dB a b c d w e f),.var Vx,.dead,.row 1 (acc++[x])]⟩
def twE:St:=⟨[(1,num (Int.ofNat (n+1))),(2,.ptr 0 0 0),(4,.ptr 1 0 0),(5,.bs 2 0 j),(6,.sl true 7 []),(7,.sl true 11 []),(8,nat j),(22,boolX false)],[.var (dB a b c d w e f),.var Vx,.row 1 acc]⟩
theorem zdn:canon 0 (twN n a b c d w e f acc j x)=some (twH n a b c d w e f (acc++[x]) (j+1)):=by kernel_rfl
end
theorem YJ (n:Nat)(a b c d:Int)(w e f:qaV)(hl:∀x,x∈w->zjs x)(hτ:canon 0 τ=some (twH n a b c d w e f [] 0)):∃acc,acc.length=min w.length 6/\(∀x,x∈acc->(fun x=>∃t:qaW,x=[strX t]/\t.size<=40) x)/\∀M,40<=M->run (callF tab ext M) 0 M (.loop (loopAt 58 0)) τ=some (.exit 0,twE n a b c d w e f acc (min w.length 6)):=by
 have L:min w.length 6<=6:=by exact Nat.min_le_right _ _
 have J:∃acc:qaV,acc.length=min w.length 6/\(∀x,x∈acc->(fun x=>∃t:qaW,x=[strX t]/\t.size<=40) x)/\∀M,40<=M->min w.length 6<M->run (callF tab ext M) 0 M (.loop (loopAt 58 0)) τ=some (.exit 0,twE n a b c d w e f acc (min w.length 6)):=?_
 ·grind
 refine jh (nIn:=0) (b:=loopAt 58 0) (B:=40) (H:=fun j acc=>twH n a b c d w e f acc j) (k:=min w.length 6) (e:=.exit 0) (E:=fun acc=>twE n a b c d w e f acc (min w.length 6)) (fun x=>∃t:qaW,x=[strX t]/\t.size<=40) hτ (fun j acc N h=>?_) (fun acc h M A=>?_) (by simp)
 ·have l:j<w.length:=by omega
  have m:j<6:=by omega
  obtain ⟨v,F⟩:=hl _ (qaf l);have y:w[j]?=some [strX v]:=by rw [qad l,F]
  exact ⟨[strX (gU 40 v)],twN n a b c d w e f acc j ([strX (gU 40 v)]),⟨_,rfl,jI 40 v⟩,zdn ..,fun M A=>ruA [(18,.b true),(21,.b true),(29,.e [strX v]),(34,.e [strX v]),(37,.i (Int.ofNat (min v.size 40))),(38,.cut),(40,.app),(24,.i (Int.ofNat (j+1)))] (pf8 (aH (j:=j) (k:=w.length) l) (lY m) y y (jg v.size 40) (nR v.size 40) (dX (acc:=acc) j 2 16 h.symm (by omega) (by omega)) (ay (j:=j) (by omega)))⟩
 generalize O:min w.length 6=q;by_cases u:q<w.length;·exact ruA [(18,.b true),(21,.b false)] (pf2 (aH (j:=q) (k:=w.length) u) (aG (j:=q) (k:=6) (by omega)))
 exact ruA [(18,.b false)] (pf1 (aG (j:=q) (k:=w.length) u))
section
variable (n:Nat) (a b c d:Int) (w e f acc0:qaV) (m:Nat) (acc:qaV) (j:Nat) (x:List X)
def teH:St:=⟨[(1,num (Int.ofNat (n+1))),(2,.ptr 0 0 0),(4,.ptr 1 0 0),(5,.bs 2 0 m),(6,.bs 3 0 j),(7,.sl true 11 []),(9,nat j)],[.var (dB a b c d w e f),.var Vx,.row 1 acc0,.row 7 acc]⟩
def teN:St:=⟨[(1,num (Int.ofNat (n+1))),(2,.ptr 0 0 0),(4,.ptr 1 0 0),(5,.bs 2 0 m),(6,.bs 4 0 (j+1)),(7,.sl true 11 []),(9,nat (j+1))],[.var (dB a b c d w e f),.var Vx,.row 1 acc0,.dead,.row 7 (acc++[x])]⟩
def teE:St:=⟨[(1,num (Int.ofNat (n+1))),(2,.ptr 0 0 0),(4,.ptr 1 0 0),(5,.bs 2 0 m),(6,.bs 3 0 j),(7,.sl true 11 []),(9,nat j),(53,boolX false)],[.var (dB a b c d w e f),.var Vx,.row 1 acc0,.row 7 acc]⟩
theorem zds:canon 0 (teN n a b c d w e f acc0 m acc j x)=some (teH n a b c d w e f acc0 m (acc++[x]) (j+1)):=by kernel_rfl
end
theorem YP (n:Nat)(a b c d:Int)(w e f acc0:qaV)(m:Nat)(hn:n<1000)(h54:∀m,n=m+1->∀x,x∈e->∃a b c d w e f a' b' c' d' w' e' f',x=dB a b c d w e f/\sT n (dB a' b' c' d' w' e' f')/\∀N,200+n<=N->Gam.pureD (callF tab ext N) 58 [.agg (dB a b c d w e f),nat (m+1)]=some (.agg (dB a' b' c' d' w' e' f')))(hτ:canon 0 τ=some (teH n a b c d w e f acc0 m [] 0)):∃acc,acc.length=kOf n e.length 2/\(∀x,x∈acc->(sT n) x)/\∀M,(200+n)<=M->run (callF tab ext M) 0 M (.loop (loopAt 58 1)) τ=some (.exit 2,teE n a b c d w e f acc0 m acc (kOf n e.length 2)):=by
 have pa:kOf n e.length 2<=e.length/\kOf n e.length 2<=2:=yZ ..;have hK:kOf n e.length 2<=2:=by omega
 have pb:∃acc:qaV,acc.length=kOf n e.length 2/\(∀x,x∈acc->(sT n) x)/\∀M,(200+n)<=M->kOf n e.length 2<M->run (callF tab ext M) 0 M (.loop (loopAt 58 1)) τ=some (.exit 2,teE n a b c d w e f acc0 m acc (kOf n e.length 2)):=?_
 ·grind
 refine jh (nIn:=0) (b:=loopAt 58 1) (B:=(200+n)) (H:=fun j acc=>teH n a b c d w e f acc0 m acc j) (k:=kOf n e.length 2) (e:=.exit 2) (E:=fun acc=>teE n a b c d w e f acc0 m acc (kOf n e.length 2)) (sT n) hτ (fun j acc hj h=>?_) (fun acc h M hM=>?_) (by simp)
 ·have l:j<e.length:=by omega
  have P:j<2:=by omega
  obtain ⟨n,rfl⟩:∃m,n=m+1:=by
   cases n with
   |zero=>grind[kOf]
   |succ m=>grind
  obtain ⟨S,U,V,W,w1,u,Y,y,A,F,J,Q,L,O,hv,hs,hc⟩:=h54 n rfl _ (qaf l);have hg:e[j]?=some (dB S U V W w1 u Y):=by rw [qad l,hv]
  exact ⟨(dB y A F J Q L O),teN (n+1) a b c d w e f acc0 m acc j ((dB y A F J Q L O)),hs,zds ..,fun M hM=>ruA [(45,.b true),(48,.b true),(52,.b true),(60,.e (dB S U V W w1 u Y)),(63,.i (Int.ofNat (n+1))),(64,.p (.agg (dB y A F J Q L O))),(66,.app),(55,.i (Int.ofNat (j+1)))] (pf8 (aH (j:=j) (k:=e.length) l) (lY P) (Ou n) hg (Ls (j:=n+1) (by omega)) (hc M (by omega)) (dX (acc:=acc) j 3 104 h.symm (by omega) (by omega)) (ay (j:=j) (by omega)))⟩
 cases n with
 |zero=>
  have e0:kOf 0 e.length 2=0:=rfl;rw [e0];cases Z:decide (Int.ofNat 0<Int.ofNat e.length) with
  |true=>exact ruA [(45,.b true)] (pf1 Z)
  |false=>exact ruA [(45,.b false)] (pf1 Z)
 |succ n=>
  have u:kOf (n+1) e.length 2=min e.length 2:=rfl;rw [u];generalize hq:min e.length 2=q;by_cases h6:q<e.length;·exact ruA [(45,.b true),(48,.b false)] (pf2 (aH (j:=q) (k:=e.length) h6) (aG (j:=q) (k:=2) (by omega)))
  exact ruA [(45,.b false)] (pf1 (aG (j:=q) (k:=e.length) h6))
section
variable (n:Nat) (a b c d:Int) (w e f acc0 gQ jk:qaV) (m q z:Nat) (x0:Int) (t0:qaW) (y0 p1 p2 p3 p4:Int) (pw pe pf de:qaV) (acc:qaV) (j:Nat) (x:List X)
def tdH:St:=⟨[(1,num (Int.ofNat (n+1))),(2,.ptr 0 0 0),(4,.ptr 1 0 0),(5,.bs 2 0 m),(6,.bs 3 0 q),(7,.bs 4 0 z),(10,nat z),(11,.ptr 5 0 0),(12,.bs 6 0 j),(13,nat j)],[.var (dB a b c d w e f),.var Vx,.row 1 acc0,.row 7 gQ,.row 11 jk,.var (zcL x0 t0 y0 p1 p2 p3 p4 pw pe pf de),.row 6 acc]⟩
def tdN:St:=⟨[(1,num (Int.ofNat (n+1))),(2,.ptr 0 0 0),(4,.ptr 1 0 0),(5,.bs 2 0 m),(6,.bs 3 0 q),(7,.bs 4 0 z),(10,nat z),(11,.ptr 5 0 0),(12,.bs 7 0 (j+1)),(13,nat (j+1))],[.var (dB a b c d w e f),.var Vx,.row 1 acc0,.row 7 gQ,.row 11 jk,.var (zcL x0 t0 y0 p1 p2 p3 p4 pw pe pf de),.dead,.row 6 (acc++[x])]⟩
def tdE:St:=⟨[(1,num (Int.ofNat (n+1))),(2,.ptr 0 0 0),(4,.ptr 1 0 0),(5,.bs 2 0 m),(6,.bs 3 0 q),(7,.bs 4 0 z),(10,nat z),(11,.ptr 5 0 0),(12,.bs 6 0 j),(13,nat j),(95,boolX false)],[.var (dB a b c d w e f),.var Vx,.row 1 acc0,.row 7 gQ,.row 11 jk,.var (zcL x0 t0 y0 p1 p2 p3 p4 pw pe pf de),.row 6 acc]⟩
theorem zdu:canon 0 (tdN n a b c d w e f acc0 gQ jk m q z x0 t0 y0 p1 p2 p3 p4 pw pe pf de acc j x)=some (tdH n a b c d w e f acc0 gQ jk m q z x0 t0 y0 p1 p2 p3 p4 pw pe pf de (acc++[x]) (j+1)):=by kernel_rfl
end
theorem zhW (n:Nat)(a b c d:Int)(w e f acc0 gQ jk:qaV)(m q z:Nat)(x0:Int)(t0:qaW)(y0 p1 p2 p3 p4:Int)(pw pe pf de:qaV)(hl:∀x,x∈de->isVal x)(hτ:canon 0 τ=some (tdH n a b c d w e f acc0 gQ jk m q z x0 t0 y0 p1 p2 p3 p4 pw pe pf de [] 0)):∃acc,acc.length=min de.length 2/\(∀x,x∈acc->(fun x=>∃u:Val,x=(aO 2 u).cells) x)/\∀M,40<=M->run (callF tab ext M) 0 M (.loop (loopAt 58 3)) τ=some (.exit 6,tdE n a b c d w e f acc0 gQ jk m q z x0 t0 y0 p1 p2 p3 p4 pw pe pf de acc (min de.length 2)):=by
 have hK:min de.length 2<=2:=by exact Nat.min_le_right _ _
 have pa:∃acc:qaV,acc.length=min de.length 2/\(∀x,x∈acc->(fun x=>∃u:Val,x=(aO 2 u).cells) x)/\∀M,40<=M->min de.length 2<M->run (callF tab ext M) 0 M (.loop (loopAt 58 3)) τ=some (.exit 6,tdE n a b c d w e f acc0 gQ jk m q z x0 t0 y0 p1 p2 p3 p4 pw pe pf de acc (min de.length 2)):=?_
 ·grind
 refine jh (nIn:=0) (b:=loopAt 58 3) (B:=40) (H:=fun j acc=>tdH n a b c d w e f acc0 gQ jk m q z x0 t0 y0 p1 p2 p3 p4 pw pe pf de acc j) (k:=min de.length 2) (e:=.exit 6) (E:=fun acc=>tdE n a b c d w e f acc0 gQ jk m q z x0 t0 y0 p1 p2 p3 p4 pw pe pf de acc (min de.length 2)) (fun x=>∃u:Val,x=(aO 2 u).cells) hτ (fun j acc hj h=>?_) (fun acc h M hM=>?_) (by simp)
 ·have l:j<de.length:=by omega
  have O:j<2:=by omega
  obtain ⟨v,hv⟩:=hl _ (qaf l);have hg:de[j]?=some v.cells:=by rw [qad l,hv]
  have Q:=jR 2 v;generalize hw:aO 2 v=w1 at Q;obtain ⟨S,U,V,W,Y,Z⟩:=v;obtain ⟨y,A,F,J,L,N⟩:=w1;exact ⟨(Val.mk y A F J L N).cells,tdN n a b c d w e f acc0 gQ jk m q z x0 t0 y0 p1 p2 p3 p4 pw pe pf de acc j ((Val.mk y A F J L N).cells),⟨_,by rw [hw]⟩,zdu ..,fun M hM=>ruA [(91,.b true),(94,.b true),(102,.e (Val.mk S U V W Y Z).cells),(104,.p (.agg (Val.mk y A F J L N).cells)),(106,.app),(97,.i (Int.ofNat (j+1)))] (pf6 (aH (j:=j) (k:=de.length) l) (lY O) hg (Q M (by omega) (by omega)) (dX (acc:=acc) j 6 88 h.symm (by omega) (by omega)) (ay (j:=j) (by omega)))⟩
 generalize hq:min de.length 2=q;by_cases P:q<de.length;·exact ruA [(91,.b true),(94,.b false)] (pf2 (aH (j:=q) (k:=de.length) P) (aG (j:=q) (k:=2) (by omega)))
 exact ruA [(91,.b false)] (pf1 (aG (j:=q) (k:=de.length) P))
section
variable (n:Nat) (a b c d:Int) (w e f acc0 gQ:qaV) (m q:Nat) (acc:qaV) (j:Nat) (x:List X)
def tfH:St:=⟨[(1,num (Int.ofNat (n+1))),(2,.ptr 0 0 0),(4,.ptr 1 0 0),(5,.bs 2 0 m),(6,.bs 3 0 q),(7,.bs 4 0 j),(10,nat j)],[.var (dB a b c d w e f),.var Vx,.row 1 acc0,.row 7 gQ,.row 11 acc]⟩
def tfN:St:=⟨[(1,num (Int.ofNat (n+1))),(2,.ptr 0 0 0),(4,.ptr 1 0 0),(5,.bs 2 0 m),(6,.bs 3 0 q),(7,.bs 7 0 (j+1)),(10,nat (j+1))],[.var (dB a b c d w e f),.var Vx,.row 1 acc0,.row 7 gQ,.dead,.var x,.dead,.row 11 (acc++[x])]⟩
def tfE:St:=⟨[(1,num (Int.ofNat (n+1))),(2,.ptr 0 0 0),(4,.ptr 1 0 0),(5,.bs 2 0 m),(6,.bs 3 0 q),(7,.bs 4 0 j),(10,nat j),(79,boolX false)],[.var (dB a b c d w e f),.var Vx,.row 1 acc0,.row 7 gQ,.row 11 acc]⟩
theorem zdr:canon 0 (tfN n a b c d w e f acc0 gQ m q acc j x)=some (tfH n a b c d w e f acc0 gQ m q (acc++[x]) (j+1)):=by kernel_rfl
end
theorem YN (n:Nat)(a b c d:Int)(w e f acc0 gQ:qaV)(m q:Nat)(hn:n<1000)(h54:∀m,n=m+1->∀x,x∈f->∃p t y T de,x=num p::strX t::num y::(T++[.sl false 6 de])/\(∀v,v∈de->isVal v)/\∃a b c d w e f a' b' c' d' w' e' f',T=dB a b c d w e f/\sT n (dB a' b' c' d' w' e' f')/\∀N,200+n<=N->Gam.pureD (callF tab ext N) 58 [.agg (dB a b c d w e f),nat (m+1)]=some (.agg (dB a' b' c' d' w' e' f')))(hτ:canon 0 τ=some (tfH n a b c d w e f acc0 gQ m q [] 0)):∃acc,acc.length=kOf n f.length 6/\(∀x,x∈acc->(sF n) x)/\∀M,(200+n)<=M->run (callF tab ext M) 0 M (.loop (loopAt 58 2)) τ=some (.exit 4,tfE n a b c d w e f acc0 gQ m q acc (kOf n f.length 6)):=by
 have pc:kOf n f.length 6<=f.length/\kOf n f.length 6<=6:=yZ ..;have hK:kOf n f.length 6<=6:=by omega
 have pd:∃acc:qaV,acc.length=kOf n f.length 6/\(∀x,x∈acc->(sF n) x)/\∀M,(200+n)<=M->kOf n f.length 6<M->run (callF tab ext M) 0 M (.loop (loopAt 58 2)) τ=some (.exit 4,tfE n a b c d w e f acc0 gQ m q acc (kOf n f.length 6)):=?_
 ·grind
 refine jh (nIn:=0) (b:=loopAt 58 2) (B:=(200+n)) (H:=fun j acc=>tfH n a b c d w e f acc0 gQ m q acc j) (k:=kOf n f.length 6) (e:=.exit 4) (E:=fun acc=>tfE n a b c d w e f acc0 gQ m q acc (kOf n f.length 6)) (sF n) hτ (fun j acc hj u=>?_) (fun acc u M hM=>?_) (by simp)
 ·have F:j<f.length:=by omega
  have pb:j<6:=by omega
  obtain ⟨n,rfl⟩:∃m,n=m+1:=by
   cases n with
   |zero=>grind[kOf]
   |succ m=>grind
  obtain ⟨J,h,L,T0,de,hv,pa,O,P,Q,S,V,A,U,W,Y,Z,d2,w2,e2,f2,rfl,hs,hc⟩:=h54 n rfl _ (qaf F);have hg:f[j]?=some (zcL J h L O P Q S V A U de):=by rw [qad F,hv];rfl
  obtain ⟨l,i1,i3,i2⟩:=zhW (n+1) a b c d w e f acc0 gQ acc m q j J h L O P Q S V A U de pa (τ:=⟨[(1,num (Int.ofNat (n+1+1))),(2,.ptr 0 0 0),(4,.ptr 1 0 0),(5,.bs 2 0 m),(6,.bs 3 0 q),(7,.bs 4 0 j),(10,nat j),(11,.ptr 5 0 0),(12,.bs 6 0 0),(13,nat 0)],[.var (dB a b c d w e f),.var Vx,.row 1 acc0,.row 7 gQ,.row 11 acc,.var (zcL J h L O P Q S V A U de),.row 6 []]⟩) (by kernel_rfl);have i4:min de.length 2<=2:=Nat.min_le_right _ _;generalize min de.length 2=z at i1 i2 i4;exact ⟨(zcL J (gU 40 h) L W Y Z d2 w2 e2 f2 (l.take z)),tfN (n+1) a b c d w e f acc0 gQ m q acc j ((zcL J (gU 40 h) L W Y Z d2 w2 e2 f2 (l.take z))),⟨_,_,_,_,_,_,_,_,_,_,_,rfl,jI 40 h,hs,by grind,fun v hv=>i3 v (List.mem_of_mem_take hv)⟩,zdr ..,fun M hM=>ruB [(71,.b true),(74,.b true),(78,.b true),(85,.e (zcL J h L O P Q S V A U de)),(112,.i (Int.ofNat (min h.size 40))),(113,.cut),(117,.i (Int.ofNat (n+1))),(118,.p (.agg (dB W Y Z d2 w2 e2 f2))),(126,.app),(81,.i (Int.ofNat (j+1)))] [(.exit 6,tdE (n+1) a b c d w e f acc0 gQ acc m q j J h L O P Q S V A U de l z)] (zp3 (aH (j:=j) (k:=f.length) F) (lY pb) (Ou n) hg (i2 M (by omega)) (jg h.size 40) (nR h.size 40) (Ls (j:=n+1) (by omega)) (hc M (by omega)) (show 0+z<=l.length by omega) (dX (acc:=acc) j 4 160 u.symm (by omega) (by omega)) (ay (j:=j) (by omega)))⟩
 cases n with
 |zero=>
  have e0:kOf 0 f.length 6=0:=rfl;rw [e0];cases h1:decide (Int.ofNat 0<Int.ofNat f.length) with
  |true=>exact ruA [(71,.b true)] (pf1 h1)
  |false=>exact ruA [(71,.b false)] (pf1 h1)
 |succ n=>
  have A:kOf (n+1) f.length 6=min f.length 6:=rfl;rw [A];generalize hq:min f.length 6=q;by_cases h6:q<f.length;·exact ruA [(71,.b true),(74,.b false)] (pf2 (aH (j:=q) (k:=f.length) h6) (aG (j:=q) (k:=6) (by omega)))
  exact ruA [(71,.b false)] (pf1 (aG (j:=q) (k:=f.length) h6))
theorem YI (n:Nat)(a b c d:Int)(w e f acc gQ jk:qaV)(m q z:Nat)(h1:acc.length=m)(h2:gQ.length=q)(h3:jk.length=z)(M:Nat)
  (g1:run (callF tab ext M) 0 M (.loop (loopAt 58 0)) (twH n a b c d w e f [] 0)=some (.exit 0,twE n a b c d w e f acc m)) (g2:run (callF tab ext M) 0 M (.loop (loopAt 58 1)) (teH n a b c d w e f acc m [] 0)=some (.exit 2,teE n a b c d w e f acc m gQ q))
  (g3:run (callF tab ext M) 0 M (.loop (loopAt 58 2)) (tfH n a b c d w e f acc gQ m q [] 0)=some (.exit 4,tfE n a b c d w e f acc gQ m q jk z)):
  Gam.pureD (callF tab ext (M+1)) 58 [.agg (dB a b c d w e f),nat (n+1)]=some (.agg (dB a b c d acc gQ jk)):=by
 have h:(X.agg [num a,num b,num c,num d,.bs 0 0 m,.bs 1 0 q,.bs 2 0 z]).data [.row 1 acc,.row 7 gQ,.row 11 jk] false=some (.agg (dB a b c d acc gQ jk)):=by subst h1 h2 h3;simp [X.data,dH,rowOf,num,dB]
 exact pure_of [] [(.exit 0,twE n a b c d w e f acc m),(.exit 2,teE n a b c d w e f acc m gQ q),(.exit 4,tfE n a b c d w e f acc gQ m q jk z)] (pf3 g1 g2 g3) (x:=.agg [num a,num b,num c,num d,.bs 0 0 m,.bs 1 0 q,.bs 2 0 z]) (bx:=[.row 1 acc,.row 7 gQ,.row 11 jk]) (by kernel_rfl) h
theorem Nl:∀(n:Nat) (c:List X),n<1000->KJ n c->∃a b c' d w e f a' b' c'' d' w' e' f',c=dB a b c' d w e f/\sT (n+1) (dB a' b' c'' d' w' e' f')/\∀N,200+(n+1)<=N->Gam.pureD (callF tab ext N) 58 [.agg (dB a b c' d w e f),nat (n+1)]=some (.agg (dB a' b' c'' d' w' e' f')):=by
 intro n;induction n with
 |zero=>
  rintro _ hn ⟨a,b,c,d,w,e,f,rfl,L⟩
  obtain ⟨h,l,O,E⟩:=YJ 0 a b c d w e f L (τ:=twH 0 a b c d w e f [] 0) (by kernel_rfl);have S:min w.length 6<=6:=Nat.min_le_right _ _;generalize min w.length 6=m at l E S;obtain ⟨j,u,P,F⟩:=YP 0 a b c d w e f h m (by omega) (fun m J=>by omega) (τ:=teH 0 a b c d w e f h m [] 0) (by kernel_rfl);have U:=(yZ 0 e.length 2).2;generalize kOf 0 e.length 2=q at u F U;obtain ⟨B,A,Q,H⟩:=YN 0 a b c d w e f h j m q (by omega) (fun m J=>by omega) (τ:=tfH 0 a b c d w e f h j m q [] 0) (by kernel_rfl);have V:=(yZ 0 f.length 6).2;generalize kOf 0 f.length 6=z at A H V;refine ⟨a,b,c,d,w,e,f,a,b,c,d,h,j,B,rfl,⟨a,b,c,d,h,j,B,rfl,by omega,O,by omega,P,by omega,Q⟩,fun N Y=>?_⟩;obtain ⟨M,rfl⟩:=pR_ N
  grind[YI]
 |succ n ih=>
  rintro _ hn ⟨a,b,c,d,w,e,f,rfl,L,he,Z⟩
  obtain ⟨h,l,O,E⟩:=YJ (n+1) a b c d w e f L (τ:=twH (n+1) a b c d w e f [] 0) (by kernel_rfl);have S:min w.length 6<=6:=Nat.min_le_right _ _;generalize min w.length 6=m at l E S;obtain ⟨j,u,P,F⟩:=YP (n+1) a b c d w e f h m (by omega) (fun m J x W=>by grind) (τ:=teH (n+1) a b c d w e f h m [] 0) (by kernel_rfl);have U:=(yZ (n+1) e.length 2).2;generalize kOf (n+1) e.length 2=q at u F U;obtain ⟨B,A,Q,H⟩:=YN (n+1) a b c d w e f h j m q (by omega) (fun m J x W=>by
   obtain rfl:n=m:=by omega
   obtain ⟨p,t,y,T,de,l,u,A⟩:=Z x W;exact ⟨p,t,y,T,de,l,A,ih T (by omega) u⟩) (τ:=tfH (n+1) a b c d w e f h j m q [] 0) (by kernel_rfl)
  have V:=(yZ (n+1) f.length 6).2;generalize kOf (n+1) f.length 6=z at A H V;refine ⟨a,b,c,d,w,e,f,a,b,c,d,h,j,B,rfl,⟨a,b,c,d,h,j,B,rfl,by omega,O,by omega,P,by omega,Q⟩,fun N Y=>?_⟩;obtain ⟨M,rfl⟩:=pR_ N
  grind[YI]
def zi8 (name text:qaW)(k1 k2 k3 k4 k5 k6 a b c d:Int)(w e f ty ex ru ca ne:qaV):List X:=[strX name,num k1,num k2,num k3,num k4,num k5,num k6,strX text,num a,num b,num c,num d,.sl false 1 w,.sl false 7 e,.sl false 11 f,.sl false 7 ty,.sl false 5 ex,.sl false 6 ru,.sl false 2 ca,.sl false 1 ne]
def Yk (name text:qaW)(k1 k2 k3 k4 k5 k6 a b c d:Int)(w e f ty ru ca ne:qaV)(i m:Nat):List X:=[strX name,num k1,num k2,num k3,num k4,num k5,num k6,strX text,num a,num b,num c,num d,.sl false 1 w,.sl false 7 e,.sl false 11 f,.sl false 7 ty,.bs i 0 m,.sl false 6 ru,.sl false 2 ca,.sl false 1 ne]
def PG:List X:=[noText,num 0,num 0,num 0,num 0,num 0,num 0,noText,num 0,num 0,num 0,num 0,.sl true 1 [],.sl true 7 [],.sl true 11 [],.sl true 7 [],.sl true 5 [],.sl true 6 [],.sl true 2 [],.sl true 1 []]
def Uu (c:List X):Prop:=∃t l,c=[strX t,.sl false 6 l]/\∀x,x∈l->vW x
section
variable (name text:qaW) (k1 k2 k3 k4 k5 k6 a b c d:Int) (w e f ty ex ru ca ne:qaV) (acc:qaV) (j:Nat) (x:List X)
def qaH:St:=⟨[(1,.ptr 0 0 0),(2,.ptr 1 0 0),(3,.ptr 2 0 0),(4,nat j)],[.var (zi8 name text k1 k2 k3 k4 k5 k6 a b c d w e f ty ex ru ca ne),.var PG,.var [.bs 3 0 j],.row 6 acc]⟩
def qaN:St:=⟨[(1,.ptr 0 0 0),(2,.ptr 1 0 0),(3,.ptr 2 0 0),(4,nat (j+1))],[.var (zi8 name text k1 k2 k3 k4 k5 k6 a b c d w e f ty ex ru ca ne),.var PG,.var [.bs 4 0 (j+1)],.dead,.row 6 (acc++[x])]⟩
def qaE:St:=⟨[(1,.ptr 0 0 0),(2,.ptr 1 0 0),(3,.ptr 2 0 0),(4,nat j),(18,boolX false)],[.var (zi8 name text k1 k2 k3 k4 k5 k6 a b c d w e f ty ex ru ca ne),.var PG,.var [.bs 3 0 j],.row 6 acc]⟩
theorem zd8:canon 0 (qaN name text k1 k2 k3 k4 k5 k6 a b c d w e f ty ex ru ca ne acc j x)=some (qaH name text k1 k2 k3 k4 k5 k6 a b c d w e f ty ex ru ca ne (acc++[x]) (j+1)):=by kernel_rfl
end
theorem ziP (name text:qaW)(k1 k2 k3 k4 k5 k6 a b c d:Int)(w e f ty ex ru ca ne:qaV)(hl:∀x,x∈ex->KN 3 x)(hτ:canon 0 τ=some (qaH name text k1 k2 k3 k4 k5 k6 a b c d w e f ty ex ru ca ne [] 0)):∃acc,acc.length=min ex.length 4/\(∀x,x∈acc->(vW) x)/\∀M,40<=M->run (callF tab ext M) 0 M (.loop (loopAt 25 0)) τ=some (.exit 0,qaE name text k1 k2 k3 k4 k5 k6 a b c d w e f ty ex ru ca ne acc (min ex.length 4)):=by
 have S:min ex.length 4<=4:=by exact Nat.min_le_right _ _
 have Q:∃acc:qaV,acc.length=min ex.length 4/\(∀x,x∈acc->(vW) x)/\∀M,40<=M->min ex.length 4<M->run (callF tab ext M) 0 M (.loop (loopAt 25 0)) τ=some (.exit 0,qaE name text k1 k2 k3 k4 k5 k6 a b c d w e f ty ex ru ca ne acc (min ex.length 4)):=?_
 ·grind
 refine jh (nIn:=0) (b:=loopAt 25 0) (B:=40) (H:=fun j acc=>qaH name text k1 k2 k3 k4 k5 k6 a b c d w e f ty ex ru ca ne acc j) (k:=min ex.length 4) (e:=.exit 0) (E:=fun acc=>qaE name text k1 k2 k3 k4 k5 k6 a b c d w e f ty ex ru ca ne acc (min ex.length 4)) (vW) hτ (fun j acc U h=>?_) (fun acc h M O=>?_) (by simp)
 ·have l:j<ex.length:=by omega
  have J:j<4:=by omega
  have F:=hl _ (qaf l);obtain ⟨u,n,y,A,m,N,_⟩:=Xf F;rw [N] at F;have P:ex[j]?=some (mQ u n y A m):=by rw [qad l,N];rfl
  exact ⟨(noText::mQ u n y A m),qaN name text k1 k2 k3 k4 k5 k6 a b c d w e f ty ex ru ca ne acc j ((noText::mQ u n y A m)),⟨⟨#[]⟩,_,rfl,F⟩,zd8 ..,fun M O=>ruA [(14,.b true),(17,.b true),(26,.e (mQ u n y A m)),(30,.app),(20,.i (Int.ofNat (j+1)))] (pf5 (aH (j:=j) (k:=ex.length) l) (lY J) P (dX (acc:=acc) j 3 96 h.symm (by omega) (by omega)) (ay (j:=j) (by omega)))⟩
 generalize V:min ex.length 4=q;by_cases L:q<ex.length;·exact ruA [(14,.b true),(17,.b false)] (pf2 (aH (j:=q) (k:=ex.length) L) (aG (j:=q) (k:=4) (by omega)))
 exact ruA [(14,.b false)] (pf1 (aG (j:=q) (k:=ex.length) L))
section
variable (name text:qaW) (k1 k2 k3 k4 k5 k6 a b c d:Int) (w e f ty ru ca ne acc0:qaV) (acc:qaV) (j:Nat) (x:List X)
def qbH:St:=⟨[(1,.ptr 0 0 0),(2,.ptr 1 0 0),(3,.ptr 2 0 0),(5,nat j)],[.var (Yk name text k1 k2 k3 k4 k5 k6 a b c d w e f ty ru ca ne 3 j),.var PG,.var [.sl false 6 acc0],.row 5 acc]⟩
def qbN:St:=⟨[(1,.ptr 0 0 0),(2,.ptr 1 0 0),(3,.ptr 2 0 0),(5,nat (j+1))],[.var (Yk name text k1 k2 k3 k4 k5 k6 a b c d w e f ty ru ca ne 4 (j+1)),.var PG,.var [.sl false 6 acc0],.dead,.row 5 (acc++[x])]⟩
def qbE:St:=⟨[(1,.ptr 0 0 0),(2,.ptr 1 0 0),(3,.ptr 2 0 0),(5,nat j),(39,boolX false)],[.var (Yk name text k1 k2 k3 k4 k5 k6 a b c d w e f ty ru ca ne 3 j),.var PG,.var [.sl false 6 acc0],.row 5 acc]⟩
theorem zd7:canon 0 (qbN name text k1 k2 k3 k4 k5 k6 a b c d w e f ty ru ca ne acc0 acc j x)=some (qbH name text k1 k2 k3 k4 k5 k6 a b c d w e f ty ru ca ne acc0 (acc++[x]) (j+1)):=by kernel_rfl
end
theorem ziO (name text:qaW)(k1 k2 k3 k4 k5 k6 a b c d:Int)(w e f ty ru ca ne acc0:qaV)(hl8:acc0.length<=8)(hl:∀x,x∈acc0->zi x)(hτ:canon 0 τ=some (qbH name text k1 k2 k3 k4 k5 k6 a b c d w e f ty ru ca ne acc0 [] 0)):∃acc,acc.length=min acc0.length 8/\(∀x,x∈acc->(sE 4) x)/\∀M,40<=M->run (callF tab ext M) 0 M (.loop (loopAt 25 1)) τ=some (.exit 2,qbE name text k1 k2 k3 k4 k5 k6 a b c d w e f ty ru ca ne acc0 acc (min acc0.length 8)):=by
 have S:min acc0.length 8<=8:=by exact Nat.min_le_right _ _
 have Q:∃acc:qaV,acc.length=min acc0.length 8/\(∀x,x∈acc->(sE 4) x)/\∀M,40<=M->min acc0.length 8<M->run (callF tab ext M) 0 M (.loop (loopAt 25 1)) τ=some (.exit 2,qbE name text k1 k2 k3 k4 k5 k6 a b c d w e f ty ru ca ne acc0 acc (min acc0.length 8)):=?_
 ·grind
 refine jh (nIn:=0) (b:=loopAt 25 1) (B:=40) (H:=fun j acc=>qbH name text k1 k2 k3 k4 k5 k6 a b c d w e f ty ru ca ne acc0 acc j) (k:=min acc0.length 8) (e:=.exit 2) (E:=fun acc=>qbE name text k1 k2 k3 k4 k5 k6 a b c d w e f ty ru ca ne acc0 acc (min acc0.length 8)) (sE 4) hτ (fun j acc U h=>?_) (fun acc h M J=>?_) (by simp)
 ·have l:j<acc0.length:=by omega
  have N:j<8:=by omega
  obtain ⟨F,u,n,y,A,m,P,_,O⟩:=hl _ (qaf l);have L:acc0[j]?=some (fU F u n y A m):=by rw [qad l,P];rfl
  exact ⟨(mQ u n y A m),qbN name text k1 k2 k3 k4 k5 k6 a b c d w e f ty ru ca ne acc0 acc j ((mQ u n y A m)),O,zd7 ..,fun M J=>ruA [(39,.b true),(47,.e (fU F u n y A m)),(51,.app),(41,.i (Int.ofNat (j+1)))] (pf4 (aH (j:=j) (k:=acc0.length) l) L (dX (acc:=acc) j 3 80 h.symm (by omega) (by omega)) (ay (j:=j) (by omega)))⟩
 generalize V:min acc0.length 8=q;exact ruA [(39,.b false)] (pf1 (aG (j:=q) (k:=acc0.length) (by omega)))
section
variable (name text:qaW) (k1 k2 k3 k4 k5 k6 a b c d:Int) (w e f ty ru ca ne acc0:qaV) (m:Nat) (acc:qaV) (j:Nat) (x:List X)
def qcH:St:=⟨[(1,.ptr 0 0 0),(2,.ptr 1 0 0),(6,.bs 2 0 j),(7,nat j)],[.var (Yk name text k1 k2 k3 k4 k5 k6 a b c d w e f ty ru ca ne 3 m),.var PG,.row 2 acc,.row 5 acc0]⟩
def qcN:St:=⟨[(1,.ptr 0 0 0),(2,.ptr 1 0 0),(6,.bs 4 0 (j+1)),(7,nat (j+1))],[.var (Yk name text k1 k2 k3 k4 k5 k6 a b c d w e f ty ru ca ne 3 m),.var PG,.dead,.row 5 acc0,.row 2 (acc++[x])]⟩
def qcE:St:=⟨[(1,.ptr 0 0 0),(2,.ptr 1 0 0),(6,.bs 2 0 j),(7,nat j),(61,boolX false)],[.var (Yk name text k1 k2 k3 k4 k5 k6 a b c d w e f ty ru ca ne 3 m),.var PG,.row 2 acc,.row 5 acc0]⟩
theorem zd6:canon 0 (qcN name text k1 k2 k3 k4 k5 k6 a b c d w e f ty ru ca ne acc0 m acc j x)=some (qcH name text k1 k2 k3 k4 k5 k6 a b c d w e f ty ru ca ne acc0 m (acc++[x]) (j+1)):=by kernel_rfl
end
theorem ziN (name text:qaW)(k1 k2 k3 k4 k5 k6 a b c d:Int)(w e f ty ru ca ne acc0:qaV)(m:Nat)(hl:∀x,x∈ca->Uu x)(hτ:canon 0 τ=some (qcH name text k1 k2 k3 k4 k5 k6 a b c d w e f ty ru ca ne acc0 m [] 0)):∃acc,acc.length=min ca.length 4/\(∀x,x∈acc->(fun _=>True) x)/\∀M,110<=M->run (callF tab ext M) 0 M (.loop (loopAt 25 2)) τ=some (.exit 4,qcE name text k1 k2 k3 k4 k5 k6 a b c d w e f ty ru ca ne acc0 m acc (min ca.length 4)):=by
 have S:min ca.length 4<=4:=by exact Nat.min_le_right _ _
 have Q:∃acc:qaV,acc.length=min ca.length 4/\(∀x,x∈acc->(fun _=>True) x)/\∀M,110<=M->min ca.length 4<M->run (callF tab ext M) 0 M (.loop (loopAt 25 2)) τ=some (.exit 4,qcE name text k1 k2 k3 k4 k5 k6 a b c d w e f ty ru ca ne acc0 m acc (min ca.length 4)):=?_
 ·grind
 refine jh (nIn:=0) (b:=loopAt 25 2) (B:=110) (H:=fun j acc=>qcH name text k1 k2 k3 k4 k5 k6 a b c d w e f ty ru ca ne acc0 m acc j) (k:=min ca.length 4) (e:=.exit 4) (E:=fun acc=>qcE name text k1 k2 k3 k4 k5 k6 a b c d w e f ty ru ca ne acc0 m acc (min ca.length 4)) (fun _=>True) hτ (fun j acc U l=>?_) (fun acc l M N=>?_) (by simp)
 ·have n:j<ca.length:=by omega
  have A:j<4:=by omega
  obtain ⟨h,u,P,F⟩:=hl _ (qaf n);obtain ⟨J,_,_,O⟩:=EF u F;have y:ca[j]?=some [strX h,.sl false 6 u]:=by rw [qad n,P]
  exact ⟨[strX (gU 60 h),.sl false 6 J],qcN name text k1 k2 k3 k4 k5 k6 a b c d w e f ty ru ca ne acc0 m acc j ([strX (gU 60 h),.sl false 6 J]),trivial,zd6 ..,fun M N=>ruA [(57,.b true),(60,.b true),(68,.e [strX h,.sl false 6 u]),(74,.e [strX h,.sl false 6 u]),(78,.i (Int.ofNat (min h.size 60))),(79,.cut),(83,.e [strX h,.sl false 6 u]),(86,.p (.agg [.sl false 6 J])),(89,.app),(63,.i (Int.ofNat (j+1)))] (zmF (aH (j:=j) (k:=ca.length) n) (lY A) y y (jg h.size 60) (nR h.size 60) y (O M (by omega)) (dX (acc:=acc) j 2 40 l.symm (by omega) (by omega)) (ay (j:=j) (by omega)))⟩
 generalize V:min ca.length 4=q;by_cases L:q<ca.length;·exact ruA [(57,.b true),(60,.b false)] (pf2 (aH (j:=q) (k:=ca.length) L) (aG (j:=q) (k:=4) (by omega)))
 exact ruA [(57,.b false)] (pf1 (aG (j:=q) (k:=ca.length) L))
section
variable (name text:qaW) (k1 k2 k3 k4 k5 k6 a b c d:Int) (w e f ty ru ca ne acc0 gQ:qaV) (m q:Nat) (acc:qaV) (j:Nat) (x:List X)
def qdH:St:=⟨[(1,.ptr 0 0 0),(2,.ptr 1 0 0),(6,.bs 2 0 q),(8,.bs 3 0 j),(9,nat j)],[.var (Yk name text k1 k2 k3 k4 k5 k6 a b c d w e f ty ru ca ne 4 m),.var PG,.row 2 gQ,.row 7 acc,.row 5 acc0]⟩
def qdN:St:=⟨[(1,.ptr 0 0 0),(2,.ptr 1 0 0),(6,.bs 2 0 q),(8,.bs 5 0 (j+1)),(9,nat (j+1))],[.var (Yk name text k1 k2 k3 k4 k5 k6 a b c d w e f ty ru ca ne 4 m),.var PG,.row 2 gQ,.dead,.row 5 acc0,.row 7 (acc++[x])]⟩
def qdE:St:=⟨[(1,.ptr 0 0 0),(2,.ptr 1 0 0),(6,.bs 2 0 q),(8,.bs 3 0 j),(9,nat j),(98,boolX false)],[.var (Yk name text k1 k2 k3 k4 k5 k6 a b c d w e f ty ru ca ne 4 m),.var PG,.row 2 gQ,.row 7 acc,.row 5 acc0]⟩
theorem zd5:canon 0 (qdN name text k1 k2 k3 k4 k5 k6 a b c d w e f ty ru ca ne acc0 gQ m q acc j x)=some (qdH name text k1 k2 k3 k4 k5 k6 a b c d w e f ty ru ca ne acc0 gQ m q (acc++[x]) (j+1)):=by kernel_rfl
end
theorem ziM (name text:qaW)(k1 k2 k3 k4 k5 k6 a b c d:Int)(w e f ty ru ca ne acc0 gQ:qaV)(m q:Nat)(hl:∀x,x∈ty->KJ 3 x)(hτ:canon 0 τ=some (qdH name text k1 k2 k3 k4 k5 k6 a b c d w e f ty ru ca ne acc0 gQ m q [] 0)):∃acc,acc.length=min ty.length 8/\(∀x,x∈acc->(sT 4) x)/\∀M,210<=M->run (callF tab ext M) 0 M (.loop (loopAt 25 3)) τ=some (.exit 6,qdE name text k1 k2 k3 k4 k5 k6 a b c d w e f ty ru ca ne acc0 gQ m q acc (min ty.length 8)):=by
 have hK:min ty.length 8<=8:=by exact Nat.min_le_right _ _
 have pa:∃acc:qaV,acc.length=min ty.length 8/\(∀x,x∈acc->(sT 4) x)/\∀M,210<=M->min ty.length 8<M->run (callF tab ext M) 0 M (.loop (loopAt 25 3)) τ=some (.exit 6,qdE name text k1 k2 k3 k4 k5 k6 a b c d w e f ty ru ca ne acc0 gQ m q acc (min ty.length 8)):=?_
 ·grind
 refine jh (nIn:=0) (b:=loopAt 25 3) (B:=210) (H:=fun j acc=>qdH name text k1 k2 k3 k4 k5 k6 a b c d w e f ty ru ca ne acc0 gQ m q acc j) (k:=min ty.length 8) (e:=.exit 6) (E:=fun acc=>qdE name text k1 k2 k3 k4 k5 k6 a b c d w e f ty ru ca ne acc0 gQ m q acc (min ty.length 8)) (sT 4) hτ (fun j acc hj h=>?_) (fun acc h M Z=>?_) (by simp)
 ·have l:j<ty.length:=by omega
  have L:j<8:=by omega
  obtain ⟨O,P,Q,S,Y,U,V,n,u,y,A,N,F,J,hv,hs,hc⟩:=Nl 3 _ (by omega) (hl _ (qaf l));have hg:ty[j]?=some (dB O P Q S Y U V):=by rw [qad l,hv]
  exact ⟨(dB n u y A N F J),qdN name text k1 k2 k3 k4 k5 k6 a b c d w e f ty ru ca ne acc0 gQ m q acc j ((dB n u y A N F J)),hs,zd5 ..,fun M Z=>ruA [(94,.b true),(97,.b true),(105,.e (dB O P Q S Y U V)),(107,.p (.agg (dB n u y A N F J))),(109,.app),(100,.i (Int.ofNat (j+1)))] (pf6 (aH (j:=j) (k:=ty.length) l) (lY L) hg (hc M (by omega)) (dX (acc:=acc) j 3 104 h.symm (by omega) (by omega)) (ay (j:=j) (by omega)))⟩
 generalize hq:min ty.length 8=q;by_cases W:q<ty.length;·exact ruA [(94,.b true),(97,.b false)] (pf2 (aH (j:=q) (k:=ty.length) W) (aG (j:=q) (k:=8) (by omega)))
 exact ruA [(94,.b false)] (pf1 (aG (j:=q) (k:=ty.length) W))
theorem VO (name text:qaW)(k1 k2 k3 k4 k5 k6:Int)(T:List X)(ty ex ru ca ne:qaV)(hT:KJ 3 T)(hty:∀x,x∈ty->KJ 3 x)(hex:∀x,x∈ex->KN 3 x)(hru:∀x,x∈ru->vW x)(hca:∀x,x∈ca->Uu x):
  ∃a b c d w e f a' b' c' d' w' e' f' ty' ex' ru' ca' ne',T=dB a b c d w e f/\((gU 60 name).size<=60/\(gU 60 text).size<=60/\sT 4 (dB a' b' c' d' w' e' f')/\ex'.length<=8/\(∀x,x∈ex'->sE 4 x)/\ru'.length<=8/\∀x,x∈ru'->zi x)/\∀N,220<=N->Gam.pureD (callF tab ext N) 25 [.agg (zi8 name text k1 k2 k3 k4 k5 k6 a b c d w e f ty ex ru ca ne)]=some (.agg (zi8 (gU 60 name) (gU 60 text) k1 k2 k3 k4 k5 k6 a' b' c' d' w' e' f' ty' ex' ru' ca' ne')):=by
 obtain ⟨a,b,c,d,w,e,f,a',b',c',d',w',e',f',rfl,Z,U⟩:=Nl 3 T (by omega) hT;obtain ⟨l,S,Y,F⟩:=ziP name text k1 k2 k3 k4 k5 k6 a b c d w e f ty ex ru ca ne hex (τ:=qaH name text k1 k2 k3 k4 k5 k6 a b c d w e f ty ex ru ca ne [] 0) (by kernel_rfl);generalize min ex.length 4=m0 at S F;obtain ⟨n,y,A,V⟩:=EF l Y;obtain ⟨q,E,B,u⟩:=EF ru hru;obtain ⟨h,O,p2,H⟩:=ziO name text k1 k2 k3 k4 k5 k6 a b c d w e f ty ru ca ne n y A (τ:=⟨[(1,.ptr 0 0 0),(2,.ptr 1 0 0),(3,.ptr 2 0 0),(5,num 0)],[.var (Yk name text k1 k2 k3 k4 k5 k6 a b c d w e f ty ru ca ne 4 0),.var PG,.var [.sl false 6 n],.dead,.row 5 []]⟩) (by kernel_rfl);have q8:min n.length 8<=8:=Nat.min_le_right _ _;generalize min n.length 8=m1 at O H q8;obtain ⟨m,P,_,J⟩:=ziN name text k1 k2 k3 k4 k5 k6 a b c d w e f ty ru ca ne h m1 hca (τ:=⟨[(1,.ptr 0 0 0),(2,.ptr 1 0 0),(6,.bs 4 0 0),(7,num 0)],[.var (Yk name text k1 k2 k3 k4 k5 k6 a b c d w e f ty ru ca ne 3 m1),.var PG,.var [.sl false 6 n],.row 5 h,.row 2 []]⟩) (by kernel_rfl);generalize min ca.length 4=m2 at P J;obtain ⟨j,Q,_,L⟩:=ziM name text k1 k2 k3 k4 k5 k6 a b c d w e f ty ru ca ne h m m1 m2 hty (τ:=⟨[(1,.ptr 0 0 0),(2,.ptr 1 0 0),(6,.bs 2 0 m2),(8,.bs 4 0 0),(9,num 0)],[.var (Yk name text k1 k2 k3 k4 k5 k6 a b c d w e f ty ru ca ne 3 m1),.var PG,.row 2 m,.row 5 h,.row 7 []]⟩) (by kernel_rfl);generalize min ty.length 8=m3 at Q L;refine ⟨a,b,c,d,w,e,f,a',b',c',d',w',e',f',j,h,q,m,ne.take (min ne.length 70),rfl,⟨jI 60 name,jI 60 text,Z,by omega,p2,E,B⟩,fun N hN=>?_⟩;obtain ⟨M,rfl⟩:=pR_ N;have W:(X.agg [strX (gU 60 name),num k1,num k2,num k3,num k4,num k5,num k6,strX (gU 60 text),num a',num b',num c',num d',.sl false 1 w',.sl false 7 e',.sl false 11 f',.bs 0 0 m3,.bs 1 0 m1,.sl false 6 q,.bs 2 0 m2,.sl false 1 (ne.take (min ne.length 70))]).data [.row 7 j,.row 5 h,.row 2 m] false
   =some (.agg (zi8 (gU 60 name) (gU 60 text) k1 k2 k3 k4 k5 k6 a' b' c' d' w' e' f' j h q m (ne.take (min ne.length 70)))):=by
  subst O P Q;simp [X.data,dH,rowOf,num,strX,zi8]
 exact pure_of [(33,.p (.agg [.sl false 6 n])),(114,.p (.agg [.sl false 6 q])),(117,.p (.agg (dB a' b' c' d' w' e' f'))),(127,.i (Int.ofNat (min name.size 60))),(128,.cut),(134,.i (Int.ofNat (min text.size 60))),(135,.cut),(141,.i (Int.ofNat (min ne.length 70))),(142,.cut)]
  [(.exit 0,qaE name text k1 k2 k3 k4 k5 k6 a b c d w e f ty ex ru ca ne l m0),(.exit 2,qbE name text k1 k2 k3 k4 k5 k6 a b c d w e f ty ru ca ne n h m1),(.exit 4,qcE name text k1 k2 k3 k4 k5 k6 a b c d w e f ty ru ca ne h m1 m m2),(.exit 6,qdE name text k1 k2 k3 k4 k5 k6 a b c d w e f ty ru ca ne h m m1 m2 j m3)]
  (zus (F M (by omega)) (show 0+m0<=l.length by omega) (show Gam.pureD (callF tab ext M) 57 [.agg [.sl false 6 (l.take m0)]]=some (.agg [.sl false 6 n]) by grind) (H M (by omega)) (J M (by omega)) (L M (by omega)) (u M (by omega)) (U M (by omega)) (jg name.size 60) (nR name.size 60) (jg text.size 60) (nR text.size 60) (jg ne.length 70) (nR ne.length 70))
  (x:=.agg [strX (gU 60 name),num k1,num k2,num k3,num k4,num k5,num k6,strX (gU 60 text),num a',num b',num c',num d',.sl false 1 w',.sl false 7 e',.sl false 11 f',.bs 0 0 m3,.bs 1 0 m1,.sl false 6 q,.bs 2 0 m2,.sl false 1 (ne.take (min ne.length 70))]) (bx:=[.row 7 j,.row 5 h,.row 2 m]) (by kernel_rfl) W
end Go.Proofs.YtkeefpkcepodeaaGreatDoor
