/-.-/
import Derived.Test.YtcbeoccmflnejaaGreatDoorU16
set_option linter.all false
namespace Go.Proofs.YtcbeoccmflnejaaGreatDoor
open Go.Em
set_option maxRecDepth 100000
variable {τ:St}
def iC (a b c d:Int)(w e f:qaW):List X:=[num a,num b,num c,num d,.sl false 1 w,.sl false 7 e,.sl false 11 f]
def MG:List X:=[num 0,num 0,num 0,num 0,.sl true 1 [],.sl true 7 [],.sl true 11 []]
def UL (x:Int)(t:qaX)(y a b c d:Int)(w e f de:qaW):List X:=[num x,strX t,num y,num a,num b,num c,num d,.sl false 1 w,.sl false 7 e,.sl false 11 f,.sl false 6 de]
def zbG (c:List X):Prop:=∃t,c=[strX t]
def CW:Nat->List X->Prop
 |0,c=>∃a b c' d w e f,c=iC a b c' d w e f/\∀x,x∈w->zbG x
 |n+1,c=>∃a b c' d w e f,c=iC a b c' d w e f/\(∀x,x∈w->zbG x)/\(∀x,x∈e->CW n x)/\∀x,x∈f->∃p t y T de,x=num p::strX t::num y::(T++[.sl false 6 de])/\CW n T/\∀v,v∈de->isVal v
def sT:Nat->List X->Prop
 |0,_=>False
 |h+1,x=>∃a b c d w e f,x=iC a b c d w e f/\w.length<=6/\(∀v,v∈w->∃t:qaX,v=[strX t]/\t.size<=40)/\e.length<=2/\(∀y,y∈e->sT h y)/\f.length<=6/\∀y,y∈f->∃p t q a b c d w e f de,y=UL p t q a b c d w e f de/\t.size<=40/\sT h (iC a b c d w e f)/\de.length<=2/\∀v,v∈de->∃u:Val,v=(aS 2 u).cells
def sF (h:Nat)(y:List X):Prop:=∃p t q a b c d w e f de,y=UL p t q a b c d w e f de/\t.size<=40/\sT h (iC a b c d w e f)/\de.length<=2/\∀v,v∈de->∃u:Val,v=(aS 2 u).cells
section
variable (n:Nat) (a b c d:Int) (w e f:qaW) (acc:qaW) (j:Nat) (x:List X)
def twH:St:=⟨[(1,num (Int.ofNat (n+1))),(2,.ptr 0 0 0),(4,.ptr 1 0 0),(5,.bs 2 0 j),(6,.sl true 7 []),(7,.sl true 11 []),(8,nat j)],[.var (iC a b c d w e f),.var MG,.row 1 acc]⟩
def twN:St:=⟨[(1,num (Int.ofNat (n+1))),(2,.ptr 0 0 0),(4,.ptr 1 0 0),(5,.bs 3 0 (j+1)),(6,.sl true 7 []),(7,.sl true 11 []),(8,nat (j+1))],[.var (iC a b c d w e f),.var MG,.dead,.row 1 (acc++[x])]⟩
def twE:St:=⟨[(1,num (Int.ofNat (n+1))),(2,.ptr 0 0 0),(4,.ptr 1 0 0),(5,.bs 2 0 j),(6,.sl true 7 []),(7,.sl true 11 []),(8,nat j),(22,boolX false)],[.var (iC a b c d w e f),.var MG,.row 1 acc]⟩
theorem Vt:canon 0 (twN n a b c d w e f acc j x)=some (twH n a b c d w e f (acc++[x]) (j+1)):=by kernel_rfl
end
theorem Pq (n:Nat)(a b c d:Int)(w e f:qaW)(hl:∀x,x∈w->zbG x)(hτ:canon 0 τ=some (twH n a b c d w e f [] 0)):∃acc,acc.length=min w.length 6/\(∀x,x∈acc->(fun x=>∃t:qaX,x=[strX t]/\t.size<=40) x)/\∀M,40<=M->run (callF tab ext M) 0 M (.loop (loopAt 58 0)) τ=some (.exit 0,twE n a b c d w e f acc (min w.length 6)):=by
 have L:min w.length 6<=6:=by exact Nat.min_le_right _ _
 have J:∃acc:qaW,acc.length=min w.length 6/\(∀x,x∈acc->(fun x=>∃t:qaX,x=[strX t]/\t.size<=40) x)/\∀M,40<=M->min w.length 6<M->run (callF tab ext M) 0 M (.loop (loopAt 58 0)) τ=some (.exit 0,twE n a b c d w e f acc (min w.length 6)):=?_
 ·grind
 refine fZ (nIn:=0) (b:=loopAt 58 0) (B:=40) (H:=fun j acc=>twH n a b c d w e f acc j) (k:=min w.length 6) (e:=.exit 0) (E:=fun acc=>twE n a b c d w e f acc (min w.length 6)) (fun x=>∃t:qaX,x=[strX t]/\t.size<=40) hτ (fun j acc N h=>?_) (fun acc h M A=>?_) (by simp)
 ·have l:j<w.length:=by omega
  have m:j<6:=by omega
  obtain ⟨v,F⟩:=hl _ (qae l);have y:w[j]?=some [strX v]:=by rw [qad l,F]
  exact ⟨[strX (dQ 40 v)],twN n a b c d w e f acc j ([strX (dQ 40 v)]),⟨_,rfl,iq 40 v⟩,Vt ..,fun M A=>ruA [(18,.b true),(21,.b true),(29,.e [strX v]),(34,.e [strX v]),(37,.i (Int.ofNat (min v.size 40))),(38,.cut),(40,.app),(24,.i (Int.ofNat (j+1)))] (pf8 (aI (j:=j) (k:=w.length) l) (je m) y y (fV v.size 40) (jH v.size 40) (aU (acc:=acc) j 2 16 h.symm (by omega) (by omega)) (ay (j:=j) (by omega)))⟩
 generalize O:min w.length 6=q;by_cases u:q<w.length;·exact ruA [(18,.b true),(21,.b false)] (pf2 (aI (j:=q) (k:=w.length) u) (aG (j:=q) (k:=6) (by omega)))
 exact ruA [(18,.b false)] (pf1 (aG (j:=q) (k:=w.length) u))
section
variable (n:Nat) (a b c d:Int) (w e f acc0:qaW) (m:Nat) (acc:qaW) (j:Nat) (x:List X)
def teH:St:=⟨[(1,num (Int.ofNat (n+1))),(2,.ptr 0 0 0),(4,.ptr 1 0 0),(5,.bs 2 0 m),(6,.bs 3 0 j),(7,.sl true 11 []),(9,nat j)],[.var (iC a b c d w e f),.var MG,.row 1 acc0,.row 7 acc]⟩
def teN:St:=⟨[(1,num (Int.ofNat (n+1))),(2,.ptr 0 0 0),(4,.ptr 1 0 0),(5,.bs 2 0 m),(6,.bs 4 0 (j+1)),(7,.sl true 11 []),(9,nat (j+1))],[.var (iC a b c d w e f),.var MG,.row 1 acc0,.dead,.row 7 (acc++[x])]⟩
def teE:St:=⟨[(1,num (Int.ofNat (n+1))),(2,.ptr 0 0 0),(4,.ptr 1 0 0),(5,.bs 2 0 m),(6,.bs 3 0 j),(7,.sl true 11 []),(9,nat j),(53,boolX false)],[.var (iC a b c d w e f),.var MG,.row 1 acc0,.row 7 acc]⟩
theorem Vx:canon 0 (teN n a b c d w e f acc0 m acc j x)=some (teH n a b c d w e f acc0 m (acc++[x]) (j+1)):=by kernel_rfl
end
theorem Pz (n:Nat)(a b c d:Int)(w e f acc0:qaW)(m:Nat)(hn:n<1000)(h54:∀m,n=m+1->∀x,x∈e->∃a b c d w e f a' b' c' d' w' e' f',x=iC a b c d w e f/\sT n (iC a' b' c' d' w' e' f')/\∀N,200+n<=N->Gam.pureD (callF tab ext N) 58 [.agg (iC a b c d w e f),nat (m+1)]=some (.agg (iC a' b' c' d' w' e' f')))(hτ:canon 0 τ=some (teH n a b c d w e f acc0 m [] 0)):∃acc,acc.length=kOf n e.length 2/\(∀x,x∈acc->(sT n) x)/\∀M,(200+n)<=M->run (callF tab ext M) 0 M (.loop (loopAt 58 1)) τ=some (.exit 2,teE n a b c d w e f acc0 m acc (kOf n e.length 2)):=by
 have pa:kOf n e.length 2<=e.length/\kOf n e.length 2<=2:=qg ..;have hK:kOf n e.length 2<=2:=by omega
 have pb:∃acc:qaW,acc.length=kOf n e.length 2/\(∀x,x∈acc->(sT n) x)/\∀M,(200+n)<=M->kOf n e.length 2<M->run (callF tab ext M) 0 M (.loop (loopAt 58 1)) τ=some (.exit 2,teE n a b c d w e f acc0 m acc (kOf n e.length 2)):=?_
 ·grind
 refine fZ (nIn:=0) (b:=loopAt 58 1) (B:=(200+n)) (H:=fun j acc=>teH n a b c d w e f acc0 m acc j) (k:=kOf n e.length 2) (e:=.exit 2) (E:=fun acc=>teE n a b c d w e f acc0 m acc (kOf n e.length 2)) (sT n) hτ (fun j acc hj h=>?_) (fun acc h M hM=>?_) (by simp)
 ·have l:j<e.length:=by omega
  have P:j<2:=by omega
  obtain ⟨n,rfl⟩:∃m,n=m+1:=by
   cases n with
   |zero=>grind[kOf]
   |succ m=>grind
  obtain ⟨S,U,V,W,w1,u,Y,y,A,F,J,Q,L,O,hv,hs,hc⟩:=h54 n rfl _ (qae l);have hg:e[j]?=some (iC S U V W w1 u Y):=by rw [qad l,hv]
  exact ⟨(iC y A F J Q L O),teN (n+1) a b c d w e f acc0 m acc j ((iC y A F J Q L O)),hs,Vx ..,fun M hM=>ruA [(45,.b true),(48,.b true),(52,.b true),(60,.e (iC S U V W w1 u Y)),(63,.i (Int.ofNat (n+1))),(64,.p (.agg (iC y A F J Q L O))),(66,.app),(55,.i (Int.ofNat (j+1)))] (pf8 (aI (j:=j) (k:=e.length) l) (je P) (FW n) hg (DL (j:=n+1) (by omega)) (hc M (by omega)) (aU (acc:=acc) j 3 104 h.symm (by omega) (by omega)) (ay (j:=j) (by omega)))⟩
 cases n with
 |zero=>
  have e0:kOf 0 e.length 2=0:=rfl;rw [e0];cases Z:decide (Int.ofNat 0<Int.ofNat e.length) with
  |true=>exact ruA [(45,.b true)] (pf1 Z)
  |false=>exact ruA [(45,.b false)] (pf1 Z)
 |succ n=>
  have u:kOf (n+1) e.length 2=min e.length 2:=rfl;rw [u];generalize hq:min e.length 2=q;by_cases h6:q<e.length;·exact ruA [(45,.b true),(48,.b false)] (pf2 (aI (j:=q) (k:=e.length) h6) (aG (j:=q) (k:=2) (by omega)))
  exact ruA [(45,.b false)] (pf1 (aG (j:=q) (k:=e.length) h6))
section
variable (n:Nat) (a b c d:Int) (w e f acc0 bG gB:qaW) (m q z:Nat) (x0:Int) (t0:qaX) (y0 p1 p2 p3 p4:Int) (pw pe pf de:qaW) (acc:qaW) (j:Nat) (x:List X)
def tdH:St:=⟨[(1,num (Int.ofNat (n+1))),(2,.ptr 0 0 0),(4,.ptr 1 0 0),(5,.bs 2 0 m),(6,.bs 3 0 q),(7,.bs 4 0 z),(10,nat z),(11,.ptr 5 0 0),(12,.bs 6 0 j),(13,nat j)],[.var (iC a b c d w e f),.var MG,.row 1 acc0,.row 7 bG,.row 11 gB,.var (UL x0 t0 y0 p1 p2 p3 p4 pw pe pf de),.row 6 acc]⟩
def tdN:St:=⟨[(1,num (Int.ofNat (n+1))),(2,.ptr 0 0 0),(4,.ptr 1 0 0),(5,.bs 2 0 m),(6,.bs 3 0 q),(7,.bs 4 0 z),(10,nat z),(11,.ptr 5 0 0),(12,.bs 7 0 (j+1)),(13,nat (j+1))],[.var (iC a b c d w e f),.var MG,.row 1 acc0,.row 7 bG,.row 11 gB,.var (UL x0 t0 y0 p1 p2 p3 p4 pw pe pf de),.dead,.row 6 (acc++[x])]⟩
def tdE:St:=⟨[(1,num (Int.ofNat (n+1))),(2,.ptr 0 0 0),(4,.ptr 1 0 0),(5,.bs 2 0 m),(6,.bs 3 0 q),(7,.bs 4 0 z),(10,nat z),(11,.ptr 5 0 0),(12,.bs 6 0 j),(13,nat j),(95,boolX false)],[.var (iC a b c d w e f),.var MG,.row 1 acc0,.row 7 bG,.row 11 gB,.var (UL x0 t0 y0 p1 p2 p3 p4 pw pe pf de),.row 6 acc]⟩
theorem Vy:canon 0 (tdN n a b c d w e f acc0 bG gB m q z x0 t0 y0 p1 p2 p3 p4 pw pe pf de acc j x)=some (tdH n a b c d w e f acc0 bG gB m q z x0 t0 y0 p1 p2 p3 p4 pw pe pf de (acc++[x]) (j+1)):=by kernel_rfl
end
theorem zav (n:Nat)(a b c d:Int)(w e f acc0 bG gB:qaW)(m q z:Nat)(x0:Int)(t0:qaX)(y0 p1 p2 p3 p4:Int)(pw pe pf de:qaW)(hl:∀x,x∈de->isVal x)(hτ:canon 0 τ=some (tdH n a b c d w e f acc0 bG gB m q z x0 t0 y0 p1 p2 p3 p4 pw pe pf de [] 0)):∃acc,acc.length=min de.length 2/\(∀x,x∈acc->(fun x=>∃u:Val,x=(aS 2 u).cells) x)/\∀M,40<=M->run (callF tab ext M) 0 M (.loop (loopAt 58 3)) τ=some (.exit 6,tdE n a b c d w e f acc0 bG gB m q z x0 t0 y0 p1 p2 p3 p4 pw pe pf de acc (min de.length 2)):=by
 have hK:min de.length 2<=2:=by exact Nat.min_le_right _ _
 have pa:∃acc:qaW,acc.length=min de.length 2/\(∀x,x∈acc->(fun x=>∃u:Val,x=(aS 2 u).cells) x)/\∀M,40<=M->min de.length 2<M->run (callF tab ext M) 0 M (.loop (loopAt 58 3)) τ=some (.exit 6,tdE n a b c d w e f acc0 bG gB m q z x0 t0 y0 p1 p2 p3 p4 pw pe pf de acc (min de.length 2)):=?_
 ·grind
 refine fZ (nIn:=0) (b:=loopAt 58 3) (B:=40) (H:=fun j acc=>tdH n a b c d w e f acc0 bG gB m q z x0 t0 y0 p1 p2 p3 p4 pw pe pf de acc j) (k:=min de.length 2) (e:=.exit 6) (E:=fun acc=>tdE n a b c d w e f acc0 bG gB m q z x0 t0 y0 p1 p2 p3 p4 pw pe pf de acc (min de.length 2)) (fun x=>∃u:Val,x=(aS 2 u).cells) hτ (fun j acc hj h=>?_) (fun acc h M hM=>?_) (by simp)
 ·have l:j<de.length:=by omega
  have O:j<2:=by omega
  obtain ⟨v,hv⟩:=hl _ (qae l);have hg:de[j]?=some v.cells:=by rw [qad l,hv]
  have Q:=iD 2 v;generalize hw:aS 2 v=w1 at Q;obtain ⟨S,U,V,W,Y,Z⟩:=v;obtain ⟨y,A,F,J,L,N⟩:=w1;exact ⟨(Val.mk y A F J L N).cells,tdN n a b c d w e f acc0 bG gB m q z x0 t0 y0 p1 p2 p3 p4 pw pe pf de acc j ((Val.mk y A F J L N).cells),⟨_,by rw [hw]⟩,Vy ..,fun M hM=>ruA [(91,.b true),(94,.b true),(102,.e (Val.mk S U V W Y Z).cells),(104,.p (.agg (Val.mk y A F J L N).cells)),(106,.app),(97,.i (Int.ofNat (j+1)))] (pf6 (aI (j:=j) (k:=de.length) l) (je O) hg (Q M (by omega) (by omega)) (aU (acc:=acc) j 6 88 h.symm (by omega) (by omega)) (ay (j:=j) (by omega)))⟩
 generalize hq:min de.length 2=q;by_cases P:q<de.length;·exact ruA [(91,.b true),(94,.b false)] (pf2 (aI (j:=q) (k:=de.length) P) (aG (j:=q) (k:=2) (by omega)))
 exact ruA [(91,.b false)] (pf1 (aG (j:=q) (k:=de.length) P))
section
variable (n:Nat) (a b c d:Int) (w e f acc0 bG:qaW) (m q:Nat) (acc:qaW) (j:Nat) (x:List X)
def tfH:St:=⟨[(1,num (Int.ofNat (n+1))),(2,.ptr 0 0 0),(4,.ptr 1 0 0),(5,.bs 2 0 m),(6,.bs 3 0 q),(7,.bs 4 0 j),(10,nat j)],[.var (iC a b c d w e f),.var MG,.row 1 acc0,.row 7 bG,.row 11 acc]⟩
def tfN:St:=⟨[(1,num (Int.ofNat (n+1))),(2,.ptr 0 0 0),(4,.ptr 1 0 0),(5,.bs 2 0 m),(6,.bs 3 0 q),(7,.bs 7 0 (j+1)),(10,nat (j+1))],[.var (iC a b c d w e f),.var MG,.row 1 acc0,.row 7 bG,.dead,.var x,.dead,.row 11 (acc++[x])]⟩
def tfE:St:=⟨[(1,num (Int.ofNat (n+1))),(2,.ptr 0 0 0),(4,.ptr 1 0 0),(5,.bs 2 0 m),(6,.bs 3 0 q),(7,.bs 4 0 j),(10,nat j),(79,boolX false)],[.var (iC a b c d w e f),.var MG,.row 1 acc0,.row 7 bG,.row 11 acc]⟩
theorem Vw:canon 0 (tfN n a b c d w e f acc0 bG m q acc j x)=some (tfH n a b c d w e f acc0 bG m q (acc++[x]) (j+1)):=by kernel_rfl
end
theorem Px (n:Nat)(a b c d:Int)(w e f acc0 bG:qaW)(m q:Nat)(hn:n<1000)(h54:∀m,n=m+1->∀x,x∈f->∃p t y T de,x=num p::strX t::num y::(T++[.sl false 6 de])/\(∀v,v∈de->isVal v)/\∃a b c d w e f a' b' c' d' w' e' f',T=iC a b c d w e f/\sT n (iC a' b' c' d' w' e' f')/\∀N,200+n<=N->Gam.pureD (callF tab ext N) 58 [.agg (iC a b c d w e f),nat (m+1)]=some (.agg (iC a' b' c' d' w' e' f')))(hτ:canon 0 τ=some (tfH n a b c d w e f acc0 bG m q [] 0)):∃acc,acc.length=kOf n f.length 6/\(∀x,x∈acc->(sF n) x)/\∀M,(200+n)<=M->run (callF tab ext M) 0 M (.loop (loopAt 58 2)) τ=some (.exit 4,tfE n a b c d w e f acc0 bG m q acc (kOf n f.length 6)):=by
 have pc:kOf n f.length 6<=f.length/\kOf n f.length 6<=6:=qg ..;have hK:kOf n f.length 6<=6:=by omega
 have pd:∃acc:qaW,acc.length=kOf n f.length 6/\(∀x,x∈acc->(sF n) x)/\∀M,(200+n)<=M->kOf n f.length 6<M->run (callF tab ext M) 0 M (.loop (loopAt 58 2)) τ=some (.exit 4,tfE n a b c d w e f acc0 bG m q acc (kOf n f.length 6)):=?_
 ·grind
 refine fZ (nIn:=0) (b:=loopAt 58 2) (B:=(200+n)) (H:=fun j acc=>tfH n a b c d w e f acc0 bG m q acc j) (k:=kOf n f.length 6) (e:=.exit 4) (E:=fun acc=>tfE n a b c d w e f acc0 bG m q acc (kOf n f.length 6)) (sF n) hτ (fun j acc hj u=>?_) (fun acc u M hM=>?_) (by simp)
 ·have F:j<f.length:=by omega
  have pb:j<6:=by omega
  obtain ⟨n,rfl⟩:∃m,n=m+1:=by
   cases n with
   |zero=>grind[kOf]
   |succ m=>grind
  obtain ⟨J,h,L,T0,de,hv,pa,O,P,Q,S,V,A,U,W,Y,Z,d2,w2,e2,f2,rfl,hs,hc⟩:=h54 n rfl _ (qae F);have hg:f[j]?=some (UL J h L O P Q S V A U de):=by rw [qad F,hv];rfl
  obtain ⟨l,i1,i3,i2⟩:=zav (n+1) a b c d w e f acc0 bG acc m q j J h L O P Q S V A U de pa (τ:=⟨[(1,num (Int.ofNat (n+1+1))),(2,.ptr 0 0 0),(4,.ptr 1 0 0),(5,.bs 2 0 m),(6,.bs 3 0 q),(7,.bs 4 0 j),(10,nat j),(11,.ptr 5 0 0),(12,.bs 6 0 0),(13,nat 0)],[.var (iC a b c d w e f),.var MG,.row 1 acc0,.row 7 bG,.row 11 acc,.var (UL J h L O P Q S V A U de),.row 6 []]⟩) (by kernel_rfl);have i4:min de.length 2<=2:=Nat.min_le_right _ _;generalize min de.length 2=z at i1 i2 i4;exact ⟨(UL J (dQ 40 h) L W Y Z d2 w2 e2 f2 (l.take z)),tfN (n+1) a b c d w e f acc0 bG m q acc j ((UL J (dQ 40 h) L W Y Z d2 w2 e2 f2 (l.take z))),⟨_,_,_,_,_,_,_,_,_,_,_,rfl,iq 40 h,hs,by grind,fun v hv=>i3 v (List.mem_of_mem_take hv)⟩,Vw ..,fun M hM=>ruB [(71,.b true),(74,.b true),(78,.b true),(85,.e (UL J h L O P Q S V A U de)),(112,.i (Int.ofNat (min h.size 40))),(113,.cut),(117,.i (Int.ofNat (n+1))),(118,.p (.agg (iC W Y Z d2 w2 e2 f2))),(126,.app),(81,.i (Int.ofNat (j+1)))] [(.exit 6,tdE (n+1) a b c d w e f acc0 bG acc m q j J h L O P Q S V A U de l z)] (pf12 (aI (j:=j) (k:=f.length) F) (je pb) (FW n) hg (i2 M (by omega)) (fV h.size 40) (jH h.size 40) (DL (j:=n+1) (by omega)) (hc M (by omega)) (show 0+z<=l.length by omega) (aU (acc:=acc) j 4 160 u.symm (by omega) (by omega)) (ay (j:=j) (by omega)))⟩
 cases n with
 |zero=>
  have e0:kOf 0 f.length 6=0:=rfl;rw [e0];cases h1:decide (Int.ofNat 0<Int.ofNat f.length) with
  |true=>exact ruA [(71,.b true)] (pf1 h1)
  |false=>exact ruA [(71,.b false)] (pf1 h1)
 |succ n=>
  have A:kOf (n+1) f.length 6=min f.length 6:=rfl;rw [A];generalize hq:min f.length 6=q;by_cases h6:q<f.length;·exact ruA [(71,.b true),(74,.b false)] (pf2 (aI (j:=q) (k:=f.length) h6) (aG (j:=q) (k:=6) (by omega)))
  exact ruA [(71,.b false)] (pf1 (aG (j:=q) (k:=f.length) h6))
theorem Po (n:Nat)(a b c d:Int)(w e f acc bG gB:qaW)(m q z:Nat)(h1:acc.length=m)(h2:bG.length=q)(h3:gB.length=z)(M:Nat)
  (g1:run (callF tab ext M) 0 M (.loop (loopAt 58 0)) (twH n a b c d w e f [] 0)=some (.exit 0,twE n a b c d w e f acc m)) (g2:run (callF tab ext M) 0 M (.loop (loopAt 58 1)) (teH n a b c d w e f acc m [] 0)=some (.exit 2,teE n a b c d w e f acc m bG q))
  (g3:run (callF tab ext M) 0 M (.loop (loopAt 58 2)) (tfH n a b c d w e f acc bG m q [] 0)=some (.exit 4,tfE n a b c d w e f acc bG m q gB z)):
  Gam.pureD (callF tab ext (M+1)) 58 [.agg (iC a b c d w e f),nat (n+1)]=some (.agg (iC a b c d acc bG gB)):=by
 have h:(X.agg [num a,num b,num c,num d,.bs 0 0 m,.bs 1 0 q,.bs 2 0 z]).data [.row 1 acc,.row 7 bG,.row 11 gB] false=some (.agg (iC a b c d acc bG gB)):=by subst h1 h2 h3;simp [X.data,dataL,rowOf,num,iC]
 exact pure_of [] [(.exit 0,twE n a b c d w e f acc m),(.exit 2,teE n a b c d w e f acc m bG q),(.exit 4,tfE n a b c d w e f acc bG m q gB z)] (pf3 g1 g2 g3) (x:=.agg [num a,num b,num c,num d,.bs 0 0 m,.bs 1 0 q,.bs 2 0 z]) (bx:=[.row 1 acc,.row 7 bG,.row 11 gB]) (by kernel_rfl) h
theorem EM:∀(n:Nat) (c:List X),n<1000->CW n c->∃a b c' d w e f a' b' c'' d' w' e' f',c=iC a b c' d w e f/\sT (n+1) (iC a' b' c'' d' w' e' f')/\∀N,200+(n+1)<=N->Gam.pureD (callF tab ext N) 58 [.agg (iC a b c' d w e f),nat (n+1)]=some (.agg (iC a' b' c'' d' w' e' f')):=by
 intro n;induction n with
 |zero=>
  rintro _ hn ⟨a,b,c,d,w,e,f,rfl,L⟩
  obtain ⟨h,u,O,E⟩:=Pq 0 a b c d w e f L (τ:=twH 0 a b c d w e f [] 0) (by kernel_rfl);have S:min w.length 6<=6:=Nat.min_le_right _ _;generalize min w.length 6=m at u E S;obtain ⟨j,A,P,F⟩:=Pz 0 a b c d w e f h m (by omega) (fun m J=>by omega) (τ:=teH 0 a b c d w e f h m [] 0) (by kernel_rfl);have U:=(qg 0 e.length 2).2;generalize kOf 0 e.length 2=q at A F U;obtain ⟨l,B,Q,H⟩:=Px 0 a b c d w e f h j m q (by omega) (fun m J=>by omega) (τ:=tfH 0 a b c d w e f h j m q [] 0) (by kernel_rfl);have V:=(qg 0 f.length 6).2;generalize kOf 0 f.length 6=z at B H V;refine ⟨a,b,c,d,w,e,f,a,b,c,d,h,j,l,rfl,⟨a,b,c,d,h,j,l,rfl,by omega,O,by omega,P,by omega,Q⟩,fun N Y=>?_⟩;obtain ⟨M,rfl⟩:=pR_ N
  grind[Po]
 |succ n ih=>
  rintro _ hn ⟨a,b,c,d,w,e,f,rfl,L,he,Z⟩
  obtain ⟨h,u,O,E⟩:=Pq (n+1) a b c d w e f L (τ:=twH (n+1) a b c d w e f [] 0) (by kernel_rfl);have S:min w.length 6<=6:=Nat.min_le_right _ _;generalize min w.length 6=m at u E S;obtain ⟨j,A,P,F⟩:=Pz (n+1) a b c d w e f h m (by omega) (fun m J x W=>by grind) (τ:=teH (n+1) a b c d w e f h m [] 0) (by kernel_rfl);have U:=(qg (n+1) e.length 2).2;generalize kOf (n+1) e.length 2=q at A F U;obtain ⟨l,B,Q,H⟩:=Px (n+1) a b c d w e f h j m q (by omega) (fun m J x W=>by
   obtain rfl:n=m:=by omega
   obtain ⟨p,t,y,T,de,u,A,B⟩:=Z x W;exact ⟨p,t,y,T,de,u,B,ih T (by omega) A⟩) (τ:=tfH (n+1) a b c d w e f h j m q [] 0) (by kernel_rfl)
  have V:=(qg (n+1) f.length 6).2;generalize kOf (n+1) f.length 6=z at B H V;refine ⟨a,b,c,d,w,e,f,a,b,c,d,h,j,l,rfl,⟨a,b,c,d,h,j,l,rfl,by omega,O,by omega,P,by omega,Q⟩,fun N Y=>?_⟩;obtain ⟨M,rfl⟩:=pR_ N
  grind[Po]
def zbq (name text:qaX)(k1 k2 k3 k4 k5 k6 a b c d:Int)(w e f ty ex ru ca ne:qaW):List X:=[strX name,num k1,num k2,num k3,num k4,num k5,num k6,strX text,num a,num b,num c,num d,.sl false 1 w,.sl false 7 e,.sl false 11 f,.sl false 7 ty,.sl false 5 ex,.sl false 6 ru,.sl false 2 ca,.sl false 1 ne]
def OY (name text:qaX)(k1 k2 k3 k4 k5 k6 a b c d:Int)(w e f ty ru ca ne:qaW)(i m:Nat):List X:=[strX name,num k1,num k2,num k3,num k4,num k5,num k6,strX text,num a,num b,num c,num d,.sl false 1 w,.sl false 7 e,.sl false 11 f,.sl false 7 ty,.bs i 0 m,.sl false 6 ru,.sl false 2 ca,.sl false 1 ne]
def G8:List X:=[noText,num 0,num 0,num 0,num 0,num 0,num 0,noText,num 0,num 0,num 0,num 0,.sl true 1 [],.sl true 7 [],.sl true 11 [],.sl true 7 [],.sl true 5 [],.sl true 6 [],.sl true 2 [],.sl true 1 []]
def KY (c:List X):Prop:=∃t l,c=[strX t,.sl false 6 l]/\∀x,x∈l->nY x
section
variable (name text:qaX) (k1 k2 k3 k4 k5 k6 a b c d:Int) (w e f ty ex ru ca ne:qaW) (acc:qaW) (j:Nat) (x:List X)
def qaH:St:=⟨[(1,.ptr 0 0 0),(2,.ptr 1 0 0),(3,.ptr 2 0 0),(4,nat j)],[.var (zbq name text k1 k2 k3 k4 k5 k6 a b c d w e f ty ex ru ca ne),.var G8,.var [.bs 3 0 j],.row 6 acc]⟩
def qaN:St:=⟨[(1,.ptr 0 0 0),(2,.ptr 1 0 0),(3,.ptr 2 0 0),(4,nat (j+1))],[.var (zbq name text k1 k2 k3 k4 k5 k6 a b c d w e f ty ex ru ca ne),.var G8,.var [.bs 4 0 (j+1)],.dead,.row 6 (acc++[x])]⟩
def qaE:St:=⟨[(1,.ptr 0 0 0),(2,.ptr 1 0 0),(3,.ptr 2 0 0),(4,nat j),(18,boolX false)],[.var (zbq name text k1 k2 k3 k4 k5 k6 a b c d w e f ty ex ru ca ne),.var G8,.var [.bs 3 0 j],.row 6 acc]⟩
theorem V9:canon 0 (qaN name text k1 k2 k3 k4 k5 k6 a b c d w e f ty ex ru ca ne acc j x)=some (qaH name text k1 k2 k3 k4 k5 k6 a b c d w e f ty ex ru ca ne (acc++[x]) (j+1)):=by kernel_rfl
end
theorem zbg (name text:qaX)(k1 k2 k3 k4 k5 k6 a b c d:Int)(w e f ty ex ru ca ne:qaW)(hl:∀x,x∈ex->CX 3 x)(hτ:canon 0 τ=some (qaH name text k1 k2 k3 k4 k5 k6 a b c d w e f ty ex ru ca ne [] 0)):∃acc,acc.length=min ex.length 4/\(∀x,x∈acc->(nY) x)/\∀M,40<=M->run (callF tab ext M) 0 M (.loop (loopAt 19 0)) τ=some (.exit 0,qaE name text k1 k2 k3 k4 k5 k6 a b c d w e f ty ex ru ca ne acc (min ex.length 4)):=by
 have S:min ex.length 4<=4:=by exact Nat.min_le_right _ _
 have Q:∃acc:qaW,acc.length=min ex.length 4/\(∀x,x∈acc->(nY) x)/\∀M,40<=M->min ex.length 4<M->run (callF tab ext M) 0 M (.loop (loopAt 19 0)) τ=some (.exit 0,qaE name text k1 k2 k3 k4 k5 k6 a b c d w e f ty ex ru ca ne acc (min ex.length 4)):=?_
 ·grind
 refine fZ (nIn:=0) (b:=loopAt 19 0) (B:=40) (H:=fun j acc=>qaH name text k1 k2 k3 k4 k5 k6 a b c d w e f ty ex ru ca ne acc j) (k:=min ex.length 4) (e:=.exit 0) (E:=fun acc=>qaE name text k1 k2 k3 k4 k5 k6 a b c d w e f ty ex ru ca ne acc (min ex.length 4)) (nY) hτ (fun j acc U h=>?_) (fun acc h M O=>?_) (by simp)
 ·have l:j<ex.length:=by omega
  have J:j<4:=by omega
  have F:=hl _ (qae l);obtain ⟨u,n,y,A,m,N,_⟩:=N8 F;rw [N] at F;have P:ex[j]?=some (gu u n y A m):=by rw [qad l,N];rfl
  exact ⟨(noText::gu u n y A m),qaN name text k1 k2 k3 k4 k5 k6 a b c d w e f ty ex ru ca ne acc j ((noText::gu u n y A m)),⟨⟨#[]⟩,_,rfl,F⟩,V9 ..,fun M O=>ruA [(14,.b true),(17,.b true),(26,.e (gu u n y A m)),(30,.app),(20,.i (Int.ofNat (j+1)))] (pf5 (aI (j:=j) (k:=ex.length) l) (je J) P (aU (acc:=acc) j 3 96 h.symm (by omega) (by omega)) (ay (j:=j) (by omega)))⟩
 generalize V:min ex.length 4=q;by_cases L:q<ex.length;·exact ruA [(14,.b true),(17,.b false)] (pf2 (aI (j:=q) (k:=ex.length) L) (aG (j:=q) (k:=4) (by omega)))
 exact ruA [(14,.b false)] (pf1 (aG (j:=q) (k:=ex.length) L))
section
variable (name text:qaX) (k1 k2 k3 k4 k5 k6 a b c d:Int) (w e f ty ru ca ne acc0:qaW) (acc:qaW) (j:Nat) (x:List X)
def qbH:St:=⟨[(1,.ptr 0 0 0),(2,.ptr 1 0 0),(3,.ptr 2 0 0),(5,nat j)],[.var (OY name text k1 k2 k3 k4 k5 k6 a b c d w e f ty ru ca ne 3 j),.var G8,.var [.sl false 6 acc0],.row 5 acc]⟩
def qbN:St:=⟨[(1,.ptr 0 0 0),(2,.ptr 1 0 0),(3,.ptr 2 0 0),(5,nat (j+1))],[.var (OY name text k1 k2 k3 k4 k5 k6 a b c d w e f ty ru ca ne 4 (j+1)),.var G8,.var [.sl false 6 acc0],.dead,.row 5 (acc++[x])]⟩
def qbE:St:=⟨[(1,.ptr 0 0 0),(2,.ptr 1 0 0),(3,.ptr 2 0 0),(5,nat j),(39,boolX false)],[.var (OY name text k1 k2 k3 k4 k5 k6 a b c d w e f ty ru ca ne 3 j),.var G8,.var [.sl false 6 acc0],.row 5 acc]⟩
theorem V8:canon 0 (qbN name text k1 k2 k3 k4 k5 k6 a b c d w e f ty ru ca ne acc0 acc j x)=some (qbH name text k1 k2 k3 k4 k5 k6 a b c d w e f ty ru ca ne acc0 (acc++[x]) (j+1)):=by kernel_rfl
end
theorem zbf (name text:qaX)(k1 k2 k3 k4 k5 k6 a b c d:Int)(w e f ty ru ca ne acc0:qaW)(hl8:acc0.length<=8)(hl:∀x,x∈acc0->xA x)(hτ:canon 0 τ=some (qbH name text k1 k2 k3 k4 k5 k6 a b c d w e f ty ru ca ne acc0 [] 0)):∃acc,acc.length=min acc0.length 8/\(∀x,x∈acc->(sE 4) x)/\∀M,40<=M->run (callF tab ext M) 0 M (.loop (loopAt 19 1)) τ=some (.exit 2,qbE name text k1 k2 k3 k4 k5 k6 a b c d w e f ty ru ca ne acc0 acc (min acc0.length 8)):=by
 have S:min acc0.length 8<=8:=by exact Nat.min_le_right _ _
 have Q:∃acc:qaW,acc.length=min acc0.length 8/\(∀x,x∈acc->(sE 4) x)/\∀M,40<=M->min acc0.length 8<M->run (callF tab ext M) 0 M (.loop (loopAt 19 1)) τ=some (.exit 2,qbE name text k1 k2 k3 k4 k5 k6 a b c d w e f ty ru ca ne acc0 acc (min acc0.length 8)):=?_
 ·grind
 refine fZ (nIn:=0) (b:=loopAt 19 1) (B:=40) (H:=fun j acc=>qbH name text k1 k2 k3 k4 k5 k6 a b c d w e f ty ru ca ne acc0 acc j) (k:=min acc0.length 8) (e:=.exit 2) (E:=fun acc=>qbE name text k1 k2 k3 k4 k5 k6 a b c d w e f ty ru ca ne acc0 acc (min acc0.length 8)) (sE 4) hτ (fun j acc U h=>?_) (fun acc h M J=>?_) (by simp)
 ·have l:j<acc0.length:=by omega
  have N:j<8:=by omega
  obtain ⟨F,u,n,y,A,m,P,_,O⟩:=hl _ (qae l);have L:acc0[j]?=some (yZ F u n y A m):=by rw [qad l,P];rfl
  exact ⟨(gu u n y A m),qbN name text k1 k2 k3 k4 k5 k6 a b c d w e f ty ru ca ne acc0 acc j ((gu u n y A m)),O,V8 ..,fun M J=>ruA [(39,.b true),(47,.e (yZ F u n y A m)),(51,.app),(41,.i (Int.ofNat (j+1)))] (pf4 (aI (j:=j) (k:=acc0.length) l) L (aU (acc:=acc) j 3 80 h.symm (by omega) (by omega)) (ay (j:=j) (by omega)))⟩
 generalize V:min acc0.length 8=q;exact ruA [(39,.b false)] (pf1 (aG (j:=q) (k:=acc0.length) (by omega)))
section
variable (name text:qaX) (k1 k2 k3 k4 k5 k6 a b c d:Int) (w e f ty ru ca ne acc0:qaW) (m:Nat) (acc:qaW) (j:Nat) (x:List X)
def qcH:St:=⟨[(1,.ptr 0 0 0),(2,.ptr 1 0 0),(6,.bs 2 0 j),(7,nat j)],[.var (OY name text k1 k2 k3 k4 k5 k6 a b c d w e f ty ru ca ne 3 m),.var G8,.row 2 acc,.row 5 acc0]⟩
def qcN:St:=⟨[(1,.ptr 0 0 0),(2,.ptr 1 0 0),(6,.bs 4 0 (j+1)),(7,nat (j+1))],[.var (OY name text k1 k2 k3 k4 k5 k6 a b c d w e f ty ru ca ne 3 m),.var G8,.dead,.row 5 acc0,.row 2 (acc++[x])]⟩
def qcE:St:=⟨[(1,.ptr 0 0 0),(2,.ptr 1 0 0),(6,.bs 2 0 j),(7,nat j),(61,boolX false)],[.var (OY name text k1 k2 k3 k4 k5 k6 a b c d w e f ty ru ca ne 3 m),.var G8,.row 2 acc,.row 5 acc0]⟩
theorem V7:canon 0 (qcN name text k1 k2 k3 k4 k5 k6 a b c d w e f ty ru ca ne acc0 m acc j x)=some (qcH name text k1 k2 k3 k4 k5 k6 a b c d w e f ty ru ca ne acc0 m (acc++[x]) (j+1)):=by kernel_rfl
end
theorem zbe (name text:qaX)(k1 k2 k3 k4 k5 k6 a b c d:Int)(w e f ty ru ca ne acc0:qaW)(m:Nat)(hl:∀x,x∈ca->KY x)(hτ:canon 0 τ=some (qcH name text k1 k2 k3 k4 k5 k6 a b c d w e f ty ru ca ne acc0 m [] 0)):∃acc,acc.length=min ca.length 4/\(∀x,x∈acc->(fun _=>True) x)/\∀M,110<=M->run (callF tab ext M) 0 M (.loop (loopAt 19 2)) τ=some (.exit 4,qcE name text k1 k2 k3 k4 k5 k6 a b c d w e f ty ru ca ne acc0 m acc (min ca.length 4)):=by
 have S:min ca.length 4<=4:=by exact Nat.min_le_right _ _
 have Q:∃acc:qaW,acc.length=min ca.length 4/\(∀x,x∈acc->(fun _=>True) x)/\∀M,110<=M->min ca.length 4<M->run (callF tab ext M) 0 M (.loop (loopAt 19 2)) τ=some (.exit 4,qcE name text k1 k2 k3 k4 k5 k6 a b c d w e f ty ru ca ne acc0 m acc (min ca.length 4)):=?_
 ·grind
 refine fZ (nIn:=0) (b:=loopAt 19 2) (B:=110) (H:=fun j acc=>qcH name text k1 k2 k3 k4 k5 k6 a b c d w e f ty ru ca ne acc0 m acc j) (k:=min ca.length 4) (e:=.exit 4) (E:=fun acc=>qcE name text k1 k2 k3 k4 k5 k6 a b c d w e f ty ru ca ne acc0 m acc (min ca.length 4)) (fun _=>True) hτ (fun j acc U l=>?_) (fun acc l M N=>?_) (by simp)
 ·have n:j<ca.length:=by omega
  have A:j<4:=by omega
  obtain ⟨h,u,P,F⟩:=hl _ (qae n);obtain ⟨J,_,_,O⟩:=wu u F;have y:ca[j]?=some [strX h,.sl false 6 u]:=by rw [qad n,P]
  exact ⟨[strX (dQ 60 h),.sl false 6 J],qcN name text k1 k2 k3 k4 k5 k6 a b c d w e f ty ru ca ne acc0 m acc j ([strX (dQ 60 h),.sl false 6 J]),trivial,V7 ..,fun M N=>ruA [(57,.b true),(60,.b true),(68,.e [strX h,.sl false 6 u]),(74,.e [strX h,.sl false 6 u]),(78,.i (Int.ofNat (min h.size 60))),(79,.cut),(83,.e [strX h,.sl false 6 u]),(86,.p (.agg [.sl false 6 J])),(89,.app),(63,.i (Int.ofNat (j+1)))] (pf10 (aI (j:=j) (k:=ca.length) n) (je A) y y (fV h.size 60) (jH h.size 60) y (O M (by omega)) (aU (acc:=acc) j 2 40 l.symm (by omega) (by omega)) (ay (j:=j) (by omega)))⟩
 generalize V:min ca.length 4=q;by_cases L:q<ca.length;·exact ruA [(57,.b true),(60,.b false)] (pf2 (aI (j:=q) (k:=ca.length) L) (aG (j:=q) (k:=4) (by omega)))
 exact ruA [(57,.b false)] (pf1 (aG (j:=q) (k:=ca.length) L))
section
variable (name text:qaX) (k1 k2 k3 k4 k5 k6 a b c d:Int) (w e f ty ru ca ne acc0 bG:qaW) (m q:Nat) (acc:qaW) (j:Nat) (x:List X)
def qdH:St:=⟨[(1,.ptr 0 0 0),(2,.ptr 1 0 0),(6,.bs 2 0 q),(8,.bs 3 0 j),(9,nat j)],[.var (OY name text k1 k2 k3 k4 k5 k6 a b c d w e f ty ru ca ne 4 m),.var G8,.row 2 bG,.row 7 acc,.row 5 acc0]⟩
def qdN:St:=⟨[(1,.ptr 0 0 0),(2,.ptr 1 0 0),(6,.bs 2 0 q),(8,.bs 5 0 (j+1)),(9,nat (j+1))],[.var (OY name text k1 k2 k3 k4 k5 k6 a b c d w e f ty ru ca ne 4 m),.var G8,.row 2 bG,.dead,.row 5 acc0,.row 7 (acc++[x])]⟩
def qdE:St:=⟨[(1,.ptr 0 0 0),(2,.ptr 1 0 0),(6,.bs 2 0 q),(8,.bs 3 0 j),(9,nat j),(98,boolX false)],[.var (OY name text k1 k2 k3 k4 k5 k6 a b c d w e f ty ru ca ne 4 m),.var G8,.row 2 bG,.row 7 acc,.row 5 acc0]⟩
theorem V6:canon 0 (qdN name text k1 k2 k3 k4 k5 k6 a b c d w e f ty ru ca ne acc0 bG m q acc j x)=some (qdH name text k1 k2 k3 k4 k5 k6 a b c d w e f ty ru ca ne acc0 bG m q (acc++[x]) (j+1)):=by kernel_rfl
end
theorem zbd (name text:qaX)(k1 k2 k3 k4 k5 k6 a b c d:Int)(w e f ty ru ca ne acc0 bG:qaW)(m q:Nat)(hl:∀x,x∈ty->CW 3 x)(hτ:canon 0 τ=some (qdH name text k1 k2 k3 k4 k5 k6 a b c d w e f ty ru ca ne acc0 bG m q [] 0)):∃acc,acc.length=min ty.length 8/\(∀x,x∈acc->(sT 4) x)/\∀M,210<=M->run (callF tab ext M) 0 M (.loop (loopAt 19 3)) τ=some (.exit 6,qdE name text k1 k2 k3 k4 k5 k6 a b c d w e f ty ru ca ne acc0 bG m q acc (min ty.length 8)):=by
 have hK:min ty.length 8<=8:=by exact Nat.min_le_right _ _
 have pa:∃acc:qaW,acc.length=min ty.length 8/\(∀x,x∈acc->(sT 4) x)/\∀M,210<=M->min ty.length 8<M->run (callF tab ext M) 0 M (.loop (loopAt 19 3)) τ=some (.exit 6,qdE name text k1 k2 k3 k4 k5 k6 a b c d w e f ty ru ca ne acc0 bG m q acc (min ty.length 8)):=?_
 ·grind
 refine fZ (nIn:=0) (b:=loopAt 19 3) (B:=210) (H:=fun j acc=>qdH name text k1 k2 k3 k4 k5 k6 a b c d w e f ty ru ca ne acc0 bG m q acc j) (k:=min ty.length 8) (e:=.exit 6) (E:=fun acc=>qdE name text k1 k2 k3 k4 k5 k6 a b c d w e f ty ru ca ne acc0 bG m q acc (min ty.length 8)) (sT 4) hτ (fun j acc hj h=>?_) (fun acc h M Z=>?_) (by simp)
 ·have l:j<ty.length:=by omega
  have L:j<8:=by omega
  obtain ⟨O,P,Q,S,Y,U,V,n,u,y,A,N,F,J,hv,hs,hc⟩:=EM 3 _ (by omega) (hl _ (qae l));have hg:ty[j]?=some (iC O P Q S Y U V):=by rw [qad l,hv]
  exact ⟨(iC n u y A N F J),qdN name text k1 k2 k3 k4 k5 k6 a b c d w e f ty ru ca ne acc0 bG m q acc j ((iC n u y A N F J)),hs,V6 ..,fun M Z=>ruA [(94,.b true),(97,.b true),(105,.e (iC O P Q S Y U V)),(107,.p (.agg (iC n u y A N F J))),(109,.app),(100,.i (Int.ofNat (j+1)))] (pf6 (aI (j:=j) (k:=ty.length) l) (je L) hg (hc M (by omega)) (aU (acc:=acc) j 3 104 h.symm (by omega) (by omega)) (ay (j:=j) (by omega)))⟩
 generalize hq:min ty.length 8=q;by_cases W:q<ty.length;·exact ruA [(94,.b true),(97,.b false)] (pf2 (aI (j:=q) (k:=ty.length) W) (aG (j:=q) (k:=8) (by omega)))
 exact ruA [(94,.b false)] (pf1 (aG (j:=q) (k:=ty.length) W))
theorem zH (name text:qaX)(k1 k2 k3 k4 k5 k6:Int)(T:List X)(ty ex ru ca ne:qaW)(hT:CW 3 T)(hty:∀x,x∈ty->CW 3 x)(hex:∀x,x∈ex->CX 3 x)(hru:∀x,x∈ru->nY x)(hca:∀x,x∈ca->KY x):
  ∃a b c d w e f a' b' c' d' w' e' f' ty' ex' ru' ca' ne',T=iC a b c d w e f/\((dQ 60 name).size<=60/\(dQ 60 text).size<=60/\sT 4 (iC a' b' c' d' w' e' f')/\ex'.length<=8/\(∀x,x∈ex'->sE 4 x)/\ru'.length<=8/\∀x,x∈ru'->xA x)/\∀N,220<=N->Gam.pureD (callF tab ext N) 19 [.agg (zbq name text k1 k2 k3 k4 k5 k6 a b c d w e f ty ex ru ca ne)]=some (.agg (zbq (dQ 60 name) (dQ 60 text) k1 k2 k3 k4 k5 k6 a' b' c' d' w' e' f' ty' ex' ru' ca' ne')):=by
 obtain ⟨a,b,c,d,w,e,f,a',b',c',d',w',e',f',rfl,Z,U⟩:=EM 3 T (by omega) hT;obtain ⟨l,S,Y,F⟩:=zbg name text k1 k2 k3 k4 k5 k6 a b c d w e f ty ex ru ca ne hex (τ:=qaH name text k1 k2 k3 k4 k5 k6 a b c d w e f ty ex ru ca ne [] 0) (by kernel_rfl);generalize min ex.length 4=m0 at S F;obtain ⟨n,y,A,V⟩:=wu l Y;obtain ⟨q,E,B,u⟩:=wu ru hru;obtain ⟨h,O,p2,H⟩:=zbf name text k1 k2 k3 k4 k5 k6 a b c d w e f ty ru ca ne n y A (τ:=⟨[(1,.ptr 0 0 0),(2,.ptr 1 0 0),(3,.ptr 2 0 0),(5,num 0)],[.var (OY name text k1 k2 k3 k4 k5 k6 a b c d w e f ty ru ca ne 4 0),.var G8,.var [.sl false 6 n],.dead,.row 5 []]⟩) (by kernel_rfl);have q8:min n.length 8<=8:=Nat.min_le_right _ _;generalize min n.length 8=m1 at O H q8;obtain ⟨m,P,_,J⟩:=zbe name text k1 k2 k3 k4 k5 k6 a b c d w e f ty ru ca ne h m1 hca (τ:=⟨[(1,.ptr 0 0 0),(2,.ptr 1 0 0),(6,.bs 4 0 0),(7,num 0)],[.var (OY name text k1 k2 k3 k4 k5 k6 a b c d w e f ty ru ca ne 3 m1),.var G8,.var [.sl false 6 n],.row 5 h,.row 2 []]⟩) (by kernel_rfl);generalize min ca.length 4=m2 at P J;obtain ⟨j,Q,_,L⟩:=zbd name text k1 k2 k3 k4 k5 k6 a b c d w e f ty ru ca ne h m m1 m2 hty (τ:=⟨[(1,.ptr 0 0 0),(2,.ptr 1 0 0),(6,.bs 2 0 m2),(8,.bs 4 0 0),(9,num 0)],[.var (OY name text k1 k2 k3 k4 k5 k6 a b c d w e f ty ru ca ne 3 m1),.var G8,.row 2 m,.row 5 h,.row 7 []]⟩) (by kernel_rfl);generalize min ty.length 8=m3 at Q L;refine ⟨a,b,c,d,w,e,f,a',b',c',d',w',e',f',j,h,q,m,ne.take (min ne.length 70),rfl,⟨iq 60 name,iq 60 text,Z,by omega,p2,E,B⟩,fun N hN=>?_⟩;obtain ⟨M,rfl⟩:=pR_ N;have W:(X.agg [strX (dQ 60 name),num k1,num k2,num k3,num k4,num k5,num k6,strX (dQ 60 text),num a',num b',num c',num d',.sl false 1 w',.sl false 7 e',.sl false 11 f',.bs 0 0 m3,.bs 1 0 m1,.sl false 6 q,.bs 2 0 m2,.sl false 1 (ne.take (min ne.length 70))]).data [.row 7 j,.row 5 h,.row 2 m] false
   =some (.agg (zbq (dQ 60 name) (dQ 60 text) k1 k2 k3 k4 k5 k6 a' b' c' d' w' e' f' j h q m (ne.take (min ne.length 70)))):=by
  subst O P Q;simp [X.data,dataL,rowOf,num,strX,zbq]
 exact pure_of [(33,.p (.agg [.sl false 6 n])),(114,.p (.agg [.sl false 6 q])),(117,.p (.agg (iC a' b' c' d' w' e' f'))),(127,.i (Int.ofNat (min name.size 60))),(128,.cut),(134,.i (Int.ofNat (min text.size 60))),(135,.cut),(141,.i (Int.ofNat (min ne.length 70))),(142,.cut)]
  [(.exit 0,qaE name text k1 k2 k3 k4 k5 k6 a b c d w e f ty ex ru ca ne l m0),(.exit 2,qbE name text k1 k2 k3 k4 k5 k6 a b c d w e f ty ru ca ne n h m1),(.exit 4,qcE name text k1 k2 k3 k4 k5 k6 a b c d w e f ty ru ca ne h m1 m m2),(.exit 6,qdE name text k1 k2 k3 k4 k5 k6 a b c d w e f ty ru ca ne h m m1 m2 j m3)]
  (pf14 (F M (by omega)) (show 0+m0<=l.length by omega) (show Gam.pureD (callF tab ext M) 57 [.agg [.sl false 6 (l.take m0)]]=some (.agg [.sl false 6 n]) by grind) (H M (by omega)) (J M (by omega)) (L M (by omega)) (u M (by omega)) (U M (by omega)) (fV name.size 60) (jH name.size 60) (fV text.size 60) (jH text.size 60) (fV ne.length 70) (jH ne.length 70))
  (x:=.agg [strX (dQ 60 name),num k1,num k2,num k3,num k4,num k5,num k6,strX (dQ 60 text),num a',num b',num c',num d',.sl false 1 w',.sl false 7 e',.sl false 11 f',.bs 0 0 m3,.bs 1 0 m1,.sl false 6 q,.bs 2 0 m2,.sl false 1 (ne.take (min ne.length 70))]) (bx:=[.row 7 j,.row 5 h,.row 2 m]) (by kernel_rfl) W
end Go.Proofs.YtcbeoccmflnejaaGreatDoor
