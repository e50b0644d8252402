/-.-/
import Derived.Test.YtcbeoccmflnejaaGreatDoorU14q1q3
import Derived.Test.YtcbeoccmflnejaaGreatDoorU15q2q3
import Derived.Test.YtcbeoccmflnejaaGreatDoorU32q1q3
import Derived.Test.YtcbeoccmflnejaaGreatDoorU33
import Derived.Test.YtcbeoccmflnejaaGreatDoorU34
import Derived.Test.YtcbeoccmflnejaaGreatDoorU34q1q3
import Derived.Test.YtcbeoccmflnejaaGreatDoorU38q1q3
import Derived.Test.YtcbeoccmflnejaaGreatDoorU38q2q3
import Derived.Test.YtcbeoccmflnejaaGreatDoorU42q2q3
set_option linter.all false
namespace Go.Proofs.YtcbeoccmflnejaaGreatDoor
open Go Go.Em Go.Ab
set_option maxRecDepth 100000
def bub:Nat->List Slt->List Slt
 |0,L=>L
 |j+1,L=>if (L.getD (j+1) uw).n<(L.getD j uw).n then bub j ((L.set (j+1) (L.getD j uw)).set j (L.getD (j+1) uw)) else L
theorem AY:∀(j:Nat) (L:List Slt),(bub j L).length=L.length
 |0,_=>rfl
 |j+1,L=>by
  unfold bub;split;·rw [AY];simp
  rfl
def fJ:Nat->List Slt->List Slt
 |0,L=>L
 |k+1,L=>bub (k+1) (fJ k L)
theorem lZ:∀(k:Nat) (L:List Slt),(fJ k L).length=L.length
 |0,_=>rfl
 |k+1,L=>by unfold fJ;rw [AY,lZ k L]
theorem zgK (a b:Slt)(N:Nat):Gam.pureD (callF tab ext (N+20)) 54 [.agg a.cells,.agg b.cells]=some (num (dZ a.n b.n)):=by have h:=jQ (N+10) a.n b.n;obtain ⟨⟨m,q,u,w,y,A⟩,f,B,E,l⟩:=a;obtain ⟨⟨H,J,L,M,O,P⟩,j,Q,S,F⟩:=b;exact puA [(9,.p (num (dZ f j)))] (pf1 h) (num (dZ f j))
theorem pfI {a b c d e:Prop}{l:List Prop}(h1:a)(h2:b)(h3:c)(h4:d)(h5:e)(h:allP l):allP (a::b::c::d::e::l):=⟨h1,h2,h3,h4,h5,h⟩
section
variable (n i j:Nat) (rows:qaW)
def isH:St:=⟨[(0,.bs 0 0 n),(1,num 0),(2,nat n),(3,.fn 54 []),(8,nat i),(9,nat j)],[.row 10 rows]⟩
def isE:St:=⟨[(0,.bs 0 0 n),(1,num 0),(2,nat n),(3,.fn 54 []),(8,nat i),(9,nat j),(34,boolX false)],[.row 10 rows]⟩
theorem FT:canon 1 (isH n i j rows)=some (isH n i j rows):=by kernel_rfl
theorem zgb (N:Nat):run (callF tab ext N) 1 N (loopAt 153 1) (isH n i 0 rows)=some (.exit 2,isE n i 0 rows):=
 ruA [(20,.b false)] (pf1 (show decide (Int.ofNat 0>0)=false by decide))
end
theorem zgc (n i j:Nat)(L:List Slt)(hn:n=L.length)(Jk:L.length<=100)(hj:j+1<L.length)(N:Nat)(hN:100<=N):
  (¬L[j+1].n<(L[j]'(by omega)).n->run (callF tab ext N) 1 N (loopAt 153 1) (isH n i (j+1) (ak L))=some (.exit 2,isE n i (j+1) (ak L)))/\
  (L[j+1].n<(L[j]'(by omega)).n->run (callF tab ext N) 1 N (loopAt 153 1) (isH n i (j+1) (ak L))=some (.norm,isH n i j (ak ((L.set (j+1) (L[j]'(by omega))).set j L[j+1])))):=by
 obtain ⟨M,rfl⟩:∃M,N=M+20:=⟨N-20,by omega⟩;have pa:=aN L;have ga:=aW hj;have gb:=aW (show j<L.length by omega);have h1:decide (Int.ofNat (j+1)>0)=true:=decide_eq_true (by grind);have h2:(Int.ofNat (j+1)).toNat<n:=by simp;omega
 have h3:(Int.ofNat j).toNat<n:=by simp;omega
 have u:IntKind.i64.wrap (Int.ofNat (j+1)-1)=Int.ofNat j:=by rw [IntKind.wrap_i64];simp only [qaq];omega
 have hc:=zgK L[j+1] (L[j]'(by omega)) M;have e2:ak ((L.set (j+1) (L[j]'(by omega))).set j L[j+1])=((ak L).set (0+(j+1)) (L[j]'(by omega)).cells).set (0+j) L[j+1].cells:=by simp [ak,List.map_set]
 rw [e2];generalize L[j+1]=a at*;generalize (L[j]'(by omega))=b at*;have f:(ak L)[0+(Int.ofNat (j+1)).toNat]?=some a.cells:=by rw [Nat.zero_add];exact ga
 have l:(ak L)[0+(Int.ofNat j).toNat]?=some b.cells:=by rw [Nat.zero_add];exact gb
 have gs:((ak L).set (0+(Int.ofNat (j+1)).toNat) b.cells)[0+(Int.ofNat j).toNat]?=some b.cells:=by rw [List.getElem?_set_ne (by grind)];exact l
 have ho:dZ a.n b.n<0↔a.n<b.n:=QO;obtain ⟨⟨y,A,B,E,F,H⟩,m,J,O,w⟩:=a;obtain ⟨⟨Q,S,U,V,W,Y⟩,q,Z,b9,P⟩:=b;dsimp only at ho hc ⊢;generalize dZ m q=r at hc ho;constructor;·intro h;have h7:=decide_eq_false (fun hh=>h (ho.1 hh));exact ruA [(20,.b true),(25,.at),(26,.ld (Slt.mk ⟨y,A,B,E,F,H⟩ m J O w).cells),(29,.i (Int.ofNat j)),(30,.at),(31,.ld (Slt.mk ⟨Q,S,U,V,W,Y⟩ q Z b9 P).cells),(32,.p (num r)),(33,.b false)] (pf8 h1 h2 f u h3 l hc h7)
 intro h;have h7:=decide_eq_true (ho.2 h);exact ruA [(20,.b true),(25,.at),(26,.ld (Slt.mk ⟨y,A,B,E,F,H⟩ m J O w).cells),(29,.i (Int.ofNat j)),(30,.at),(31,.ld (Slt.mk ⟨Q,S,U,V,W,Y⟩ q Z b9 P).cells),(32,.p (num r)),(33,.b true),(41,.i (Int.ofNat j)),(44,.i (Int.ofNat j)),(45,.at),(46,.ld (Slt.mk ⟨Q,S,U,V,W,Y⟩ q Z b9 P).cells),(49,.at),(50,.ld (Slt.mk ⟨y,A,B,E,F,H⟩ m J O w).cells),(51,.at),(1000051,.st (Slt.mk ⟨y,A,B,E,F,H⟩ m J O w).cells),(52,.at),(1000052,.st (Slt.mk ⟨Q,S,U,V,W,Y⟩ q Z b9 P).cells),(36,.i (Int.ofNat j))] (pfI h1 h2 f u h3 (pf14 l hc h7 u u h3 l h2 f h2 f h3 gs u))
theorem ZE (n i:Nat)(N:Nat)(hN:200<=N):∀(j:Nat) (L:List Slt) (F:Nat) (τ:St),n=L.length->L.length<=100->(j<L.length\/j=0)->j<F->canon 1 τ=some (isH n i j (ak L))->∃j',iter 1 (run (callF tab ext N) 1 N (loopAt 153 1)) F τ=some (.exit 2,isE n i j' (ak (bub j L)))
 |0,L,F,τ,_,_,_,hF,hτ=>by obtain ⟨F,rfl⟩:∃G,F=G+1:=⟨F-1,by omega⟩;exact ⟨0,iter_end hτ (zgb n i (ak L) N) (by simp)⟩
 |j+1,L,F,τ,hn,Jk,hj,hF,hτ=>by
  obtain ⟨F,rfl⟩:∃G,F=G+1:=⟨F-1,by omega⟩;have hj':j+1<L.length:=by omega
  have hs:=zgc n i j L hn Jk hj' N (by omega);have g1:L.getD (j+1) uw=L[j+1]:=by rw [qav,qad hj'];rfl
  have g2:L.getD j uw=L[j]'(by omega):=by rw [qav,qad (by omega)];rfl
  unfold bub;rw [g1,g2];by_cases h:L[j+1].n<(L[j]'(by omega)).n;·rw [if_pos h];obtain ⟨j',hi⟩:=ZE n i N hN j ((L.set (j+1) (L[j]'(by omega))).set j L[j+1]) F _ (by grind) (by grind) (by grind) (by omega) (FT ..);exact ⟨j',iter_step hτ (hs.2 h) hi⟩
  rw [if_neg h]
  grind[iter_end]
section
variable (n i:Nat) (rows:qaW)
def oH:St:=⟨[(0,.bs 0 0 n),(1,num 0),(2,nat n),(3,.fn 54 []),(8,nat i)],[.row 10 rows]⟩
def oE:St:=⟨[(0,.bs 0 0 n),(1,num 0),(2,nat n),(3,.fn 54 []),(8,nat i),(14,boolX false)],[.row 10 rows]⟩
theorem KE:canon 1 (oH n i rows)=some (oH n i rows):=by kernel_rfl
end
theorem zfU (L:List Slt)(Jk:L.length<=100)(N:Nat)(hN:200<=N):
  run (callF tab ext N) 1 N (.loop (loopAt 153 0)) (oH L.length 1 (ak L))=some (.exit 0,oE L.length (L.length-1+1) (ak (fJ (L.length-1) L))):=by
 refine loop_for (σ:=fun k=>oH L.length (k+1) (ak (fJ k L))) (k:=L.length-1) (KE ..) (fun k l=>?_) ?_ (by simp) (by omega);·have h:=lZ k L;obtain ⟨f,a⟩:=ZE L.length (k+1) N hN (k+1) (fJ k L) N (isH L.length (k+1) (k+1) (ak (fJ k L))) h.symm (by omega) (by omega) (by omega) (FT ..);have a:run (callF tab ext N) 1 N (.loop (loopAt 153 1)) (isH L.length (k+1) (k+1) (ak (fJ k L)))=some (.exit 2,isE L.length (k+1) f (ak (fJ (k+1) L))):=a;exact ⟨oH L.length (k+1+1) (ak (fJ (k+1) L)),ruB [(14,.b true),(16,.i (Int.ofNat (k+1+1)))] [(.exit 2,isE L.length (k+1) f (ak (fJ (k+1) L)))] (pf3 (aI (j:=k+1) (k:=L.length) (by omega)) a (ay (j:=k+1) (by omega))),KE ..⟩
 exact ruA [(14,.b false)] (pf1 (aG (j:=L.length-1+1) (k:=L.length) (by omega)))
theorem zaE (L:List Slt)(Jk:L.length<=100)(N:Nat)(hN:201<=N):callF tab ext N (.fn 153) [.bs 0 0 L.length,num 0,nat L.length,.fn 54 []] [.row 10 (ak L)]=some (.tup [],[.row 10 (ak (fJ (L.length-1) L))]):=by obtain ⟨M,rfl⟩:=pR_ N;exact caB [] [(.exit 0,oE L.length (L.length-1+1) (ak (fJ (L.length-1) L)))] (pf1 (zfU L Jk M (by omega)))
section
variable (n:Nat) (rows:qaW)
def s0H:St:=⟨[(0,.bs 0 0 n),(1,nat n),(2,.fn 54 []),(6,num 20),(7,num 0),(8,num 20)],[.row 10 rows]⟩
def s0E:St:=⟨[(0,.bs 0 0 n),(1,nat n),(2,.fn 54 []),(6,num 20),(7,num 0),(8,num 20),(13,boolX false)],[.row 10 rows]⟩
def s2H:St:=⟨[(0,.bs 0 0 n),(1,nat n),(2,.fn 54 []),(6,num 20)],[.row 10 rows]⟩
def s2E:St:=⟨[(0,.bs 0 0 n),(1,nat n),(2,.fn 54 []),(6,num 20),(30,boolX false)],[.row 10 rows]⟩
end
theorem zaF (L:List Slt)(h:L.length<20)(N:Nat)(hN:203<=N):callF tab ext N (.fn 96) [.bs 0 0 L.length,nat L.length,.fn 54 []] [.row 10 (ak L)]=some (.tup [],[.row 10 (ak (fJ (L.length-1) L))]):=by
 obtain ⟨M,rfl⟩:=pR_ N;have n:=zaE L (by omega) M (by omega);have l:decide ((20:Int)<=Int.ofNat L.length)=false:=decide_eq_false (by grind);have m:decide ((20:Int)<Int.ofNat L.length)=false:=decide_eq_false (by grind);have a:run (callF tab ext M) 1 M (.loop (loopAt 96 0)) (s0H L.length (ak L))=some (.exit 0,s0E L.length (ak L)):=
  loop_for (σ:=fun _=>s0H L.length (ak L)) (k:=0) (by kernel_rfl) (fun j q=>by omega) (ruA [(13,.b false)] (pf1 l)) (by simp) (by omega)
 have f:run (callF tab ext M) 1 M (.loop (loopAt 96 1)) (s2H L.length (ak (fJ (L.length-1) L)))=some (.exit 2,s2E L.length (ak (fJ (L.length-1) L))):=
  loop_for (σ:=fun _=>s2H L.length (ak (fJ (L.length-1) L))) (k:=0) (by kernel_rfl) (fun j q=>by omega) (ruA [(30,.b false)] (pf1 m)) (by simp) (by omega)
 generalize ak (fJ (L.length-1) L)=R at*;exact caB [(27,.r (.tup []) [.row 10 R])] [(.exit 0,s0E L.length (ak L)),(.exit 2,s2E L.length R)] (pf3 a n f)
theorem zaG (L:List Slt)(h:L.length<20)(N:Nat)(hN:204<=N):callF tab ext N (.fn 53) [.bs 0 0 L.length,.fn 54 []] [.row 10 (ak L)]=some (.tup [],[.row 10 (ak (fJ (L.length-1) L))]):=by obtain ⟨M,rfl⟩:=pR_ N;exact caA [(8,.r (.tup []) [.row 10 (ak (fJ (L.length-1) L))])] (pf1 (zaF L h M (by omega)))
theorem Yt (N:Nat)(rows:qaW)(h:rows.length<=1000000):callF tab ext (N+1) (.fn 52) [.sl false 10 rows] []=some (.bs 0 0 rows.length,[.row 10 rows]):=by simp_all[callF,ext,yI]
section
variable (n j:Nat) (acc rows:qaW)
def rmH:St:=⟨[(4,.bs 0 0 j),(12,.bs 1 0 n),(13,nat n),(14,nat j)],[.row 6 acc,.row 10 rows]⟩
def rmE:St:=⟨[(4,.bs 0 0 j),(12,.bs 1 0 n),(13,nat n),(14,nat j),(15,boolX false)],[.row 6 acc,.row 10 rows]⟩
theorem ND (a b:Int)(r0:qaW):canon 0 ⟨[(4,.bs 2 0 0),(12,.bs 1 0 n),(13,nat n),(14,num 0)],[.var [num a,num b,.sl false 10 r0],.row 10 rows,.row 6 []]⟩=some (rmH n 0 [] rows):=by kernel_rfl
end
theorem VU (n j:Nat)(acc:qaW)(L:List Slt)(hn:n=L.length)(Jk:L.length<=100)(hacc:acc.length=j)(hj:j<L.length)(N:Nat)(hc:Gam.pureD (callF tab ext N) 56 [.agg L[j].key.cells]=some (.agg L[j].key.cells)):
  ∃υ,run (callF tab ext N) 0 N (loopAt 18 0) (rmH n j acc (ak L))=some (.norm,υ)/\canon 0 υ=some (rmH n (j+1) (acc++[L[j].key.cells]) (ak L)):=by
 have w:=aW hj;have H:=aN L;have F:(Int.ofNat j).toNat<n:=by simp;omega
 generalize L[j]=x at w hc ⊢;have a:(ak L)[0+(Int.ofNat j).toNat]?=some x.cells:=by rw [Nat.zero_add];exact w
 obtain ⟨⟨f,h,l,m,q,u⟩,A,B,E,y⟩:=x;exact aH [(15,.b true),(16,.at),(17,.ld (Slt.mk ⟨f,h,l,m,q,u⟩ A B E y).cells),(21,.p (.agg (Val.mk f h l m q u).cells)),(23,.app),(24,.i (Int.ofNat (j+1)))] (pf6 (aI (j:=j) (k:=n) (by omega)) F a hc (aU j 3 88 hacc.symm (by omega) (by omega)) (ay (j:=j) (by omega))) (by kernel_rfl)
def bJ (L:List Slt):qaW:=L.map fun x=>x.key.cells
theorem za4 (L:List Slt)(Jk:L.length<=100)(B:Nat)(hk:∀x,x∈L->∀N,B<=N->Gam.pureD (callF tab ext N) 56 [.agg x.key.cells]=some (.agg x.key.cells))(N:Nat)(hN:B+200<=N)(τ:St)(hτ:canon 0 τ=some (rmH L.length 0 [] (ak L))):
  run (callF tab ext N) 0 N (.loop (loopAt 18 0)) τ=some (.exit 0,rmE L.length L.length (bJ L) (ak L)):=by
 have a:(bJ L).length=L.length:=by simp [bJ]
 refine loop_for (σ:=fun j=>rmH L.length j ((bJ L).take j) (ak L)) (k:=L.length) hτ (fun j f=>?_) ?_ (by simp) (by omega)
 ·have e:(bJ L).take (j+1)=(bJ L).take j++[L[j].key.cells]:=by rw [List.take_add_one,qad (by omega)];simp [bJ]
  rw [e];exact VU L.length j _ L rfl Jk (by grind) f N (hk _ (qae f) N (by omega))
 have e:(bJ L).take L.length=bJ L:=by rw [<-a,List.take_length]
 rw [e];exact ruA [(15,.b false)] (pf1 (aG (j:=L.length) (k:=L.length) (by omega)))
theorem lK (s:Stt)(h:s.slots.length<20)(B:Nat)(hk:∀x,x∈fJ (s.slots.length-1) s.slots->∀N,B<=N->Gam.pureD (callF tab ext N) 56 [.agg x.key.cells]=some (.agg x.key.cells))(N:Nat)(hN:B+300<=N):
  Gam.pureD (callF tab ext N) 18 [.agg s.cells]=some (.sl false 6 (bJ (fJ (s.slots.length-1) s.slots))):=by
 obtain ⟨M,rfl⟩:=pR_ N;obtain ⟨K,rfl⟩:=pR_ M;have w:=aN s.slots;have l:=lZ (s.slots.length-1) s.slots;have m:=Yt K (ak s.slots) (by omega);have u:=zaG s.slots h (K+1) (by omega);rw [w] at m;have f:=za4 (fJ (s.slots.length-1) s.slots) (by omega) B hk (K+1) (by omega);rw [l] at f;have q:(bJ (fJ (s.slots.length-1) s.slots)).length=s.slots.length:=by simp [bJ,l]
 obtain ⟨a,b,j⟩:=s;dsimp only at*;have f:=f _ (ND j.length (ak (fJ (j.length-1) j)) a b (ak j));generalize ak (fJ (j.length-1) j)=R2 at*;generalize bJ (fJ (j.length-1) j)=R3 at*;refine pure_of [(9,.r (.bs 0 0 j.length) [.row 10 (ak j)]),(11,.r (.tup []) [.row 10 R2])] [(.exit 0,rmE j.length j.length R3 R2)] (pf3 m u f) (x:=.bs 0 0 j.length) (bx:=[.row 6 R3]) (by kernel_rfl) ?_;simp [X.data,jc (bx:=[.row 6 R3]) (i:=0) (n:=j.length) rfl q.symm]
section
variable (j:Nat) (acc l:qaW)
def re0:St:=⟨[(3,.sl false 10 l),(4,.sl true 6 [])],[]⟩
def reA:St:=⟨[(3,.sl false 10 l),(4,.bs 0 0 j)],[.row 6 acc]⟩
def reB:St:=⟨[(3,.bs 0 0 l.length),(4,.bs 1 0 j)],[.row 10 l,.row 6 acc]⟩
end
def reX (own:Bool)(j:Nat)(acc l:qaW):St:=if own then reB j acc l else reA j acc l
theorem V5 (l:List Slt)(i:Nat)(N:Nat)(h6:l.length<=6)(hi:i<l.length)(h127:Gam.pureD (callF tab ext N) 46 [.sl false 10 (ak l)]=some (nat i)):
  ∃υ,run (callF tab ext N) 0 N (loopAt 16 0) (re0 (ak l))=some (.norm,υ)/\canon 0 υ=some (if i=0 then reA 1 [l[i].key.cells] (ak (l.eraseIdx i)) else reB 1 [l[i].key.cells] (ak (l.eraseIdx i))):=by
 have a:i<6:=by omega
 rcases l with _|⟨⟨⟨_,_,_,_,_,_⟩,_,_,_,_⟩,_|⟨⟨⟨_,_,_,_,_,_⟩,_,_,_,_⟩,_|⟨⟨⟨_,_,_,_,_,_⟩,_,_,_,_⟩,_|⟨⟨⟨_,_,_,_,_,_⟩,_,_,_,_⟩,_|⟨⟨⟨_,_,_,_,_,_⟩,_,_,_,_⟩,_|⟨⟨⟨_,_,_,_,_,_⟩,_,_,_,_⟩,_|⟨_,_⟩⟩⟩⟩⟩⟩⟩
 all_goals try (simp at h6;done)
 all_goals
  rcases i with _|_|_|_|_|_|i
  ·first|(simp at hi;done)|exact aH [(14,.p (nat 0))] (pf1 h127) (by kernel_rfl)
  ·first|(simp at hi;done)|exact aH [(14,.p (nat 1))] (pf1 h127) (by kernel_rfl)
  ·first|(simp at hi;done)|exact aH [(14,.p (nat 2))] (pf1 h127) (by kernel_rfl)
  ·first|(simp at hi;done)|exact aH [(14,.p (nat 3))] (pf1 h127) (by kernel_rfl)
  ·first|(simp at hi;done)|exact aH [(14,.p (nat 4))] (pf1 h127) (by kernel_rfl)
  ·first|(simp at hi;done)|exact aH [(14,.p (nat 5))] (pf1 h127) (by kernel_rfl)
  omega
theorem re_stepX (own:Bool)(j:Nat)(acc:qaW)(hacc:acc.length=j)(Jk:j<=100)(l:List Slt)(i:Nat)(N:Nat)(h6:l.length<=6)(hi:i<l.length)(h127:Gam.pureD (callF tab ext N) 46 [.sl false 10 (ak l)]=some (nat i)):
  ∃υ,run (callF tab ext N) 0 N (loopAt 16 0) (reX own j acc (ak l))=some (.norm,υ)/\canon 0 υ=some (if i=0 then reA (j+1) (acc++[l[i].key.cells]) (ak (l.eraseIdx i)) else reB (j+1) (acc++[l[i].key.cells]) (ak (l.eraseIdx i))):=by
 have f:i<6:=by omega
 have a:=aU (acc:=acc) j 3 88 hacc.symm (by omega) (by omega);cases own
 all_goals rcases l with _|⟨⟨⟨_,_,_,_,_,_⟩,_,_,_,_⟩,_|⟨⟨⟨_,_,_,_,_,_⟩,_,_,_,_⟩,_|⟨⟨⟨_,_,_,_,_,_⟩,_,_,_,_⟩,_|⟨⟨⟨_,_,_,_,_,_⟩,_,_,_,_⟩,_|⟨⟨⟨_,_,_,_,_,_⟩,_,_,_,_⟩,_|⟨⟨⟨_,_,_,_,_,_⟩,_,_,_,_⟩,_|⟨_,_⟩⟩⟩⟩⟩⟩⟩
 all_goals try (simp at h6;done)
 all_goals
  rcases i with _|_|_|_|_|_|i
  ·first|(simp at hi;done)|exact aH [(14,.p (nat 0)),(22,.app)] (pf2 h127 a) (by kernel_rfl)
  ·first|(simp at hi;done)|exact aH [(14,.p (nat 1)),(22,.app)] (pf2 h127 a) (by kernel_rfl)
  ·first|(simp at hi;done)|exact aH [(14,.p (nat 2)),(22,.app)] (pf2 h127 a) (by kernel_rfl)
  ·first|(simp at hi;done)|exact aH [(14,.p (nat 3)),(22,.app)] (pf2 h127 a) (by kernel_rfl)
  ·first|(simp at hi;done)|exact aH [(14,.p (nat 4)),(22,.app)] (pf2 h127 a) (by kernel_rfl)
  ·first|(simp at hi;done)|exact aH [(14,.p (nat 5)),(22,.app)] (pf2 h127 a) (by kernel_rfl)
  omega
def kW:Nat->List Slt->List Slt
 |0,_=>[]
 |_+1,[]=>[]
 |d+1,x::r=>((x::r).getD (aQ (minS x r).n (x::r)) uw)::kW d (bf (x::r))
theorem N7 (x:Slt)(l:List Slt):bJ (x::l)=x.key.cells::bJ l:=rfl
def reE (j:Nat)(acc:qaW):St:=⟨[(3,.sl false 10 []),(4,.bs 0 0 j),(12,boolX false)],[.row 6 acc]⟩
theorem selS_at (k:Nat)(x:Slt)(r:List Slt)(h:aQ (minS x r).n (x::r)<(x::r).length):kW (k+1) (x::r)=(x::r)[aQ (minS x r).n (x::r)]::kW k (bf (x::r)):=by
 have a:(x::r).getD (aQ (minS x r).n (x::r)) uw=(x::r)[aQ (minS x r).n (x::r)]:=by rw [qav,qad h];rfl
 rw [<-a];rfl
theorem Zu (N:Nat)(hN:200<=N):∀(k:Nat) (l:List Slt),l.length=k->k<=6->∀(own:Bool),(own=true->l≠[])->∀(j:Nat) (acc:qaW),acc.length=j->j+k<=100->∀τ,canon 0 τ=some (reX own j acc (ak l))->∀F,k<F->
  iter 0 (run (callF tab ext N) 0 N (loopAt 16 0)) F τ=some (.exit 0,reE (j+k) (acc++bJ (kW k l)))
 |0,l,hl,_,own,ho,j,acc,hacc,_,τ,hτ,F,hF=>by
  obtain ⟨F,rfl⟩:∃G,F=G+1:=⟨F-1,by omega⟩;obtain rfl:=List.length_eq_zero_iff.1 hl;cases own with
  |true=>grind
  |false=>
   have e:acc++bJ (kW 0 [])=acc:=by simp [kW,bJ]
   rw [e];exact iter_end hτ (show run (callF tab ext N) 0 N (loopAt 16 0) (reA j acc [])=some (.exit 0,reE j acc) from ruA [] pf0) (by simp)
 |k+1,[],hl,_,_,_,_,_,_,_,_,_,_,_=>by grind
 |k+1,x::r,hl,h6,own,ho,j,acc,hacc,Jk,τ,hτ,F,hF=>by
  obtain ⟨F,rfl⟩:∃G,F=G+1:=⟨F-1,by omega⟩;have hr:r.length=k:=by simpa using hl
  have h127:=oz x r (by omega) N (by omega);have hi:=uh x r;have hdl:=bT (ss:=x::r) (by simp);rw [hl] at hdl;have e1:=selS_at k x r;have e2:(x::r).eraseIdx (aQ (minS x r).n (x::r))=bf (x::r):=rfl;generalize aQ (minS x r).n (x::r)=q at*;generalize hL:x::r=L at*;obtain ⟨υ,hrun,hc⟩:=re_stepX own j acc hacc (by omega) L q N (by omega) hi h127;rw [e2] at hc;rw [e1 hi,N7,show acc++(L[q].key.cells::bJ (kW k (bf L)))=(acc++[L[q].key.cells])++bJ (kW k (bf L)) by simp,show j+(k+1)=j+1+k by omega];refine iter_step hτ hrun (Zu N hN k (bf L) (by omega) (by omega) (!decide (q=0)) (fun h hn=>?_) (j+1) _ (by grind) (by omega) υ ?_ F (by omega))
  ·grind
  grind[reX]
theorem uK (s:Stt)(h6:s.slots.length<=6)(N:Nat)(hN:300<=N):Gam.pureD (callF tab ext N) 16 [.agg s.cells]=some (.sl false 6 (bJ (kW s.slots.length s.slots))):=by
 obtain ⟨M,rfl⟩:=pR_ N;obtain ⟨a,b,ss⟩:=s;dsimp only at h6 ⊢;cases ss with
 |nil=>
  have w:run (callF tab ext M) 0 M (.loop (loopAt 16 0)) ⟨[(3,.sl false 10 []),(4,.sl true 6 [])],[.var [num a,num b,.sl false 10 []]]⟩=some (.exit 0,⟨[(3,.sl false 10 []),(4,.sl true 6 []),(12,boolX false)],[]⟩):=
   loop_for (σ:=fun _=>re0 []) (k:=0) (by kernel_rfl) (fun j S=>by omega) (ruA [] pf0) (by simp) (by omega)
  exact puB [] [(.exit 0,⟨[(3,.sl false 10 []),(4,.sl true 6 []),(12,boolX false)],[]⟩)] (pf1 w) (.sl true 6 [])
 |cons x r=>
  have V:(x::r).length=r.length+1:=rfl;have O:ak (x::r)=x.cells::ak r:=rfl;have f:=oz x r (by omega) M (by omega);have m:=uh x r;have P:=bT (ss:=x::r) (by simp);have Q:(x::r).getD (aQ (minS x r).n (x::r)) uw=(x::r)[aQ (minS x r).n (x::r)]:=by rw [qav,qad m];rfl
  obtain ⟨υ,u,J⟩:=V5 (x::r) _ M h6 m f;have F:(x::r).eraseIdx (aQ (minS x r).n (x::r))=bf (x::r):=rfl;rw [F] at J;have E:=Zu M (by omega) r.length (bf (x::r)) (by omega) (by omega) (!decide (aQ (minS x r).n (x::r)=0)) (fun h U=>by
   grind) 1 [(x::r)[aQ (minS x r).n (x::r)].key.cells] rfl (by omega) υ (by
   grind[reX]) (M-1) (by omega)
  have H:bJ (kW (r.length+1) (x::r))=[(x::r)[aQ (minS x r).n (x::r)].key.cells]++bJ (kW r.length (bf (x::r))):=by rw [<-Q];rfl
  have B:∀(d:Nat) (l:List Slt),l.length=d->(kW d l).length=d:=by
   intro d;induction d with
   |zero=>intro l _;rfl
   |succ d ih=>intro l w;cases l<;>simp_all[bT,kW]
  rw [<-H] at E;have q:(bJ (kW (r.length+1) (x::r))).length=1+r.length:=by unfold bJ;rw [qaB,B (r.length+1) (x::r) rfl];omega
  have w:run (callF tab ext M) 0 M (.loop (loopAt 16 0)) ⟨[(3,.sl false 10 (x.cells::ak r)),(4,.sl true 6 [])],[.var [num a,num b,.sl false 10 (x.cells::ak r)]]⟩=some (.exit 0,reE (1+r.length) (bJ (kW (r.length+1) (x::r)))):=by have m:=iter_step (n:=M-1) (τ:=⟨[(3,.sl false 10 (x.cells::ak r)),(4,.sl true 6 [])],[.var [num a,num b,.sl false 10 (x.cells::ak r)]]⟩) (σ:=re0 (ak (x::r))) (by kernel_rfl) u E;rw [show M-1+1=M by omega] at m;exact m
  show Gam.pureD (callF tab ext (M+1)) 16 [.agg (Stt.mk a b (x::r)).cells]=some (.sl false 6 (bJ (kW (r.length+1) (x::r))));have y:=aN r;have L:(x.cells::ak r).length=r.length+1:=by rw [qat,y]
  have A:roomOk (0+(x.cells::ak r).length) 152=true:=fP (by omega) (by omega);generalize bJ (kW (r.length+1) (x::r))=R at*;refine pure_of [(9,.fresh)] [(.exit 0,reE (1+r.length) R)] (pf2 A w) (x:=.bs 0 0 (1+r.length)) (bx:=[.row 6 R]) (by kernel_rfl) ?_;simp [X.data,jc (bx:=[.row 6 R]) (i:=0) (n:=1+r.length) rfl q.symm]
def Inc (l:List Slt):Prop:=l.Pairwise fun a b=>a.n<b.n
def Dif (l:List Slt):Prop:=l.Pairwise fun a b=>a.n≠b.n
theorem qy {l m:List Slt}(h:l.Perm m)(hd:Dif l):Dif m:=h.pairwise hd (fun a f=>a f.symm)
theorem rM:∀{l m:List Slt},l.Perm m->Inc l->Inc m->l=m
 |[],m,h,_,_=>(List.Perm.nil_eq h)
 |a::l,[],h,_,_=>absurd h.length_eq (by simp)
 |a::l,b::m,h,hl,hm=>by
  have h1:=List.pairwise_cons.1 hl;have h2:=List.pairwise_cons.1 hm;have hab:a=b:=by
   rcases qal.1 (h.subset (qay (a:=a))) with h3|h3
   ·grind
   ·grind
  subst hab;rw [rM ((List.perm_cons a).1 h) h1.2 h2.2]
theorem qZ:∀(l:List Slt) (i:Nat) (h:i<l.length),(l[i]::l.eraseIdx i).Perm l
 |[],_,h=>absurd h (by simp)
 |a::l,0,_=>List.Perm.refl _
 |a::l,i+1,h=>by
  have h':i<l.length:=by simpa using h
  have ih:=qZ l i h';rw [List.eraseIdx_cons_succ,List.getElem_cons_succ];exact (List.Perm.swap a (l[i]'h') _).trans (ih.cons a)
theorem iZ:∀(d:Nat) (l:List Slt),l.length=d->(kW d l).Perm l
 |0,l,h=>by obtain rfl:=List.length_eq_zero_iff.1 h;exact List.Perm.refl _
 |d+1,[],h=>by grind
 |d+1,x::r,h=>by
  have hi:=uh x r;have hdl:=bT (ss:=x::r) (by simp);have hg:(x::r).getD (aQ (minS x r).n (x::r)) uw=(x::r)[aQ (minS x r).n (x::r)]:=by rw [qav,qad hi];rfl
  unfold kW;rw [hg];have ih:=iZ d (bf (x::r)) (by grind);exact (ih.cons _).trans (qZ _ _ hi)
theorem uY:∀(d:Nat) (l:List Slt),l.length=d->Dif l->Inc (kW d l)
 |0,l,h,_=>by obtain rfl:=List.length_eq_zero_iff.1 h;exact .nil
 |d+1,[],h,_=>by grind
 |d+1,x::r,h,hd=>by
  have hi:=uh x r;have hdl:=bT (ss:=x::r) (by simp);have hg:(x::r).getD (aQ (minS x r).n (x::r)) uw=(x::r)[aQ (minS x r).n (x::r)]:=by rw [qav,qad hi];rfl
  have hmin:=rX hi ⟨_,Cj x r,rfl⟩;unfold kW;rw [hg];have hp:((x::r)[aQ (minS x r).n (x::r)]::bf (x::r)).Perm (x::r):=qZ _ _ hi;have hd':=List.pairwise_cons.1 (qy hp.symm hd);refine List.pairwise_cons.2 ⟨fun y hy=>?_,uY d (bf (x::r)) (by grind) hd'.2⟩;have hy':=(iZ d (bf (x::r)) (by grind)).subset hy;have hne:=hd'.1 y hy';have hle:(minS x r).n<=y.n:=by
   have hm:=wX r x;rcases qal.1 ((oG (x::r)).subset hy') with rfl|h3
   ·grind
   ·grind
  grind
theorem Ug:∀(j:Nat) (p:List Slt) (x:Slt) (q:List Slt),p.length=j->Dif (p++x::q)->Inc p->∃s,bub j (p++x::q)=s++q/\s.Perm (p++[x])/\Inc s
 |0,p,x,q,hp,_,_=>by obtain rfl:=List.length_eq_zero_iff.1 hp;exact ⟨[x],rfl,List.Perm.refl _,by simp [Inc]⟩
 |j+1,p,x,q,hp,hd,hi=>by
  obtain ⟨p',b,rfl⟩:∃p' b,p=p'++[b]:=by rcases List.eq_nil_or_concat p with h|⟨p',b,h⟩<;>simp_all
  have hp':p'.length=j:=by simpa using hp
  have eL:p'++[b]++x::q=p'++b::x::q:=by simp
  rw [eL] at hd ⊢;have g1:(p'++b::x::q).getD (j+1) uw=x:=by rw [qav,<-hp',qaz (by omega)];simp
  have g2:(p'++b::x::q).getD j uw=b:=by rw [qav,<-hp',qaz (by omega)];simp
  have hib:=List.pairwise_append.1 hi;unfold bub;rw [g1,g2];by_cases h:x.n<b.n
  ·rw [if_pos h];have e1:((p'++b::x::q).set (j+1) b).set j x=p'++x::(b::q):=by rw [<-hp',List.set_append_right _ _ (by omega),List.set_append_right _ _ (by omega)];simp
   rw [e1];have hd':=qy (List.Perm.append_left p' (List.Perm.swap x b q)) hd;obtain ⟨s,hs,hperm,hinc⟩:=Ug j p' x (b::q) hp' hd' hib.1;refine ⟨s++[b],by grind,?_,?_⟩;·refine (hperm.append_right [b]).trans ?_;rw [qaL,qaL];exact List.Perm.append_left p' (List.Perm.swap b x [])
   refine List.pairwise_append.2 ⟨hinc,by simp,fun y hy z hz=>?_⟩;obtain rfl:=qaa.1 hz
   grind
  rw [if_neg h];have hbx:b.n≠x.n:=by have h1:=(List.pairwise_append.1 hd).2.1;exact (List.pairwise_cons.1 h1).1 x (by simp)
  refine ⟨p'++[b]++[x],by simp,List.Perm.refl _,?_⟩;refine List.pairwise_append.2 ⟨hi,by simp,fun y hy z hz=>?_⟩;obtain rfl:=qaa.1 hz;rcases qaO.1 hy with h1|h1;·have:=hib.2.2 y h1 b (by simp);omega
  grind
theorem FQ (L:List Slt)(hd:Dif L):∀(k:Nat),k<L.length->∃s,fJ k L=s++L.drop (k+1)/\s.Perm (L.take (k+1))/\Inc s
 |0,hk=>⟨L.take 1,by rw [List.take_append_drop];rfl,List.Perm.refl _,by
   cases L<;>grind[Inc]⟩
 |k+1,hk=>by
  obtain ⟨s,hs,hperm,hinc⟩:=FQ L hd k (by omega);have hlen:s.length=k+1:=by rw [hperm.length_eq,qag];omega
  have ed:L.drop (k+1)=L[k+1]::L.drop (k+2):=List.drop_eq_getElem_cons hk;have et:L.take (k+2)=L.take (k+1)++[L[k+1]]:=by rw [List.take_add_one,qad hk];rfl
  have hd':Dif (s++L[k+1]::L.drop (k+2)):=by
   refine qy ?_ hd;rw [<-ed];have:=(hperm.append_right (L.drop (k+1))).symm
   rwa [List.take_append_drop] at this
  obtain ⟨s',h1,h2,h3⟩:=Ug (k+1) s L[k+1] (L.drop (k+2)) hlen hd' hinc;refine ⟨s',?_,?_,h3⟩
  ·grind[fJ]
  rw [et];exact h2.trans (hperm.append_right _)
theorem rJ (L:List Slt)(hd:Dif L):fJ (L.length-1) L=kW L.length L:=by
 cases l:L with
 |nil=>rfl
 |cons a r=>
  rw [<-l];have f:L.length-1<L.length:=by rw [l];simp
  obtain ⟨s,h,j,m⟩:=FQ L hd (L.length-1) f;rw [show L.length-1+1=L.length by omega,List.drop_length,List.append_nil] at h;rw [show L.length-1+1=L.length by omega,List.take_length] at j;rw [h];exact rM (j.trans (iZ L.length L rfl).symm) m (uY L.length L rfl hd)
def zkN (R Q:qaW)(j:Nat):St:=⟨[(0,.sl false 6 R),(1,.sl false 6 Q),(5,nat j)],[]⟩
def zkO (R Q:qaW)(j:Nat):St:=⟨[(0,.sl false 6 R),(1,.sl false 6 Q),(5,nat j),(14,boolX false)],[]⟩
theorem VH (L:List Slt)(Jk:L.length<=100)(B:Nat)(hr:∀x,x∈L->∀N,B<=N->Gam.pureD (callF tab ext N) 51 [.agg x.key.cells,.agg x.key.cells]=some (boolX true))(N:Nat)(hN:B+200<=N):
  run (callF tab ext N) 0 N (.loop (loopAt 17 0)) (zkN (bJ L) (bJ L) 0)=some (.exit 0,zkO (bJ L) (bJ L) L.length):=by
 have l:(bJ L).length=L.length:=by simp [bJ]
 refine loop_for (σ:=fun j=>zkN (bJ L) (bJ L) j) (k:=L.length) (by kernel_rfl) (fun j h=>?_) ?_ (by simp) (by omega)
 ·have a:(bJ L)[j]?=some L[j].key.cells:=by simp [bJ,h]
  have f:=hr _ (qae h) N (by omega);have A:=aI (j:=j) (k:=(bJ L).length) (by omega);generalize bJ L=R at*;generalize L[j].key=k at a f;obtain ⟨m,n,q,u,w,y⟩:=k;exact aH [(14,.b true),(19,.e (Val.mk m n q u w y).cells),(23,.e (Val.mk m n q u w y).cells),(25,.p (boolX true)),(16,.i (Int.ofNat (j+1)))] (pf5 A a a f (ay (j:=j) (by omega))) (by kernel_rfl)
 exact ruA [(14,.b false)] (pf1 (aG (j:=L.length) (k:=(bJ L).length) (by omega)))
theorem Kq (L:List Slt)(Jk:L.length<=100)(B:Nat)(hr:∀x,x∈L->∀N,B<=N->Gam.pureD (callF tab ext N) 51 [.agg x.key.cells,.agg x.key.cells]=some (boolX true))(N:Nat)(hN:B+201<=N):
  Gam.pureD (callF tab ext N) 17 [.sl false 6 (bJ L),.sl false 6 (bJ L)]=some (boolX true):=by
 obtain ⟨M,rfl⟩:=pR_ N;have a:=VH L Jk B hr M (by omega);generalize bJ L=R at*;exact puB [(10,.b false)] [(.exit 0,zkO R R L.length)] (pf2 (jF (k:=R.length)) a) (boolX true)
theorem Qr (d:Nat)(l:List Slt)(hl:l.length=d+1):∃y,kW (d+1) l=y::kW d (bf l):=by
 cases l with
 |nil=>grind
 |cons a r=>exact ⟨_,rfl⟩
theorem ES:∀(d w:Nat) (M:List Slt),1<=w->M.length<=d->kW (trimS d w M).length (trimS d w M)=(kW M.length M).drop (M.length-w)
 |0,w,M,_,hd=>by simp_all[trimS]
 |d+1,w,M,hw,hd=>by
  by_cases h:w<M.length
  ·have e:trimS (d+1) w M=trimS d w (bf M):=by
    conv=>lhs;unfold trimS
    rw [if_pos h]
   have hdl:=bT (ss:=M) (by omega);obtain ⟨k,hk⟩:∃k,M.length=k+1:=⟨M.length-1,by omega⟩;obtain ⟨y,hy⟩:=Qr k M hk;have hd1:(bf M).length=k:=by omega
   rw [e,ES d w (bf M) hw (by omega),hd1,hk,hy];rw [show k+1-w=(k-w)+1 by omega,List.drop_succ_cons]
  simp_all[pq]
theorem VL {ss L:List Slt}{x:Slt}(hL:L.Perm (ss++[x]))(hd:Dif ss)(hx:∀y,y∈ss->y.n<x.n):kW L.length L=kW ss.length ss++[x]:=by have j:=iZ ss.length ss rfl;have l:=uY ss.length ss rfl hd;have a:Inc (kW ss.length ss++[x]):=List.pairwise_append.2 ⟨l,by simp,fun y m z hz=>by grind⟩;have f:=qy (((j.append_right [x]).trans hL.symm)) (a.imp fun h=>by omega);exact rM ((iZ L.length L rfl).trans (hL.trans (j.symm.append_right [x]))) (uY L.length L rfl f) a
namespace Ct
theorem VY (nd:Nod)(hnd:nd.small)(s:Stt)(hs:s.small)(h6:s.slots.length<=6)(ho:JV s.slots)(hn0:0<=s.n)(hle:∀x,x∈s.slots->x.n<=s.n)(hdis:s.slots.Pairwise fun a b=>a.n≠b.n)(i:Inp)(hm:i.m.ok)(v:Val)(hv:i.m.body=aS 4 v):
  (∃r,Hl nd s i (fC false s i.m nd.name r))\/∃(k:Val) (T L:List Slt),k.wide/\T=trimS (s.slots.length+1) (wN nd.number) L/\L.Perm (s.slots++[newS k (s.n+1)])/\Hl nd s i (G6 ⟨s.n+1,s.t,T⟩ i.m 0):=by
 obtain ⟨k,J,⟨hk,he⟩,H,F⟩:=Rl nd hnd v;rw [<-hv] at F;obtain ⟨gi,gb,x,_,_,U,f⟩:=Sz s hs k;have l:=fun K (u:200500<=K)=>qF (K+320) i.m hm (by omega);have q:=fun K (u:H+200500<=K)=>zbE nd hnd i.m hm.body k J (K+319) (by omega) (F _ (by omega));have B:∀r,(∀K,H+200500<=K->Gam.pureD (callF tab ext (K+321)) 10 [.agg nd.cells,.agg s.cells,.agg ({i with kind:=1}:Inp).cells]=some (.agg (fC false s i.m nd.name r)))->∃r,Hl nd s i (fC false s i.m nd.name r):=fun r h=>
  ⟨r,H+200900,fun N P=>by
   obtain ⟨K,rfl⟩:∃K,N=K+321:=⟨N-321,by omega⟩
   grind⟩
 cases M:(keyE k J !=0) with
 |true=>exact .inl (B (iG (keyE k J)) fun K u=>Wp nd s i k (keyE k J) K _ (l K (by omega)) (q K u) M (dV _ (Ap he) _ (by omega)) (jM s hs.ok nd i.m hm _ _ (by omega)))
 |false=>
  cases gb with
  |true=>exact .inl (B jr fun K u=>Wq nd s i k _ K x (l K (by omega)) (q K u) M (f _ (by omega)) (jM s hs.ok nd i.m hm _ _ (by omega)))
  |false=>
   by_cases hn:s.n>=1099511627776;·exact .inl (B gG fun K u=>QM nd s i k _ K x (l K (by omega)) (q K u) M (f _ (by omega)) (Eb nd s k (K+319) (decide_eq_true hn)) (jM s hs.ok nd i.m hm _ _ (by omega)))
   right;obtain ⟨Y,E⟩:=U rfl;obtain ⟨j,b,hj,hb,pa,hf⟩:=Jv s.slots (by grind) (fun y hy=>(hs.slot y hy).1) k;have Q:b=false:=by
    cases b with
    |false=>rfl
    |true=>obtain ⟨V,hc⟩:=hb rfl;have e:=qE _ _ hc;rw [<-e] at Y E;exact absurd (Hq ho (qae V) (by grind) Y E) id
   subst Q;obtain ⟨w,hw⟩:∃w,w=s.n+1:=⟨_,rfl⟩;have W:IntKind.i64.wrap (s.n+1)=w:=by rw [IntKind.wrap_i64];omega
   have S:=fun N (P:k.size+100<=N)=>wS k hk w N P;have eL:qJ false j (newS k w) s.slots=s.slots.take j++[newS k w]++s.slots.drop j:=by unfold qJ;rw [if_neg (by simp)]
   obtain ⟨T,Z⟩:∃T,T=trimS (s.slots.length+1) (wN nd.number) (qJ false j (newS k w) s.slots):=⟨_,rfl⟩;have A:(qJ false j (newS k w) s.slots).Perm (s.slots++[newS k w]):=by rw [eL,qaL];refine (List.Perm.append_left _ (List.perm_append_comm (l₁:=[newS k w]) (l₂:=s.slots.drop j))).trans ?_;rw [<-qaL,List.take_append_drop]
   subst hw;refine ⟨k,T,_,hk,Z,A,H+201500+3*k.size,fun N P=>?_⟩;obtain ⟨K,rfl⟩:∃K,N=K+321:=⟨N-321,by omega⟩;have O:=tN nd s hs k (by omega) (s.n+1) W j false hj (fun h=>by cases h) (hf (s.n+1) s.t) (k.size+100) S (K+320) (by omega) (by omega);have O:Gam.pureD (callF tab ext (K+320)) 39 [.agg nd.cells,.agg s.cells,.agg k.cells]=some (.tup [.agg (Stt.mk (s.n+1) s.t T).cells,boolX true]):=by rw [Z];exact O
   exact QL nd s i k _ K x (l K (by omega)) (q K (by omega)) M (f _ (by omega)) ⟨s.n+1,s.t,T⟩ O (BZ s hs.ok _ i.m _ (by omega))
end Ct
open Go.Em
section
variable {a b c d e f g h i j k l m n o p q r s t:Prop}
theorem zmH (h1:a)(h2:b)(h3:c)(h4:d)(h5:e)(h6:f)(h7:g)(h8:h)(h9:i)(h10:j)(h11:k)(h12:l)(h13:m)(h14:n)(h15:o):allP [a,b,c,d,e,f,g,h,i,j,k,l,m,n,o]:=⟨h1,pf14 h2 h3 h4 h5 h6 h7 h8 h9 h10 h11 h12 h13 h14 h15⟩
theorem zmG (h1:a)(h2:b)(h3:c)(h4:d)(h5:e)(h6:f)(h7:g)(h8:h)(h9:i)(h10:j)(h11:k)(h12:l)(h13:m)(h14:n)(h15:o)(h16:p):allP [a,b,c,d,e,f,g,h,i,j,k,l,m,n,o,p]:=⟨h1,zmH h2 h3 h4 h5 h6 h7 h8 h9 h10 h11 h12 h13 h14 h15 h16⟩
theorem zmF (h1:a)(h2:b)(h3:c)(h4:d)(h5:e)(h6:f)(h7:g)(h8:h)(h9:i)(h10:j)(h11:k)(h12:l)(h13:m)(h14:n)(h15:o)(h16:p)(h17:q):allP [a,b,c,d,e,f,g,h,i,j,k,l,m,n,o,p,q]:=⟨h1,zmG h2 h3 h4 h5 h6 h7 h8 h9 h10 h11 h12 h13 h14 h15 h16 h17⟩
theorem zmE (h1:a)(h2:b)(h3:c)(h4:d)(h5:e)(h6:f)(h7:g)(h8:h)(h9:i)(h10:j)(h11:k)(h12:l)(h13:m)(h14:n)(h15:o)(h16:p)(h17:q)(h18:r):allP [a,b,c,d,e,f,g,h,i,j,k,l,m,n,o,p,q,r]:=⟨h1,zmF h2 h3 h4 h5 h6 h7 h8 h9 h10 h11 h12 h13 h14 h15 h16 h17 h18⟩
end
section
variable (nd nd2:Nod) (s s':Stt) (i i':Inp) (N:Nat) (h45:Gam.pureD (callF tab ext N) 6 [.agg nd.cells,.agg s.cells,.agg i.cells]=some (.tup [.agg nd2.cells,.agg s'.cells,.agg i'.cells]))
 (h40:Gam.pureD (callF tab ext N) 7 []=some (boolX true)) (c:Int) (h43:Gam.pureD (callF tab ext N) 13 [.agg nd2.cells,.agg s'.cells]=some (num c))
include h45 h40 h43
theorem zfz (hc:(c !=0)=true):callF tab ext (N+1) (.fn 5) [.agg nd.cells,.agg s.cells,.agg i.cells] []=some (.v (.bool true),[]):=by obtain ⟨_,_,⟨_,_⟩,⟨⟨_,_⟩,_,_,⟨_,_,_,_,_,_⟩⟩,_,_,_,⟨_,_,_,_,_,_⟩⟩:=i;obtain ⟨a,l,⟨h,j⟩,⟨⟨q,Q⟩,f,P,⟨F,H,J,L,M,O⟩⟩,W,m,n,⟨u,w,y,A,B,E⟩⟩:=i';obtain ⟨S,U,V⟩:=s';exact caA [(15,.p (.tup [.agg nd2.cells,.agg (Stt.mk S U V).cells,.agg (Inp.mk a l ⟨h,j⟩ ⟨⟨q,Q⟩,f,P,⟨F,H,J,L,M,O⟩⟩ W m n ⟨u,w,y,A,B,E⟩).cells])),(19,.p (boolX true)),(24,.p (num c)),(25,.b true),(27,.p (boolX true))] (pf5 h45 h40 h43 hc h40)
variable (hc:(c !=0)=false) (R A:qaW) (h62:Gam.pureD (callF tab ext N) 16 [.agg s'.cells]=some (.sl false 6 R)) (h64:Gam.pureD (callF tab ext N) 18 [.agg s'.cells]=some (.sl false 6 R)) (h63:Gam.pureD (callF tab ext N) 17 [.sl false 6 R,.sl false 6 R]=some (boolX true))
include hc h62 h64 h63
theorem za3 (s2:Stt)(h36:Gam.pureD (callF tab ext N) 10 [.agg nd2.cells,.agg s'.cells,.agg i'.cells]=some (.agg (Ct.G6 s2 i'.m 0)))(zhK:Gam.pureD (callF tab ext N) 18 [.agg s2.cells]=some (.sl false 6 A))(h39:Gam.pureD (callF tab ext N) 14 [.agg (Ct.G6 s2 i'.m 0)]=some (boolX true))
  (m:Int) (k d:Nat) (hm:IntKind.i64.wrap ((if true=true then if 1>nd2.number then 1 else nd2.number else if 1<nd2.number then 1 else nd2.number)-1)=m) (hk:(if false=true then if m>Int.ofNat R.length then m else Int.ofNat R.length else if m<Int.ofNat R.length then m else Int.ofNat R.length)=Int.ofNat k) (hk1:IntKind.i64.wrap (Int.ofNat k+1)=Int.ofNat (k+1)) (hA:(Int.ofNat A.length==Int.ofNat (k+1))=true)
  (hb:0<=(Int.ofNat k).toNat/\(Int.ofNat k).toNat<=A.length) (hd:IntKind.i64.wrap (Int.ofNat R.length-Int.ofNat k)=Int.ofNat d) (hb2:(Int.ofNat d).toNat<=R.length/\R.length<=R.length) (h63':Gam.pureD (callF tab ext N) 17 [.sl false 6 ((A.take (Int.ofNat k).toNat).drop 0),.sl false 6 ((R.take R.length).drop (Int.ofNat d).toNat)]=some (boolX true)):
  callF tab ext (N+1) (.fn 5) [.agg nd.cells,.agg s.cells,.agg i.cells] []=some (.v (.bool true),[]):=by
 obtain ⟨_,_,⟨_,_⟩,⟨⟨_,_⟩,_,_,⟨_,_,_,_,_,_⟩⟩,_,_,_,⟨_,_,_,_,_,_⟩⟩:=i;obtain ⟨f,l,⟨h,j⟩,⟨⟨n,H⟩,a,F,⟨q,u,w,y,B,E⟩⟩,x',J,L,⟨M,O,P,Q,S,U⟩⟩:=i';obtain ⟨V,W,Y⟩:=s';obtain ⟨Z,tb,ts⟩:=s2;exact caA [(15,.p (.tup [.agg nd2.cells,.agg (Stt.mk V W Y).cells,.agg (Inp.mk f l ⟨h,j⟩ ⟨⟨n,H⟩,a,F,⟨q,u,w,y,B,E⟩⟩ x' J L ⟨M,O,P,Q,S,U⟩).cells])),(19,.p (boolX true)),(24,.p (num c)),(25,.b false),(29,.p (.sl false 6 R)),(31,.p (.sl false 6 R)),(33,.p (boolX true)),(38,.p (.agg (Ct.G6 (Stt.mk Z tb ts) (Msg.mk ⟨n,H⟩ a F (.mk q u w y B E)) 0))),(41,.p (.sl false 6 A)),(43,.p (boolX true)),(54,.i m),(55,.i (Int.ofNat k)),(59,.i (Int.ofNat (k+1))),(60,.b true),(64,.cut),(69,.i (Int.ofNat d)),(70,.cut),(71,.p (boolX true))] (zmE h45 h40 h43 hc h62 h64 h63 h36 zhK h39 hm hk hk1 hA hb hd hb2 h63')
end
section
variable (nd nd2:Nod) (s s':Stt) (i i':Inp) (N:Nat) (h45:Gam.pureD (callF tab ext N) 6 [.agg nd.cells,.agg s.cells,.agg i.cells]=some (.tup [.agg nd2.cells,.agg s'.cells,.agg i'.cells]))
 (h40:Gam.pureD (callF tab ext N) 7 []=some (boolX true)) (c:Int) (h43:Gam.pureD (callF tab ext N) 13 [.agg nd2.cells,.agg s'.cells]=some (num c))
include h45 h40 h43
variable (hc:(c !=0)=false) (R:qaW) (h62:Gam.pureD (callF tab ext N) 16 [.agg s'.cells]=some (.sl false 6 R)) (h64:Gam.pureD (callF tab ext N) 18 [.agg s'.cells]=some (.sl false 6 R)) (h63:Gam.pureD (callF tab ext N) 17 [.sl false 6 R,.sl false 6 R]=some (boolX true))
include hc h62 h64 h63
theorem Qw (os fs ls:qaW)(h36:Gam.pureD (callF tab ext N) 10 [.agg nd2.cells,.agg s'.cells,.agg i'.cells]=some (.agg (ocC s'.n s'.t (ak s'.slots) os fs ls)))(h39:Gam.pureD (callF tab ext N) 14 [.agg (ocC s'.n s'.t (ak s'.slots) os fs ls)]=some (boolX false))(h50:Gam.pureD (callF tab ext N) 15 [.agg s'.cells,.agg s'.cells]=some (boolX true)):
  callF tab ext (N+1) (.fn 5) [.agg nd.cells,.agg s.cells,.agg i.cells] []=some (.v (.bool true),[]):=by
 obtain ⟨_,_,⟨_,_⟩,⟨⟨_,_⟩,_,_,⟨_,_,_,_,_,_⟩⟩,_,_,_,⟨_,_,_,_,_,_⟩⟩:=i;obtain ⟨a,l,⟨h,j⟩,⟨⟨A,W⟩,f,V,⟨M,O,P,Q,S,U⟩⟩,Y,w,y,⟨B,E,F,H,J,L⟩⟩:=i';obtain ⟨m,q,u⟩:=s';exact caA [(15,.p (.tup [.agg nd2.cells,.agg (Stt.mk m q u).cells,.agg (Inp.mk a l ⟨h,j⟩ ⟨⟨A,W⟩,f,V,⟨M,O,P,Q,S,U⟩⟩ Y w y ⟨B,E,F,H,J,L⟩).cells])),(19,.p (boolX true)),(24,.p (num c)),(25,.b false),(29,.p (.sl false 6 R)),(31,.p (.sl false 6 R)),(33,.p (boolX true)),(38,.p (.agg (ocC m q (ak u) os fs ls))),(41,.p (.sl false 6 R)),(43,.p (boolX false)),(48,.p (boolX true))] (pf11 h45 h40 h43 hc h62 h64 h63 h36 h64 h39 h50)
end
theorem um {x:Slt}(h:x.ok)(N:Nat)(hN:190300<=N):Gam.pureD (callF tab ext N) 56 [.agg x.key.cells]=some (.agg x.key.cells):=iT N x.key (by have:=h.key<;>grind[Val.ok]) (qL h.key)
theorem xq {x:Slt}(h:x.ok)(N:Nat)(hN:190300<=N):Gam.pureD (callF tab ext N) 51 [.agg x.key.cells,.agg x.key.cells]=some (boolX true):=EY N x.key (by have:=h.key<;>grind[Val.ok]) (qL h.key)
theorem Ii {c:List X}(h:isNode c)(hz:∀z,c[4]?=some (num z)->z<=9223372036854775807):∃nd nd':Nod,c=nd.cells/\nd'.small/\nd'.number<=9223372036854775807/\∀N,220<=N->Gam.pureD (callF tab ext N) 19 [.agg nd.cells]=some (.agg nd'.cells):=by obtain ⟨j,E,F,H,m,J,L,l,T,W,S,V,Q,U,rfl,hT,B,y,A,u⟩:=h;obtain ⟨a,b,c,d,w,e,f,Y,Z,c',d',w',e',f',P,q,O,n,M,rfl,hs,hc⟩:=zH j l E F H m J L T W S V Q U hT B y A u;exact ⟨⟨j,E,F,H,m,J,L,l,(a,b,c,d),w,e,f,W,S,Q,V,U⟩,⟨dQ 60 j,E,F,H,m,J,L,dQ 60 l,(Y,Z,c',d'),w',e',f',P,q,n,O,M⟩,rfl,hs,hz m rfl,hc⟩
theorem drem_all (cn:List X)(hcn:isNode cn)(hz:∀z,cn[4]?=some (num z)->z<=9223372036854775807)(s:Stt)(i:Inp):∃n,callF tab ext n (.fn 5) [.agg cn,.agg s.cells,.agg i.cells] []=some (.v (.bool true),[]):=by
 obtain ⟨nd,f,rfl,pk,pw,hn⟩:=Ii hcn hz;have po:({f with kind:=6}:Nod).small:=pk;have Q:=lG s;have h6:=qO s;have hm:(fO i).m.ok:=by rw [BM];exact pK i.m
 have Z:=fun N l=>cO nd f hn s i N l;generalize shortS s=a at Q h6 Z;obtain ⟨v,hv⟩:=lH i;obtain ⟨c,pe,hc⟩:=AU {f with kind:=6} a Q;have E:∀N,400<=N->Gam.pureD (callF tab ext N) 7 []=some (boolX true):=fun N l=>by obtain ⟨M,rfl⟩:∃M,N=M+400:=⟨N-400,by omega⟩<;>simp_all[rG]
 cases U:(c !=0) with
 |true=>exact ⟨190401,zfz nd _ s _ i _ 190400 (Z _ (by omega)) (E _ (by omega)) c (hc _ (by omega)) U⟩
 |false=>
  have pd:c=0:=by simpa using U
  have hg:=pe pd;obtain ⟨f1,f2,f3⟩:=xQ hg;have pp:=rJ a.slots f3;have j:=iZ a.slots.length a.slots rfl;have P:∀x,x∈kW a.slots.length a.slots->x.ok:=fun x w=>(Q.slot x (j.subset w)).1;have F:=fun N (l:300<=N)=>uK a h6 N l;have J:∀N,190700<=N->Gam.pureD (callF tab ext N) 18 [.agg a.cells]=some (.sl false 6 (bJ (kW a.slots.length a.slots))):=fun N l=>by grind[lK,um]
  have H:=fun N (l:190600<=N)=>Kq (kW a.slots.length a.slots) (by rw [j.length_eq];omega) 190300 (fun x w N l=>xq (P x w) N l) N (by omega);cases hk:((fO i).kind==1) with
  |false=>exact ⟨190801,Qw nd _ s _ i _ 190800 (Z _ (by omega)) (E _ (by omega)) c (hc _ (by omega)) U _ (F _ (by omega)) (J _ (by omega)) (H _ (by omega)) [] [] [] (step_other 190800 (by omega) _ a Q.ok (fO i) (by grind)) (puA [] pf0 (boolX false)) (uT 190800 a Q.ok (by omega))⟩
  |true=>
   have pa:=FM _ hk;rcases Ct.VY {f with kind:=6} po a Q h6 f1 hg.lo (fun x w=>(f2 x w).2) f3 (fO i) hm v hv with ⟨r,B,W⟩|⟨k,T,L,pi,hT,hL,B,W⟩;·rw [pa] at W;exact ⟨B+190801,Qw nd _ s _ i _ (B+190800) (Z _ (by omega)) (E _ (by omega)) c (hc _ (by omega)) U _ (F _ (by omega)) (J _ (by omega)) (H _ (by omega)) [] _ _ (W _ (by omega)) (E8 _ _ _ r (B+190798)) (uT _ a Q.ok (by omega))⟩
   rw [pa] at W;have hT:T=trimS (a.slots.length+1) (wN f.number) L:=hT;have pv:((wN f.number:Nat):Int)=max 1 f.number:=by unfold wN;omega
   have pl:1<=wN f.number:=by omega
   have Y:L.length=a.slots.length+1:=by rw [hL.length_eq];simp
   have hp:=VL hL f3 (fun y hy=>by have:=(f2 y hy).2;show y.n<a.n+1;omega);have q:kW T.length T=(kW a.slots.length a.slots++[newS k (a.n+1)]).drop (a.slots.length+1-wN f.number):=by rw [<-hp,<-Y,hT];rw [<-Y];exact ES _ _ L pl (Nat.le_refl _)
   have pf:Dif (a.slots++[newS k (a.n+1)]):=List.pairwise_append.2 ⟨f3,by simp,fun y hy z hz=>by rw [qaa.1 hz];have:=(f2 y hy).2;show y.n≠a.n+1;omega⟩;have u:=hT▸pF _ _ L;have pg:Dif T:=(qy hL.symm pf).sublist u;have pj:∀x,x∈T->x.ok\/x=newS k (a.n+1):=fun x w=>by
    rcases qaO.1 (hL.subset (u.subset w)) with h|h
    ·grind
    grind
   have ps:=u.length_le;have pb:∀N,190700+k.size<=N->Gam.pureD (callF tab ext N) 18 [.agg (Stt.mk (a.n+1) a.t T).cells]=some (.sl false 6 (bJ (kW T.length T))):=fun N l=>by
    rw [<-rJ T pg];exact lK ⟨a.n+1,a.t,T⟩ (by grind) (190300+k.size) (fun x w N l=>by
     have pn:x∈T:=(iZ T.length T rfl).subset (by grind[rJ]);rcases pj x pn with h|rfl
     ·grind[um]
     exact iT N k (by omega) pi) N (by omega)
   have O:=j.length_eq;generalize kW a.slots.length a.slots=S at q P F J H O;generalize kW T.length T=A at q pb;generalize hK:a.slots.length=K at q O h6;obtain ⟨kk,pu⟩:∃kk,kk=min K (wN f.number-1):=⟨_,rfl⟩;obtain ⟨d,hd⟩:∃d,d=K+1-wN f.number:=⟨_,rfl⟩;rw [<-hd] at q;have pt:d<=K:=by omega
   have ph:(S.drop d).length=kk:=by rw [qaK];omega
   have V:A=S.drop d++[newS k (a.n+1)]:=by rw [q];exact List.drop_append_of_le_length (by omega)
   have pr:(bJ A).length=kk+1:=by rw [V];unfold bJ;rw [qaB,qau,ph];rfl
   have pc:(bJ S).length=K:=by unfold bJ;rw [qaB];exact O
   have eA:((bJ A).take (Int.ofNat kk).toNat).drop 0=bJ (S.drop d):=by rw [List.drop_zero,V];unfold bJ;rw [List.map_append];exact List.take_left' (by simp_all)
   have eR:((bJ S).take (bJ S).length).drop (Int.ofNat d).toNat=bJ (S.drop d):=by rw [List.take_length];unfold bJ;exact (List.map_drop).symm
   refine ⟨B+k.size+200801,za3 nd _ s _ i _ (B+k.size+200800) (Z _ (by omega)) (E _ (by omega)) c (hc _ (by omega)) U (bJ S) (bJ A) (F _ (by omega)) (J _ (by omega)) (H _ (by omega)) _ (W _ (by omega)) (pb _ (by omega)) (zZ _ _ (B+k.size+200798)) (max 1 f.number-1) kk d ?_ ?_ ?_ ?_ ?_ ?_ ?_ ?_⟩;·show IntKind.i64.wrap ((if true=true then if 1>f.number then 1 else f.number else if 1<f.number then 1 else f.number)-1)=_;rw [if_pos rfl,IntKind.wrap_i64];split<;>omega
   ·rw [if_neg (by decide),pc];simp;split<;>omega
   ·grind[IntKind.wrap_i64]
   ·grind
   ·grind[Int.toNat_natCast]
   ·grind[IntKind.wrap_i64]
   ·grind[Int.toNat_natCast]
   rw [eA,eR];exact Kq (S.drop d) (by omega) 190300 (fun x w N l=>xq (P x (List.mem_of_mem_drop w)) N l) _ (by omega)
end Go.Proofs.YtcbeoccmflnejaaGreatDoor
