/-.-/
import Derived.Test.YtcbeoccmflnejaaGreatDoorU13q1
import Derived.Test.YtcbeoccmflnejaaGreatDoorU14q1q3
set_option linter.all false
namespace Go.Proofs.YtcbeoccmflnejaaGreatDoor
open Go.Em
set_option maxRecDepth 100000
variable {p:List Int}{args:List X}{B:Nat}{v:Val}
theorem Fh (l:List Otp):(wP l).length=l.length:=by simp [wP]
theorem QN {l:List Otp}{j:Nat}(h:j<l.length):(wP l)[j]?=some l[j].cells:=by grind[wP]
theorem FZ (l:List Fte):(ji l).length=l.length:=by simp [ji]
theorem SN {l:List Fte}{j:Nat}(h:j<l.length):(ji l)[j]?=some l[j].cells:=by grind[ji]
theorem AV (a:qaX):(a.toList==a.toList)=true:=by simp
theorem ne_self {x:Int}:(!(x==x))=false:=by simp
theorem zgt (M g:Nat)(l:List Stp)(hr:∀a,a∈l->Gam.pureD (callF tab ext M) g [.agg a.cells,.agg a.cells]=some (boolX true))(hl:l.length<=60000)(hN:l.length<M):
  Gam.pureD (callF tab ext (M+1)) 127 [.sl false 2 (gq l),.sl false 2 (gq l),.fn g []]=some (boolX true):=by
 have y:=EC l;have h:run (callF tab ext M) 0 M (.loop (loopAt 127 0)) (TJ g (gq l) (gq l) (gq l).length 0)=some (.exit 0,zgz g (gq l) (gq l) (gq l).length (gq l).length):=by
  refine loop_for (σ:=fun j=>TJ g (gq l) (gq l) (gq l).length j) (k:=(gq l).length) (JB _ _ _ _ _) (fun j w=>?_) ?_ (by simp) (by omega)
  ·have f:j<l.length:=by omega
   have q:=PO f;have u:=hr _ (qae f);generalize l[j]=a at q u;obtain ⟨m,n⟩:=a;exact ⟨⟨(TJ g (gq l) (gq l) (gq l).length (j+1)).tm,[.var (Stp.mk m n).cells,.var (Stp.mk m n).cells]⟩,ruA [(18,.b true),(20,.e (Stp.mk m n).cells),(24,.e (Stp.mk m n).cells),(29,.p (boolX true)),(31,.i (Int.ofNat (j+1)))] (pf5 (aI (j:=j) (k:=(gq l).length) (by omega)) q q u (ay (j:=j) (by omega))),by kernel_rfl⟩
  exact ruA [(18,.b false)] (pf1 (aG (qan (gq l).length)))
 exact puB [(14,.b false)] [(.exit 0,zgz g (gq l) (gq l) (gq l).length (gq l).length)] (pf2 (jF (k:=(gq l).length)) h) (boolX true)
section
variable (l m:qaW) (j:Nat)
def zfi:St:=⟨[(0,.sl false 10 l),(1,.sl false 10 m),(5,nat j)],[]⟩
theorem Nv:canon 0 (zfi l m j)=some (zfi l m j):=by kernel_rfl
end
theorem zfm (M:Nat)(l:List Msg)(hr:∀a,a∈l->Gam.pureD (callF tab ext M) 29 [.agg a.cells,.agg a.cells]=some (boolX true))(hl:l.length<=60000)(hN:l.length<M):
  Gam.pureD (callF tab ext (M+1)) 32 [.sl false 10 (aA l),.sl false 10 (aA l)]=some (boolX true):=by
 have N:=bF l;have h:run (callF tab ext M) 0 M (.loop (loopAt 32 0)) (zfi (aA l) (aA l) 0)=some (.exit 0,⟨[(0,.sl false 10 (aA l)),(1,.sl false 10 (aA l)),(5,nat (aA l).length),(14,boolX false)],[]⟩):=by
  refine loop_for (σ:=fun j=>zfi (aA l) (aA l) j) (k:=(aA l).length) (Nv _ _ _) (fun j L=>?_) ?_ (by simp) (by omega)
  ·have f:j<l.length:=by omega
   have m:=kD f;have J:=hr _ (qae f);generalize l[j]=a at m J;obtain ⟨⟨q,u⟩,w,y,A,B,E,F,H,n⟩:=a;exact ⟨zfi (aA l) (aA l) (j+1),ruA [(14,.b true),(19,.e (Msg.mk ⟨q,u⟩ w y (Val.mk A B E F H n)).cells),(23,.e (Msg.mk ⟨q,u⟩ w y (Val.mk A B E F H n)).cells),(25,.p (boolX true)),(16,.i (Int.ofNat (j+1)))] (pf5 (aI (j:=j) (k:=(aA l).length) (by omega)) m m J (ay (j:=j) (by omega))),by kernel_rfl⟩
  exact ruA [(14,.b false)] (pf1 (aG (qan (aA l).length)))
 exact puB [(10,.b false)] [(.exit 0,⟨[(0,.sl false 10 (aA l)),(1,.sl false 10 (aA l)),(5,nat (aA l).length),(14,boolX false)],[]⟩)] (pf2 (jF (k:=(aA l).length)) h) (boolX true)
section
variable (l m:qaW) (j:Nat)
def zfj:St:=⟨[(0,.sl false 6 l),(1,.sl false 6 m),(5,nat j)],[]⟩
theorem Nw:canon 0 (zfj l m j)=some (zfj l m j):=by kernel_rfl
end
theorem zfn (M:Nat)(l:List Fte)(hr:∀a,a∈l->Gam.pureD (callF tab ext M) 76 [.agg a.cells,.agg a.cells]=some (boolX true))(hl:l.length<=60000)(hN:l.length<M):
  Gam.pureD (callF tab ext (M+1)) 31 [.sl false 6 (ji l),.sl false 6 (ji l)]=some (boolX true):=by
 have F:=FZ l;have h:run (callF tab ext M) 0 M (.loop (loopAt 31 0)) (zfj (ji l) (ji l) 0)=some (.exit 0,⟨[(0,.sl false 6 (ji l)),(1,.sl false 6 (ji l)),(5,nat (ji l).length),(14,boolX false)],[]⟩):=by
  refine loop_for (σ:=fun j=>zfj (ji l) (ji l) j) (k:=(ji l).length) (Nw _ _ _) (fun j E=>?_) ?_ (by simp) (by omega)
  ·have f:j<l.length:=by omega
   have m:=SN f;have B:=hr _ (qae f);generalize l[j]=a at m B;obtain ⟨⟨n,q⟩,u,w,y,A⟩:=a;exact ⟨zfj (ji l) (ji l) (j+1),ruA [(14,.b true),(19,.e (Fte.mk ⟨n,q⟩ u w y A).cells),(23,.e (Fte.mk ⟨n,q⟩ u w y A).cells),(25,.p (boolX true)),(16,.i (Int.ofNat (j+1)))] (pf5 (aI (j:=j) (k:=(ji l).length) (by omega)) m m B (ay (j:=j) (by omega))),by kernel_rfl⟩
  exact ruA [(14,.b false)] (pf1 (aG (qan (ji l).length)))
 exact puB [(10,.b false)] [(.exit 0,⟨[(0,.sl false 6 (ji l)),(1,.sl false 6 (ji l)),(5,nat (ji l).length),(14,boolX false)],[]⟩)] (pf2 (jF (k:=(ji l).length)) h) (boolX true)
theorem X0 (N:Nat)(f:Fte)(h:f.ok)(hN:190002<=N):Gam.pureD (callF tab ext N) 76 [.agg f.cells,.agg f.cells]=some (boolX true):=by obtain ⟨M,rfl⟩:∃M,N=M+2:=⟨N-2,by omega⟩;have B:=h.len;have n:=uU (M+1) f.st h.st (by omega);have q:=zgt M 74 f.into (fun a u=>uU M a (h.into a u) (by omega)) (by omega) (by omega);obtain ⟨⟨w,y⟩,j,l,A,m⟩:=f;exact puA [(9,.p (boolX true)),(15,.b true),(22,.b true),(29,.b true),(36,.p (boolX true))] (pf5 n (eq_self j) (AV l) (AV m) q) (boolX true)
theorem Qz (N:Nat):Gam.pureD (callF tab ext (N+3)) 30 [.sl false 11 [],.sl false 11 []]=some (boolX true):=by kernel_rfl
section
variable (a:List X) (z:qaW) (j:Nat)
def ohH:St:=⟨[(2,.ptr 0 0 0),(3,.ptr 1 0 0),(5,nat j)],[.var a,.var a]⟩
end
theorem WE (N:Nat)(o:Ocm)(h:o.ok)(hN:190020<=N):Gam.pureD (callF tab ext N) 9 [.agg o.cells,.agg o.cells]=some (boolX true):=by
 obtain ⟨M,rfl⟩:∃M,N=M+2:=⟨N-2,by omega⟩;have hi:=h.ziA;have hf:=h.zfX;have hl:=h.WH;have h1:=uT (M+1) o.s h.s (by omega);have h2:=zfn M o.Dh (fun a W=>X0 M a (h.Dh a W) (by omega)) (by omega) (by omega);have h3:=zfm M o.letters (fun a W=>pV M a (h.letters a W) (by omega)) (by omega) (by omega);have Y:=Qz (M-2);have e4:M-2+3=M+1:=by omega
 rw [e4] at Y;have ho:=h.outs;obtain ⟨⟨f,n,q⟩,l,u,w⟩:=o;have hn:=Fh l;have y:run (callF tab ext (M+1)) 0 (M+1) (.loop (loopAt 9 0)) (ohH (Ocm.mk ⟨f,n,q⟩ l u w).cells 0)=some (.exit 0,⟨[(2,.ptr 0 0 0),(3,.ptr 1 0 0),(5,nat (wP l).length),(25,boolX false)],[.var (Ocm.mk ⟨f,n,q⟩ l u w).cells,.var (Ocm.mk ⟨f,n,q⟩ l u w).cells]⟩):=by
  refine loop_for (σ:=fun j=>ohH (Ocm.mk ⟨f,n,q⟩ l u w).cells j) (k:=(wP l).length) (by kernel_rfl) (fun j hj=>?_) ?_ (by simp) (by grind)
  ·have E:j<l.length:=by omega
   have B:=QN E;have Z:=pV (M+1) l[j].m (ho _ (qae E)) (by omega);generalize l[j]=a at B Z;obtain ⟨A,⟨H,J⟩,L,O,P,Q,S,U,V,F⟩:=a;dsimp only at hi;exact ⟨ohH (Ocm.mk ⟨f,n,q⟩ l u w).cells (j+1),ruA [(25,.b true),(31,.e (Otp.mk A (Msg.mk ⟨H,J⟩ L O (Val.mk P Q S U V F))).cells),(37,.e (Otp.mk A (Msg.mk ⟨H,J⟩ L O (Val.mk P Q S U V F))).cells),(40,.b false),(45,.e (Otp.mk A (Msg.mk ⟨H,J⟩ L O (Val.mk P Q S U V F))).cells),(51,.e (Otp.mk A (Msg.mk ⟨H,J⟩ L O (Val.mk P Q S U V F))).cells),(54,.p (boolX true)),(27,.i (Int.ofNat (j+1)))] (pf8 (aI (j:=j) (k:=(wP l).length) (by omega)) B B (ne_self (x:=A)) B B Z (ay (j:=j) (by omega))),by kernel_rfl⟩
  exact ruA [(25,.b false)] (pf1 (aG (qan (wP l).length)))
 exact puB [(10,.p (boolX true)),(19,.b false),(61,.p (boolX true)),(67,.p (boolX true)),(74,.p (boolX true))] [(.exit 0,⟨[(2,.ptr 0 0 0),(3,.ptr 1 0 0),(5,nat (wP l).length),(25,boolX false)],[.var (Ocm.mk ⟨f,n,q⟩ l u w).cells,.var (Ocm.mk ⟨f,n,q⟩ l u w).cells]⟩)] (pf6 h1 (jF (k:=(wP l).length)) y Y h2 h3) (boolX true)
end Go.Proofs.YtcbeoccmflnejaaGreatDoor
