/-.-/
import Derived.Test.YtpcjeobkehmhpaaGreatDoorV13
set_option linter.all false
namespace Go.Proofs.YtpcjeobkehmhpaaGreatDoor
open Go.Em
set_option maxRecDepth 100000
variable {args:List X}{B:Nat}{v:Val}
structure Otp where
 port:Int
 m:Msg
def Otp.cells (o:Otp):List X:=num o.port::o.m.cells
def jk (l:List Otp):qaX:=l.map Otp.cells
theorem qY (l:List Otp):(jk l).length=l.length:=by simp [jk]
theorem LX {l:List Otp}{j:Nat}(h:j<l.length):(jk l)[j]?=some l[j].cells:=by grind[jk]
structure Fte where
 st:Stp
 kind:Int
 node:qaY
 into:List Stp
 text:qaY
def Fte.cells (f:Fte):List X:=[num f.st.e,.sl false 1 (aI f.st.p),num f.kind,aF f.node,.sl false 2 (bY f.into),aF f.text]
def lU (l:List Fte):qaX:=l.map Fte.cells
theorem Nh (l:List Fte):(lU l).length=l.length:=by simp [lU]
theorem zaV {l:List Fte}{j:Nat}(h:j<l.length):(lU l)[j]?=some l[j].cells:=by grind[lU]
structure Ocm where
 s:Stt
 outs:List Otp
 dN:List Fte
 letters:List Msg
def Ocm.cells (o:Ocm):List X:=[num o.s.n,num o.s.t,.sl false 10 (aW o.s.slots),.sl false 11 (jk o.outs),.sl false 11 [],.sl false 6 (lU o.dN),.sl false 10 (aP o.letters)]
def Val.ok (v:Val):Prop:=v.size<=60000
structure Stp.ok (s:Stp):Prop where
 p:s.p.length<=60000
structure Msg.ok (m:Msg):Prop where
 st:m.st.ok
 orig:m.orig.length<=60000
 body:m.body.ok
structure Slt.ok (s:Slt):Prop where
 key:s.key.ok
 items:s.items.length<=60000
 item:∀m,m∈s.items->m.ok
 vals:s.vals.length<=60000
 val:∀v,v∈s.vals->v.ok
structure Stt.ok (s:Stt):Prop where
 slots:s.slots.length<=60000
 slot:∀x,x∈s.slots->x.ok
structure Fte.ok (f:Fte):Prop where
 st:f.st.ok
 len:f.into.length<=60000
 into:∀s,s∈f.into->s.ok
structure Ocm.ok (o:Ocm):Prop where
 s:o.s.ok
 znR:o.outs.length<=60000
 outs:∀x,x∈o.outs->x.m.ok
 zgo:o.dN.length<=60000
 dN:∀x,x∈o.dN->x.ok
 SA:o.letters.length<=60000
 letters:∀x,x∈o.letters->x.ok
theorem eq_self {α:Type}[BEq α][ReflBEq α](a:α):(a==a)=true:=BEq.rfl
theorem Hr (a:qaY):(a.toList==a.toList)=true:=by simp
theorem ne_self {x:Int}:(!(x==x))=false:=by simp
theorem pJ {k:Nat}:(!(Int.ofNat k==Int.ofNat k))=false:=by simp
theorem zsw (M g:Nat)(l:List Val)(hr:∀a,a∈l->Gam.aC (ah tab ext M) g [.agg a.cells,.agg a.cells]=some (aj true))(hl:l.length<=60000)(hN:l.length<M):
  Gam.aC (ah tab ext (M+1)) 58 [.sl false 6 (au l),.sl false 6 (au l),.fn g []]=some (aj true):=by
 have F:=aS l;have h:run (ah tab ext M) 0 M (.loop (aH 58 0)) (zoG g (au l) (au l) (au l).length 0)=some (.exit 0,zuv g (au l) (au l) (au l).length (au l).length):=by
  refine bF (σ:=fun j=>zoG g (au l) (au l) (au l).length j) (k:=(au l).length) (Wv _ _ _ _ _) (fun j H=>?_) ?_ (by simp) (by omega)
  ·have f:j<l.length:=by omega
   have B:=gB f;have E:=hr _ (qag f);generalize l[j]=a at B E;obtain ⟨n,u,m,y,q,A⟩:=a;exact ⟨⟨(zoG g (au l) (au l) (au l).length (j+1)).tm,[.var (Val.mk n u m y q A).cells,.var (Val.mk n u m y q A).cells]⟩,ruA [(18,.b true),(20,.e (Val.mk n u m y q A).cells),(24,.e (Val.mk n u m y q A).cells),(29,.p (aj true)),(31,.i (Int.ofNat (j+1)))] (pf5 (aK (j:=j) (k:=(au l).length) (by omega)) B B E (aB (j:=j) (by omega))),by kernel_rfl⟩
  exact ruA [(18,.b false)] (pf1 (aN (qat (au l).length)))
 exact puB [(14,.b false)] [(.exit 0,zuv g (au l) (au l) (au l).length (au l).length)] (pf2 (pJ (k:=(au l).length)) h) (aj true)
theorem zoC (M g:Nat)(l:List Stp)(hr:∀a,a∈l->Gam.aC (ah tab ext M) g [.agg a.cells,.agg a.cells]=some (aj true))(hl:l.length<=60000)(hN:l.length<M):
  Gam.aC (ah tab ext (M+1)) 81 [.sl false 2 (bY l),.sl false 2 (bY l),.fn g []]=some (aj true):=by
 have y:=qH l;have h:run (ah tab ext M) 0 M (.loop (aH 81 0)) (zbo g (bY l) (bY l) (bY l).length 0)=some (.exit 0,zoJ g (bY l) (bY l) (bY l).length (bY l).length):=by
  refine bF (σ:=fun j=>zbo g (bY l) (bY l) (bY l).length j) (k:=(bY l).length) (QF _ _ _ _ _) (fun j A=>?_) ?_ (by simp) (by omega)
  ·have f:j<l.length:=by omega
   have q:=KL f;have u:=hr _ (qag f);generalize l[j]=a at q u;obtain ⟨m,n⟩:=a;exact ⟨⟨(zbo g (bY l) (bY l) (bY l).length (j+1)).tm,[.var (Stp.mk m n).cells,.var (Stp.mk m n).cells]⟩,ruA [(18,.b true),(20,.e (Stp.mk m n).cells),(24,.e (Stp.mk m n).cells),(29,.p (aj true)),(31,.i (Int.ofNat (j+1)))] (pf5 (aK (j:=j) (k:=(bY l).length) (by omega)) q q u (aB (j:=j) (by omega))),by kernel_rfl⟩
  exact ruA [(18,.b false)] (pf1 (aN (qat (bY l).length)))
 exact puB [(14,.b false)] [(.exit 0,zoJ g (bY l) (bY l) (bY l).length (bY l).length)] (pf2 (pJ (k:=(bY l).length)) h) (aj true)
theorem zsx (M g:Nat)(l:List Msg)(hr:∀a,a∈l->Gam.aC (ah tab ext M) g [.agg a.cells,.agg a.cells]=some (aj true))(hl:l.length<=60000)(hN:l.length<M):
  Gam.aC (ah tab ext (M+1)) 57 [.sl false 10 (aP l),.sl false 10 (aP l),.fn g []]=some (aj true):=by
 have N:=fO l;have h:run (ah tab ext M) 0 M (.loop (aH 57 0)) (zoH g (aP l) (aP l) (aP l).length 0)=some (.exit 0,zuw g (aP l) (aP l) (aP l).length (aP l).length):=by
  refine bF (σ:=fun j=>zoH g (aP l) (aP l) (aP l).length j) (k:=(aP l).length) (Wx _ _ _ _ _) (fun j O=>?_) ?_ (by simp) (by omega)
  ·have f:j<l.length:=by omega
   have J:=rD f;have L:=hr _ (qag f);generalize l[j]=a at J L;obtain ⟨⟨q,A⟩,n,B,u,E,F,m,y,H⟩:=a;exact ⟨⟨(zoH g (aP l) (aP l) (aP l).length (j+1)).tm,[.var (Msg.mk ⟨q,A⟩ n B (Val.mk u E F m y H)).cells,.var (Msg.mk ⟨q,A⟩ n B (Val.mk u E F m y H)).cells]⟩,ruA [(18,.b true),(20,.e (Msg.mk ⟨q,A⟩ n B (Val.mk u E F m y H)).cells),(24,.e (Msg.mk ⟨q,A⟩ n B (Val.mk u E F m y H)).cells),(29,.p (aj true)),(31,.i (Int.ofNat (j+1)))] (pf5 (aK (j:=j) (k:=(aP l).length) (by omega)) J J L (aB (j:=j) (by omega))),by kernel_rfl⟩
  exact ruA [(18,.b false)] (pf1 (aN (qat (aP l).length)))
 exact puB [(14,.b false)] [(.exit 0,zuw g (aP l) (aP l) (aP l).length (aP l).length)] (pf2 (pJ (k:=(aP l).length)) h) (aj true)
theorem zsy (M g:Nat)(l:List Slt)(hr:∀a,a∈l->Gam.aC (ah tab ext M) g [.agg a.cells,.agg a.cells]=some (aj true))(hl:l.length<=60000)(hN:l.length<M):
  Gam.aC (ah tab ext (M+1)) 27 [.sl false 10 (aW l),.sl false 10 (aW l),.fn g []]=some (aj true):=by
 have N:=jW l;have h:run (ah tab ext M) 0 M (.loop (aH 27 0)) (zoI g (aW l) (aW l) (aW l).length 0)=some (.exit 0,zux g (aW l) (aW l) (aW l).length (aW l).length):=by
  refine bF (σ:=fun j=>zoI g (aW l) (aW l) (aW l).length j) (k:=(aW l).length) (Wy _ _ _ _ _) (fun j O=>?_) ?_ (by simp) (by omega)
  ·have f:j<l.length:=by omega
   have J:=A8 f;have L:=hr _ (qag f);generalize l[j]=a at J L;obtain ⟨⟨q,A,n,B,u,E⟩,F,m,y,H⟩:=a;exact ⟨⟨(zoI g (aW l) (aW l) (aW l).length (j+1)).tm,[.var (Slt.mk (Val.mk q A n B u E) F m y H).cells,.var (Slt.mk (Val.mk q A n B u E) F m y H).cells]⟩,ruA [(18,.b true),(20,.e (Slt.mk (Val.mk q A n B u E) F m y H).cells),(24,.e (Slt.mk (Val.mk q A n B u E) F m y H).cells),(29,.p (aj true)),(31,.i (Int.ofNat (j+1)))] (pf5 (aK (j:=j) (k:=(aW l).length) (by omega)) J J L (aB (j:=j) (by omega))),by kernel_rfl⟩
  exact ruA [(18,.b false)] (pf1 (aN (qat (aW l).length)))
 exact puB [(14,.b false)] [(.exit 0,zux g (aW l) (aW l) (aW l).length (aW l).length)] (pf2 (pJ (k:=(aW l).length)) h) (aj true)
section
variable (l m:qaX) (j:Nat)
def zm9:St:=⟨[(0,.sl false 10 l),(1,.sl false 10 m),(5,nat j)],[]⟩
theorem Vb:canon 0 (zm9 l m j)=some (zm9 l m j):=by kernel_rfl
end
theorem znc (M:Nat)(l:List Msg)(hr:∀a,a∈l->Gam.aC (ah tab ext M) 29 [.agg a.cells,.agg a.cells]=some (aj true))(hl:l.length<=60000)(hN:l.length<M):
  Gam.aC (ah tab ext (M+1)) 32 [.sl false 10 (aP l),.sl false 10 (aP l)]=some (aj true):=by
 have N:=fO l;have h:run (ah tab ext M) 0 M (.loop (aH 32 0)) (zm9 (aP l) (aP l) 0)=some (.exit 0,⟨[(0,.sl false 10 (aP l)),(1,.sl false 10 (aP l)),(5,nat (aP l).length),(14,aj false)],[]⟩):=by
  refine bF (σ:=fun j=>zm9 (aP l) (aP l) j) (k:=(aP l).length) (Vb _ _ _) (fun j O=>?_) ?_ (by simp) (by omega)
  ·have f:j<l.length:=by omega
   have m:=rD f;have J:=hr _ (qag f);generalize l[j]=a at m J;obtain ⟨⟨u,B⟩,q,E,y,F,H,n,A,L⟩:=a;exact ⟨zm9 (aP l) (aP l) (j+1),ruA [(14,.b true),(19,.e (Msg.mk ⟨u,B⟩ q E (Val.mk y F H n A L)).cells),(23,.e (Msg.mk ⟨u,B⟩ q E (Val.mk y F H n A L)).cells),(25,.p (aj true)),(16,.i (Int.ofNat (j+1)))] (pf5 (aK (j:=j) (k:=(aP l).length) (by omega)) m m J (aB (j:=j) (by omega))),by kernel_rfl⟩
  exact ruA [(14,.b false)] (pf1 (aN (qat (aP l).length)))
 exact puB [(10,.b false)] [(.exit 0,⟨[(0,.sl false 10 (aP l)),(1,.sl false 10 (aP l)),(5,nat (aP l).length),(14,aj false)],[]⟩)] (pf2 (pJ (k:=(aP l).length)) h) (aj true)
section
variable (l m:qaX) (j:Nat)
def zna:St:=⟨[(0,.sl false 6 l),(1,.sl false 6 m),(5,nat j)],[]⟩
theorem Vd:canon 0 (zna l m j)=some (zna l m j):=by kernel_rfl
end
theorem znd (M:Nat)(l:List Fte)(hr:∀a,a∈l->Gam.aC (ah tab ext M) 61 [.agg a.cells,.agg a.cells]=some (aj true))(hl:l.length<=60000)(hN:l.length<M):
  Gam.aC (ah tab ext (M+1)) 31 [.sl false 6 (lU l),.sl false 6 (lU l)]=some (aj true):=by
 have F:=Nh l;have h:run (ah tab ext M) 0 M (.loop (aH 31 0)) (zna (lU l) (lU l) 0)=some (.exit 0,⟨[(0,.sl false 6 (lU l)),(1,.sl false 6 (lU l)),(5,nat (lU l).length),(14,aj false)],[]⟩):=by
  refine bF (σ:=fun j=>zna (lU l) (lU l) j) (k:=(lU l).length) (Vd _ _ _) (fun j H=>?_) ?_ (by simp) (by omega)
  ·have f:j<l.length:=by omega
   have m:=zaV f;have E:=hr _ (qag f);generalize l[j]=a at m E;obtain ⟨⟨q,y⟩,n,A,u,B⟩:=a;exact ⟨zna (lU l) (lU l) (j+1),ruA [(14,.b true),(19,.e (Fte.mk ⟨q,y⟩ n A u B).cells),(23,.e (Fte.mk ⟨q,y⟩ n A u B).cells),(25,.p (aj true)),(16,.i (Int.ofNat (j+1)))] (pf5 (aK (j:=j) (k:=(lU l).length) (by omega)) m m E (aB (j:=j) (by omega))),by kernel_rfl⟩
  exact ruA [(14,.b false)] (pf1 (aN (qat (lU l).length)))
 exact puB [(10,.b false)] [(.exit 0,⟨[(0,.sl false 6 (lU l)),(1,.sl false 6 (lU l)),(5,nat (lU l).length),(14,aj false)],[]⟩)] (pf2 (pJ (k:=(lU l).length)) h) (aj true)
theorem Ib (N:Nat)(v:Val)(h:v.ok)(hN:190000<=N):Gam.aC (ah tab ext N) 56 [.agg v.cells,.agg v.cells]=some (aj true):=by grind[Val.ok,zoD,wX]
theorem vH (N:Nat)(s:Stp)(h:s.ok)(hN:190000<=N):Gam.aC (ah tab ext N) 59 [.agg s.cells,.agg s.cells]=some (aj true):=by have:=h.p<;>grind[zfd,zby]
theorem MP (N:Nat)(l:List Int)(h:l.length<=60000)(hN:190000<=N):Gam.aC (ah tab ext N) 60 [.sl false 1 (aI l),.sl false 1 (aI l)]=some (aj true):=by obtain ⟨M,rfl⟩:=pR_ N;rw [zbj M l l (by omega) (by omega),TR (by simp)]
theorem Ai (N:Nat)(m:Msg)(h:m.ok)(hN:190001<=N):Gam.aC (ah tab ext N) 29 [.agg m.cells,.agg m.cells]=some (aj true):=by obtain ⟨M,rfl⟩:=pR_ N;have l:=vH M m.st h.st (by omega);have f:=MP M m.orig h.orig (by omega);have j:=Ib M m.body h.body (by omega);obtain ⟨⟨q,A⟩,a,B,u,E,F,n,y,H⟩:=m;exact puA [(9,.p (aj true)),(15,.b true),(22,.p (aj true)),(29,.p (aj true))] (pf4 l (eq_self a) f j) (aj true)
theorem zeV (N:Nat)(f:Fte)(h:f.ok)(hN:190002<=N):Gam.aC (ah tab ext N) 61 [.agg f.cells,.agg f.cells]=some (aj true):=by obtain ⟨M,rfl⟩:∃M,N=M+2:=⟨N-2,by omega⟩;have E:=h.len;have u:=vH (M+1) f.st h.st (by omega);have l:=zoC M 59 f.into (fun a n=>vH M a (h.into a n) (by omega)) (by omega) (by omega);obtain ⟨⟨y,B⟩,j,m,A,q⟩:=f;exact puA [(9,.p (aj true)),(15,.b true),(22,.b true),(29,.b true),(36,.p (aj true))] (pf5 u (eq_self j) (Hr m) (Hr q) l) (aj true)
theorem zdc (N:Nat)(s:Slt)(h:s.ok)(hN:190005<=N):Gam.aC (ah tab ext N) 28 [.agg s.cells,.agg s.cells]=some (aj true):=by obtain ⟨M,rfl⟩:∃M,N=M+2:=⟨N-2,by omega⟩;have L:=h.items;have B:=h.vals;have q:=Ib (M+1) s.key h.key (by omega);have l:=zsx M 29 s.items (fun a f=>Ai M a (h.item a f) (by omega)) (by omega) (by omega);have n:=zsw M 56 s.vals (fun a f=>Ib M a (h.val a f) (by omega)) (by omega) (by omega);obtain ⟨⟨u,A,H,O,J,E⟩,m,j,y,F⟩:=s;exact puA [(9,.p (aj true)),(15,.b true),(22,.b true),(29,.p (aj true)),(36,.p (aj true))] (pf5 q (eq_self m) (eq_self j) l n) (aj true)
theorem Iw (N:Nat)(s:Stt)(h:s.ok)(hN:190010<=N):Gam.aC (ah tab ext N) 10 [.agg s.cells,.agg s.cells]=some (aj true):=by obtain ⟨M,rfl⟩:∃M,N=M+2:=⟨N-2,by omega⟩;have q:=h.slots;have j:=zsy M 28 s.slots (fun a m=>zdc M a (h.slot a m) (by omega)) (by omega) (by omega);obtain ⟨f,l,n⟩:=s;exact puA [(9,.b true),(15,.b true),(22,.p (aj true))] (pf3 (eq_self f) (eq_self l) j) (aj true)
theorem YQ (N:Nat):Gam.aC (ah tab ext (N+3)) 30 [.sl false 11 [],.sl false 11 []]=some (aj true):=by kernel_rfl
section
variable (a:List X) (z:qaX) (j:Nat)
def ohH:St:=⟨[(2,.ptr 0 0 0),(3,.ptr 1 0 0),(5,nat j)],[.var a,.var a]⟩
end
theorem Sm (N:Nat)(o:Ocm)(h:o.ok)(hN:190020<=N):Gam.aC (ah tab ext N) 12 [.agg o.cells,.agg o.cells]=some (aj true):=by
 obtain ⟨M,rfl⟩:∃M,N=M+2:=⟨N-2,by omega⟩;have hi:=h.znR;have hf:=h.zgo;have hl:=h.SA;have h1:=Iw (M+1) o.s h.s (by omega);have h2:=znd M o.dN (fun a Y=>zeV M a (h.dN a Y) (by omega)) (by omega) (by omega);have h3:=znc M o.letters (fun a Y=>Ai M a (h.letters a Y) (by omega)) (by omega) (by omega);have Z:=YQ (M-2);have e4:M-2+3=M+1:=by omega
 rw [e4] at Z;have ho:=h.outs;obtain ⟨⟨f,n,u⟩,l,y,q⟩:=o;have hn:=qY l;have A:run (ah tab ext (M+1)) 0 (M+1) (.loop (aH 12 0)) (ohH (Ocm.mk ⟨f,n,u⟩ l y q).cells 0)=some (.exit 0,⟨[(2,.ptr 0 0 0),(3,.ptr 1 0 0),(5,nat (jk l).length),(25,aj false)],[.var (Ocm.mk ⟨f,n,u⟩ l y q).cells,.var (Ocm.mk ⟨f,n,u⟩ l y q).cells]⟩):=by
  refine bF (σ:=fun j=>ohH (Ocm.mk ⟨f,n,u⟩ l y q).cells j) (k:=(jk l).length) (by kernel_rfl) (fun j hj=>?_) ?_ (by simp) (by grind)
  ·have B:j<l.length:=by omega
   have F:=LX B;have hc:=Ai (M+1) l[j].m (ho _ (qag B)) (by omega);generalize l[j]=a at F hc;obtain ⟨E,⟨Q,O⟩,J,S,L,H,W,P,U,V⟩:=a;dsimp only at hi;exact ⟨ohH (Ocm.mk ⟨f,n,u⟩ l y q).cells (j+1),ruA [(25,.b true),(31,.e (Otp.mk E (Msg.mk ⟨Q,O⟩ J S (Val.mk L H W P U V))).cells),(37,.e (Otp.mk E (Msg.mk ⟨Q,O⟩ J S (Val.mk L H W P U V))).cells),(40,.b false),(45,.e (Otp.mk E (Msg.mk ⟨Q,O⟩ J S (Val.mk L H W P U V))).cells),(51,.e (Otp.mk E (Msg.mk ⟨Q,O⟩ J S (Val.mk L H W P U V))).cells),(54,.p (aj true)),(27,.i (Int.ofNat (j+1)))] (pf8 (aK (j:=j) (k:=(jk l).length) (by omega)) F F (ne_self (x:=E)) F F hc (aB (j:=j) (by omega))),by kernel_rfl⟩
  exact ruA [(25,.b false)] (pf1 (aN (qat (jk l).length)))
 exact puB [(10,.p (aj true)),(19,.b false),(61,.p (aj true)),(67,.p (aj true)),(74,.p (aj true))] [(.exit 0,⟨[(2,.ptr 0 0 0),(3,.ptr 1 0 0),(5,nat (jk l).length),(25,aj false)],[.var (Ocm.mk ⟨f,n,u⟩ l y q).cells,.var (Ocm.mk ⟨f,n,u⟩ l y q).cells]⟩)] (pf6 h1 (pJ (k:=(jk l).length)) A Z h2 h3) (aj true)
theorem zn:∀l:List Int,intsOf (aI l)=some l
 |[]=>rfl
 |x::l=>by
  have h:=zn l;show (match intsOf (aI l) with
   |some l=>some (x::l)
   |none=>none)=some (x::l)
  rw [h]
theorem NH (N:Nat)(l:List Int)(hl:l.length<=60000):ah tab ext (N+1) (.fn 45) [.sl false 1 (aI l)] []=some (.bs 0 0 l.length,[.row 1 (aI l)]):=by show Ar [.sl false 1 (aI l)] []=_;unfold Ar;simp only [zn,if_pos (show l.length<=1000000 by omega)];rfl
theorem He (N:Nat)(l:List Int)(hl:l.length<=60000):Gam.aC (ah tab ext (N+1)) 45 [.sl false 1 (aI l)]=some (.sl false 1 (aI l)):=by simp_all[Gam.aC,NH,X.data,rowOf,bI,List.take_of_length_le]
theorem lW (N:Nat)(s:Stp)(h:s.ok):Gam.aC (ah tab ext (N+2)) 44 [.agg s.cells]=some (.agg s.cells):=
 puA [(7,.p (.sl false 1 (aI s.p)))] (pf1 (He N s.p h.p)) (.agg s.cells)
theorem iR (N:Nat)(m:Msg)(h:m.ok)(hN:190001<=N):Gam.aC (ah tab ext N) 18 [.agg m.cells]=some (.agg m.cells):=by obtain ⟨M,rfl⟩:∃M,N=M+3:=⟨N-3,by omega⟩;have J:=lW M m.st h.st;have F:=He (M+1) m.orig h.orig;have H:=h.body;unfold Val.ok at H;have E:=jy (M+2) m.body (by omega) (by omega);obtain ⟨⟨f,n⟩,B,q,j,u,y,a,l,A⟩:=m;exact puA [(5,.p (.agg (Stp.mk f n).cells)),(10,.p (.sl false 1 (aI q))),(13,.p (.agg (Val.mk j u y a l A).cells))] (pf3 J F E) (.agg (Msg.mk ⟨f,n⟩ B q (Val.mk j u y a l A)).cells)
def Uu:List X:=[num 0,num 0,num 0,bD,.sl true 6 [],.sl true 7 [],num 0,num 0,.sl true 10 [],.sl true 6 []]
section
variable (s items acc vals zlR:qaX) (n m k j:Nat)
variable (k0 i0 s0:Int) (t0:qaY) (l0 f0:qaX) (n0 d0:Int) (x:List X)
def csH:St:=⟨[(1,.ptr 0 0 0),(2,.ptr 1 0 0),(3,.bs 2 0 j),(14,.sl false 10 items),(15,nat n),(16,nat j)],[.var (nO k0 i0 s0 t0 l0 f0 n0 d0 items vals),.var Uu,.row 10 acc]⟩
def zuB:St:=⟨[(1,.ptr 0 0 0),(2,.ptr 1 0 0),(3,.bs 4 0 (j+1)),(14,.sl false 10 items),(15,nat n),(16,nat (j+1))],[.var (nO k0 i0 s0 t0 l0 f0 n0 d0 items vals),.var Uu,.dead,.var x,.row 10 (acc++[x])]⟩
def csE:St:=⟨[(1,.ptr 0 0 0),(2,.ptr 1 0 0),(3,.bs 2 0 j),(14,.sl false 10 items),(15,nat n),(16,nat j),(17,aj false)],[.var (nO k0 i0 s0 t0 l0 f0 n0 d0 items vals),.var Uu,.row 10 acc]⟩
theorem zfj:canon 0 (csH items acc vals n j k0 i0 s0 t0 l0 f0 n0 d0)=some (csH items acc vals n j k0 i0 s0 t0 l0 f0 n0 d0):=by kernel_rfl
theorem zbt:canon 0 (zuB items acc vals n j k0 i0 s0 t0 l0 f0 n0 d0 x)=some (csH items (acc++[x]) vals n (j+1) k0 i0 s0 t0 l0 f0 n0 d0):=by kernel_rfl
def cvH:St:=⟨[(1,.ptr 0 0 0),(2,.ptr 1 0 0),(3,.bs 2 0 m),(6,.bs 3 0 j),(31,.sl false 6 vals),(32,nat n),(33,nat j)],[.var (nO k0 i0 s0 t0 l0 f0 n0 d0 items vals),.var Uu,.row 10 acc,.row 6 zlR]⟩
def zuz:St:=⟨[(1,.ptr 0 0 0),(2,.ptr 1 0 0),(3,.bs 2 0 m),(6,.bs 5 0 (j+1)),(31,.sl false 6 vals),(32,nat n),(33,nat (j+1))],[.var (nO k0 i0 s0 t0 l0 f0 n0 d0 items vals),.var Uu,.row 10 acc,.dead,.var x,.row 6 (zlR++[x])]⟩
def cvE:St:=⟨[(1,.ptr 0 0 0),(2,.ptr 1 0 0),(3,.bs 2 0 m),(6,.bs 3 0 j),(31,.sl false 6 vals),(32,nat n),(33,nat j),(34,aj false)],[.var (nO k0 i0 s0 t0 l0 f0 n0 d0 items vals),.var Uu,.row 10 acc,.row 6 zlR]⟩
theorem zfi:canon 0 (cvH items acc vals zlR n m j k0 i0 s0 t0 l0 f0 n0 d0)=some (cvH items acc vals zlR n m j k0 i0 s0 t0 l0 f0 n0 d0):=by kernel_rfl
theorem zbs:canon 0 (zuz items acc vals zlR n m j k0 i0 s0 t0 l0 f0 n0 d0 x)=some (cvH items acc vals (zlR++[x]) n m (j+1) k0 i0 s0 t0 l0 f0 n0 d0):=by kernel_rfl
end
theorem WM (N:Nat)(s:Slt)(h:s.ok)(hN:190005<=N):ah tab ext N (.fn 43) [.agg s.cells] []=some (match s with
  |⟨.mk k i s t l f,n,d,ms,vs⟩=>(.agg [num k,num i,num s,aF t,.sl false 6 (au l),.sl false 7 (aA f),num n,num d,.bs 0 0 (aP ms).length,.bs 1 0 (au vs).length],[.row 10 (aP ms),.row 6 (au vs)])):=by
 obtain ⟨M,rfl⟩:=pR_ N;have hi:=h.items;have hv:=h.vals;have hk:=h.key;have hit:=h.item;have W:=h.val;obtain ⟨⟨m,y,q,B,u,A⟩,F,H,ms,vs⟩:=s;have em:=fO ms;have ev:=aS vs;dsimp only at hi hv hk hit W;unfold Val.ok at hk;have pb:=jy M (Val.mk m y q B u A) (by omega) (by omega);have h1:run (ah tab ext M) 0 M (.loop (aH 43 0)) (csH (aP ms) [] (au vs) (aP ms).length 0 m y q B (au u) (aA A) F H)=some (.exit 0,csE (aP ms) (aP ms) (au vs) (aP ms).length (aP ms).length m y q B (au u) (aA A) F H):=by
  refine bF (σ:=fun j=>csH (aP ms) ((aP ms).take j) (au vs) (aP ms).length j m y q B (au u) (aA A) F H) (k:=(aP ms).length) (zfj ..) (fun j hj=>?_) ?_ (by simp) (by omega)
  ·have E:j<ms.length:=by omega
   have U:=rD E;have V:=iR M ms[j] (hit _ (qag E)) (by omega);have ht:=dL U;generalize ms[j]=a at U V ht;obtain ⟨⟨P,Q⟩,J,O,L,S,a7,Y,Z,a0⟩:=a;refine ⟨zuB (aP ms) ((aP ms).take j) (au vs) (aP ms).length j m y q B (au u) (aA A) F H (Msg.mk ⟨P,Q⟩ J O (Val.mk L S a7 Y Z a0)).cells,ruA [(17,.b true),(18,.e (Msg.mk ⟨P,Q⟩ J O (Val.mk L S a7 Y Z a0)).cells),(22,.p (.agg (Msg.mk ⟨P,Q⟩ J O (Val.mk L S a7 Y Z a0)).cells)),(24,.app),(25,.i (Int.ofNat (j+1)))] (pf5 (aK (j:=j) (k:=(aP ms).length) (by omega)) U V (dO (acc:=(aP ms).take j) j 2 152 (by grind) (by omega) (by omega)) (aB (j:=j) (by omega))),?_⟩
   grind[zbt]
  rw [List.take_length];exact ruA [(17,.b false)] (pf1 (aN (qat (aP ms).length)))
 have h2:run (ah tab ext M) 0 M (.loop (aH 43 1)) (cvH (aP ms) (aP ms) (au vs) [] (au vs).length (aP ms).length 0 m y q B (au u) (aA A) F H)=some (.exit 2,cvE (aP ms) (aP ms) (au vs) (au vs) (au vs).length (aP ms).length (au vs).length m y q B (au u) (aA A) F H):=by
  refine bF (σ:=fun j=>cvH (aP ms) (aP ms) (au vs) ((au vs).take j) (au vs).length (aP ms).length j m y q B (au u) (aA A) F H) (k:=(au vs).length) (zfi ..) (fun j hj=>?_) ?_ (by simp) (by omega)
  ·have E:j<vs.length:=by omega
   have U:=gB E;have pa:=W _ (qag E);unfold Val.ok at pa;have V:=jy M vs[j] (by omega) (by omega);have ht:=dL U;generalize vs[j]=a at U V ht;obtain ⟨P,Q,J,O,L,S⟩:=a;refine ⟨zuz (aP ms) (aP ms) (au vs) ((au vs).take j) (au vs).length (aP ms).length j m y q B (au u) (aA A) F H (Val.mk P Q J O L S).cells,ruA [(34,.b true),(35,.e (Val.mk P Q J O L S).cells),(39,.p (.agg (Val.mk P Q J O L S).cells)),(41,.app),(42,.i (Int.ofNat (j+1)))] (pf5 (aK (j:=j) (k:=(au vs).length) (by omega)) U V (dO (acc:=(au vs).take j) j 3 88 (by grind) (by omega) (by omega)) (aB (j:=j) (by omega))),?_⟩
   grind[zbs]
  rw [List.take_length];exact ruA [(34,.b false)] (pf1 (aN (qat (au vs).length)))
 exact caB [(12,.mk),(29,.mk),(45,.p (.agg (Val.mk m y q B u A).cells))] [(.exit 0,csE (aP ms) (aP ms) (au vs) (aP ms).length (aP ms).length m y q B (au u) (aA A) F H),(.exit 2,cvE (aP ms) (aP ms) (au vs) (au vs) (au vs).length (aP ms).length (au vs).length m y q B (au u) (aA A) F H)] (pf5 (a:=0<=(aP ms).length/\dh (aP ms).length 152=true) ⟨by omega,iL (by omega) (by omega)⟩ h1 (c:=0<=(au vs).length/\dh (au vs).length 88=true) ⟨by omega,iL (by omega) (by omega)⟩ h2 pb)
theorem D5 (N:Nat)(s:Slt)(h:s.ok)(hN:190005<=N):Gam.aC (ah tab ext N) 43 [.agg s.cells]=some (.agg s.cells):=by unfold Gam.aC;rw [WM N s h hN];obtain ⟨⟨f,j,l,m,A,u⟩,y,a,n,q⟩:=s<;>simp_all[X.data,eG,rowOf,Slt.cells,nO,num,aF]
def mG:List X:=[num 0,num 0,.sl true 10 []]
section
variable (a b:Int) (l acc:qaX) (n j:Nat) (x:List X)
def stH:St:=⟨[(1,.ptr 0 0 0),(2,.ptr 1 0 0),(3,.bs 2 0 j),(11,.sl false 10 l),(12,nat n),(13,nat j)],[.var [num a,num b,.sl false 10 l],.var mG,.row 10 acc]⟩
def ztz:St:=⟨[(1,.ptr 0 0 0),(2,.ptr 1 0 0),(3,.bs 4 0 (j+1)),(11,.sl false 10 l),(12,nat n),(13,nat (j+1))],[.var [num a,num b,.sl false 10 l],.var mG,.dead,.var x,.row 10 (acc++[x])]⟩
def stE:St:=⟨[(1,.ptr 0 0 0),(2,.ptr 1 0 0),(3,.bs 2 0 j),(11,.sl false 10 l),(12,nat n),(13,nat j),(14,aj false)],[.var [num a,num b,.sl false 10 l],.var mG,.row 10 acc]⟩
theorem zc8:canon 0 (stH a b l acc n j)=some (stH a b l acc n j):=by kernel_rfl
theorem Yd:canon 0 (ztz a b l acc n j x)=some (stH a b l (acc++[x]) n (j+1)):=by kernel_rfl
end
theorem QM (N:Nat)(s:Stt)(h:s.ok)(hN:190010<=N):ah tab ext N (.fn 17) [.agg s.cells] []=some (.agg [num s.n,num s.t,.bs 0 0 (aW s.slots).length],[.row 10 (aW s.slots)]):=by
 obtain ⟨M,rfl⟩:=pR_ N;have Q:=h.slots;have hit:=h.slot;obtain ⟨a,b,f⟩:=s;dsimp only at Q hit;have W:=jW f;have S:run (ah tab ext M) 0 M (.loop (aH 17 0)) (stH a b (aW f) [] (aW f).length 0)=some (.exit 0,stE a b (aW f) (aW f) (aW f).length (aW f).length):=by
  refine bF (σ:=fun j=>stH a b (aW f) ((aW f).take j) (aW f).length j) (k:=(aW f).length) (zc8 ..) (fun j V=>?_) ?_ (by simp) (by omega)
  ·have l:j<f.length:=by omega
   have E:=A8 l;have P:=D5 M f[j] (hit _ (qag l)) (by omega);have U:=dL E;generalize f[j]=q at E P U;obtain ⟨⟨u,A,H,L,J,B⟩,O,m,y,F⟩:=q;refine ⟨ztz a b (aW f) ((aW f).take j) (aW f).length j (Slt.mk (Val.mk u A H L J B) O m y F).cells,ruA [(14,.b true),(15,.e (Slt.mk (Val.mk u A H L J B) O m y F).cells),(19,.p (.agg (Slt.mk (Val.mk u A H L J B) O m y F).cells)),(21,.app),(22,.i (Int.ofNat (j+1)))] (pf5 (aK (j:=j) (k:=(aW f).length) (by omega)) E P (dO (acc:=(aW f).take j) j 2 152 (by grind) (by omega) (by omega)) (aB (j:=j) (by omega))),?_⟩
   grind[Yd]
  rw [List.take_length];exact ruA [(14,.b false)] (pf1 (aN (qat (aW f).length)))
 exact caB [(9,.mk)] [(.exit 0,stE a b (aW f) (aW f) (aW f).length (aW f).length)] (pf2 (a:=0<=(aW f).length/\dh (aW f).length 152=true) ⟨by omega,iL (by omega) (by omega)⟩ S)
theorem bZ (N:Nat)(s:Stt)(h:s.ok)(hN:190010<=N):Gam.aC (ah tab ext N) 17 [.agg s.cells]=some (.agg s.cells):=by unfold Gam.aC;rw [QM N s h hN];simp_all[X.data,eG,rowOf,Stt.cells,num]
def oM (B:Nat)(f:FuncId)(args:List X):Prop:=∃c:Bool,∀N,B<=N->Gam.aC (ah tab ext N) f args=some (aj c)
theorem dQ {f:FuncId}(h:∃c:Bool,∀N,B<=N->Gam.aC (ah tab ext (N+1)) f args=some (aj c)):oM (B+1) f args:=by obtain ⟨c,h⟩:=h;refine ⟨c,fun N a=>?_⟩;obtain ⟨M,rfl⟩:=pR_ N<;>simp_all
def kR (B:Nat)(f:FuncId)(args:List X):Prop:=∃c:Int,(0<=c/\c<=100)/\∀N,B<=N->Gam.aC (ah tab ext N) f args=some (num c)
theorem dF {f:FuncId}(h:∃c:Int,(0<=c/\c<=100)/\∀N,B<=N->Gam.aC (ah tab ext (N+1)) f args=some (num c)):kR (B+1) f args:=by obtain ⟨c,a,h⟩:=h;refine ⟨c,a,fun N j=>?_⟩;obtain ⟨M,rfl⟩:=pR_ N<;>simp_all
theorem scan {b:C}{H:Nat->St}{e:Ex}{fin τ:St}{n B:Nat}(good:St->Prop)(h0:canon 0 τ=some (H 0))
  (hstep:∀j,j<n->(∃r,good r/\∀M,B<=M->run (ah tab ext M) 0 M b (H j)=some (.ret,r))\/(∃υ,canon 0 υ=some (H (j+1))/\∀M,B<=M->run (ah tab ext M) 0 M b (H j)=some (.norm,υ)))
  (hend:∀M,B<=M->run (ah tab ext M) 0 M b (H n)=some (e,fin)) (hne:e≠.norm):
  (∃r,good r/\∀M,B<=M->n<M->run (ah tab ext M) 0 M (.loop b) τ=some (.ret,r))\/(∀M,B<=M->n<M->run (ah tab ext M) 0 M (.loop b) τ=some (e,fin)):=by
 have A:∀d j,j+d=n->(∃r,good r/\∀M F υ,B<=M->d<F->canon 0 υ=some (H j)->iter 0 (run (ah tab ext M) 0 M b) F υ=some (.ret,r))\/(∀M F υ,B<=M->d<F->canon 0 υ=some (H j)->iter 0 (run (ah tab ext M) 0 M b) F υ=some (e,fin)):=by
  intro d;induction d with
  |zero=>
   intro j u;have q:j=n:=by omega
   subst q;right;intro M F υ f a m;obtain ⟨F',rfl⟩:∃F',F=F'+1:=⟨F-1,by omega⟩
   grind[bK]
  |succ d ih=>
   intro j u;rcases hstep j (by omega) with ⟨r,l,h⟩|⟨ω,E,h⟩
   ·left;refine ⟨r,l,fun M F υ f a m=>?_⟩;obtain ⟨F',rfl⟩:∃F',F=F'+1:=⟨F-1,by omega⟩
    grind[bK]
   rcases ih (j+1) (by omega) with ⟨r,l,y⟩|y;·left;refine ⟨r,l,fun M F υ f a m=>?_⟩;obtain ⟨F',rfl⟩:∃F',F=F'+1:=⟨F-1,by omega⟩<;>simp_all[dY]
   right;intro M F υ f a m;obtain ⟨F',rfl⟩:∃F',F=F'+1:=⟨F-1,by omega⟩<;>simp_all[dY]
 grind[run]
def jl:Val->Bool
 |.mk k i s t l f=>(k==0)&&((i==0)&&((s==0)&&((t.toList==(⟨#[]⟩:qaY).toList)&&((Int.ofNat (au l).length==0)&&(Int.ofNat (aA f).length==0)))))
theorem Sv (N:Nat)(v:Val):Gam.aC (ah tab ext (N+1)) 67 [.agg v.cells]=some (aj (jl v)):=by
 obtain ⟨k,i,s,t,l,f⟩:=v;cases a:(k==0) with
 |true=>
  cases h:(i==0) with
  |true=>
   cases j:(s==0) with
   |true=>
    cases m:(t.toList==(⟨#[]⟩:qaY).toList) with
    |true=>
     cases n:(Int.ofNat (au l).length==0) with
     |true=>
      cases q:(Int.ofNat (aA f).length==0) with
      |true=>rw [show jl (Val.mk k i s t l f)=true from by grind[jl]];exact puA [(5,.b true),(9,.b true),(14,.b true),(19,.b true),(25,.b true),(31,.b true)] (pf6 a h j m n q) (aj true)
      |false=>rw [show jl (Val.mk k i s t l f)=false from by grind[jl]];exact puA [(5,.b true),(9,.b true),(14,.b true),(19,.b true),(25,.b true),(31,.b false)] (pf6 a h j m n q) (aj false)
     |false=>rw [show jl (Val.mk k i s t l f)=false from by grind[jl]];exact puA [(5,.b true),(9,.b true),(14,.b true),(19,.b true),(25,.b false)] (pf5 a h j m n) (aj false)
    |false=>rw [show jl (Val.mk k i s t l f)=false from by grind[jl]];exact puA [(5,.b true),(9,.b true),(14,.b true),(19,.b false)] (pf4 a h j m) (aj false)
   |false=>rw [show jl (Val.mk k i s t l f)=false from by grind[jl]];exact puA [(5,.b true),(9,.b true),(14,.b false)] (pf3 a h j) (aj false)
  |false=>rw [show jl (Val.mk k i s t l f)=false from by grind[jl]];exact puA [(5,.b true),(9,.b false)] (pf2 a h) (aj false)
 |false=>rw [show jl (Val.mk k i s t l f)=false from by grind[jl]];exact puA [(5,.b false)] (pf1 a) (aj false)
theorem zqv (i s:Int)(t:qaY)(l:List Val)(f:List (qaY×Val)):oM 2 104 [.agg (Val.mk 1 i s t l f).cells]:=by
 apply dQ;cases a:(s==0) with
 |true=>
  cases j:(t.toList==(⟨#[]⟩:qaY).toList) with
  |true=>
   cases m:(Int.ofNat (au l).length==0) with
   |true=>
    cases n:(Int.ofNat (aA f).length==0) with
    |true=>exact ⟨true,fun N h=>puA [(63,.b true),(71,.b true),(80,.b true),(91,.b true)] (pf4 a j m n) (aj true)⟩
    |false=>exact ⟨false,fun N h=>puA [(63,.b true),(71,.b true),(80,.b true),(91,.b false)] (pf4 a j m n) (aj false)⟩
   |false=>exact ⟨false,fun N h=>puA [(63,.b true),(71,.b true),(80,.b false)] (pf3 a j m) (aj false)⟩
  |false=>exact ⟨false,fun N h=>puA [(63,.b true),(71,.b false)] (pf2 a j) (aj false)⟩
 |false=>exact ⟨false,fun N h=>puA [(63,.b false)] (pf1 a) (aj false)⟩
theorem zqu (i s:Int)(t:qaY)(l:List Val)(f:List (qaY×Val)):oM 2 104 [.agg (Val.mk 2 i s t l f).cells]:=by
 apply dQ;cases a:(s==0) with
 |true=>
  cases j:(t.toList==(⟨#[]⟩:qaY).toList) with
  |true=>
   cases m:(Int.ofNat (au l).length==0) with
   |true=>
    cases n:(Int.ofNat (aA f).length==0) with
    |true=>exact ⟨true,fun N h=>puA [(63,.b true),(71,.b true),(80,.b true),(91,.b true)] (pf4 a j m n) (aj true)⟩
    |false=>exact ⟨false,fun N h=>puA [(63,.b true),(71,.b true),(80,.b true),(91,.b false)] (pf4 a j m n) (aj false)⟩
   |false=>exact ⟨false,fun N h=>puA [(63,.b true),(71,.b true),(80,.b false)] (pf3 a j m) (aj false)⟩
  |false=>exact ⟨false,fun N h=>puA [(63,.b true),(71,.b false)] (pf2 a j) (aj false)⟩
 |false=>exact ⟨false,fun N h=>puA [(63,.b false)] (pf1 a) (aj false)⟩
theorem zqs (i s:Int)(t:qaY)(l:List Val)(f:List (qaY×Val)):oM 2 104 [.agg (Val.mk 3 i s t l f).cells]:=by
 apply dQ;cases a:(t.toList==(⟨#[]⟩:qaY).toList) with
 |true=>
  cases j:(Int.ofNat (au l).length==0) with
  |true=>
   cases m:(Int.ofNat (aA f).length==0) with
   |true=>exact ⟨true,fun N h=>puA [(71,.b true),(80,.b true),(91,.b true)] (pf3 a j m) (aj true)⟩
   |false=>exact ⟨false,fun N h=>puA [(71,.b true),(80,.b true),(91,.b false)] (pf3 a j m) (aj false)⟩
  |false=>exact ⟨false,fun N h=>puA [(71,.b true),(80,.b false)] (pf2 a j) (aj false)⟩
 |false=>exact ⟨false,fun N h=>puA [(71,.b false)] (pf1 a) (aj false)⟩
theorem zqr (i s:Int)(t:qaY)(l:List Val)(f:List (qaY×Val)):oM 2 104 [.agg (Val.mk 4 i s t l f).cells]:=by
 apply dQ;cases a:(i==0) with
 |true=>
  cases j:(s==0) with
  |true=>
   cases m:(Int.ofNat (au l).length==0) with
   |true=>
    cases n:(Int.ofNat (aA f).length==0) with
    |true=>exact ⟨true,fun N h=>puA [(54,.b true),(63,.b true),(80,.b true),(91,.b true)] (pf4 a j m n) (aj true)⟩
    |false=>exact ⟨false,fun N h=>puA [(54,.b true),(63,.b true),(80,.b true),(91,.b false)] (pf4 a j m n) (aj false)⟩
   |false=>exact ⟨false,fun N h=>puA [(54,.b true),(63,.b true),(80,.b false)] (pf3 a j m) (aj false)⟩
  |false=>exact ⟨false,fun N h=>puA [(54,.b true),(63,.b false)] (pf2 a j) (aj false)⟩
 |false=>exact ⟨false,fun N h=>puA [(54,.b false)] (pf1 a) (aj false)⟩
theorem zqq (i s:Int)(t:qaY)(l:List Val)(f:List (qaY×Val)):oM 2 104 [.agg (Val.mk 5 i s t l f).cells]:=by
 apply dQ;cases a:(i==0) with
 |true=>
  cases j:(s==0) with
  |true=>
   cases m:(Int.ofNat (au l).length==0) with
   |true=>
    cases n:(Int.ofNat (aA f).length==0) with
    |true=>exact ⟨true,fun N h=>puA [(54,.b true),(63,.b true),(80,.b true),(91,.b true)] (pf4 a j m n) (aj true)⟩
    |false=>exact ⟨false,fun N h=>puA [(54,.b true),(63,.b true),(80,.b true),(91,.b false)] (pf4 a j m n) (aj false)⟩
   |false=>exact ⟨false,fun N h=>puA [(54,.b true),(63,.b true),(80,.b false)] (pf3 a j m) (aj false)⟩
  |false=>exact ⟨false,fun N h=>puA [(54,.b true),(63,.b false)] (pf2 a j) (aj false)⟩
 |false=>exact ⟨false,fun N h=>puA [(54,.b false)] (pf1 a) (aj false)⟩
theorem zqp (i s:Int)(t:qaY)(l:List Val)(f:List (qaY×Val)):oM 2 104 [.agg (Val.mk 6 i s t l f).cells]:=by
 apply dQ;cases a:(s==0) with
 |true=>
  cases j:(t.toList==(⟨#[]⟩:qaY).toList) with
  |true=>
   cases m:(Int.ofNat (au l).length==0) with
   |true=>
    cases n:(Int.ofNat (aA f).length==0) with
    |true=>exact ⟨true,fun N h=>puA [(63,.b true),(71,.b true),(80,.b true),(91,.b true)] (pf4 a j m n) (aj true)⟩
    |false=>exact ⟨false,fun N h=>puA [(63,.b true),(71,.b true),(80,.b true),(91,.b false)] (pf4 a j m n) (aj false)⟩
   |false=>exact ⟨false,fun N h=>puA [(63,.b true),(71,.b true),(80,.b false)] (pf3 a j m) (aj false)⟩
  |false=>exact ⟨false,fun N h=>puA [(63,.b true),(71,.b false)] (pf2 a j) (aj false)⟩
 |false=>exact ⟨false,fun N h=>puA [(63,.b false)] (pf1 a) (aj false)⟩
theorem zqo (i s:Int)(t:qaY)(l:List Val)(f:List (qaY×Val)):oM 2 104 [.agg (Val.mk 7 i s t l f).cells]:=by
 apply dQ;cases a:(s==0) with
 |true=>
  cases j:(t.toList==(⟨#[]⟩:qaY).toList) with
  |true=>
   cases m:(Int.ofNat (au l).length==0) with
   |true=>
    cases n:(Int.ofNat (aA f).length==0) with
    |true=>exact ⟨true,fun N h=>puA [(63,.b true),(71,.b true),(80,.b true),(91,.b true)] (pf4 a j m n) (aj true)⟩
    |false=>exact ⟨false,fun N h=>puA [(63,.b true),(71,.b true),(80,.b true),(91,.b false)] (pf4 a j m n) (aj false)⟩
   |false=>exact ⟨false,fun N h=>puA [(63,.b true),(71,.b true),(80,.b false)] (pf3 a j m) (aj false)⟩
  |false=>exact ⟨false,fun N h=>puA [(63,.b true),(71,.b false)] (pf2 a j) (aj false)⟩
 |false=>exact ⟨false,fun N h=>puA [(63,.b false)] (pf1 a) (aj false)⟩
theorem zqn (i s:Int)(t:qaY)(l:List Val)(f:List (qaY×Val)):oM 2 104 [.agg (Val.mk 8 i s t l f).cells]:=by
 apply dQ;cases a:(i==0) with
 |true=>
  cases j:(s==0) with
  |true=>
   cases m:(t.toList==(⟨#[]⟩:qaY).toList) with
   |true=>
    cases n:(Int.ofNat (aA f).length==0) with
    |true=>exact ⟨true,fun N h=>puA [(54,.b true),(63,.b true),(71,.b true),(91,.b true)] (pf4 a j m n) (aj true)⟩
    |false=>exact ⟨false,fun N h=>puA [(54,.b true),(63,.b true),(71,.b true),(91,.b false)] (pf4 a j m n) (aj false)⟩
   |false=>exact ⟨false,fun N h=>puA [(54,.b true),(63,.b true),(71,.b false)] (pf3 a j m) (aj false)⟩
  |false=>exact ⟨false,fun N h=>puA [(54,.b true),(63,.b false)] (pf2 a j) (aj false)⟩
 |false=>exact ⟨false,fun N h=>puA [(54,.b false)] (pf1 a) (aj false)⟩
theorem zqm (i s:Int)(t:qaY)(l:List Val)(f:List (qaY×Val)):oM 2 104 [.agg (Val.mk 9 i s t l f).cells]:=by
 apply dQ;cases a:(i==0) with
 |true=>
  cases j:(s==0) with
  |true=>
   cases m:(t.toList==(⟨#[]⟩:qaY).toList) with
   |true=>
    cases n:(Int.ofNat (au l).length==0) with
    |true=>exact ⟨true,fun N h=>puA [(54,.b true),(63,.b true),(71,.b true),(80,.b true)] (pf4 a j m n) (aj true)⟩
    |false=>exact ⟨false,fun N h=>puA [(54,.b true),(63,.b true),(71,.b true),(80,.b false)] (pf4 a j m n) (aj false)⟩
   |false=>exact ⟨false,fun N h=>puA [(54,.b true),(63,.b true),(71,.b false)] (pf3 a j m) (aj false)⟩
  |false=>exact ⟨false,fun N h=>puA [(54,.b true),(63,.b false)] (pf2 a j) (aj false)⟩
 |false=>exact ⟨false,fun N h=>puA [(54,.b false)] (pf1 a) (aj false)⟩
theorem zmy (i s:Int)(t:qaY)(l:List Val)(f:List (qaY×Val)):oM 2 104 [.agg (Val.mk 10 i s t l f).cells]:=by
 apply dQ;cases a:(i==0) with
 |true=>
  cases j:(s==0) with
  |true=>
   cases m:(Int.ofNat (aA f).length==0) with
   |true=>exact ⟨true,fun N h=>puA [(54,.b true),(63,.b true),(91,.b true)] (pf3 a j m) (aj true)⟩
   |false=>exact ⟨false,fun N h=>puA [(54,.b true),(63,.b true),(91,.b false)] (pf3 a j m) (aj false)⟩
  |false=>exact ⟨false,fun N h=>puA [(54,.b true),(63,.b false)] (pf2 a j) (aj false)⟩
 |false=>exact ⟨false,fun N h=>puA [(54,.b false)] (pf1 a) (aj false)⟩
theorem iH (x a b:Int):kR 2 140 [num x,num a,num b]:=by
 apply dF;cases f:decide (x<a) with
 |true=>exact ⟨2,by decide,fun N h=>puA [(9,.b true)] (pf1 f) (num (2))⟩
 |false=>
  cases j:decide (b<x) with
  |true=>exact ⟨2,by decide,fun N h=>puA [(9,.b false),(13,.b true)] (pf2 f j) (num (2))⟩
  |false=>exact ⟨0,by decide,fun N h=>puA [(9,.b false),(13,.b false)] (pf2 f j) (num (0))⟩
theorem su (x a e:Int)(he:0<=e/\e<=100):kR 2 145 [num x,num a,num e]:=by
 apply dF;cases f:decide (a<x) with
 |true=>exact ⟨e,he,fun N h=>puA [(9,.b true)] (pf1 f) (num (e))⟩
 |false=>exact ⟨0,by decide,fun N h=>puA [(9,.b false)] (pf1 f) (num (0))⟩
theorem zhW (v:Val):kR 3 139 [.agg v.cells]:=by obtain ⟨k,i,s,t,l,f⟩:=v;obtain ⟨c,a,j⟩:=iH i 0 1;exact dF ⟨c,a,fun N h=>puA [(5,.p (num c))] (pf1 (j N h)) (num c)⟩
theorem zhV (v:Val):kR 3 141 [.agg v.cells]:=by obtain ⟨k,i,s,t,l,f⟩:=v;obtain ⟨c,a,j⟩:=iH i (-999999999999999) 999999999999999;exact dF ⟨c,a,fun N h=>puA [(5,.p (num c))] (pf1 (j N h)) (num c)⟩
theorem zhR (v:Val):kR 3 148 [.agg v.cells]:=by obtain ⟨k,i,s,t,l,f⟩:=v;obtain ⟨c,a,j⟩:=iH i (-719162) 2932896;exact dF ⟨c,a,fun N h=>puA [(5,.p (num c))] (pf1 (j N h)) (num c)⟩
theorem zhQ (v:Val):kR 3 149 [.agg v.cells]:=by obtain ⟨k,i,s,t,l,f⟩:=v;obtain ⟨c,a,j⟩:=iH i (-62135596800000) 253402300799999;exact dF ⟨c,a,fun N h=>puA [(5,.p (num c))] (pf1 (j N h)) (num c)⟩
theorem zhS (v:Val):kR 3 147 [.agg v.cells]:=by obtain ⟨k,i,s,t,l,f⟩:=v;obtain ⟨c,a,j⟩:=su (Int.ofNat t.size) 1024 5 (by decide);exact dF ⟨c,a,fun N h=>puA [(6,.p (num c))] (pf1 (j N h)) (num c)⟩
theorem zhP (v:Val):kR 3 150 [.agg v.cells]:=by obtain ⟨k,i,s,t,l,f⟩:=v;obtain ⟨c,a,j⟩:=su (Int.ofNat (au l).length) 256 9 (by decide);exact dF ⟨c,a,fun N h=>puA [(6,.p (num c))] (pf1 (j N h)) (num c)⟩
def fiH (l:qaX)(n j:Nat):St:=⟨[(5,.sl false 1 l),(6,nat n),(7,nat j)],[]⟩
theorem Qz (l:List Int)(hl:l.length<=60000)(hb:∀x,x∈l->0<=x/\x<=100):kR 60002 143 [.sl false 1 (aI l)]:=by
 have u:=bI l;have:=scan (B:=0) (b:=aH 143 0) (H:=fun j=>fiH (aI l) (aI l).length j) (τ:=fiH (aI l) (aI l).length 0) (n:=(aI l).length) (e:=.exit 0) (fin:=⟨[(5,.sl false 1 (aI l)),(6,nat (aI l).length),(7,nat (aI l).length),(8,aj false)],[]⟩) (fun r=>∃x:Int,(0<=x/\x<=100)/\r=⟨[(2,num x)],[]⟩) (by kernel_rfl) (fun j y=>by
  have a:j<l.length:=by omega
  have m:=lS a;have f:=hb _ (qag a);generalize l[j]=x at m f;cases h:(!(x==0)) with
  |true=>left;exact ⟨⟨[(2,num x)],[]⟩,⟨x,f,rfl⟩,fun M _=>ruA [(8,.b true),(9,.e [num x]),(12,.b true)] (pf3 (aK (j:=j) (k:=(aI l).length) (by omega)) m h)⟩
  |false=>right;exact ⟨fiH (aI l) (aI l).length (j+1),by kernel_rfl,fun M _=>ruA [(8,.b true),(9,.e [num x]),(12,.b false),(14,.i (Int.ofNat (j+1)))] (pf4 (aK (j:=j) (k:=(aI l).length) (by omega)) m h (aB (j:=j) (by omega)))⟩)
  (fun M _=>nU [(8,.b false)] [] (pf1 (aN (qat (aI l).length))) (lo':=[]) (σ':=⟨[(5,.sl false 1 (aI l)),(6,nat (aI l).length),(7,nat (aI l).length),(8,aj false)],[]⟩) (by kernel_rfl)) (by simp)
 apply dF;rcases this with ⟨r,⟨x,f,rfl⟩,h⟩|h;·exact ⟨x,f,fun N q=>puB [] [(.ret,⟨[(2,num x)],[]⟩)] (pf1 (h N (by omega) (by omega))) (num x)⟩
 exact ⟨0,by decide,fun N q=>puB [] [(.exit 0,⟨[(5,.sl false 1 (aI l)),(6,nat (aI l).length),(7,nat (aI l).length),(8,aj false)],[]⟩)] (pf1 (h N (by omega) (by omega))) (num 0)⟩
theorem zhU (v:Val):kR 60003 142 [.agg v.cells]:=by obtain ⟨k,i,s,t,l,f⟩:=v;obtain ⟨c,q,h⟩:=iH i (-999999999999999) 999999999999999;obtain ⟨d,y,j⟩:=iH s 0 12;obtain ⟨e,m,a⟩:=Qz [c,d] (by simp) (fun x u=>by grind);exact dF ⟨e,m,fun N n=>puA [(5,.p (num c)),(8,.p (num d)),(10,.p (num e))] (pf3 (h N (by omega)) (j N (by omega)) (a N (by omega))) (num e)⟩
theorem XI (N:Nat)(t:qaY)(h:t.size<=9223372036854775807):Gam.aC (ah tab ext (N+1)) 146 [aF t]=some (aj (Lib.validD t.data.toList)):=by
 have e:ah tab ext (N+1) (.fn 146) [aF t] []=some (aj (Lib.validD t.data.toList),[]):=by show oQ [aF t] []=_;unfold oQ aF;simp only [if_pos h];rfl
 unfold Gam.aC;rw [e];rfl
theorem zhT (v:Val):kR 4 144 [.agg v.cells]:=by
 obtain ⟨k,i,s,t,l,f⟩:=v;apply dF;cases m:decide (1024<Int.ofNat t.size) with
 |true=>
  have h:∀N,2<=N->Gam.aC (ah tab ext N) 145 [num (Int.ofNat t.size),num 1024,num 5]=some (num 5):=fun N a=>by obtain ⟨M,rfl⟩:=pR_ N;exact puA [(9,.b true)] (pf1 m) (num 5)
  exact ⟨5,by decide,fun N a=>puA [(7,.p (num 5))] (pf1 (h N (by omega))) (num 5)⟩
 |false=>
  have n:t.size<=9223372036854775807:=by have:=of_decide_eq_false m;simp only [qaJ] at this;omega
  have h:∀N,2<=N->Gam.aC (ah tab ext N) 145 [num (Int.ofNat t.size),num 1024,num 5]=some (num 0):=fun N a=>by obtain ⟨M,rfl⟩:=pR_ N;exact puA [(9,.b false)] (pf1 m) (num 0)
  have j:∀N,3<=N->Gam.aC (ah tab ext N) 146 [aF t]=some (aj (Lib.validD t.data.toList)):=fun N a=>by obtain ⟨M,rfl⟩:=pR_ N<;>simp_all[XI]
  generalize Lib.validD t.data.toList=b at j;cases b with
  |true=>exact ⟨0,by decide,fun N a=>puA [(7,.p (num 0)),(13,.p (aj true))] (pf2 (h N (by omega)) (j N a)) (num 0)⟩
  |false=>exact ⟨16,by decide,fun N a=>puA [(7,.p (num 0)),(13,.p (aj false))] (pf2 (h N (by omega)) (j N a)) (num 16)⟩
theorem QW {s:qaY}{j:Nat}(h:j<(byteRow s).length):∃u:Int,(byteRow s)[j]?=some [.v (.int .u8 u)]:=by simp_all[byteRow]
def naH (s:qaY)(n j:Nat):St:=⟨[(23,.sl false 1 (byteRow s)),(24,nat n),(25,nat j)],[]⟩
theorem VF (s:qaY)(u:Int)(n j:Nat)(hj:j<n)(hn:n<1000000)(hg:(byteRow s)[j]?=some [.v (.int .u8 u)]):
  (∃r,r=⟨[(2,aj false)],[]⟩/\∀M,0<=M->run (ah tab ext M) 0 M (aH 130 0) (naH s n j)=some (.ret,r))\/(∃υ,canon 0 υ=some (naH s n (j+1))/\∀M,0<=M->run (ah tab ext M) 0 M (aH 130 0) (naH s n j)=some (.norm,υ)):=by
 cases a:decide (u<97) with
 |true=>
  cases f:decide (u<48) with
  |true=>
   cases A:(!(u==95)) with
   |true=>exact .inl ⟨_,rfl,fun M _=>ruA [(26,.b true),(27,.e [.v (.int .u8 u)]),(30,.b true),(37,.b true),(45,.b true)] (pf5 (aK (j:=j) (k:=n) hj) hg a f A)⟩
   |false=>grind
  |false=>
   cases l:decide (57<u) with
   |true=>
    cases m:(!(u==95)) with
    |true=>exact .inl ⟨_,rfl,fun M _=>ruA [(26,.b true),(27,.e [.v (.int .u8 u)]),(30,.b true),(37,.b false),(40,.b true),(45,.b true)] (pf6 (aK (j:=j) (k:=n) hj) hg a f l m)⟩
    |false=>exact .inr ⟨naH s n (j+1),by kernel_rfl,fun M _=>ruA [(26,.b true),(27,.e [.v (.int .u8 u)]),(30,.b true),(37,.b false),(40,.b true),(45,.b false),(47,.i (Int.ofNat (j+1)))] (pf7 (aK (j:=j) (k:=n) hj) hg a f l m (aB (j:=j) (by omega)))⟩
   |false=>exact .inr ⟨naH s n (j+1),by kernel_rfl,fun M _=>ruA [(26,.b true),(27,.e [.v (.int .u8 u)]),(30,.b true),(37,.b false),(40,.b false),(47,.i (Int.ofNat (j+1)))] (pf6 (aK (j:=j) (k:=n) hj) hg a f l (aB (j:=j) (by omega)))⟩
 |false=>
  cases q:decide (122<u) with
  |true=>
   cases y:decide (u<48) with
   |true=>grind
   |false=>
    cases B:decide (57<u) with
    |true=>
     cases h:(!(u==95)) with
     |true=>exact .inl ⟨_,rfl,fun M _=>ruA [(26,.b true),(27,.e [.v (.int .u8 u)]),(30,.b false),(33,.b true),(37,.b false),(40,.b true),(45,.b true)] (pf7 (aK (j:=j) (k:=n) hj) hg a q y B h)⟩
     |false=>grind
    |false=>grind
  |false=>exact .inr ⟨naH s n (j+1),by kernel_rfl,fun M _=>ruA [(26,.b true),(27,.e [.v (.int .u8 u)]),(30,.b false),(33,.b false),(47,.i (Int.ofNat (j+1)))] (pf5 (aK (j:=j) (k:=n) hj) hg a q (aB (j:=j) (by omega)))⟩
theorem size_pos {s:qaY}(h:(s.toList==(⟨#[]⟩:qaY).toList)=false):0<s.size:=by rcases Nat.eq_zero_or_pos s.size with h0|h0<;>simp_all
theorem VE (s:qaY)(hs:s.size<=60000):oM 60002 130 [aF s]:=by
 have A:(byteRow s).length=s.size:=by unfold byteRow;rw [qaD,Array.length_toList];rfl
 have:=scan (B:=0) (b:=aH 130 0) (H:=fun j=>naH s (byteRow s).length j) (τ:=naH s (byteRow s).length 0) (n:=(byteRow s).length) (e:=.exit 0) (fin:=⟨[(23,.sl false 1 (byteRow s)),(24,nat (byteRow s).length),(25,nat (byteRow s).length),(26,aj false)],[]⟩) (fun r=>r=⟨[(2,aj false)],[]⟩) (by kernel_rfl) (fun j y=>by
  grind[QW,VF])
  (fun M _=>ruA [(26,.b false)] (pf1 (aN (qat (byteRow s).length)))) (by simp)
 apply dQ;cases f:(s.toList==(⟨#[]⟩:qaY).toList) with
 |true=>exact ⟨false,fun N m=>puA [(6,.b true)] (pf1 f) (aj false)⟩
 |false=>
  cases l:decide (32<Int.ofNat s.size) with
  |true=>exact ⟨false,fun N m=>puA [(6,.b false),(10,.b true)] (pf2 f l) (aj false)⟩
  |false=>
   have a:=size_pos f;cases q:decide ((((s[0]?).getD 0).toNat:Int)<97) with
   |true=>exact ⟨false,fun N m=>puA [(6,.b false),(10,.b false),(14,.at),(15,.b true)] (pf4 f l a q) (aj false)⟩
   |false=>
    cases u:decide (122<(((s[0]?).getD 0).toNat:Int)) with
    |true=>exact ⟨false,fun N m=>puA [(6,.b false),(10,.b false),(14,.at),(15,.b false),(19,.at),(20,.b true)] (pf6 f l a q a u) (aj false)⟩
    |false=>
     rcases this with ⟨r,rfl,h⟩|h;·exact ⟨false,fun N m=>puB [(6,.b false),(10,.b false),(14,.at),(15,.b false),(19,.at),(20,.b false)] [(.ret,⟨[(2,aj false)],[]⟩)] (pf7 f l a q a u (h N (by omega) (by omega))) (aj false)⟩
     exact ⟨true,fun N m=>puB [(6,.b false),(10,.b false),(14,.at),(15,.b false),(19,.at),(20,.b false)] [(.exit 0,⟨[(23,.sl false 1 (byteRow s)),(24,nat (byteRow s).length),(25,nat (byteRow s).length),(26,aj false)],[]⟩)] (pf7 f l a q a u (h N (by omega) (by omega))) (aj true)⟩
theorem Gu (s:qaY):oM 60002 130 [aF s]:=by
 by_cases j:s.size<=60000
 ·grind[VE]
 apply dQ;have h:decide (32<Int.ofNat s.size)=true:=by simp;omega
 cases a:(s.toList==(⟨#[]⟩:qaY).toList) with
 |true=>exact ⟨false,fun N f=>puA [(6,.b true)] (pf1 a) (aj false)⟩
 |false=>exact ⟨false,fun N f=>puA [(6,.b false),(10,.b true)] (pf2 a h) (aj false)⟩
theorem zhN (v:Val):kR 60003 152 [.agg v.cells]:=by
 obtain ⟨k,i,s,t,l,f⟩:=v;obtain ⟨b,a⟩:=Gu t;obtain ⟨c,m,n⟩:=su (Int.ofNat (au l).length) 1 3 (by decide);apply dF;cases b with
 |true=>
  cases j:(Int.ofNat (au l).length==0) with
  |true=>exact ⟨4,by decide,fun N h=>puA [(6,.p (aj true)),(12,.b true)] (pf2 (a N (by omega)) j) (num (4))⟩
  |false=>exact ⟨c,m,fun N h=>puA [(6,.p (aj true)),(12,.b false),(16,.p (num c))] (pf3 (a N (by omega)) j (n N (by omega))) (num (c))⟩
 |false=>exact ⟨12,by decide,fun N h=>puA [(6,.p (aj false))] (pf1 (a N (by omega))) (num (12))⟩
section
variable (k i s:Int) (t:qaY) (l f:qaX) (n j:Nat)
def reH:St:=⟨[(1,.ptr 0 0 0),(14,.sl false 7 f),(15,nat n),(16,nat j)],[.var [num k,num i,num s,aF t,.sl false 6 l,.sl false 7 f]]⟩
end
theorem vW {j:Nat}(h:j<4294967296):IntKind.i64.wrap (Int.ofNat (j+1)-1)=Int.ofNat j:=by grind[IntKind.wrap_i64]
theorem BL {j:Nat}:decide (0<Int.ofNat (j+1))=true:=by grind
theorem Ri:decide (0<Int.ofNat 0)=false:=rfl
theorem Y1 (k i s:Int)(t:qaY)(l:qaX)(f:List (qaY×Val))(j:Nat)(hl:f.length<=60000)(hj:j<f.length):
  (∃r,(∃c:Int,(0<=c/\c<=100)/\∃bx,r=⟨[(2,num c)],bx⟩)/\∀M,60002<=M->run (ah tab ext M) 0 M (aH 151 0) (reH k i s t l (aA f) (aA f).length j)=some (.ret,r))\/(∃υ,canon 0 υ=some (reH k i s t l (aA f) (aA f).length (j+1))/\∀M,60002<=M->run (ah tab ext M) 0 M (aH 151 0) (reH k i s t l (aA f) (aA f).length j)=some (.norm,υ)):=by
 have Z:=bg f;have L:=iF hj;obtain ⟨b,J⟩:=Gu f[j].1;generalize f[j]=p at L J;obtain ⟨a,A,n,y,B,u,m⟩:=p;have h:=aK (j:=j) (k:=(aA f).length) (by omega);cases b with
 |false=>exact .inl ⟨⟨[(2,num 12)],[.var [num k,num i,num s,aF t,.sl false 6 l,.sl false 7 (aA f)],.var (aF a::(Val.mk A n y B u m).cells)]⟩,⟨12,by decide,_,rfl⟩,fun M E=>ruA [(17,.b true),(19,.e (aF a::(Val.mk A n y B u m).cells)),(24,.p (aj false))] (pf3 h L (J M E))⟩
 |true=>
  cases j with
  |zero=>exact .inr ⟨⟨[(1,.ptr 0 0 0),(14,.sl false 7 (aA f)),(15,nat (aA f).length),(16,nat (0+1))],[.var [num k,num i,num s,aF t,.sl false 6 l,.sl false 7 (aA f)],.var (aF a::(Val.mk A n y B u m).cells)]⟩,by kernel_rfl,fun M E=>ruA [(17,.b true),(19,.e (aF a::(Val.mk A n y B u m).cells)),(24,.p (aj true)),(28,.b false),(43,.b false),(56,.i (Int.ofNat (0+1)))] (pf6 h L (J M E) Ri Ri (aB (j:=0) (by omega)))⟩
  |succ j=>
   have W:j<f.length:=by omega
   have H:=iF W;generalize f[j]=q at H;obtain ⟨F,S,U,Q,O,N,P⟩:=q;cases V:(a.toList==F.toList) with
   |true=>exact .inl ⟨⟨[(2,num 7)],[.var [num k,num i,num s,aF t,.sl false 6 l,.sl false 7 (aA f)],.var (aF a::(Val.mk A n y B u m).cells)]⟩,⟨7,by decide,_,rfl⟩,fun M E=>ruA [(17,.b true),(19,.e (aF a::(Val.mk A n y B u m).cells)),(24,.p (aj true)),(28,.b true),(35,.i (Int.ofNat j)),(36,.e (aF F::(Val.mk S U Q O N P).cells)),(39,.b true)] (pf7 h L (J M E) (BL (j:=j)) (vW (j:=j) (by omega)) H V)⟩
   |false=>
    cases Y:Op.bytesLess a.toList F.toList with
    |true=>exact .inl ⟨⟨[(2,num 24)],[.var [num k,num i,num s,aF t,.sl false 6 l,.sl false 7 (aA f)],.var (aF a::(Val.mk A n y B u m).cells)]⟩,⟨24,by decide,_,rfl⟩,fun M E=>ruA [(17,.b true),(19,.e (aF a::(Val.mk A n y B u m).cells)),(24,.p (aj true)),(28,.b true),(35,.i (Int.ofNat j)),(36,.e (aF F::(Val.mk S U Q O N P).cells)),(39,.b false),(43,.b true),(50,.i (Int.ofNat j)),(51,.e (aF F::(Val.mk S U Q O N P).cells)),(54,.b true)] (ztG h L (J M E) (BL (j:=j)) (vW (j:=j) (by omega)) H V (BL (j:=j)) (vW (j:=j) (by omega)) H Y)⟩
    |false=>exact .inr ⟨⟨[(1,.ptr 0 0 0),(14,.sl false 7 (aA f)),(15,nat (aA f).length),(16,nat ((j+1)+1))],[.var [num k,num i,num s,aF t,.sl false 6 l,.sl false 7 (aA f)],.var (aF a::(Val.mk A n y B u m).cells)]⟩,by kernel_rfl,fun M E=>ruA [(17,.b true),(19,.e (aF a::(Val.mk A n y B u m).cells)),(24,.p (aj true)),(28,.b true),(35,.i (Int.ofNat j)),(36,.e (aF F::(Val.mk S U Q O N P).cells)),(39,.b false),(43,.b true),(50,.i (Int.ofNat j)),(51,.e (aF F::(Val.mk S U Q O N P).cells)),(54,.b false),(56,.i (Int.ofNat ((j+1)+1)))] (zpC h L (J M E) (BL (j:=j)) (vW (j:=j) (by omega)) H V (BL (j:=j)) (vW (j:=j) (by omega)) H Y (aB (j:=(j+1)) (by omega)))⟩
theorem zdd (x:Int)(h:decide (64<x)=true)(N:Nat)(hN:2<=N):Gam.aC (ah tab ext N) 145 [num x,num 64,num 9]=some (num 9):=by obtain ⟨M,rfl⟩:=pR_ N;exact puA [(9,.b true)] (pf1 h) (num 9)
theorem zhO (v:Val):kR 60003 151 [.agg v.cells]:=by
 obtain ⟨k,i,s,t,l,f⟩:=v;have J:=bg f;by_cases F:f.length<=60000
 case neg=>
  have u:decide (64<Int.ofNat (aA f).length)=true:=by
   have:64<Int.ofNat (aA f).length:=by simp;omega
   exact decide_eq_true this
  apply dF;exact ⟨9,by decide,fun N m=>puA [(9,.p (num 9)),(11,.b true)] (pf2 (zdd _ u N (by omega)) (show (!((9:Int)==0))=true from rfl)) (num 9)⟩
 obtain ⟨c,y,q⟩:=su (Int.ofNat (aA f).length) 64 9 (by decide);have:=scan (B:=60002) (b:=aH 151 0) (H:=fun j=>reH k i s t (au l) (aA f) (aA f).length j) (τ:=reH k i s t (au l) (aA f) (aA f).length 0) (n:=(aA f).length) (e:=.exit 0) (fin:=⟨[(1,.ptr 0 0 0),(14,.sl false 7 (aA f)),(15,nat (aA f).length),(16,nat (aA f).length),(17,aj false)],[.var [num k,num i,num s,aF t,.sl false 6 (au l),.sl false 7 (aA f)]]⟩) (fun r=>∃c:Int,(0<=c/\c<=100)/\∃bx,r=⟨[(2,num c)],bx⟩) (by kernel_rfl)
  (fun j E=>Y1 k i s t (au l) f j (by omega) (by omega))
  (fun M _=>ruA [(17,.b false)] (pf1 (aN (qat (aA f).length)))) (by simp)
 apply dF;cases h:(!(c==0)) with
 |true=>exact ⟨c,y,fun N m=>puA [(9,.p (num c)),(11,.b true)] (pf2 (q N (by omega)) h) (num c)⟩
 |false=>
  rcases this with ⟨r,⟨d,A,bx,rfl⟩,a⟩|a;·exact ⟨d,A,fun N m=>puB [(9,.p (num c)),(11,.b false)] [(.ret,⟨[(2,num d)],bx⟩)] (pf3 (q N (by omega)) h (a N (by omega) (by omega))) (num d)⟩
  exact ⟨0,by decide,fun N m=>puB [(9,.p (num c)),(11,.b false)] [(.exit 0,⟨[(1,.ptr 0 0 0),(14,.sl false 7 (aA f)),(15,nat (aA f).length),(16,nat (aA f).length),(17,aj false)],[.var [num k,num i,num s,aF t,.sl false 6 (au l),.sl false 7 (aA f)]]⟩)] (pf3 (q N (by omega)) h (a N (by omega) (by omega))) (num 0)⟩
def Val.few:Val->Prop
 |.mk _ _ _ _ l f=>l.length<=2000000/\f.length<=2000000
mutual
def Val.wide:Val->Prop
 |.mk _ _ _ _ l f=>(l.length<=2000000/\f.length<=2000000)/\zG l/\zH f
def zG:List Val->Prop
 |[]=>True
 |v::r=>v.wide/\zG r
def zH:List (qaY×Val)->Prop
 |[]=>True
 |(_,v)::r=>v.wide/\zH r
end
theorem uX {v:Val}:∀{l:List Val},zG l->v∈l->v.wide
 |u::r,h,hm=>by
  simp only [zG] at h;rcases qak.1 hm with rfl|hm
  ·grind
  exact uX h.2 hm
theorem uY {p:qaY×Val}:∀{l:List (qaY×Val)},zH l->p∈l->p.2.wide
 |(n,u)::r,h,hm=>by
  simp only [zH] at h;rcases qak.1 hm with rfl|hm
  ·grind
  exact uY h.2 hm
theorem QA (h:v.wide):v.few:=by obtain ⟨k,i,s,t,l,f⟩:=v;simp only [Val.wide] at h;exact h.1
mutual
theorem Ob:∀{v:Val},v.size<=2000000->v.wide
 |.mk k i s t l f,h=>by simp only [Val.size] at h;have:=gY l;have:=fK f;simp only [Val.wide];exact ⟨⟨by omega,by omega⟩,Rj (by omega),Rk (by omega)⟩
theorem Rj:∀{l:List Val},tC l<=2000000->zG l
 |[],_=>by grind[zG]
 |v::r,h=>by simp only [tC] at h;simp only [zG];exact ⟨Ob (by omega),Rj (by omega)⟩
theorem Rk:∀{l:List (qaY×Val)},tH l<=2000000->zH l
 |[],_=>by grind[zH]
 |(n,v)::r,h=>by simp only [tH] at h;simp only [zH];exact ⟨Ob (by omega),Rk (by omega)⟩
end
theorem E8 (h:v.ok):v.wide:=by grind[Ob,Val.ok]
theorem J5 {acc:qaX}(j i bytes:Nat)(h:j=acc.length)(hj:j<3000000)(hb:bytes<1000):0+j=acc.length/\dh (j+1) bytes=true/\rF i []=false:=
 ⟨by omega,iL (by have:(j+1)*bytes<=3000000*1000:=Nat.mul_le_mul (by omega) (by omega);omega) (by omega),rfl⟩
def oh:Val->List Val
 |.mk k _ _ _ l f=>if k=8\/k=10 then l else if k=9 then f.map (·.2) else []
def paH (f acc:qaX)(n j:Nat):St:=⟨[(3,.bs 0 0 j),(16,.sl false 7 f),(17,nat n),(18,nat j)],[.row 6 acc]⟩
def ztJ (f acc:qaX)(n j:Nat)(x y:List X):St:=⟨[(3,.bs 2 0 (j+1)),(16,.sl false 7 f),(17,nat n),(18,nat (j+1))],[.dead,.var x,.row 6 (acc++[y])]⟩
theorem Zc (f acc:qaX)(n j:Nat)(x y:List X):canon 0 (ztJ f acc n j x y)=some (paH f (acc++[y]) n (j+1)):=by kernel_rfl
theorem Vs (N:Nat)(v:Val)(hv:v.few)(hN:v.size+10<=N):Gam.aC (ah tab ext N) 205 [.agg v.cells]=some (.sl false 6 (au (oh v))):=by
 obtain ⟨M,rfl⟩:=pR_ N;obtain ⟨k,i,s,t,l,f⟩:=v;simp only [Val.size] at hN;have hv:=hv.2;have hf:=fK f;have S:=bg f;simp only [oh];cases h:(k==8) with
 |true=>
  have:k=8:=by simpa using h
  rw [if_pos (Or.inl this)];exact puA [(9,.b true)] (pf1 h) (.sl false 6 (au l))
 |false=>
  have Z:k≠8:=by simpa using h
  cases m:(k==10) with
  |true=>
   have:k=10:=by simpa using m
   rw [if_pos (Or.inr this)];exact puA [(9,.b false),(10,.b true)] (pf2 h m) (.sl false 6 (au l))
  |false=>
   have Q:k≠10:=by simpa using m
   rw [if_neg (by grind)];cases u:(k==9) with
   |false=>
    have W:k≠9:=by simpa using u
    rw [if_neg W];exact puA [(9,.b false),(10,.b false),(14,.b false)] (pf3 h m u) (.sl true 6 [])
   |true=>
    have:k=9:=by simpa using u
    rw [if_pos this];have a:run (ah tab ext M) 0 M (.loop (aH 205 0)) ⟨[(3,.bs 1 0 0),(16,.sl false 7 (aA f)),(17,nat (aA f).length),(18,nat 0)],[.var (Val.mk k i s t l f).cells,.row 6 []]⟩=some (.exit 1,⟨[(3,.bs 0 0 (aA f).length),(16,.sl false 7 (aA f)),(17,nat (aA f).length),(18,nat (aA f).length),(19,aj false)],[.row 6 (au (f.map (·.2)))]⟩):=by
     refine bF (σ:=fun j=>paH (aA f) ((au (f.map (·.2))).take j) (aA f).length j) (k:=(aA f).length) (by kernel_rfl) (fun j Y=>?_) ?_ (by simp) (by omega)
     ·have n:j<f.length:=by omega
      have O:=iF n;have F:(au (f.map (·.2)))[j]?=some f[j].2.cells:=by rw [kD];simp [n]
      have L:=dL F;have q:j=((au (f.map (·.2))).take j).length:=by rw [qah,aS,qaD];omega
      generalize f[j]=p at O L;obtain ⟨P,E,y,B,H,A,J⟩:=p;refine ⟨ztJ (aA f) ((au (f.map (·.2))).take j) (aA f).length j (aF P::(Val.mk E y B H A J).cells) (Val.mk E y B H A J).cells,ruA [(19,.b true),(20,.e (aF P::(Val.mk E y B H A J).cells)),(26,.app),(27,.i (Int.ofNat (j+1)))] (pf4 (aK (j:=j) (k:=(aA f).length) (by omega)) O (J5 (acc:=(au (f.map (·.2))).take j) j 0 88 q (by omega) (by omega)) (aB (j:=j) (by omega))),?_⟩
      grind[Zc]
     have L:(au (f.map (·.2))).take (aA f).length=au (f.map (·.2)):=List.take_of_length_le (by grind[aS]);rw [L];exact ruA [(19,.b false)] (pf1 (aN (qat (aA f).length)))
    have U:(X.bs 0 0 (aA f).length).data [.row 6 (au (f.map (·.2)))] false=some (.sl false 6 (au (f.map (·.2)))):=by
     have V:(au (f.map (·.2))).length=(aA f).length:=by rw [aS,qaD,S]
     simp only [X.data,rowOf,List.getElem?_cons_zero,Nat.zero_add,V,Nat.le_refl,if_true,qan,List.drop_zero];rw [List.take_of_length_le (by omega)]
    exact eU [(9,.b false),(10,.b false),(14,.b true)] [(.exit 1,⟨[(3,.bs 0 0 (aA f).length),(16,.sl false 7 (aA f)),(17,nat (aA f).length),(18,nat (aA f).length),(19,aj false)],[.row 6 (au (f.map (·.2)))]⟩)]
     (pf4 h m u a) (bx:=[.row 6 (au (f.map (·.2)))]) (by kernel_rfl) U
def Vj:C->List (C×C)
 |.seq a b|.cond _ a b=>Vj a++Vj b
 |.block _ b|.loop b=>Vj b
 |.rf _ _ _ a b=>(a,b)::(Vj a++Vj b)
 |_=>[]
noncomputable def zmb (f:Nat):C×C:=match tab f with
 |some fd=>(Vj fd.body).getD 0 (.skip,.skip)
 |none=>(.skip,.skip)
noncomputable def recC (st:LoopState)(p:Option Ex):Bx:=.loop st p [(2,.ptr 1 0 0),(3,.ptr 2 0 0),(4,.ptr 3 0 0)] [11,12] (zmb 71).1 (zmb 71).2
def tX:List X:=[.v .nilFunc,.fn 139 [],.fn 141 [],.fn 142 [],.fn 144 [],.fn 147 [],.fn 148 [],.fn 149 [],.fn 150 [],.fn 151 [],.fn 152 []]
noncomputable def goC (n:Nat):List Bx:=[recC .ready none,.var [num 0],.var tX,.var [nat n]]
noncomputable def zbl (c:Int)(n:Nat):List Bx:=[recC .done (some .ret),.var [num c],.var tX,.var [nat n]]
def Round (v:Val)(lev:Int)(n:Nat):Prop:=
 (∃c:Int,(0<=c/\c<=100)/\∀N,60010<=N->ah tab ext N .yl [.yl 0,num lev,.agg v.cells] (goC n)=some (aj false,zbl c (n+1)))\/
 (n<=4096/\∀N,60010<=N->ah tab ext N .yl [.yl 0,num lev,.agg v.cells] (goC n)=some (aj true,goC (n+1)))
theorem fG {lev:Int}{n:Nat}(h:(∃c:Int,(0<=c/\c<=100)/\∀N,60009<=N->ah tab ext (N+1) .yl [.yl 0,num lev,.agg v.cells] (goC n)=some (aj false,zbl c (n+1)))\/
 (n<=4096/\∀N,60009<=N->ah tab ext (N+1) .yl [.yl 0,num lev,.agg v.cells] (goC n)=some (aj true,goC (n+1)))):Round v lev n:=by
 rcases h with ⟨c,f,h⟩|⟨a,h⟩;·refine .inl ⟨c,f,fun N j=>?_⟩;obtain ⟨M,rfl⟩:=pR_ N<;>simp_all
 refine .inr ⟨a,fun N j=>?_⟩;obtain ⟨M,rfl⟩:=pR_ N<;>simp_all
theorem lI (v:Val)(N:Nat)(hN:60009<=N):Gam.aC (ah tab ext N) 67 [.agg v.cells]=some (aj (jl v)):=by obtain ⟨M,rfl⟩:=pR_ N<;>simp_all[Sv]
theorem jR {n:Nat}(h:decide (4096<Int.ofNat (n+1))=false):n<=4096:=by grind
theorem zno (i s:Int)(t:qaY)(l:List Val)(f:List (qaY×Val))(lev:Int)(n:Nat)(hn:n<4294967296):Round (Val.mk 1 i s t l f) lev n:=by
 obtain ⟨b,q⟩:=zqv i s t l f;obtain ⟨c,A,y⟩:=zhW (Val.mk 1 i s t l f);apply fG;cases h:decide (4096<Int.ofNat (n+1)) with
 |true=>exact .inl ⟨9,by decide,fun N a=>yiA [(14,.i (Int.ofNat (n+1))),(17,.b true)] (pf2 (aB (j:=n) hn) h)⟩
 |false=>
  cases m:decide (8<lev) with
  |true=>exact .inl ⟨23,by decide,fun N a=>yiA [(14,.i (Int.ofNat (n+1))),(17,.b false),(20,.b true)] (pf3 (aB (j:=n) hn) h m)⟩
  |false=>
   have hz:=lI (Val.mk 1 i s t l f);generalize jl (Val.mk 1 i s t l f)=z at hz;cases z with
   |true=>exact .inl ⟨19,by decide,fun N a=>yiA [(14,.i (Int.ofNat (n+1))),(17,.b false),(20,.b false),(23,.p (aj true))] (pf4 (aB (j:=n) hn) h m (hz N a))⟩
   |false=>
    cases b with
    |true=>
     cases u:(!(c==0)) with
     |true=>exact .inl ⟨c,A,fun N a=>yiA [(14,.i (Int.ofNat (n+1))),(17,.b false),(20,.b false),(23,.p (aj false)),(35,.p (aj true)),(42,.p (num c)),(44,.b true)] (pf7 (aB (j:=n) hn) h m (hz N a) (q N (by omega)) (y N (by omega)) u)⟩
     |false=>exact .inr ⟨jR h,fun N a=>yiA [(14,.i (Int.ofNat (n+1))),(17,.b false),(20,.b false),(23,.p (aj false)),(35,.p (aj true)),(42,.p (num c)),(44,.b false)] (pf7 (aB (j:=n) hn) h m (hz N a) (q N (by omega)) (y N (by omega)) u)⟩
    |false=>exact .inl ⟨3,by decide,fun N a=>yiA [(14,.i (Int.ofNat (n+1))),(17,.b false),(20,.b false),(23,.p (aj false)),(35,.p (aj false))] (pf5 (aB (j:=n) hn) h m (hz N a) (q N (by omega)))⟩
theorem znn (i s:Int)(t:qaY)(l:List Val)(f:List (qaY×Val))(lev:Int)(n:Nat)(hn:n<4294967296):Round (Val.mk 2 i s t l f) lev n:=by
 obtain ⟨b,q⟩:=zqu i s t l f;obtain ⟨c,A,y⟩:=zhV (Val.mk 2 i s t l f);apply fG;cases h:decide (4096<Int.ofNat (n+1)) with
 |true=>exact .inl ⟨9,by decide,fun N a=>yiA [(14,.i (Int.ofNat (n+1))),(17,.b true)] (pf2 (aB (j:=n) hn) h)⟩
 |false=>
  cases m:decide (8<lev) with
  |true=>exact .inl ⟨23,by decide,fun N a=>yiA [(14,.i (Int.ofNat (n+1))),(17,.b false),(20,.b true)] (pf3 (aB (j:=n) hn) h m)⟩
  |false=>
   have hz:=lI (Val.mk 2 i s t l f);generalize jl (Val.mk 2 i s t l f)=z at hz;cases z with
   |true=>exact .inl ⟨19,by decide,fun N a=>yiA [(14,.i (Int.ofNat (n+1))),(17,.b false),(20,.b false),(23,.p (aj true))] (pf4 (aB (j:=n) hn) h m (hz N a))⟩
   |false=>
    cases b with
    |true=>
     cases u:(!(c==0)) with
     |true=>exact .inl ⟨c,A,fun N a=>yiA [(14,.i (Int.ofNat (n+1))),(17,.b false),(20,.b false),(23,.p (aj false)),(35,.p (aj true)),(42,.p (num c)),(44,.b true)] (pf7 (aB (j:=n) hn) h m (hz N a) (q N (by omega)) (y N (by omega)) u)⟩
     |false=>exact .inr ⟨jR h,fun N a=>yiA [(14,.i (Int.ofNat (n+1))),(17,.b false),(20,.b false),(23,.p (aj false)),(35,.p (aj true)),(42,.p (num c)),(44,.b false)] (pf7 (aB (j:=n) hn) h m (hz N a) (q N (by omega)) (y N (by omega)) u)⟩
    |false=>exact .inl ⟨3,by decide,fun N a=>yiA [(14,.i (Int.ofNat (n+1))),(17,.b false),(20,.b false),(23,.p (aj false)),(35,.p (aj false))] (pf5 (aB (j:=n) hn) h m (hz N a) (q N (by omega)))⟩
theorem znm (i s:Int)(t:qaY)(l:List Val)(f:List (qaY×Val))(lev:Int)(n:Nat)(hn:n<4294967296):Round (Val.mk 3 i s t l f) lev n:=by
 obtain ⟨b,q⟩:=zqs i s t l f;obtain ⟨c,A,y⟩:=zhU (Val.mk 3 i s t l f);apply fG;cases h:decide (4096<Int.ofNat (n+1)) with
 |true=>exact .inl ⟨9,by decide,fun N a=>yiA [(14,.i (Int.ofNat (n+1))),(17,.b true)] (pf2 (aB (j:=n) hn) h)⟩
 |false=>
  cases m:decide (8<lev) with
  |true=>exact .inl ⟨23,by decide,fun N a=>yiA [(14,.i (Int.ofNat (n+1))),(17,.b false),(20,.b true)] (pf3 (aB (j:=n) hn) h m)⟩
  |false=>
   have hz:=lI (Val.mk 3 i s t l f);generalize jl (Val.mk 3 i s t l f)=z at hz;cases z with
   |true=>exact .inl ⟨19,by decide,fun N a=>yiA [(14,.i (Int.ofNat (n+1))),(17,.b false),(20,.b false),(23,.p (aj true))] (pf4 (aB (j:=n) hn) h m (hz N a))⟩
   |false=>
    cases b with
    |true=>
     cases u:(!(c==0)) with
     |true=>exact .inl ⟨c,A,fun N a=>yiA [(14,.i (Int.ofNat (n+1))),(17,.b false),(20,.b false),(23,.p (aj false)),(35,.p (aj true)),(42,.p (num c)),(44,.b true)] (pf7 (aB (j:=n) hn) h m (hz N a) (q N (by omega)) (y N (by omega)) u)⟩
     |false=>exact .inr ⟨jR h,fun N a=>yiA [(14,.i (Int.ofNat (n+1))),(17,.b false),(20,.b false),(23,.p (aj false)),(35,.p (aj true)),(42,.p (num c)),(44,.b false)] (pf7 (aB (j:=n) hn) h m (hz N a) (q N (by omega)) (y N (by omega)) u)⟩
    |false=>exact .inl ⟨3,by decide,fun N a=>yiA [(14,.i (Int.ofNat (n+1))),(17,.b false),(20,.b false),(23,.p (aj false)),(35,.p (aj false))] (pf5 (aB (j:=n) hn) h m (hz N a) (q N (by omega)))⟩
theorem znl (i s:Int)(t:qaY)(l:List Val)(f:List (qaY×Val))(lev:Int)(n:Nat)(hn:n<4294967296):Round (Val.mk 4 i s t l f) lev n:=by
 obtain ⟨b,q⟩:=zqr i s t l f;obtain ⟨c,A,y⟩:=zhT (Val.mk 4 i s t l f);apply fG;cases h:decide (4096<Int.ofNat (n+1)) with
 |true=>exact .inl ⟨9,by decide,fun N a=>yiA [(14,.i (Int.ofNat (n+1))),(17,.b true)] (pf2 (aB (j:=n) hn) h)⟩
 |false=>
  cases m:decide (8<lev) with
  |true=>exact .inl ⟨23,by decide,fun N a=>yiA [(14,.i (Int.ofNat (n+1))),(17,.b false),(20,.b true)] (pf3 (aB (j:=n) hn) h m)⟩
  |false=>
   have hz:=lI (Val.mk 4 i s t l f);generalize jl (Val.mk 4 i s t l f)=z at hz;cases z with
   |true=>exact .inl ⟨19,by decide,fun N a=>yiA [(14,.i (Int.ofNat (n+1))),(17,.b false),(20,.b false),(23,.p (aj true))] (pf4 (aB (j:=n) hn) h m (hz N a))⟩
   |false=>
    cases b with
    |true=>
     cases u:(!(c==0)) with
     |true=>exact .inl ⟨c,A,fun N a=>yiA [(14,.i (Int.ofNat (n+1))),(17,.b false),(20,.b false),(23,.p (aj false)),(35,.p (aj true)),(42,.p (num c)),(44,.b true)] (pf7 (aB (j:=n) hn) h m (hz N a) (q N (by omega)) (y N (by omega)) u)⟩
     |false=>exact .inr ⟨jR h,fun N a=>yiA [(14,.i (Int.ofNat (n+1))),(17,.b false),(20,.b false),(23,.p (aj false)),(35,.p (aj true)),(42,.p (num c)),(44,.b false)] (pf7 (aB (j:=n) hn) h m (hz N a) (q N (by omega)) (y N (by omega)) u)⟩
    |false=>exact .inl ⟨3,by decide,fun N a=>yiA [(14,.i (Int.ofNat (n+1))),(17,.b false),(20,.b false),(23,.p (aj false)),(35,.p (aj false))] (pf5 (aB (j:=n) hn) h m (hz N a) (q N (by omega)))⟩
theorem znk (i s:Int)(t:qaY)(l:List Val)(f:List (qaY×Val))(lev:Int)(n:Nat)(hn:n<4294967296):Round (Val.mk 5 i s t l f) lev n:=by
 obtain ⟨b,q⟩:=zqq i s t l f;obtain ⟨c,A,y⟩:=zhS (Val.mk 5 i s t l f);apply fG;cases h:decide (4096<Int.ofNat (n+1)) with
 |true=>exact .inl ⟨9,by decide,fun N a=>yiA [(14,.i (Int.ofNat (n+1))),(17,.b true)] (pf2 (aB (j:=n) hn) h)⟩
 |false=>
  cases m:decide (8<lev) with
  |true=>exact .inl ⟨23,by decide,fun N a=>yiA [(14,.i (Int.ofNat (n+1))),(17,.b false),(20,.b true)] (pf3 (aB (j:=n) hn) h m)⟩
  |false=>
   have hz:=lI (Val.mk 5 i s t l f);generalize jl (Val.mk 5 i s t l f)=z at hz;cases z with
   |true=>exact .inl ⟨19,by decide,fun N a=>yiA [(14,.i (Int.ofNat (n+1))),(17,.b false),(20,.b false),(23,.p (aj true))] (pf4 (aB (j:=n) hn) h m (hz N a))⟩
   |false=>
    cases b with
    |true=>
     cases u:(!(c==0)) with
     |true=>exact .inl ⟨c,A,fun N a=>yiA [(14,.i (Int.ofNat (n+1))),(17,.b false),(20,.b false),(23,.p (aj false)),(35,.p (aj true)),(42,.p (num c)),(44,.b true)] (pf7 (aB (j:=n) hn) h m (hz N a) (q N (by omega)) (y N (by omega)) u)⟩
     |false=>exact .inr ⟨jR h,fun N a=>yiA [(14,.i (Int.ofNat (n+1))),(17,.b false),(20,.b false),(23,.p (aj false)),(35,.p (aj true)),(42,.p (num c)),(44,.b false)] (pf7 (aB (j:=n) hn) h m (hz N a) (q N (by omega)) (y N (by omega)) u)⟩
    |false=>exact .inl ⟨3,by decide,fun N a=>yiA [(14,.i (Int.ofNat (n+1))),(17,.b false),(20,.b false),(23,.p (aj false)),(35,.p (aj false))] (pf5 (aB (j:=n) hn) h m (hz N a) (q N (by omega)))⟩
theorem znj (i s:Int)(t:qaY)(l:List Val)(f:List (qaY×Val))(lev:Int)(n:Nat)(hn:n<4294967296):Round (Val.mk 6 i s t l f) lev n:=by
 obtain ⟨b,q⟩:=zqp i s t l f;obtain ⟨c,A,y⟩:=zhR (Val.mk 6 i s t l f);apply fG;cases h:decide (4096<Int.ofNat (n+1)) with
 |true=>exact .inl ⟨9,by decide,fun N a=>yiA [(14,.i (Int.ofNat (n+1))),(17,.b true)] (pf2 (aB (j:=n) hn) h)⟩
 |false=>
  cases m:decide (8<lev) with
  |true=>exact .inl ⟨23,by decide,fun N a=>yiA [(14,.i (Int.ofNat (n+1))),(17,.b false),(20,.b true)] (pf3 (aB (j:=n) hn) h m)⟩
  |false=>
   have hz:=lI (Val.mk 6 i s t l f);generalize jl (Val.mk 6 i s t l f)=z at hz;cases z with
   |true=>exact .inl ⟨19,by decide,fun N a=>yiA [(14,.i (Int.ofNat (n+1))),(17,.b false),(20,.b false),(23,.p (aj true))] (pf4 (aB (j:=n) hn) h m (hz N a))⟩
   |false=>
    cases b with
    |true=>
     cases u:(!(c==0)) with
     |true=>exact .inl ⟨c,A,fun N a=>yiA [(14,.i (Int.ofNat (n+1))),(17,.b false),(20,.b false),(23,.p (aj false)),(35,.p (aj true)),(42,.p (num c)),(44,.b true)] (pf7 (aB (j:=n) hn) h m (hz N a) (q N (by omega)) (y N (by omega)) u)⟩
     |false=>exact .inr ⟨jR h,fun N a=>yiA [(14,.i (Int.ofNat (n+1))),(17,.b false),(20,.b false),(23,.p (aj false)),(35,.p (aj true)),(42,.p (num c)),(44,.b false)] (pf7 (aB (j:=n) hn) h m (hz N a) (q N (by omega)) (y N (by omega)) u)⟩
    |false=>exact .inl ⟨3,by decide,fun N a=>yiA [(14,.i (Int.ofNat (n+1))),(17,.b false),(20,.b false),(23,.p (aj false)),(35,.p (aj false))] (pf5 (aB (j:=n) hn) h m (hz N a) (q N (by omega)))⟩
theorem zni (i s:Int)(t:qaY)(l:List Val)(f:List (qaY×Val))(lev:Int)(n:Nat)(hn:n<4294967296):Round (Val.mk 7 i s t l f) lev n:=by
 obtain ⟨b,q⟩:=zqo i s t l f;obtain ⟨c,A,y⟩:=zhQ (Val.mk 7 i s t l f);apply fG;cases h:decide (4096<Int.ofNat (n+1)) with
 |true=>exact .inl ⟨9,by decide,fun N a=>yiA [(14,.i (Int.ofNat (n+1))),(17,.b true)] (pf2 (aB (j:=n) hn) h)⟩
 |false=>
  cases m:decide (8<lev) with
  |true=>exact .inl ⟨23,by decide,fun N a=>yiA [(14,.i (Int.ofNat (n+1))),(17,.b false),(20,.b true)] (pf3 (aB (j:=n) hn) h m)⟩
  |false=>
   have hz:=lI (Val.mk 7 i s t l f);generalize jl (Val.mk 7 i s t l f)=z at hz;cases z with
   |true=>exact .inl ⟨19,by decide,fun N a=>yiA [(14,.i (Int.ofNat (n+1))),(17,.b false),(20,.b false),(23,.p (aj true))] (pf4 (aB (j:=n) hn) h m (hz N a))⟩
   |false=>
    cases b with
    |true=>
     cases u:(!(c==0)) with
     |true=>exact .inl ⟨c,A,fun N a=>yiA [(14,.i (Int.ofNat (n+1))),(17,.b false),(20,.b false),(23,.p (aj false)),(35,.p (aj true)),(42,.p (num c)),(44,.b true)] (pf7 (aB (j:=n) hn) h m (hz N a) (q N (by omega)) (y N (by omega)) u)⟩
     |false=>exact .inr ⟨jR h,fun N a=>yiA [(14,.i (Int.ofNat (n+1))),(17,.b false),(20,.b false),(23,.p (aj false)),(35,.p (aj true)),(42,.p (num c)),(44,.b false)] (pf7 (aB (j:=n) hn) h m (hz N a) (q N (by omega)) (y N (by omega)) u)⟩
    |false=>exact .inl ⟨3,by decide,fun N a=>yiA [(14,.i (Int.ofNat (n+1))),(17,.b false),(20,.b false),(23,.p (aj false)),(35,.p (aj false))] (pf5 (aB (j:=n) hn) h m (hz N a) (q N (by omega)))⟩
theorem znh (i s:Int)(t:qaY)(l:List Val)(f:List (qaY×Val))(lev:Int)(n:Nat)(hn:n<4294967296):Round (Val.mk 8 i s t l f) lev n:=by
 obtain ⟨b,q⟩:=zqn i s t l f;obtain ⟨c,A,y⟩:=zhP (Val.mk 8 i s t l f);apply fG;cases h:decide (4096<Int.ofNat (n+1)) with
 |true=>exact .inl ⟨9,by decide,fun N a=>yiA [(14,.i (Int.ofNat (n+1))),(17,.b true)] (pf2 (aB (j:=n) hn) h)⟩
 |false=>
  cases m:decide (8<lev) with
  |true=>exact .inl ⟨23,by decide,fun N a=>yiA [(14,.i (Int.ofNat (n+1))),(17,.b false),(20,.b true)] (pf3 (aB (j:=n) hn) h m)⟩
  |false=>
   have hz:=lI (Val.mk 8 i s t l f);generalize jl (Val.mk 8 i s t l f)=z at hz;cases z with
   |true=>exact .inl ⟨19,by decide,fun N a=>yiA [(14,.i (Int.ofNat (n+1))),(17,.b false),(20,.b false),(23,.p (aj true))] (pf4 (aB (j:=n) hn) h m (hz N a))⟩
   |false=>
    cases b with
    |true=>
     cases u:(!(c==0)) with
     |true=>exact .inl ⟨c,A,fun N a=>yiA [(14,.i (Int.ofNat (n+1))),(17,.b false),(20,.b false),(23,.p (aj false)),(35,.p (aj true)),(42,.p (num c)),(44,.b true)] (pf7 (aB (j:=n) hn) h m (hz N a) (q N (by omega)) (y N (by omega)) u)⟩
     |false=>exact .inr ⟨jR h,fun N a=>yiA [(14,.i (Int.ofNat (n+1))),(17,.b false),(20,.b false),(23,.p (aj false)),(35,.p (aj true)),(42,.p (num c)),(44,.b false)] (pf7 (aB (j:=n) hn) h m (hz N a) (q N (by omega)) (y N (by omega)) u)⟩
    |false=>exact .inl ⟨3,by decide,fun N a=>yiA [(14,.i (Int.ofNat (n+1))),(17,.b false),(20,.b false),(23,.p (aj false)),(35,.p (aj false))] (pf5 (aB (j:=n) hn) h m (hz N a) (q N (by omega)))⟩
theorem zng (i s:Int)(t:qaY)(l:List Val)(f:List (qaY×Val))(lev:Int)(n:Nat)(hn:n<4294967296):Round (Val.mk 9 i s t l f) lev n:=by
 obtain ⟨b,q⟩:=zqm i s t l f;obtain ⟨c,A,y⟩:=zhO (Val.mk 9 i s t l f);apply fG;cases h:decide (4096<Int.ofNat (n+1)) with
 |true=>exact .inl ⟨9,by decide,fun N a=>yiA [(14,.i (Int.ofNat (n+1))),(17,.b true)] (pf2 (aB (j:=n) hn) h)⟩
 |false=>
  cases m:decide (8<lev) with
  |true=>exact .inl ⟨23,by decide,fun N a=>yiA [(14,.i (Int.ofNat (n+1))),(17,.b false),(20,.b true)] (pf3 (aB (j:=n) hn) h m)⟩
  |false=>
   have hz:=lI (Val.mk 9 i s t l f);generalize jl (Val.mk 9 i s t l f)=z at hz;cases z with
   |true=>exact .inl ⟨19,by decide,fun N a=>yiA [(14,.i (Int.ofNat (n+1))),(17,.b false),(20,.b false),(23,.p (aj true))] (pf4 (aB (j:=n) hn) h m (hz N a))⟩
   |false=>
    cases b with
    |true=>
     cases u:(!(c==0)) with
     |true=>exact .inl ⟨c,A,fun N a=>yiA [(14,.i (Int.ofNat (n+1))),(17,.b false),(20,.b false),(23,.p (aj false)),(35,.p (aj true)),(42,.p (num c)),(44,.b true)] (pf7 (aB (j:=n) hn) h m (hz N a) (q N (by omega)) (y N (by omega)) u)⟩
     |false=>exact .inr ⟨jR h,fun N a=>yiA [(14,.i (Int.ofNat (n+1))),(17,.b false),(20,.b false),(23,.p (aj false)),(35,.p (aj true)),(42,.p (num c)),(44,.b false)] (pf7 (aB (j:=n) hn) h m (hz N a) (q N (by omega)) (y N (by omega)) u)⟩
    |false=>exact .inl ⟨3,by decide,fun N a=>yiA [(14,.i (Int.ofNat (n+1))),(17,.b false),(20,.b false),(23,.p (aj false)),(35,.p (aj false))] (pf5 (aB (j:=n) hn) h m (hz N a) (q N (by omega)))⟩
theorem zh0 (i s:Int)(t:qaY)(l:List Val)(f:List (qaY×Val))(lev:Int)(n:Nat)(hn:n<4294967296):Round (Val.mk 10 i s t l f) lev n:=by
 obtain ⟨b,q⟩:=zmy i s t l f;obtain ⟨c,A,y⟩:=zhN (Val.mk 10 i s t l f);apply fG;cases h:decide (4096<Int.ofNat (n+1)) with
 |true=>exact .inl ⟨9,by decide,fun N a=>yiA [(14,.i (Int.ofNat (n+1))),(17,.b true)] (pf2 (aB (j:=n) hn) h)⟩
 |false=>
  cases m:decide (8<lev) with
  |true=>exact .inl ⟨23,by decide,fun N a=>yiA [(14,.i (Int.ofNat (n+1))),(17,.b false),(20,.b true)] (pf3 (aB (j:=n) hn) h m)⟩
  |false=>
   have hz:=lI (Val.mk 10 i s t l f);generalize jl (Val.mk 10 i s t l f)=z at hz;cases z with
   |true=>exact .inl ⟨19,by decide,fun N a=>yiA [(14,.i (Int.ofNat (n+1))),(17,.b false),(20,.b false),(23,.p (aj true))] (pf4 (aB (j:=n) hn) h m (hz N a))⟩
   |false=>
    cases b with
    |true=>
     cases u:(!(c==0)) with
     |true=>exact .inl ⟨c,A,fun N a=>yiA [(14,.i (Int.ofNat (n+1))),(17,.b false),(20,.b false),(23,.p (aj false)),(35,.p (aj true)),(42,.p (num c)),(44,.b true)] (pf7 (aB (j:=n) hn) h m (hz N a) (q N (by omega)) (y N (by omega)) u)⟩
     |false=>exact .inr ⟨jR h,fun N a=>yiA [(14,.i (Int.ofNat (n+1))),(17,.b false),(20,.b false),(23,.p (aj false)),(35,.p (aj true)),(42,.p (num c)),(44,.b false)] (pf7 (aB (j:=n) hn) h m (hz N a) (q N (by omega)) (y N (by omega)) u)⟩
    |false=>exact .inl ⟨3,by decide,fun N a=>yiA [(14,.i (Int.ofNat (n+1))),(17,.b false),(20,.b false),(23,.p (aj false)),(35,.p (aj false))] (pf5 (aB (j:=n) hn) h m (hz N a) (q N (by omega)))⟩
theorem OD (v:Val)(lev:Int)(n:Nat)(hn:n<4294967296):Round v lev n:=by
 obtain ⟨k,i,s,t,l,f⟩:=v;by_cases h:1<=k/\k<=10
 ·have:k=1\/k=2\/k=3\/k=4\/k=5\/k=6\/k=7\/k=8\/k=9\/k=10:=by omega
  rcases this with rfl|rfl|rfl|rfl|rfl|rfl|rfl|rfl|rfl|rfl
  ·grind[zno]
  ·grind[znn]
  ·grind[znm]
  ·grind[znl]
  ·grind[znk]
  ·grind[znj]
  ·grind[zni]
  ·grind[znh]
  ·grind[zng]
  grind[zh0]
 apply fG;cases m:decide (4096<Int.ofNat (n+1)) with
 |true=>exact .inl ⟨9,by decide,fun N a=>yiA [(14,.i (Int.ofNat (n+1))),(17,.b true)] (pf2 (aB (j:=n) hn) m)⟩
 |false=>
  cases q:decide (8<lev) with
  |true=>exact .inl ⟨23,by decide,fun N a=>yiA [(14,.i (Int.ofNat (n+1))),(17,.b false),(20,.b true)] (pf3 (aB (j:=n) hn) m q)⟩
  |false=>
   have hz:=lI (Val.mk k i s t l f);generalize jl (Val.mk k i s t l f)=z at hz;cases z with
   |true=>exact .inl ⟨19,by decide,fun N a=>yiA [(14,.i (Int.ofNat (n+1))),(17,.b false),(20,.b false),(23,.p (aj true))] (pf4 (aB (j:=n) hn) m q (hz N a))⟩
   |false=>
    cases u:decide (k<1) with
    |true=>exact .inl ⟨11,by decide,fun N a=>yiA [(14,.i (Int.ofNat (n+1))),(17,.b false),(20,.b false),(23,.p (aj false)),(27,.b true)] (pf5 (aB (j:=n) hn) m q (hz N a) u)⟩
    |false=>
     cases y:decide (10<k) with
     |true=>exact .inl ⟨11,by decide,fun N a=>yiA [(14,.i (Int.ofNat (n+1))),(17,.b false),(20,.b false),(23,.p (aj false)),(27,.b false),(31,.b true)] (pf6 (aB (j:=n) hn) m q (hz N a) u y)⟩
     |false=>grind
def Visit (v:Val)(lev n:Nat):Prop:=
 (∃(c:Int) (m:Nat),(0<=c/\c<=100)/\∀N,60020+v.size<=N->ah tab ext N (.fn 154) [.agg v.cells,nat lev,.yl 0] (goC n)=some (aj false,zbl c m))\/
 (∃m:Nat,(n<=m/\m<=4097)/\∀N,60020+v.size<=N->ah tab ext N (.fn 154) [.agg v.cells,nat lev,.yl 0] (goC n)=some (aj true,goC m))
section
variable (ps:qaX) (lev len j n m:Nat) (c:Int) (u:List X)
noncomputable def viH:St:=⟨[(1,nat lev),(2,.yl 0),(15,.sl false 6 ps),(16,nat len),(17,nat j)],goC n⟩
noncomputable def zpy:St:=⟨[(1,nat lev),(2,.yl 0),(15,.sl false 6 ps),(16,nat len),(17,nat j)],goC n++[.var u]⟩
noncomputable def viE:St:=⟨[(1,nat lev),(2,.yl 0),(15,.sl false 6 ps),(16,nat len),(17,nat j),(18,aj false)],goC n⟩
theorem rZ:canon 4 (viH ps lev len j n)=some (viH ps lev len j n):=by kernel_rfl
theorem uZ:canon 4 (zpy ps lev len j n u)=some (viH ps lev len j n):=by kernel_rfl
end
theorem Fe {B:Nat}(ps:List Val)(lev:Nat)(ztZ:lev<=100000)(hl:ps.length<=2000000)(hv:∀u,u∈ps->60020+u.size<=B/\∀n,n<=4097->lev<=n->Visit u (lev+1) n):∀d j n,j+d=ps.length->n<=4097->lev<=n->
  (∃(c:Int) (m:Nat) (u:List X),(0<=c/\c<=100)/\∀M F,B<=M->d<F->iter 4 (run (ah tab ext M) 4 M (aH 154 0)) F (viH (au ps) lev (au ps).length j n)=some (.ret,⟨[(6,aj false)],zbl c m++[.var u]⟩))\/
  (∃m:Nat,(n<=m/\m<=4097)/\∀M F,B<=M->d<F->iter 4 (run (ah tab ext M) 4 M (aH 154 0)) F (viH (au ps) lev (au ps).length j n)=some (.exit 0,viE (au ps) lev (au ps).length (au ps).length m))
 |0,j,n,hj,hn,hln=>by
  have hc:=aS ps;have hj':j=(au ps).length:=by omega
  subst hj';right;refine ⟨n,⟨Nat.le_refl _,hn⟩,fun M F _ hF=>?_⟩;obtain ⟨F',rfl⟩:∃F',F=F'+1:=⟨F-1,by omega⟩;exact bK (rZ ..) (ruA [(18,.b false)] (pf1 (aN (qat (au ps).length)))) (by simp)
 |d+1,j,n,hj,hn,hln=>by
  have hc:=aS ps;have hj':j<ps.length:=by omega
  have hg:=gB hj';obtain ⟨hB,hu⟩:=hv _ (qag hj');have hu:=hu n hn hln;generalize ps[j]=u at hg hB hu;obtain ⟨u1,u2,u3,u4,u5,u6⟩:=u;have hlt:=aK (j:=j) (k:=(au ps).length) (by omega);have hnx:=aB (j:=lev) (by omega);rcases hu with ⟨c,m,cr,h⟩|⟨m,⟨hnm,hm⟩,h⟩;·left;refine ⟨c,m,(Val.mk u1 u2 u3 u4 u5 u6).cells,cr,fun M F hM hF=>?_⟩;obtain ⟨F',rfl⟩:∃F',F=F'+1:=⟨F-1,by omega⟩;exact bK (rZ ..) (ruA [(18,.b true),(19,.e (Val.mk u1 u2 u3 u4 u5 u6).cells),(23,.i (Int.ofNat (lev+1))),(25,.r (aj false) (zbl c m))] (pf4 hlt hg hnx (h M (by omega)))) (by simp)
  have hs:∀M,B<=M->run (ah tab ext M) 4 M (aH 154 0) (viH (au ps) lev (au ps).length j n)=some (.norm,zpy (au ps) lev (au ps).length (j+1) m (Val.mk u1 u2 u3 u4 u5 u6).cells):=fun M hM=>ruA [(18,.b true),(19,.e (Val.mk u1 u2 u3 u4 u5 u6).cells),(23,.i (Int.ofNat (lev+1))),(25,.r (aj true) (goC m)),(27,.i (Int.ofNat (j+1)))] (pf5 hlt hg hnx (h M (by omega)) (aB (j:=j) (by omega)));rcases Fe ps lev ztZ hl hv d (j+1) m (by omega) hm (by omega) with ⟨c,m',x,cr,h'⟩|⟨m',hm',h'⟩;·left;refine ⟨c,m',x,cr,fun M F hM hF=>?_⟩;obtain ⟨F',rfl⟩:∃F',F=F'+1:=⟨F-1,by omega⟩<;>simp_all[dY,rZ,jL,uZ]
  right;refine ⟨m',⟨by omega,hm'.2⟩,fun M F hM hF=>?_⟩;obtain ⟨F',rfl⟩:∃F',F=F'+1:=⟨F-1,by omega⟩<;>simp_all[dY,rZ,jL,uZ]
theorem OW (v:Val):∀u,u∈oh v->u.size<v.size:=by
 obtain ⟨k,i,s,t,l,f⟩:=v;intro u a;simp only [oh] at a;simp only [Val.size];split at a;·have:=nP a;omega
 split at a;·obtain ⟨p,h,rfl⟩:=qal.1 a;have:=nR h;omega
 grind
theorem IW (v:Val):(oh v).length<v.size:=by obtain ⟨k,i,s,t,l,f⟩:=v<;>grind[oh,Val.size,gY,fK]
theorem Vt (v:Val)(hv:v.wide):(oh v).length<=2000000/\∀u,u∈oh v->u.wide:=by
 obtain ⟨k,i,s,t,l,f⟩:=v;simp only [Val.wide] at hv;obtain ⟨⟨q,h⟩,n,m⟩:=hv;simp only [oh];split
 ·grind[uX]
 split
 ·refine ⟨by grind,fun u a=>?_⟩;obtain ⟨p,j,rfl⟩:=qal.1 a
  grind[uY]
 grind
theorem AL:∀(sz:Nat) (v:Val),v.size<=sz->v.wide->∀(lev n:Nat),lev<=n+1->n<=4097->Visit v lev n
 |0,.mk ..,h,_,_,_,_,_=>by grind[Val.size]
 |sz+1,v,h,hv,lev,n,ztZ,hn=>by
  have hr:=OD v (Int.ofNat lev) n (by omega);have hp:∀M,60019+v.size<=M->Gam.aC (ah tab ext M) 205 [.agg v.cells]=some (.sl false 6 (au (oh v))):=fun M hM=>Vs M v (QA hv) (by omega);have hlen:=IW v;have hfew:=Vt v hv;have hloop:∀n,n<=4097->lev<=n->_:=fun n hn hln=>Fe (B:=60019+v.size) (oh v) lev (by omega) hfew.1 (fun u hu=>by have:=OW v u hu;exact ⟨by omega,fun n hn hln=>AL sz u (by omega) (hfew.2 u hu) (lev+1) n (by omega) hn⟩) (oh v).length 0 n (by omega) hn hln;generalize oh v=ps at hp hlen hloop;obtain ⟨k,i,s,t,l,f⟩:=v;rcases hr with ⟨c,cr,h⟩|⟨hn',h⟩;·refine .inl ⟨c,n+1,cr,fun N hN=>?_⟩;obtain ⟨M,rfl⟩:=pR_ N;exact caA [(12,.r (aj false) (zbl c (n+1)))] (pf1 (h M (by omega)))
  rcases hloop (n+1) (by omega) (by omega) with ⟨c,m,u,cr,h'⟩|⟨m,hm,h'⟩
  ·refine .inl ⟨c,m,cr,fun N hN=>?_⟩;obtain ⟨M,rfl⟩:=pR_ N;have hl:run (ah tab ext M) 4 M (.loop (aH 154 0)) (zpy (au ps) lev (au ps).length 0 (n+1) (Val.mk k i s t l f).cells)=some (.ret,⟨[(6,aj false)],zbl c m++[.var u]⟩):=by simp only [run];rw [jL (uZ ..) (rZ ..)];exact h' M M (by omega) (by omega)
   exact caB [(12,.r (aj true) (goC (n+1))),(15,.p (.sl false 6 (au ps)))] [(.ret,⟨[(6,aj false)],zbl c m++[.var u]⟩)] (pf3 (h M (by omega)) (hp M (by omega)) hl)
  refine .inr ⟨m,⟨by omega,hm.2⟩,fun N hN=>?_⟩;obtain ⟨M,rfl⟩:=pR_ N;have hl:run (ah tab ext M) 4 M (.loop (aH 154 0)) (zpy (au ps) lev (au ps).length 0 (n+1) (Val.mk k i s t l f).cells)=some (.exit 0,viE (au ps) lev (au ps).length (au ps).length m):=by simp only [run];rw [jL (uZ ..) (rZ ..)];exact h' M M (by omega) (by omega)
  exact caB [(12,.r (aj true) (goC (n+1))),(15,.p (.sl false 6 (au ps)))] [(.exit 0,viE (au ps) lev (au ps).length (au ps).length m)] (pf3 (h M (by omega)) (hp M (by omega)) hl)
noncomputable def zqH (v:List X):St:=⟨[(2,.ptr 1 0 0),(3,.ptr 2 0 0),(4,.ptr 3 0 0),(10,.fn 153 [.dp v])],[.var v,.var [num 0],.var tX,.var [num 0]]⟩
noncomputable def zdn (v:List X)(c:Int)(m:Nat):St:=⟨(zqH v).tm,[.var v,.var [num c],.var tX,.var [nat m],.dead]⟩
theorem Fg (v:Val)(hv:v.wide):kR (60025+v.size) 71 [.agg v.cells]:=by
 have a:=AL v.size v (Nat.le_refl _) hv 1 0 (by omega) (by omega);obtain ⟨k,i,s,t,l,f⟩:=v;generalize E:(Val.mk k i s t l f).size=sz at a;have j:∀N,3<=N->Gam.aC (ah tab ext N) 103 [.agg (Val.mk k i s t l f).cells]=some (.fn 153 [.dp (Val.mk k i s t l f).cells]):=fun N B=>by obtain ⟨M,rfl⟩:=pR_ N;exact puA [] pf0 (.fn 153 [.dp (Val.mk k i s t l f).cells])
 have u:∀N,3<=N->Gam.aC (ah tab ext N) 102 []=some (.agg tX):=fun N B=>by obtain ⟨M,rfl⟩:=pR_ N;exact puA [] pf0 (.agg tX)
 unfold Visit at a;rw [E] at a;rcases a with ⟨c,m,F,h⟩|⟨m,_,h⟩
 ·refine ⟨c,F,fun N B=>?_⟩;obtain ⟨M,rfl⟩:∃M,N=M+2:=⟨N-2,by omega⟩;have A:ah tab ext (M+1) (.fn 153) [.yl 0,.dp (Val.mk k i s t l f).cells] (goC 0)=some (.tup [],zbl c m):=
   caA [(5,.r (aj false) (zbl c m))] (pf1 (h M (by omega)))
  have n:run (ah tab ext (M+1)) 0 (M+1) (.rf (.t 10) [11,12] [2,3,4] (zmb 71).1 (zmb 71).2) (zqH (Val.mk k i s t l f).cells)=some (.ret,zdn (Val.mk k i s t l f).cells c m):=
   Vk (g:=153) (caps:=[.dp (Val.mk k i s t l f).cells]) (y:=.tup []) (outb:=zbl c m)
    (q:=(.tup [],[.var (Val.mk k i s t l f).cells,.var [num c],.var tX,.var [nat m],recC .done (some .ret)],[4,1,2,3])) A (by kernel_rfl) (by kernel_rfl) (by kernel_rfl)
  exact puB [(8,.p (.agg tX)),(10,.p (.fn 153 [.dp (Val.mk k i s t l f).cells]))] [(.ret,zdn (Val.mk k i s t l f).cells c m)] (pf3 (u (M+1) (by omega)) (j (M+1) (by omega)) n) (num c)
 refine ⟨0,by decide,fun N B=>?_⟩;obtain ⟨M,rfl⟩:∃M,N=M+2:=⟨N-2,by omega⟩;have A:ah tab ext (M+1) (.fn 153) [.yl 0,.dp (Val.mk k i s t l f).cells] (goC 0)=some (.tup [],goC m):=
  caA [(5,.r (aj true) (goC m))] (pf1 (h M (by omega)))
 have n:run (ah tab ext (M+1)) 0 (M+1) (.rf (.t 10) [11,12] [2,3,4] (zmb 71).1 (zmb 71).2) (zqH (Val.mk k i s t l f).cells)=some (.norm,zdn (Val.mk k i s t l f).cells 0 m):=
  Vk (g:=153) (caps:=[.dp (Val.mk k i s t l f).cells]) (y:=.tup []) (outb:=goC m)
   (q:=(.tup [],[.var (Val.mk k i s t l f).cells,.var [num 0],.var tX,.var [nat m],recC .ready none],[4,1,2,3])) A (by kernel_rfl) (by kernel_rfl) (by kernel_rfl)
 exact puB [(8,.p (.agg tX)),(10,.p (.fn 153 [.dp (Val.mk k i s t l f).cells]))] [(.norm,zdn (Val.mk k i s t l f).cells 0 m)] (pf3 (u (M+1) (by omega)) (j (M+1) (by omega)) n) (num 0)
theorem Uz (v:Val)(hv:v.ok):kR (60025+v.size) 71 [.agg v.cells]:=Fg v (E8 hv)
end Go.Proofs.YtpcjeobkehmhpaaGreatDoor
