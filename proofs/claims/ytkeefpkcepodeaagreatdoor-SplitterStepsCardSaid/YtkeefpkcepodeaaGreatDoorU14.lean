/-.-/
import Derived.Test.YtkeefpkcepodeaaGreatDoorU13
set_option linter.all false
namespace Go.Proofs.YtkeefpkcepodeaaGreatDoor
open Go.Em
set_option maxRecDepth 100000
variable {args:List X}{B:Nat}{v:Val}
structure Otp where
 port:Int
 m:Msg
def Otp.cells (o:Otp):List X:=num o.port::o.m.cells
def iH (l:List Otp):qaV:=l.map Otp.cells
theorem jT (l:List Otp):(iH l).length=l.length:=by simp [iH]
theorem yN {l:List Otp}{j:Nat}(h:j<l.length):(iH l)[j]?=some l[j].cells:=by grind[iH]
structure Fte where
 st:Stp
 kind:Int
 node:qaW
 into:List Stp
 text:qaW
def Fte.cells (f:Fte):List X:=[num f.st.e,.sl false 1 (aB f.st.p),num f.kind,strX f.node,.sl false 2 (bQ f.into),strX f.text]
def mg (l:List Fte):qaV:=l.map Fte.cells
theorem OD (l:List Fte):(mg l).length=l.length:=by simp [mg]
theorem zbr {l:List Fte}{j:Nat}(h:j<l.length):(mg l)[j]?=some l[j].cells:=by grind[mg]
structure Ocm where
 s:Stt
 outs:List Otp
 pq:List Fte
 letters:List Msg
def Ocm.cells (o:Ocm):List X:=[num o.s.n,num o.s.t,.sl false 10 (aW o.s.slots),.sl false 11 (iH o.outs),.sl false 11 [],.sl false 6 (mg o.pq),.sl false 10 (aI o.letters)]
def Val.ok (v:Val):Prop:=v.size<=60000
structure Stp.ok (s:Stp):Prop where
 p:s.p.length<=60000
structure Msg.ok (m:Msg):Prop where
 st:m.st.ok
 orig:m.orig.length<=60000
 body:m.body.ok
structure Slt.ok (s:Slt):Prop where
 key:s.key.ok
 items:s.items.length<=60000
 item:∀m,m∈s.items->m.ok
 vals:s.vals.length<=60000
 val:∀v,v∈s.vals->v.ok
structure Stt.ok (s:Stt):Prop where
 slots:s.slots.length<=60000
 slot:∀x,x∈s.slots->x.ok
structure Fte.ok (f:Fte):Prop where
 st:f.st.ok
 len:f.into.length<=60000
 into:∀s,s∈f.into->s.ok
structure Ocm.ok (o:Ocm):Prop where
 s:o.s.ok
 zro:o.outs.length<=60000
 outs:∀x,x∈o.outs->x.m.ok
 zoi:o.pq.length<=60000
 pq:∀x,x∈o.pq->x.ok
 zep:o.letters.length<=60000
 letters:∀x,x∈o.letters->x.ok
theorem eq_self {α:Type}[BEq α][ReflBEq α](a:α):(a==a)=true:=BEq.rfl
theorem Jy (a:qaW):(a.toList==a.toList)=true:=by simp
theorem ne_self {x:Int}:(!(x==x))=false:=by simp
theorem nN {k:Nat}:(!(Int.ofNat k==Int.ofNat k))=false:=by simp
theorem zte (M g:Nat)(l:List Val)(hr:∀a,a∈l->Gam.pureD (callF tab ext M) g [.agg a.cells,.agg a.cells]=some (boolX true))(hl:l.length<=60000)(hN:l.length<M):
  Gam.pureD (callF tab ext (M+1)) 89 [.sl false 6 (ah l),.sl false 6 (ah l),.fn g []]=some (boolX true):=by
 have F:=aF l;have h:run (callF tab ext M) 0 M (.loop (loopAt 89 0)) (zo3 g (ah l) (ah l) (ah l).length 0)=some (.exit 0,zvd g (ah l) (ah l) (ah l).length (ah l).length):=by
  refine aQ (σ:=fun j=>zo3 g (ah l) (ah l) (ah l).length j) (k:=(ah l).length) (XC _ _ _ _ _) (fun j E=>?_) ?_ (by simp) (by omega)
  ·have f:j<l.length:=by omega
   have A:=dR f;have B:=hr _ (qaf f);generalize l[j]=a at A B;obtain ⟨m,n,q,u,w,y⟩:=a;exact ⟨⟨(zo3 g (ah l) (ah l) (ah l).length (j+1)).tm,[.var (Val.mk m n q u w y).cells,.var (Val.mk m n q u w y).cells]⟩,ruA [(18,.b true),(20,.e (Val.mk m n q u w y).cells),(24,.e (Val.mk m n q u w y).cells),(29,.p (boolX true)),(31,.i (Int.ofNat (j+1)))] (pf5 (aH (j:=j) (k:=(ah l).length) (by omega)) A A B (ay (j:=j) (by omega))),by kernel_rfl⟩
  exact ruA [(18,.b false)] (pf1 (aG (qas (ah l).length)))
 exact puB [(14,.b false)] [(.exit 0,zvd g (ah l) (ah l) (ah l).length (ah l).length)] (pf2 (nN (k:=(ah l).length)) h) (boolX true)
theorem zoY (M g:Nat)(l:List Stp)(hr:∀a,a∈l->Gam.pureD (callF tab ext M) g [.agg a.cells,.agg a.cells]=some (boolX true))(hl:l.length<=60000)(hN:l.length<M):
  Gam.pureD (callF tab ext (M+1)) 130 [.sl false 2 (bQ l),.sl false 2 (bQ l),.fn g []]=some (boolX true):=by
 have y:=nC l;have h:run (callF tab ext M) 0 M (.loop (loopAt 130 0)) (zbV g (bQ l) (bQ l) (bQ l).length 0)=some (.exit 0,zo8 g (bQ l) (bQ l) (bQ l).length (bQ l).length):=by
  refine aQ (σ:=fun j=>zbV g (bQ l) (bQ l) (bQ l).length j) (k:=(bQ l).length) (Sj _ _ _ _ _) (fun j w=>?_) ?_ (by simp) (by omega)
  ·have f:j<l.length:=by omega
   have q:=Es f;have u:=hr _ (qaf f);generalize l[j]=a at q u;obtain ⟨m,n⟩:=a;exact ⟨⟨(zbV g (bQ l) (bQ l) (bQ l).length (j+1)).tm,[.var (Stp.mk m n).cells,.var (Stp.mk m n).cells]⟩,ruA [(18,.b true),(20,.e (Stp.mk m n).cells),(24,.e (Stp.mk m n).cells),(29,.p (boolX true)),(31,.i (Int.ofNat (j+1)))] (pf5 (aH (j:=j) (k:=(bQ l).length) (by omega)) q q u (ay (j:=j) (by omega))),by kernel_rfl⟩
  exact ruA [(18,.b false)] (pf1 (aG (qas (bQ l).length)))
 exact puB [(14,.b false)] [(.exit 0,zo8 g (bQ l) (bQ l) (bQ l).length (bQ l).length)] (pf2 (nN (k:=(bQ l).length)) h) (boolX true)
theorem ztf (M g:Nat)(l:List Msg)(hr:∀a,a∈l->Gam.pureD (callF tab ext M) g [.agg a.cells,.agg a.cells]=some (boolX true))(hl:l.length<=60000)(hN:l.length<M):
  Gam.pureD (callF tab ext (M+1)) 88 [.sl false 10 (aI l),.sl false 10 (aI l),.fn g []]=some (boolX true):=by
 have N:=dG l;have h:run (callF tab ext M) 0 M (.loop (loopAt 88 0)) (zo4 g (aI l) (aI l) (aI l).length 0)=some (.exit 0,zve g (aI l) (aI l) (aI l).length (aI l).length):=by
  refine aQ (σ:=fun j=>zo4 g (aI l) (aI l) (aI l).length j) (k:=(aI l).length) (XD _ _ _ _ _) (fun j L=>?_) ?_ (by simp) (by omega)
  ·have f:j<l.length:=by omega
   have H:=jU f;have J:=hr _ (qaf f);generalize l[j]=a at H J;obtain ⟨⟨n,q⟩,u,w,y,A,B,E,F,m⟩:=a;exact ⟨⟨(zo4 g (aI l) (aI l) (aI l).length (j+1)).tm,[.var (Msg.mk ⟨n,q⟩ u w (Val.mk y A B E F m)).cells,.var (Msg.mk ⟨n,q⟩ u w (Val.mk y A B E F m)).cells]⟩,ruA [(18,.b true),(20,.e (Msg.mk ⟨n,q⟩ u w (Val.mk y A B E F m)).cells),(24,.e (Msg.mk ⟨n,q⟩ u w (Val.mk y A B E F m)).cells),(29,.p (boolX true)),(31,.i (Int.ofNat (j+1)))] (pf5 (aH (j:=j) (k:=(aI l).length) (by omega)) H H J (ay (j:=j) (by omega))),by kernel_rfl⟩
  exact ruA [(18,.b false)] (pf1 (aG (qas (aI l).length)))
 exact puB [(14,.b false)] [(.exit 0,zve g (aI l) (aI l) (aI l).length (aI l).length)] (pf2 (nN (k:=(aI l).length)) h) (boolX true)
theorem ztg (M g:Nat)(l:List Slt)(hr:∀a,a∈l->Gam.pureD (callF tab ext M) g [.agg a.cells,.agg a.cells]=some (boolX true))(hl:l.length<=60000)(hN:l.length<M):
  Gam.pureD (callF tab ext (M+1)) 45 [.sl false 10 (aW l),.sl false 10 (aW l),.fn g []]=some (boolX true):=by
 have N:=jQ l;have h:run (callF tab ext M) 0 M (.loop (loopAt 45 0)) (zo5 g (aW l) (aW l) (aW l).length 0)=some (.exit 0,zvf g (aW l) (aW l) (aW l).length (aW l).length):=by
  refine aQ (σ:=fun j=>zo5 g (aW l) (aW l) (aW l).length j) (k:=(aW l).length) (XE _ _ _ _ _) (fun j L=>?_) ?_ (by simp) (by omega)
  ·have f:j<l.length:=by omega
   have H:=EC f;have J:=hr _ (qaf f);generalize l[j]=a at H J;obtain ⟨⟨n,q,u,w,y,A⟩,B,E,F,m⟩:=a;exact ⟨⟨(zo5 g (aW l) (aW l) (aW l).length (j+1)).tm,[.var (Slt.mk (Val.mk n q u w y A) B E F m).cells,.var (Slt.mk (Val.mk n q u w y A) B E F m).cells]⟩,ruA [(18,.b true),(20,.e (Slt.mk (Val.mk n q u w y A) B E F m).cells),(24,.e (Slt.mk (Val.mk n q u w y A) B E F m).cells),(29,.p (boolX true)),(31,.i (Int.ofNat (j+1)))] (pf5 (aH (j:=j) (k:=(aW l).length) (by omega)) H H J (ay (j:=j) (by omega))),by kernel_rfl⟩
  exact ruA [(18,.b false)] (pf1 (aG (qas (aW l).length)))
 exact puB [(14,.b false)] [(.exit 0,zvf g (aW l) (aW l) (aW l).length (aW l).length)] (pf2 (nN (k:=(aW l).length)) h) (boolX true)
section
variable (l m:qaV) (j:Nat)
def znD:St:=⟨[(0,.sl false 10 l),(1,.sl false 10 m),(5,nat j)],[]⟩
theorem Wn:canon 0 (znD l m j)=some (znD l m j):=by kernel_rfl
end
theorem zgM (M:Nat)(l:List Msg)(hr:∀a,a∈l->Gam.pureD (callF tab ext M) 53 [.agg a.cells,.agg a.cells]=some (boolX true))(hl:l.length<=60000)(hN:l.length<M):
  Gam.pureD (callF tab ext (M+1)) 56 [.sl false 10 (aI l),.sl false 10 (aI l)]=some (boolX true):=by
 have N:=dG l;have h:run (callF tab ext M) 0 M (.loop (loopAt 56 0)) (znD (aI l) (aI l) 0)=some (.exit 0,⟨[(0,.sl false 10 (aI l)),(1,.sl false 10 (aI l)),(5,nat (aI l).length),(14,boolX false)],[]⟩):=by
  refine aQ (σ:=fun j=>znD (aI l) (aI l) j) (k:=(aI l).length) (Wn _ _ _) (fun j L=>?_) ?_ (by simp) (by omega)
  ·have f:j<l.length:=by omega
   have m:=jU f;have J:=hr _ (qaf f);generalize l[j]=a at m J;obtain ⟨⟨q,u⟩,w,y,A,B,E,F,H,n⟩:=a;exact ⟨znD (aI l) (aI l) (j+1),ruA [(14,.b true),(19,.e (Msg.mk ⟨q,u⟩ w y (Val.mk A B E F H n)).cells),(23,.e (Msg.mk ⟨q,u⟩ w y (Val.mk A B E F H n)).cells),(25,.p (boolX true)),(16,.i (Int.ofNat (j+1)))] (pf5 (aH (j:=j) (k:=(aI l).length) (by omega)) m m J (ay (j:=j) (by omega))),by kernel_rfl⟩
  exact ruA [(14,.b false)] (pf1 (aG (qas (aI l).length)))
 exact puB [(10,.b false)] [(.exit 0,⟨[(0,.sl false 10 (aI l)),(1,.sl false 10 (aI l)),(5,nat (aI l).length),(14,boolX false)],[]⟩)] (pf2 (nN (k:=(aI l).length)) h) (boolX true)
section
variable (l m:qaV) (j:Nat)
def znE:St:=⟨[(0,.sl false 6 l),(1,.sl false 6 m),(5,nat j)],[]⟩
theorem Wp:canon 0 (znE l m j)=some (znE l m j):=by kernel_rfl
end
theorem zgN (M:Nat)(l:List Fte)(hr:∀a,a∈l->Gam.pureD (callF tab ext M) 93 [.agg a.cells,.agg a.cells]=some (boolX true))(hl:l.length<=60000)(hN:l.length<M):
  Gam.pureD (callF tab ext (M+1)) 55 [.sl false 6 (mg l),.sl false 6 (mg l)]=some (boolX true):=by
 have F:=OD l;have h:run (callF tab ext M) 0 M (.loop (loopAt 55 0)) (znE (mg l) (mg l) 0)=some (.exit 0,⟨[(0,.sl false 6 (mg l)),(1,.sl false 6 (mg l)),(5,nat (mg l).length),(14,boolX false)],[]⟩):=by
  refine aQ (σ:=fun j=>znE (mg l) (mg l) j) (k:=(mg l).length) (Wp _ _ _) (fun j E=>?_) ?_ (by simp) (by omega)
  ·have f:j<l.length:=by omega
   have m:=zbr f;have B:=hr _ (qaf f);generalize l[j]=a at m B;obtain ⟨⟨n,q⟩,u,w,y,A⟩:=a;exact ⟨znE (mg l) (mg l) (j+1),ruA [(14,.b true),(19,.e (Fte.mk ⟨n,q⟩ u w y A).cells),(23,.e (Fte.mk ⟨n,q⟩ u w y A).cells),(25,.p (boolX true)),(16,.i (Int.ofNat (j+1)))] (pf5 (aH (j:=j) (k:=(mg l).length) (by omega)) m m B (ay (j:=j) (by omega))),by kernel_rfl⟩
  exact ruA [(14,.b false)] (pf1 (aG (qas (mg l).length)))
 exact puB [(10,.b false)] [(.exit 0,⟨[(0,.sl false 6 (mg l)),(1,.sl false 6 (mg l)),(5,nat (mg l).length),(14,boolX false)],[]⟩)] (pf2 (nN (k:=(mg l).length)) h) (boolX true)
theorem JI (N:Nat)(v:Val)(h:v.ok)(hN:190000<=N):Gam.pureD (callF tab ext N) 42 [.agg v.cells,.agg v.cells]=some (boolX true):=by grind[Val.ok,zoZ,zH]
theorem yg (N:Nat)(s:Stp)(h:s.ok)(hN:190000<=N):Gam.pureD (callF tab ext N) 11 [.agg s.cells,.agg s.cells]=some (boolX true):=by have:=h.p<;>grind[zfI,zb5]
theorem Om (N:Nat)(l:List Int)(h:l.length<=60000)(hN:190000<=N):Gam.pureD (callF tab ext N) 92 [.sl false 1 (aB l),.sl false 1 (aB l)]=some (boolX true):=by obtain ⟨M,rfl⟩:=pR_ N;rw [zbP M l l (by omega) (by omega),UY (by simp)]
theorem DV (N:Nat)(m:Msg)(h:m.ok)(hN:190001<=N):Gam.pureD (callF tab ext N) 53 [.agg m.cells,.agg m.cells]=some (boolX true):=by obtain ⟨M,rfl⟩:=pR_ N;have f:=yg M m.st h.st (by omega);have j:=Om M m.orig h.orig (by omega);have l:=JI M m.body h.body (by omega);obtain ⟨⟨q,u⟩,a,w,y,A,B,E,F,n⟩:=m;exact puA [(9,.p (boolX true)),(15,.b true),(22,.p (boolX true)),(29,.p (boolX true))] (pf4 f (eq_self a) j l) (boolX true)
theorem UJ (N:Nat)(f:Fte)(h:f.ok)(hN:190002<=N):Gam.pureD (callF tab ext N) 93 [.agg f.cells,.agg f.cells]=some (boolX true):=by obtain ⟨M,rfl⟩:∃M,N=M+2:=⟨N-2,by omega⟩;have B:=h.len;have n:=yg (M+1) f.st h.st (by omega);have q:=zoY M 11 f.into (fun a u=>yg M a (h.into a u) (by omega)) (by omega) (by omega);obtain ⟨⟨w,y⟩,j,l,A,m⟩:=f;exact puA [(9,.p (boolX true)),(15,.b true),(22,.b true),(29,.b true),(36,.p (boolX true))] (pf5 n (eq_self j) (Jy l) (Jy m) q) (boolX true)
theorem zdL (N:Nat)(s:Slt)(h:s.ok)(hN:190005<=N):Gam.pureD (callF tab ext N) 46 [.agg s.cells,.agg s.cells]=some (boolX true):=by obtain ⟨M,rfl⟩:∃M,N=M+2:=⟨N-2,by omega⟩;have J:=h.items;have L:=h.vals;have m:=JI (M+1) s.key h.key (by omega);have n:=ztf M 53 s.items (fun a f=>DV M a (h.item a f) (by omega)) (by omega) (by omega);have q:=zte M 42 s.vals (fun a f=>JI M a (h.val a f) (by omega)) (by omega) (by omega);obtain ⟨⟨w,y,A,B,E,F⟩,j,l,H,u⟩:=s;exact puA [(9,.p (boolX true)),(15,.b true),(22,.b true),(29,.p (boolX true)),(36,.p (boolX true))] (pf5 m (eq_self j) (eq_self l) n q) (boolX true)
theorem DC (N:Nat)(s:Stt)(h:s.ok)(hN:190010<=N):Gam.pureD (callF tab ext N) 19 [.agg s.cells,.agg s.cells]=some (boolX true):=by obtain ⟨M,rfl⟩:∃M,N=M+2:=⟨N-2,by omega⟩;have q:=h.slots;have l:=ztg M 46 s.slots (fun a m=>zdL M a (h.slot a m) (by omega)) (by omega) (by omega);obtain ⟨f,j,n⟩:=s;exact puA [(9,.b true),(15,.b true),(22,.p (boolX true))] (pf3 (eq_self f) (eq_self j) l) (boolX true)
theorem NG (N:Nat):Gam.pureD (callF tab ext (N+3)) 54 [.sl false 11 [],.sl false 11 []]=some (boolX true):=by kernel_rfl
section
variable (a:List X) (z:qaV) (j:Nat)
def ohH:St:=⟨[(2,.ptr 0 0 0),(3,.ptr 1 0 0),(5,nat j)],[.var a,.var a]⟩
end
theorem zen (N:Nat)(o:Ocm)(h:o.ok)(hN:190020<=N):Gam.pureD (callF tab ext N) 24 [.agg o.cells,.agg o.cells]=some (boolX true):=by
 obtain ⟨M,rfl⟩:∃M,N=M+2:=⟨N-2,by omega⟩;have hi:=h.zro;have hf:=h.zoi;have hl:=h.zep;have h1:=DC (M+1) o.s h.s (by omega);have h2:=zgN M o.pq (fun a W=>UJ M a (h.pq a W) (by omega)) (by omega) (by omega);have h3:=zgM M o.letters (fun a W=>DV M a (h.letters a W) (by omega)) (by omega) (by omega);have Y:=NG (M-2);have e4:M-2+3=M+1:=by omega
 rw [e4] at Y;have ho:=h.outs;obtain ⟨⟨f,n,q⟩,l,u,w⟩:=o;have hn:=jT l;have y:run (callF tab ext (M+1)) 0 (M+1) (.loop (loopAt 24 0)) (ohH (Ocm.mk ⟨f,n,q⟩ l u w).cells 0)=some (.exit 0,⟨[(2,.ptr 0 0 0),(3,.ptr 1 0 0),(5,nat (iH l).length),(25,boolX false)],[.var (Ocm.mk ⟨f,n,q⟩ l u w).cells,.var (Ocm.mk ⟨f,n,q⟩ l u w).cells]⟩):=by
  refine aQ (σ:=fun j=>ohH (Ocm.mk ⟨f,n,q⟩ l u w).cells j) (k:=(iH l).length) (by kernel_rfl) (fun j hj=>?_) ?_ (by simp) (by grind)
  ·have E:j<l.length:=by omega
   have B:=yN E;have Z:=DV (M+1) l[j].m (ho _ (qaf E)) (by omega);generalize l[j]=a at B Z;obtain ⟨A,⟨H,J⟩,L,O,P,Q,S,U,V,F⟩:=a;dsimp only at hi;exact ⟨ohH (Ocm.mk ⟨f,n,q⟩ l u w).cells (j+1),ruA [(25,.b true),(31,.e (Otp.mk A (Msg.mk ⟨H,J⟩ L O (Val.mk P Q S U V F))).cells),(37,.e (Otp.mk A (Msg.mk ⟨H,J⟩ L O (Val.mk P Q S U V F))).cells),(40,.b false),(45,.e (Otp.mk A (Msg.mk ⟨H,J⟩ L O (Val.mk P Q S U V F))).cells),(51,.e (Otp.mk A (Msg.mk ⟨H,J⟩ L O (Val.mk P Q S U V F))).cells),(54,.p (boolX true)),(27,.i (Int.ofNat (j+1)))] (pf8 (aH (j:=j) (k:=(iH l).length) (by omega)) B B (ne_self (x:=A)) B B Z (ay (j:=j) (by omega))),by kernel_rfl⟩
  exact ruA [(25,.b false)] (pf1 (aG (qas (iH l).length)))
 exact puB [(10,.p (boolX true)),(19,.b false),(61,.p (boolX true)),(67,.p (boolX true)),(74,.p (boolX true))] [(.exit 0,⟨[(2,.ptr 0 0 0),(3,.ptr 1 0 0),(5,nat (iH l).length),(25,boolX false)],[.var (Ocm.mk ⟨f,n,q⟩ l u w).cells,.var (Ocm.mk ⟨f,n,q⟩ l u w).cells]⟩)] (pf6 h1 (nN (k:=(iH l).length)) y Y h2 h3) (boolX true)
theorem Cb:∀l:List Int,intsOf (aB l)=some l
 |[]=>rfl
 |x::l=>by
  have h:=Cb l;show (match intsOf (aB l) with
   |some l=>some (x::l)
   |none=>none)=some (x::l)
  rw [h]
theorem O4 (N:Nat)(l:List Int)(hl:l.length<=60000):callF tab ext (N+1) (.fn 34) [.sl false 1 (aB l)] []=some (.bs 0 0 l.length,[.row 1 (aB l)]):=by show D8 [.sl false 1 (aB l)] []=_;unfold D8;simp only [Cb,if_pos (show l.length<=1000000 by omega)];rfl
theorem Jr (N:Nat)(l:List Int)(hl:l.length<=60000):Gam.pureD (callF tab ext (N+1)) 34 [.sl false 1 (aB l)]=some (.sl false 1 (aB l)):=by simp_all[Gam.pureD,O4,X.data,rowOf,bD,List.take_of_length_le]
theorem mD (N:Nat)(s:Stp)(h:s.ok):Gam.pureD (callF tab ext (N+2)) 52 [.agg s.cells]=some (.agg s.cells):=
 puA [(7,.p (.sl false 1 (aB s.p)))] (pf1 (Jr N s.p h.p)) (.agg s.cells)
theorem GU (N:Nat)(m:Msg)(h:m.ok)(hN:190001<=N):Gam.pureD (callF tab ext N) 28 [.agg m.cells]=some (.agg m.cells):=by obtain ⟨M,rfl⟩:∃M,N=M+3:=⟨N-3,by omega⟩;have B:=mD M m.st h.st;have E:=Jr (M+1) m.orig h.orig;have H:=h.body;unfold Val.ok at H;have F:=jY (M+2) m.body (by omega) (by omega);obtain ⟨⟨f,j⟩,A,l,n,q,u,w,y,a⟩:=m;exact puA [(5,.p (.agg (Stp.mk f j).cells)),(10,.p (.sl false 1 (aB l))),(13,.p (.agg (Val.mk n q u w y a).cells))] (pf3 B E F) (.agg (Msg.mk ⟨f,j⟩ A l (Val.mk n q u w y a)).cells)
def Vy:List X:=[num 0,num 0,num 0,noText,.sl true 6 [],.sl true 7 [],num 0,num 0,.sl true 10 [],.sl true 6 []]
section
variable (s items acc vals zml:qaV) (n m k j:Nat)
variable (k0 i0 s0:Int) (t0:qaW) (l0 f0:qaV) (n0 d0:Int) (x:List X)
def csH:St:=⟨[(1,.ptr 0 0 0),(2,.ptr 1 0 0),(3,.bs 2 0 j),(14,.sl false 10 items),(15,nat n),(16,nat j)],[.var (oC k0 i0 s0 t0 l0 f0 n0 d0 items vals),.var Vy,.row 10 acc]⟩
def zvi:St:=⟨[(1,.ptr 0 0 0),(2,.ptr 1 0 0),(3,.bs 4 0 (j+1)),(14,.sl false 10 items),(15,nat n),(16,nat (j+1))],[.var (oC k0 i0 s0 t0 l0 f0 n0 d0 items vals),.var Vy,.dead,.var x,.row 10 (acc++[x])]⟩
def csE:St:=⟨[(1,.ptr 0 0 0),(2,.ptr 1 0 0),(3,.bs 2 0 j),(14,.sl false 10 items),(15,nat n),(16,nat j),(17,boolX false)],[.var (oC k0 i0 s0 t0 l0 f0 n0 d0 items vals),.var Vy,.row 10 acc]⟩
theorem zfS:canon 0 (csH items acc vals n j k0 i0 s0 t0 l0 f0 n0 d0)=some (csH items acc vals n j k0 i0 s0 t0 l0 f0 n0 d0):=by kernel_rfl
theorem zb2:canon 0 (zvi items acc vals n j k0 i0 s0 t0 l0 f0 n0 d0 x)=some (csH items (acc++[x]) vals n (j+1) k0 i0 s0 t0 l0 f0 n0 d0):=by kernel_rfl
def cvH:St:=⟨[(1,.ptr 0 0 0),(2,.ptr 1 0 0),(3,.bs 2 0 m),(6,.bs 3 0 j),(31,.sl false 6 vals),(32,nat n),(33,nat j)],[.var (oC k0 i0 s0 t0 l0 f0 n0 d0 items vals),.var Vy,.row 10 acc,.row 6 zml]⟩
def zvh:St:=⟨[(1,.ptr 0 0 0),(2,.ptr 1 0 0),(3,.bs 2 0 m),(6,.bs 5 0 (j+1)),(31,.sl false 6 vals),(32,nat n),(33,nat (j+1))],[.var (oC k0 i0 s0 t0 l0 f0 n0 d0 items vals),.var Vy,.row 10 acc,.dead,.var x,.row 6 (zml++[x])]⟩
def cvE:St:=⟨[(1,.ptr 0 0 0),(2,.ptr 1 0 0),(3,.bs 2 0 m),(6,.bs 3 0 j),(31,.sl false 6 vals),(32,nat n),(33,nat j),(34,boolX false)],[.var (oC k0 i0 s0 t0 l0 f0 n0 d0 items vals),.var Vy,.row 10 acc,.row 6 zml]⟩
theorem zfR:canon 0 (cvH items acc vals zml n m j k0 i0 s0 t0 l0 f0 n0 d0)=some (cvH items acc vals zml n m j k0 i0 s0 t0 l0 f0 n0 d0):=by kernel_rfl
theorem zb1:canon 0 (zvh items acc vals zml n m j k0 i0 s0 t0 l0 f0 n0 d0 x)=some (cvH items acc vals (zml++[x]) n m (j+1) k0 i0 s0 t0 l0 f0 n0 d0):=by kernel_rfl
end
theorem XP (N:Nat)(s:Slt)(h:s.ok)(hN:190005<=N):callF tab ext N (.fn 59) [.agg s.cells] []=some (match s with
  |⟨.mk k i s t l f,n,d,ms,vs⟩=>(.agg [num k,num i,num s,strX t,.sl false 6 (ah l),.sl false 7 (au f),num n,num d,.bs 0 0 (aI ms).length,.bs 1 0 (ah vs).length],[.row 10 (aI ms),.row 6 (ah vs)])):=by
 obtain ⟨M,rfl⟩:=pR_ N;have hi:=h.items;have hv:=h.vals;have hk:=h.key;have hit:=h.item;have V:=h.val;obtain ⟨⟨u,q,y,A,w,m⟩,F,E,ms,vs⟩:=s;have em:=dG ms;have ev:=aF vs;dsimp only at hi hv hk hit V;unfold Val.ok at hk;have pa:=jY M (Val.mk u q y A w m) (by omega) (by omega);have h1:run (callF tab ext M) 0 M (.loop (loopAt 59 0)) (csH (aI ms) [] (ah vs) (aI ms).length 0 u q y A (ah w) (au m) F E)=some (.exit 0,csE (aI ms) (aI ms) (ah vs) (aI ms).length (aI ms).length u q y A (ah w) (au m) F E):=by
  refine aQ (σ:=fun j=>csH (aI ms) ((aI ms).take j) (ah vs) (aI ms).length j u q y A (ah w) (au m) F E) (k:=(aI ms).length) (zfS ..) (fun j hj=>?_) ?_ (by simp) (by omega)
  ·have B:j<ms.length:=by omega
   have S:=jU B;have U:=GU M ms[j] (hit _ (qaf B)) (by omega);have ht:=bM S;generalize ms[j]=a at S U ht;obtain ⟨⟨H,J⟩,L,O,P,Q,Y,Z,a9,W⟩:=a;refine ⟨zvi (aI ms) ((aI ms).take j) (ah vs) (aI ms).length j u q y A (ah w) (au m) F E (Msg.mk ⟨H,J⟩ L O (Val.mk P Q Y Z a9 W)).cells,ruA [(17,.b true),(18,.e (Msg.mk ⟨H,J⟩ L O (Val.mk P Q Y Z a9 W)).cells),(22,.p (.agg (Msg.mk ⟨H,J⟩ L O (Val.mk P Q Y Z a9 W)).cells)),(24,.app),(25,.i (Int.ofNat (j+1)))] (pf5 (aH (j:=j) (k:=(aI ms).length) (by omega)) S U (dX (acc:=(aI ms).take j) j 2 152 (by grind) (by omega) (by omega)) (ay (j:=j) (by omega))),?_⟩
   grind[zb2]
  rw [List.take_length];exact ruA [(17,.b false)] (pf1 (aG (qas (aI ms).length)))
 have h2:run (callF tab ext M) 0 M (.loop (loopAt 59 1)) (cvH (aI ms) (aI ms) (ah vs) [] (ah vs).length (aI ms).length 0 u q y A (ah w) (au m) F E)=some (.exit 2,cvE (aI ms) (aI ms) (ah vs) (ah vs) (ah vs).length (aI ms).length (ah vs).length u q y A (ah w) (au m) F E):=by
  refine aQ (σ:=fun j=>cvH (aI ms) (aI ms) (ah vs) ((ah vs).take j) (ah vs).length (aI ms).length j u q y A (ah w) (au m) F E) (k:=(ah vs).length) (zfR ..) (fun j hj=>?_) ?_ (by simp) (by omega)
  ·have B:j<vs.length:=by omega
   have S:=dR B;have pb:=V _ (qaf B);unfold Val.ok at pb;have U:=jY M vs[j] (by omega) (by omega);have ht:=bM S;generalize vs[j]=a at S U ht;obtain ⟨H,J,L,O,P,Q⟩:=a;refine ⟨zvh (aI ms) (aI ms) (ah vs) ((ah vs).take j) (ah vs).length (aI ms).length j u q y A (ah w) (au m) F E (Val.mk H J L O P Q).cells,ruA [(34,.b true),(35,.e (Val.mk H J L O P Q).cells),(39,.p (.agg (Val.mk H J L O P Q).cells)),(41,.app),(42,.i (Int.ofNat (j+1)))] (pf5 (aH (j:=j) (k:=(ah vs).length) (by omega)) S U (dX (acc:=(ah vs).take j) j 3 88 (by grind) (by omega) (by omega)) (ay (j:=j) (by omega))),?_⟩
   grind[zb1]
  rw [List.take_length];exact ruA [(34,.b false)] (pf1 (aG (qas (ah vs).length)))
 exact caB [(12,.mk),(29,.mk),(45,.p (.agg (Val.mk u q y A w m).cells))] [(.exit 0,csE (aI ms) (aI ms) (ah vs) (aI ms).length (aI ms).length u q y A (ah w) (au m) F E),(.exit 2,cvE (aI ms) (aI ms) (ah vs) (ah vs) (ah vs).length (aI ms).length (ah vs).length u q y A (ah w) (au m) F E)] (pf5 (a:=0<=(aI ms).length/\cZ (aI ms).length 152=true) ⟨by omega,jd (by omega) (by omega)⟩ h1 (c:=0<=(ah vs).length/\cZ (ah vs).length 88=true) ⟨by omega,jd (by omega) (by omega)⟩ h2 pa)
theorem GN (N:Nat)(s:Slt)(h:s.ok)(hN:190005<=N):Gam.pureD (callF tab ext N) 59 [.agg s.cells]=some (.agg s.cells):=by unfold Gam.pureD;rw [XP N s h hN];obtain ⟨⟨l,j,u,w,m,f⟩,q,a,n,y⟩:=s<;>simp_all[X.data,dH,rowOf,Slt.cells,oC,num,strX]
def ny:List X:=[num 0,num 0,.sl true 10 []]
section
variable (a b:Int) (l acc:qaV) (n j:Nat) (x:List X)
def stH:St:=⟨[(1,.ptr 0 0 0),(2,.ptr 1 0 0),(3,.bs 2 0 j),(11,.sl false 10 l),(12,nat n),(13,nat j)],[.var [num a,num b,.sl false 10 l],.var ny,.row 10 acc]⟩
def zuj:St:=⟨[(1,.ptr 0 0 0),(2,.ptr 1 0 0),(3,.bs 4 0 (j+1)),(11,.sl false 10 l),(12,nat n),(13,nat (j+1))],[.var [num a,num b,.sl false 10 l],.var ny,.dead,.var x,.row 10 (acc++[x])]⟩
def stE:St:=⟨[(1,.ptr 0 0 0),(2,.ptr 1 0 0),(3,.bs 2 0 j),(11,.sl false 10 l),(12,nat n),(13,nat j),(14,boolX false)],[.var [num a,num b,.sl false 10 l],.var ny,.row 10 acc]⟩
theorem zdD:canon 0 (stH a b l acc n j)=some (stH a b l acc n j):=by kernel_rfl
theorem Y5:canon 0 (zuj a b l acc n j x)=some (stH a b l (acc++[x]) n (j+1)):=by kernel_rfl
end
theorem SA (N:Nat)(s:Stt)(h:s.ok)(hN:190010<=N):callF tab ext N (.fn 27) [.agg s.cells] []=some (.agg [num s.n,num s.t,.bs 0 0 (aW s.slots).length],[.row 10 (aW s.slots)]):=by
 obtain ⟨M,rfl⟩:=pR_ N;have Q:=h.slots;have hit:=h.slot;obtain ⟨a,b,f⟩:=s;dsimp only at Q hit;have U:=jQ f;have P:run (callF tab ext M) 0 M (.loop (loopAt 27 0)) (stH a b (aW f) [] (aW f).length 0)=some (.exit 0,stE a b (aW f) (aW f) (aW f).length (aW f).length):=by
  refine aQ (σ:=fun j=>stH a b (aW f) ((aW f).take j) (aW f).length j) (k:=(aW f).length) (zdD ..) (fun j V=>?_) ?_ (by simp) (by omega)
  ·have l:j<f.length:=by omega
   have L:=EC l;have O:=GN M f[j] (hit _ (qaf l)) (by omega);have S:=bM L;generalize f[j]=q at L O S;obtain ⟨⟨u,w,y,A,B,E⟩,F,H,J,m⟩:=q;refine ⟨zuj a b (aW f) ((aW f).take j) (aW f).length j (Slt.mk (Val.mk u w y A B E) F H J m).cells,ruA [(14,.b true),(15,.e (Slt.mk (Val.mk u w y A B E) F H J m).cells),(19,.p (.agg (Slt.mk (Val.mk u w y A B E) F H J m).cells)),(21,.app),(22,.i (Int.ofNat (j+1)))] (pf5 (aH (j:=j) (k:=(aW f).length) (by omega)) L O (dX (acc:=(aW f).take j) j 2 152 (by grind) (by omega) (by omega)) (ay (j:=j) (by omega))),?_⟩
   grind[Y5]
  rw [List.take_length];exact ruA [(14,.b false)] (pf1 (aG (qas (aW f).length)))
 exact caB [(9,.mk)] [(.exit 0,stE a b (aW f) (aW f) (aW f).length (aW f).length)] (pf2 (a:=0<=(aW f).length/\cZ (aW f).length 152=true) ⟨by omega,jd (by omega) (by omega)⟩ P)
theorem kJ (N:Nat)(s:Stt)(h:s.ok)(hN:190010<=N):Gam.pureD (callF tab ext N) 27 [.agg s.cells]=some (.agg s.cells):=by unfold Gam.pureD;rw [SA N s h hN];simp_all[X.data,dH,rowOf,Stt.cells,num]
def pI (B:Nat)(f:FuncId)(args:List X):Prop:=∃c:Bool,∀N,B<=N->Gam.pureD (callF tab ext N) f args=some (boolX c)
theorem dK {f:FuncId}(h:∃c:Bool,∀N,B<=N->Gam.pureD (callF tab ext (N+1)) f args=some (boolX c)):pI (B+1) f args:=by obtain ⟨c,h⟩:=h;refine ⟨c,fun N a=>?_⟩;obtain ⟨M,rfl⟩:=pR_ N<;>simp_all
def kU (B:Nat)(f:FuncId)(args:List X):Prop:=∃c:Int,(0<=c/\c<=100)/\∀N,B<=N->Gam.pureD (callF tab ext N) f args=some (num c)
theorem cu {f:FuncId}(h:∃c:Int,(0<=c/\c<=100)/\∀N,B<=N->Gam.pureD (callF tab ext (N+1)) f args=some (num c)):kU (B+1) f args:=by obtain ⟨c,a,h⟩:=h;refine ⟨c,a,fun N j=>?_⟩;obtain ⟨M,rfl⟩:=pR_ N<;>simp_all
theorem scan {b:C}{H:Nat->St}{e:Ex}{fin τ:St}{n B:Nat}(good:St->Prop)(h0:canon 0 τ=some (H 0))
  (hstep:∀j,j<n->(∃r,good r/\∀M,B<=M->run (callF tab ext M) 0 M b (H j)=some (.ret,r))\/(∃υ,canon 0 υ=some (H (j+1))/\∀M,B<=M->run (callF tab ext M) 0 M b (H j)=some (.norm,υ)))
  (hend:∀M,B<=M->run (callF tab ext M) 0 M b (H n)=some (e,fin)) (hne:e≠.norm):
  (∃r,good r/\∀M,B<=M->n<M->run (callF tab ext M) 0 M (.loop b) τ=some (.ret,r))\/(∀M,B<=M->n<M->run (callF tab ext M) 0 M (.loop b) τ=some (e,fin)):=by
 have y:∀d j,j+d=n->(∃r,good r/\∀M F υ,B<=M->d<F->canon 0 υ=some (H j)->iter 0 (run (callF tab ext M) 0 M b) F υ=some (.ret,r))\/(∀M F υ,B<=M->d<F->canon 0 υ=some (H j)->iter 0 (run (callF tab ext M) 0 M b) F υ=some (e,fin)):=by
  intro d;induction d with
  |zero=>
   intro j w;have m:j=n:=by omega
   subst m;right;intro M F υ f a l;obtain ⟨F',rfl⟩:∃F',F=F'+1:=⟨F-1,by omega⟩
   grind[bF]
  |succ d ih=>
   intro j w;rcases hstep j (by omega) with ⟨r,q,h⟩|⟨ω,A,h⟩
   ·left;refine ⟨r,q,fun M F υ f a l=>?_⟩;obtain ⟨F',rfl⟩:∃F',F=F'+1:=⟨F-1,by omega⟩
    grind[bF]
   rcases ih (j+1) (by omega) with ⟨r,q,u⟩|u;·left;refine ⟨r,q,fun M F υ f a l=>?_⟩;obtain ⟨F',rfl⟩:∃F',F=F'+1:=⟨F-1,by omega⟩<;>simp_all[dV]
   right;intro M F υ f a l;obtain ⟨F',rfl⟩:∃F',F=F'+1:=⟨F-1,by omega⟩<;>simp_all[dV]
 grind[run]
def dU:Val->Bool
 |.mk k i s t l f=>(k==0)&&((i==0)&&((s==0)&&((t.toList==(⟨#[]⟩:qaW).toList)&&((Int.ofNat (ah l).length==0)&&(Int.ofNat (au f).length==0)))))
theorem yQ (N:Nat)(v:Val):Gam.pureD (callF tab ext (N+1)) 65 [.agg v.cells]=some (boolX (dU v)):=by
 obtain ⟨k,i,s,t,l,f⟩:=v;cases a:(k==0) with
 |true=>
  cases h:(i==0) with
  |true=>
   cases j:(s==0) with
   |true=>
    cases m:(t.toList==(⟨#[]⟩:qaW).toList) with
    |true=>
     cases n:(Int.ofNat (ah l).length==0) with
     |true=>
      cases q:(Int.ofNat (au f).length==0) with
      |true=>rw [show dU (Val.mk k i s t l f)=true from by grind[dU]];exact puA [(5,.b true),(9,.b true),(14,.b true),(19,.b true),(25,.b true),(31,.b true)] (pf6 a h j m n q) (boolX true)
      |false=>rw [show dU (Val.mk k i s t l f)=false from by grind[dU]];exact puA [(5,.b true),(9,.b true),(14,.b true),(19,.b true),(25,.b true),(31,.b false)] (pf6 a h j m n q) (boolX false)
     |false=>rw [show dU (Val.mk k i s t l f)=false from by grind[dU]];exact puA [(5,.b true),(9,.b true),(14,.b true),(19,.b true),(25,.b false)] (pf5 a h j m n) (boolX false)
    |false=>rw [show dU (Val.mk k i s t l f)=false from by grind[dU]];exact puA [(5,.b true),(9,.b true),(14,.b true),(19,.b false)] (pf4 a h j m) (boolX false)
   |false=>rw [show dU (Val.mk k i s t l f)=false from by grind[dU]];exact puA [(5,.b true),(9,.b true),(14,.b false)] (pf3 a h j) (boolX false)
  |false=>rw [show dU (Val.mk k i s t l f)=false from by grind[dU]];exact puA [(5,.b true),(9,.b false)] (pf2 a h) (boolX false)
 |false=>rw [show dU (Val.mk k i s t l f)=false from by grind[dU]];exact puA [(5,.b false)] (pf1 a) (boolX false)
theorem zqT (i s:Int)(t:qaW)(l:List Val)(f:List (qaW×Val)):pI 2 115 [.agg (Val.mk 1 i s t l f).cells]:=by
 apply dK;cases a:(s==0) with
 |true=>
  cases h:(t.toList==(⟨#[]⟩:qaW).toList) with
  |true=>
   cases m:(Int.ofNat (ah l).length==0) with
   |true=>
    cases n:(Int.ofNat (au f).length==0) with
    |true=>exact ⟨true,fun N j=>puA [(63,.b true),(71,.b true),(80,.b true),(91,.b true)] (pf4 a h m n) (boolX true)⟩
    |false=>exact ⟨false,fun N j=>puA [(63,.b true),(71,.b true),(80,.b true),(91,.b false)] (pf4 a h m n) (boolX false)⟩
   |false=>exact ⟨false,fun N j=>puA [(63,.b true),(71,.b true),(80,.b false)] (pf3 a h m) (boolX false)⟩
  |false=>exact ⟨false,fun N j=>puA [(63,.b true),(71,.b false)] (pf2 a h) (boolX false)⟩
 |false=>exact ⟨false,fun N j=>puA [(63,.b false)] (pf1 a) (boolX false)⟩
theorem zqS (i s:Int)(t:qaW)(l:List Val)(f:List (qaW×Val)):pI 2 115 [.agg (Val.mk 2 i s t l f).cells]:=by
 apply dK;cases a:(s==0) with
 |true=>
  cases h:(t.toList==(⟨#[]⟩:qaW).toList) with
  |true=>
   cases m:(Int.ofNat (ah l).length==0) with
   |true=>
    cases n:(Int.ofNat (au f).length==0) with
    |true=>exact ⟨true,fun N j=>puA [(63,.b true),(71,.b true),(80,.b true),(91,.b true)] (pf4 a h m n) (boolX true)⟩
    |false=>exact ⟨false,fun N j=>puA [(63,.b true),(71,.b true),(80,.b true),(91,.b false)] (pf4 a h m n) (boolX false)⟩
   |false=>exact ⟨false,fun N j=>puA [(63,.b true),(71,.b true),(80,.b false)] (pf3 a h m) (boolX false)⟩
  |false=>exact ⟨false,fun N j=>puA [(63,.b true),(71,.b false)] (pf2 a h) (boolX false)⟩
 |false=>exact ⟨false,fun N j=>puA [(63,.b false)] (pf1 a) (boolX false)⟩
theorem zqR (i s:Int)(t:qaW)(l:List Val)(f:List (qaW×Val)):pI 2 115 [.agg (Val.mk 3 i s t l f).cells]:=by
 apply dK;cases a:(t.toList==(⟨#[]⟩:qaW).toList) with
 |true=>
  cases h:(Int.ofNat (ah l).length==0) with
  |true=>
   cases m:(Int.ofNat (au f).length==0) with
   |true=>exact ⟨true,fun N j=>puA [(71,.b true),(80,.b true),(91,.b true)] (pf3 a h m) (boolX true)⟩
   |false=>exact ⟨false,fun N j=>puA [(71,.b true),(80,.b true),(91,.b false)] (pf3 a h m) (boolX false)⟩
  |false=>exact ⟨false,fun N j=>puA [(71,.b true),(80,.b false)] (pf2 a h) (boolX false)⟩
 |false=>exact ⟨false,fun N j=>puA [(71,.b false)] (pf1 a) (boolX false)⟩
theorem zqQ (i s:Int)(t:qaW)(l:List Val)(f:List (qaW×Val)):pI 2 115 [.agg (Val.mk 4 i s t l f).cells]:=by
 apply dK;cases a:(i==0) with
 |true=>
  cases h:(s==0) with
  |true=>
   cases m:(Int.ofNat (ah l).length==0) with
   |true=>
    cases n:(Int.ofNat (au f).length==0) with
    |true=>exact ⟨true,fun N j=>puA [(54,.b true),(63,.b true),(80,.b true),(91,.b true)] (pf4 a h m n) (boolX true)⟩
    |false=>exact ⟨false,fun N j=>puA [(54,.b true),(63,.b true),(80,.b true),(91,.b false)] (pf4 a h m n) (boolX false)⟩
   |false=>exact ⟨false,fun N j=>puA [(54,.b true),(63,.b true),(80,.b false)] (pf3 a h m) (boolX false)⟩
  |false=>exact ⟨false,fun N j=>puA [(54,.b true),(63,.b false)] (pf2 a h) (boolX false)⟩
 |false=>exact ⟨false,fun N j=>puA [(54,.b false)] (pf1 a) (boolX false)⟩
theorem zqP (i s:Int)(t:qaW)(l:List Val)(f:List (qaW×Val)):pI 2 115 [.agg (Val.mk 5 i s t l f).cells]:=by
 apply dK;cases a:(i==0) with
 |true=>
  cases h:(s==0) with
  |true=>
   cases m:(Int.ofNat (ah l).length==0) with
   |true=>
    cases n:(Int.ofNat (au f).length==0) with
    |true=>exact ⟨true,fun N j=>puA [(54,.b true),(63,.b true),(80,.b true),(91,.b true)] (pf4 a h m n) (boolX true)⟩
    |false=>exact ⟨false,fun N j=>puA [(54,.b true),(63,.b true),(80,.b true),(91,.b false)] (pf4 a h m n) (boolX false)⟩
   |false=>exact ⟨false,fun N j=>puA [(54,.b true),(63,.b true),(80,.b false)] (pf3 a h m) (boolX false)⟩
  |false=>exact ⟨false,fun N j=>puA [(54,.b true),(63,.b false)] (pf2 a h) (boolX false)⟩
 |false=>exact ⟨false,fun N j=>puA [(54,.b false)] (pf1 a) (boolX false)⟩
theorem zqO (i s:Int)(t:qaW)(l:List Val)(f:List (qaW×Val)):pI 2 115 [.agg (Val.mk 6 i s t l f).cells]:=by
 apply dK;cases a:(s==0) with
 |true=>
  cases h:(t.toList==(⟨#[]⟩:qaW).toList) with
  |true=>
   cases m:(Int.ofNat (ah l).length==0) with
   |true=>
    cases n:(Int.ofNat (au f).length==0) with
    |true=>exact ⟨true,fun N j=>puA [(63,.b true),(71,.b true),(80,.b true),(91,.b true)] (pf4 a h m n) (boolX true)⟩
    |false=>exact ⟨false,fun N j=>puA [(63,.b true),(71,.b true),(80,.b true),(91,.b false)] (pf4 a h m n) (boolX false)⟩
   |false=>exact ⟨false,fun N j=>puA [(63,.b true),(71,.b true),(80,.b false)] (pf3 a h m) (boolX false)⟩
  |false=>exact ⟨false,fun N j=>puA [(63,.b true),(71,.b false)] (pf2 a h) (boolX false)⟩
 |false=>exact ⟨false,fun N j=>puA [(63,.b false)] (pf1 a) (boolX false)⟩
theorem zqN (i s:Int)(t:qaW)(l:List Val)(f:List (qaW×Val)):pI 2 115 [.agg (Val.mk 7 i s t l f).cells]:=by
 apply dK;cases a:(s==0) with
 |true=>
  cases h:(t.toList==(⟨#[]⟩:qaW).toList) with
  |true=>
   cases m:(Int.ofNat (ah l).length==0) with
   |true=>
    cases n:(Int.ofNat (au f).length==0) with
    |true=>exact ⟨true,fun N j=>puA [(63,.b true),(71,.b true),(80,.b true),(91,.b true)] (pf4 a h m n) (boolX true)⟩
    |false=>exact ⟨false,fun N j=>puA [(63,.b true),(71,.b true),(80,.b true),(91,.b false)] (pf4 a h m n) (boolX false)⟩
   |false=>exact ⟨false,fun N j=>puA [(63,.b true),(71,.b true),(80,.b false)] (pf3 a h m) (boolX false)⟩
  |false=>exact ⟨false,fun N j=>puA [(63,.b true),(71,.b false)] (pf2 a h) (boolX false)⟩
 |false=>exact ⟨false,fun N j=>puA [(63,.b false)] (pf1 a) (boolX false)⟩
theorem zqM (i s:Int)(t:qaW)(l:List Val)(f:List (qaW×Val)):pI 2 115 [.agg (Val.mk 8 i s t l f).cells]:=by
 apply dK;cases a:(i==0) with
 |true=>
  cases h:(s==0) with
  |true=>
   cases m:(t.toList==(⟨#[]⟩:qaW).toList) with
   |true=>
    cases n:(Int.ofNat (au f).length==0) with
    |true=>exact ⟨true,fun N j=>puA [(54,.b true),(63,.b true),(71,.b true),(91,.b true)] (pf4 a h m n) (boolX true)⟩
    |false=>exact ⟨false,fun N j=>puA [(54,.b true),(63,.b true),(71,.b true),(91,.b false)] (pf4 a h m n) (boolX false)⟩
   |false=>exact ⟨false,fun N j=>puA [(54,.b true),(63,.b true),(71,.b false)] (pf3 a h m) (boolX false)⟩
  |false=>exact ⟨false,fun N j=>puA [(54,.b true),(63,.b false)] (pf2 a h) (boolX false)⟩
 |false=>exact ⟨false,fun N j=>puA [(54,.b false)] (pf1 a) (boolX false)⟩
theorem zqL (i s:Int)(t:qaW)(l:List Val)(f:List (qaW×Val)):pI 2 115 [.agg (Val.mk 9 i s t l f).cells]:=by
 apply dK;cases a:(i==0) with
 |true=>
  cases h:(s==0) with
  |true=>
   cases m:(t.toList==(⟨#[]⟩:qaW).toList) with
   |true=>
    cases n:(Int.ofNat (ah l).length==0) with
    |true=>exact ⟨true,fun N j=>puA [(54,.b true),(63,.b true),(71,.b true),(80,.b true)] (pf4 a h m n) (boolX true)⟩
    |false=>exact ⟨false,fun N j=>puA [(54,.b true),(63,.b true),(71,.b true),(80,.b false)] (pf4 a h m n) (boolX false)⟩
   |false=>exact ⟨false,fun N j=>puA [(54,.b true),(63,.b true),(71,.b false)] (pf3 a h m) (boolX false)⟩
  |false=>exact ⟨false,fun N j=>puA [(54,.b true),(63,.b false)] (pf2 a h) (boolX false)⟩
 |false=>exact ⟨false,fun N j=>puA [(54,.b false)] (pf1 a) (boolX false)⟩
theorem zm2 (i s:Int)(t:qaW)(l:List Val)(f:List (qaW×Val)):pI 2 115 [.agg (Val.mk 10 i s t l f).cells]:=by
 apply dK;cases a:(i==0) with
 |true=>
  cases h:(s==0) with
  |true=>
   cases m:(Int.ofNat (au f).length==0) with
   |true=>exact ⟨true,fun N j=>puA [(54,.b true),(63,.b true),(91,.b true)] (pf3 a h m) (boolX true)⟩
   |false=>exact ⟨false,fun N j=>puA [(54,.b true),(63,.b true),(91,.b false)] (pf3 a h m) (boolX false)⟩
  |false=>exact ⟨false,fun N j=>puA [(54,.b true),(63,.b false)] (pf2 a h) (boolX false)⟩
 |false=>exact ⟨false,fun N j=>puA [(54,.b false)] (pf1 a) (boolX false)⟩
theorem iE (x a b:Int):kU 2 157 [num x,num a,num b]:=by
 apply cu;cases f:decide (x<a) with
 |true=>exact ⟨2,by decide,fun N j=>puA [(9,.b true)] (pf1 f) (num (2))⟩
 |false=>
  cases h:decide (b<x) with
  |true=>exact ⟨2,by decide,fun N j=>puA [(9,.b false),(13,.b true)] (pf2 f h) (num (2))⟩
  |false=>exact ⟨0,by decide,fun N j=>puA [(9,.b false),(13,.b false)] (pf2 f h) (num (0))⟩
theorem uH (x a e:Int)(he:0<=e/\e<=100):kU 2 162 [num x,num a,num e]:=by
 apply cu;cases f:decide (a<x) with
 |true=>exact ⟨e,he,fun N h=>puA [(9,.b true)] (pf1 f) (num (e))⟩
 |false=>exact ⟨0,by decide,fun N h=>puA [(9,.b false)] (pf1 f) (num (0))⟩
theorem ziB (v:Val):kU 3 156 [.agg v.cells]:=by obtain ⟨k,i,s,t,l,f⟩:=v;obtain ⟨c,a,j⟩:=iE i 0 1;exact cu ⟨c,a,fun N h=>puA [(5,.p (num c))] (pf1 (j N h)) (num c)⟩
theorem ziA (v:Val):kU 3 158 [.agg v.cells]:=by obtain ⟨k,i,s,t,l,f⟩:=v;obtain ⟨c,a,j⟩:=iE i (-999999999999999) 999999999999999;exact cu ⟨c,a,fun N h=>puA [(5,.p (num c))] (pf1 (j N h)) (num c)⟩
theorem ziw (v:Val):kU 3 165 [.agg v.cells]:=by obtain ⟨k,i,s,t,l,f⟩:=v;obtain ⟨c,a,j⟩:=iE i (-719162) 2932896;exact cu ⟨c,a,fun N h=>puA [(5,.p (num c))] (pf1 (j N h)) (num c)⟩
theorem ziv (v:Val):kU 3 166 [.agg v.cells]:=by obtain ⟨k,i,s,t,l,f⟩:=v;obtain ⟨c,a,j⟩:=iE i (-62135596800000) 253402300799999;exact cu ⟨c,a,fun N h=>puA [(5,.p (num c))] (pf1 (j N h)) (num c)⟩
theorem zix (v:Val):kU 3 164 [.agg v.cells]:=by obtain ⟨k,i,s,t,l,f⟩:=v;obtain ⟨c,a,j⟩:=uH (Int.ofNat t.size) 1024 5 (by decide);exact cu ⟨c,a,fun N h=>puA [(6,.p (num c))] (pf1 (j N h)) (num c)⟩
theorem ziu (v:Val):kU 3 167 [.agg v.cells]:=by obtain ⟨k,i,s,t,l,f⟩:=v;obtain ⟨c,a,j⟩:=uH (Int.ofNat (ah l).length) 256 9 (by decide);exact cu ⟨c,a,fun N h=>puA [(6,.p (num c))] (pf1 (j N h)) (num c)⟩
def fiH (l:qaV)(n j:Nat):St:=⟨[(5,.sl false 1 l),(6,nat n),(7,nat j)],[]⟩
theorem RU (l:List Int)(hl:l.length<=60000)(hb:∀x,x∈l->0<=x/\x<=100):kU 60002 160 [.sl false 1 (aB l)]:=by
 have w:=bD l;have:=scan (B:=0) (b:=loopAt 160 0) (H:=fun j=>fiH (aB l) (aB l).length j) (τ:=fiH (aB l) (aB l).length 0) (n:=(aB l).length) (e:=.exit 0) (fin:=⟨[(5,.sl false 1 (aB l)),(6,nat (aB l).length),(7,nat (aB l).length),(8,boolX false)],[]⟩) (fun r=>∃x:Int,(0<=x/\x<=100)/\r=⟨[(2,num x)],[]⟩) (by kernel_rfl) (fun j u=>by
  have a:j<l.length:=by omega
  have m:=jW a;have f:=hb _ (qaf a);generalize l[j]=x at m f;cases h:(!(x==0)) with
  |true=>left;exact ⟨⟨[(2,num x)],[]⟩,⟨x,f,rfl⟩,fun M _=>ruA [(8,.b true),(9,.e [num x]),(12,.b true)] (pf3 (aH (j:=j) (k:=(aB l).length) (by omega)) m h)⟩
  |false=>right;exact ⟨fiH (aB l) (aB l).length (j+1),by kernel_rfl,fun M _=>ruA [(8,.b true),(9,.e [num x]),(12,.b false),(14,.i (Int.ofNat (j+1)))] (pf4 (aH (j:=j) (k:=(aB l).length) (by omega)) m h (ay (j:=j) (by omega)))⟩)
  (fun M _=>run_of [(8,.b false)] [] (pf1 (aG (qas (aB l).length))) (lo':=[]) (σ':=⟨[(5,.sl false 1 (aB l)),(6,nat (aB l).length),(7,nat (aB l).length),(8,boolX false)],[]⟩) (by kernel_rfl)) (by simp)
 apply cu;rcases this with ⟨r,⟨x,f,rfl⟩,h⟩|h;·exact ⟨x,f,fun N q=>puB [] [(.ret,⟨[(2,num x)],[]⟩)] (pf1 (h N (by omega) (by omega))) (num x)⟩
 exact ⟨0,by decide,fun N q=>puB [] [(.exit 0,⟨[(5,.sl false 1 (aB l)),(6,nat (aB l).length),(7,nat (aB l).length),(8,boolX false)],[]⟩)] (pf1 (h N (by omega) (by omega))) (num 0)⟩
theorem ziz (v:Val):kU 60003 159 [.agg v.cells]:=by obtain ⟨k,i,s,t,l,f⟩:=v;obtain ⟨c,n,h⟩:=iE i (-999999999999999) 999999999999999;obtain ⟨d,q,j⟩:=iE s 0 12;obtain ⟨e,a,m⟩:=RU [c,d] (by simp) (fun x w=>by grind);exact cu ⟨e,a,fun N u=>puA [(5,.p (num c)),(8,.p (num d)),(10,.p (num e))] (pf3 (h N (by omega)) (j N (by omega)) (m N (by omega))) (num e)⟩
theorem YG (N:Nat)(t:qaW)(h:t.size<=9223372036854775807):Gam.pureD (callF tab ext (N+1)) 163 [strX t]=some (boolX (Lib.validD t.data.toList)):=by
 have e:callF tab ext (N+1) (.fn 163) [strX t] []=some (boolX (Lib.validD t.data.toList),[]):=by show pR [strX t] []=_;unfold pR strX;simp only [if_pos h];rfl
 unfold Gam.pureD;rw [e];rfl
theorem ziy (v:Val):kU 4 161 [.agg v.cells]:=by
 obtain ⟨k,i,s,t,l,f⟩:=v;apply cu;cases j:decide (1024<Int.ofNat t.size) with
 |true=>
  have h:∀N,2<=N->Gam.pureD (callF tab ext N) 162 [num (Int.ofNat t.size),num 1024,num 5]=some (num 5):=fun N a=>by obtain ⟨M,rfl⟩:=pR_ N;exact puA [(9,.b true)] (pf1 j) (num 5)
  exact ⟨5,by decide,fun N a=>puA [(7,.p (num 5))] (pf1 (h N (by omega))) (num 5)⟩
 |false=>
  have n:t.size<=9223372036854775807:=by have:=of_decide_eq_false j;simp only [qaJ] at this;omega
  have h:∀N,2<=N->Gam.pureD (callF tab ext N) 162 [num (Int.ofNat t.size),num 1024,num 5]=some (num 0):=fun N a=>by obtain ⟨M,rfl⟩:=pR_ N;exact puA [(9,.b false)] (pf1 j) (num 0)
  have m:∀N,3<=N->Gam.pureD (callF tab ext N) 163 [strX t]=some (boolX (Lib.validD t.data.toList)):=fun N a=>by obtain ⟨M,rfl⟩:=pR_ N<;>simp_all[YG]
  generalize Lib.validD t.data.toList=b at m;cases b with
  |true=>exact ⟨0,by decide,fun N a=>puA [(7,.p (num 0)),(13,.p (boolX true))] (pf2 (h N (by omega)) (m N a)) (num 0)⟩
  |false=>exact ⟨16,by decide,fun N a=>puA [(7,.p (num 0)),(13,.p (boolX false))] (pf2 (h N (by omega)) (m N a)) (num 16)⟩
theorem SI {s:qaW}{j:Nat}(h:j<(byteRow s).length):∃u:Int,(byteRow s)[j]?=some [.v (.int .u8 u)]:=by simp_all[byteRow]
def naH (s:qaW)(n j:Nat):St:=⟨[(23,.sl false 1 (byteRow s)),(24,nat n),(25,nat j)],[]⟩
theorem WU (s:qaW)(u:Int)(n j:Nat)(hj:j<n)(hn:n<1000000)(hg:(byteRow s)[j]?=some [.v (.int .u8 u)]):
  (∃r,r=⟨[(2,boolX false)],[]⟩/\∀M,0<=M->run (callF tab ext M) 0 M (loopAt 122 0) (naH s n j)=some (.ret,r))\/(∃υ,canon 0 υ=some (naH s n (j+1))/\∀M,0<=M->run (callF tab ext M) 0 M (loopAt 122 0) (naH s n j)=some (.norm,υ)):=by
 cases a:decide (u<97) with
 |true=>
  cases f:decide (u<48) with
  |true=>
   cases w:(!(u==95)) with
   |true=>exact .inl ⟨_,rfl,fun M _=>ruA [(26,.b true),(27,.e [.v (.int .u8 u)]),(30,.b true),(37,.b true),(45,.b true)] (pf5 (aH (j:=j) (k:=n) hj) hg a f w)⟩
   |false=>grind
  |false=>
   cases l:decide (57<u) with
   |true=>
    cases m:(!(u==95)) with
    |true=>exact .inl ⟨_,rfl,fun M _=>ruA [(26,.b true),(27,.e [.v (.int .u8 u)]),(30,.b true),(37,.b false),(40,.b true),(45,.b true)] (pf6 (aH (j:=j) (k:=n) hj) hg a f l m)⟩
    |false=>exact .inr ⟨naH s n (j+1),by kernel_rfl,fun M _=>ruA [(26,.b true),(27,.e [.v (.int .u8 u)]),(30,.b true),(37,.b false),(40,.b true),(45,.b false),(47,.i (Int.ofNat (j+1)))] (pf7 (aH (j:=j) (k:=n) hj) hg a f l m (ay (j:=j) (by omega)))⟩
   |false=>exact .inr ⟨naH s n (j+1),by kernel_rfl,fun M _=>ruA [(26,.b true),(27,.e [.v (.int .u8 u)]),(30,.b true),(37,.b false),(40,.b false),(47,.i (Int.ofNat (j+1)))] (pf6 (aH (j:=j) (k:=n) hj) hg a f l (ay (j:=j) (by omega)))⟩
 |false=>
  cases q:decide (122<u) with
  |true=>
   cases y:decide (u<48) with
   |true=>grind
   |false=>
    cases A:decide (57<u) with
    |true=>
     cases h:(!(u==95)) with
     |true=>exact .inl ⟨_,rfl,fun M _=>ruA [(26,.b true),(27,.e [.v (.int .u8 u)]),(30,.b false),(33,.b true),(37,.b false),(40,.b true),(45,.b true)] (pf7 (aH (j:=j) (k:=n) hj) hg a q y A h)⟩
     |false=>grind
    |false=>grind
  |false=>exact .inr ⟨naH s n (j+1),by kernel_rfl,fun M _=>ruA [(26,.b true),(27,.e [.v (.int .u8 u)]),(30,.b false),(33,.b false),(47,.i (Int.ofNat (j+1)))] (pf5 (aH (j:=j) (k:=n) hj) hg a q (ay (j:=j) (by omega)))⟩
theorem size_pos {s:qaW}(h:(s.toList==(⟨#[]⟩:qaW).toList)=false):0<s.size:=by rcases Nat.eq_zero_or_pos s.size with h0|h0<;>simp_all
theorem WT (s:qaW)(hs:s.size<=60000):pI 60002 122 [strX s]:=by
 have y:(byteRow s).length=s.size:=by unfold byteRow;rw [qaB,Array.length_toList];rfl
 have:=scan (B:=0) (b:=loopAt 122 0) (H:=fun j=>naH s (byteRow s).length j) (τ:=naH s (byteRow s).length 0) (n:=(byteRow s).length) (e:=.exit 0) (fin:=⟨[(23,.sl false 1 (byteRow s)),(24,nat (byteRow s).length),(25,nat (byteRow s).length),(26,boolX false)],[]⟩) (fun r=>r=⟨[(2,boolX false)],[]⟩) (by kernel_rfl) (fun j w=>by
  grind[SI,WU])
  (fun M _=>ruA [(26,.b false)] (pf1 (aG (qas (byteRow s).length)))) (by simp)
 apply dK;cases f:(s.toList==(⟨#[]⟩:qaW).toList) with
 |true=>exact ⟨false,fun N m=>puA [(6,.b true)] (pf1 f) (boolX false)⟩
 |false=>
  cases l:decide (32<Int.ofNat s.size) with
  |true=>exact ⟨false,fun N m=>puA [(6,.b false),(10,.b true)] (pf2 f l) (boolX false)⟩
  |false=>
   have a:=size_pos f;cases q:decide ((((s[0]?).getD 0).toNat:Int)<97) with
   |true=>exact ⟨false,fun N m=>puA [(6,.b false),(10,.b false),(14,.at),(15,.b true)] (pf4 f l a q) (boolX false)⟩
   |false=>
    cases u:decide (122<(((s[0]?).getD 0).toNat:Int)) with
    |true=>exact ⟨false,fun N m=>puA [(6,.b false),(10,.b false),(14,.at),(15,.b false),(19,.at),(20,.b true)] (pf6 f l a q a u) (boolX false)⟩
    |false=>
     rcases this with ⟨r,rfl,h⟩|h;·exact ⟨false,fun N m=>puB [(6,.b false),(10,.b false),(14,.at),(15,.b false),(19,.at),(20,.b false)] [(.ret,⟨[(2,boolX false)],[]⟩)] (pf7 f l a q a u (h N (by omega) (by omega))) (boolX false)⟩
     exact ⟨true,fun N m=>puB [(6,.b false),(10,.b false),(14,.at),(15,.b false),(19,.at),(20,.b false)] [(.exit 0,⟨[(23,.sl false 1 (byteRow s)),(24,nat (byteRow s).length),(25,nat (byteRow s).length),(26,boolX false)],[]⟩)] (pf7 f l a q a u (h N (by omega) (by omega))) (boolX true)⟩
theorem Ja (s:qaW):pI 60002 122 [strX s]:=by
 by_cases j:s.size<=60000
 ·grind[WT]
 apply dK;have f:decide (32<Int.ofNat s.size)=true:=by simp;omega
 cases a:(s.toList==(⟨#[]⟩:qaW).toList) with
 |true=>exact ⟨false,fun N h=>puA [(6,.b true)] (pf1 a) (boolX false)⟩
 |false=>exact ⟨false,fun N h=>puA [(6,.b false),(10,.b true)] (pf2 a f) (boolX false)⟩
theorem zis (v:Val):kU 60003 169 [.agg v.cells]:=by
 obtain ⟨k,i,s,t,l,f⟩:=v;obtain ⟨b,a⟩:=Ja t;obtain ⟨c,m,n⟩:=uH (Int.ofNat (ah l).length) 1 3 (by decide);apply cu;cases b with
 |true=>
  cases h:(Int.ofNat (ah l).length==0) with
  |true=>exact ⟨4,by decide,fun N j=>puA [(6,.p (boolX true)),(12,.b true)] (pf2 (a N (by omega)) h) (num (4))⟩
  |false=>exact ⟨c,m,fun N j=>puA [(6,.p (boolX true)),(12,.b false),(16,.p (num c))] (pf3 (a N (by omega)) h (n N (by omega))) (num (c))⟩
 |false=>exact ⟨12,by decide,fun N j=>puA [(6,.p (boolX false))] (pf1 (a N (by omega))) (num (12))⟩
section
variable (k i s:Int) (t:qaW) (l f:qaV) (n j:Nat)
def reH:St:=⟨[(1,.ptr 0 0 0),(14,.sl false 7 f),(15,nat n),(16,nat j)],[.var [num k,num i,num s,strX t,.sl false 6 l,.sl false 7 f]]⟩
end
theorem yK {j:Nat}(h:j<4294967296):IntKind.i64.wrap (Int.ofNat (j+1)-1)=Int.ofNat j:=by grind[IntKind.wrap_i64]
theorem EP {j:Nat}:decide (0<Int.ofNat (j+1))=true:=by grind
theorem Td:decide (0<Int.ofNat 0)=false:=rfl
theorem ZR (k i s:Int)(t:qaW)(l:qaV)(f:List (qaW×Val))(j:Nat)(hl:f.length<=60000)(hj:j<f.length):
  (∃r,(∃c:Int,(0<=c/\c<=100)/\∃bx,r=⟨[(2,num c)],bx⟩)/\∀M,60002<=M->run (callF tab ext M) 0 M (loopAt 168 0) (reH k i s t l (au f) (au f).length j)=some (.ret,r))\/(∃υ,canon 0 υ=some (reH k i s t l (au f) (au f).length (j+1))/\∀M,60002<=M->run (callF tab ext M) 0 M (loopAt 168 0) (reH k i s t l (au f) (au f).length j)=some (.norm,υ)):=by
 have Y:=aT f;have H:=iC hj;obtain ⟨b,F⟩:=Ja f[j].1;generalize f[j]=p at H F;obtain ⟨a,m,n,u,w,y,A⟩:=p;have h:=aH (j:=j) (k:=(au f).length) (by omega);cases b with
 |false=>exact .inl ⟨⟨[(2,num 12)],[.var [num k,num i,num s,strX t,.sl false 6 l,.sl false 7 (au f)],.var (strX a::(Val.mk m n u w y A).cells)]⟩,⟨12,by decide,_,rfl⟩,fun M B=>ruA [(17,.b true),(19,.e (strX a::(Val.mk m n u w y A).cells)),(24,.p (boolX false))] (pf3 h H (F M B))⟩
 |true=>
  cases j with
  |zero=>exact .inr ⟨⟨[(1,.ptr 0 0 0),(14,.sl false 7 (au f)),(15,nat (au f).length),(16,nat (0+1))],[.var [num k,num i,num s,strX t,.sl false 6 l,.sl false 7 (au f)],.var (strX a::(Val.mk m n u w y A).cells)]⟩,by kernel_rfl,fun M B=>ruA [(17,.b true),(19,.e (strX a::(Val.mk m n u w y A).cells)),(24,.p (boolX true)),(28,.b false),(43,.b false),(56,.i (Int.ofNat (0+1)))] (pf6 h H (F M B) Td Td (ay (j:=0) (by omega)))⟩
  |succ j=>
   have V:j<f.length:=by omega
   have J:=iC V;generalize f[j]=q at J;obtain ⟨E,L,N,O,P,Q,S⟩:=q;cases U:(a.toList==E.toList) with
   |true=>exact .inl ⟨⟨[(2,num 7)],[.var [num k,num i,num s,strX t,.sl false 6 l,.sl false 7 (au f)],.var (strX a::(Val.mk m n u w y A).cells)]⟩,⟨7,by decide,_,rfl⟩,fun M B=>ruA [(17,.b true),(19,.e (strX a::(Val.mk m n u w y A).cells)),(24,.p (boolX true)),(28,.b true),(35,.i (Int.ofNat j)),(36,.e (strX E::(Val.mk L N O P Q S).cells)),(39,.b true)] (pf7 h H (F M B) (EP (j:=j)) (yK (j:=j) (by omega)) J U)⟩
   |false=>
    cases W:Op.bytesLess a.toList E.toList with
    |true=>exact .inl ⟨⟨[(2,num 24)],[.var [num k,num i,num s,strX t,.sl false 6 l,.sl false 7 (au f)],.var (strX a::(Val.mk m n u w y A).cells)]⟩,⟨24,by decide,_,rfl⟩,fun M B=>ruA [(17,.b true),(19,.e (strX a::(Val.mk m n u w y A).cells)),(24,.p (boolX true)),(28,.b true),(35,.i (Int.ofNat j)),(36,.e (strX E::(Val.mk L N O P Q S).cells)),(39,.b false),(43,.b true),(50,.i (Int.ofNat j)),(51,.e (strX E::(Val.mk L N O P Q S).cells)),(54,.b true)] (zp4 h H (F M B) (EP (j:=j)) (yK (j:=j) (by omega)) J U (EP (j:=j)) (yK (j:=j) (by omega)) J W)⟩
    |false=>exact .inr ⟨⟨[(1,.ptr 0 0 0),(14,.sl false 7 (au f)),(15,nat (au f).length),(16,nat ((j+1)+1))],[.var [num k,num i,num s,strX t,.sl false 6 l,.sl false 7 (au f)],.var (strX a::(Val.mk m n u w y A).cells)]⟩,by kernel_rfl,fun M B=>ruA [(17,.b true),(19,.e (strX a::(Val.mk m n u w y A).cells)),(24,.p (boolX true)),(28,.b true),(35,.i (Int.ofNat j)),(36,.e (strX E::(Val.mk L N O P Q S).cells)),(39,.b false),(43,.b true),(50,.i (Int.ofNat j)),(51,.e (strX E::(Val.mk L N O P Q S).cells)),(54,.b false),(56,.i (Int.ofNat ((j+1)+1)))] (zp3 h H (F M B) (EP (j:=j)) (yK (j:=j) (by omega)) J U (EP (j:=j)) (yK (j:=j) (by omega)) J W (ay (j:=(j+1)) (by omega)))⟩
theorem zdO (x:Int)(h:decide (64<x)=true)(N:Nat)(hN:2<=N):Gam.pureD (callF tab ext N) 162 [num x,num 64,num 9]=some (num 9):=by obtain ⟨M,rfl⟩:=pR_ N;exact puA [(9,.b true)] (pf1 h) (num 9)
theorem zit (v:Val):kU 60003 168 [.agg v.cells]:=by
 obtain ⟨k,i,s,t,l,f⟩:=v;have E:=aT f;by_cases F:f.length<=60000
 case neg=>
  have a:decide (64<Int.ofNat (au f).length)=true:=by
   have:64<Int.ofNat (au f).length:=by simp;omega
   exact decide_eq_true this
  apply cu;exact ⟨9,by decide,fun N m=>puA [(9,.p (num 9)),(11,.b true)] (pf2 (zdO _ a N (by omega)) (show (!((9:Int)==0))=true from rfl)) (num 9)⟩
 obtain ⟨c,w,q⟩:=uH (Int.ofNat (au f).length) 64 9 (by decide);have:=scan (B:=60002) (b:=loopAt 168 0) (H:=fun j=>reH k i s t (ah l) (au f) (au f).length j) (τ:=reH k i s t (ah l) (au f) (au f).length 0) (n:=(au f).length) (e:=.exit 0) (fin:=⟨[(1,.ptr 0 0 0),(14,.sl false 7 (au f)),(15,nat (au f).length),(16,nat (au f).length),(17,boolX false)],[.var [num k,num i,num s,strX t,.sl false 6 (ah l),.sl false 7 (au f)]]⟩) (fun r=>∃c:Int,(0<=c/\c<=100)/\∃bx,r=⟨[(2,num c)],bx⟩) (by kernel_rfl)
  (fun j A=>ZR k i s t (ah l) f j (by omega) (by omega))
  (fun M _=>ruA [(17,.b false)] (pf1 (aG (qas (au f).length)))) (by simp)
 apply cu;cases h:(!(c==0)) with
 |true=>exact ⟨c,w,fun N m=>puA [(9,.p (num c)),(11,.b true)] (pf2 (q N (by omega)) h) (num c)⟩
 |false=>
  rcases this with ⟨r,⟨d,y,bx,rfl⟩,u⟩|u;·exact ⟨d,y,fun N m=>puB [(9,.p (num c)),(11,.b false)] [(.ret,⟨[(2,num d)],bx⟩)] (pf3 (q N (by omega)) h (u N (by omega) (by omega))) (num d)⟩
  exact ⟨0,by decide,fun N m=>puB [(9,.p (num c)),(11,.b false)] [(.exit 0,⟨[(1,.ptr 0 0 0),(14,.sl false 7 (au f)),(15,nat (au f).length),(16,nat (au f).length),(17,boolX false)],[.var [num k,num i,num s,strX t,.sl false 6 (ah l),.sl false 7 (au f)]]⟩)] (pf3 (q N (by omega)) h (u N (by omega) (by omega))) (num 0)⟩
def Val.few:Val->Prop
 |.mk _ _ _ _ l f=>l.length<=2000000/\f.length<=2000000
mutual
def Val.wide:Val->Prop
 |.mk _ _ _ _ l f=>(l.length<=2000000/\f.length<=2000000)/\zX l/\xO f
def zX:List Val->Prop
 |[]=>True
 |v::r=>v.wide/\zX r
def xO:List (qaW×Val)->Prop
 |[]=>True
 |(_,v)::r=>v.wide/\xO r
end
theorem qZ {v:Val}:∀{l:List Val},zX l->v∈l->v.wide
 |u::r,h,hm=>by
  simp only [zX] at h;rcases qal.1 hm with rfl|hm
  ·grind
  exact qZ h.2 hm
theorem xM {p:qaW×Val}:∀{l:List (qaW×Val)},xO l->p∈l->p.2.wide
 |(n,u)::r,h,hm=>by
  simp only [xO] at h;rcases qal.1 hm with rfl|hm
  ·grind
  exact xM h.2 hm
theorem RV (h:v.wide):v.few:=by obtain ⟨k,i,s,t,l,f⟩:=v;simp only [Val.wide] at h;exact h.1
mutual
theorem PK:∀{v:Val},v.size<=2000000->v.wide
 |.mk k i s t l f,h=>by simp only [Val.size] at h;have:=gX l;have:=fM f;simp only [Val.wide];exact ⟨⟨by omega,by omega⟩,Tf (by omega),Ti (by omega)⟩
theorem Tf:∀{l:List Val},iZ l<=2000000->zX l
 |[],_=>by grind[zX]
 |v::r,h=>by simp only [iZ] at h;simp only [zX];exact ⟨PK (by omega),Tf (by omega)⟩
theorem Ti:∀{l:List (qaW×Val)},rV l<=2000000->xO l
 |[],_=>by grind[xO]
 |(n,v)::r,h=>by simp only [rV] at h;simp only [xO];exact ⟨PK (by omega),Ti (by omega)⟩
end
theorem oq (h:v.ok):v.wide:=by grind[PK,Val.ok]
theorem L6 {acc:qaV}(j i bytes:Nat)(h:j=acc.length)(hj:j<3000000)(hb:bytes<1000):0+j=acc.length/\cZ (j+1) bytes=true/\tC i []=false:=
 ⟨by omega,jd (by have:(j+1)*bytes<=3000000*1000:=Nat.mul_le_mul (by omega) (by omega);omega) (by omega),rfl⟩
def oP:Val->List Val
 |.mk k _ _ _ l f=>if k=8\/k=10 then l else if k=9 then f.map (·.2) else []
def paH (f acc:qaV)(n j:Nat):St:=⟨[(3,.bs 0 0 j),(16,.sl false 7 f),(17,nat n),(18,nat j)],[.row 6 acc]⟩
def zuv (f acc:qaV)(n j:Nat)(x y:List X):St:=⟨[(3,.bs 2 0 (j+1)),(16,.sl false 7 f),(17,nat n),(18,nat (j+1))],[.dead,.var x,.row 6 (acc++[y])]⟩
theorem Z7 (f acc:qaV)(n j:Nat)(x y:List X):canon 0 (zuv f acc n j x y)=some (paH f (acc++[y]) n (j+1)):=by kernel_rfl
theorem WI (N:Nat)(v:Val)(hv:v.few)(hN:v.size+10<=N):Gam.pureD (callF tab ext N) 213 [.agg v.cells]=some (.sl false 6 (ah (oP v))):=by
 obtain ⟨M,rfl⟩:=pR_ N;obtain ⟨k,i,s,t,l,f⟩:=v;simp only [Val.size] at hN;have hv:=hv.2;have W:=fM f;have S:=aT f;simp only [oP];cases h:(k==8) with
 |true=>
  have:k=8:=by simpa using h
  rw [if_pos (Or.inl this)];exact puA [(9,.b true)] (pf1 h) (.sl false 6 (ah l))
 |false=>
  have Z:k≠8:=by simpa using h
  cases m:(k==10) with
  |true=>
   have:k=10:=by simpa using m
   rw [if_pos (Or.inr this)];exact puA [(9,.b false),(10,.b true)] (pf2 h m) (.sl false 6 (ah l))
  |false=>
   have U:k≠10:=by simpa using m
   rw [if_neg (by grind)];cases u:(k==9) with
   |false=>
    have V:k≠9:=by simpa using u
    rw [if_neg V];exact puA [(9,.b false),(10,.b false),(14,.b false)] (pf3 h m u) (.sl true 6 [])
   |true=>
    have:k=9:=by simpa using u
    rw [if_pos this];have a:run (callF tab ext M) 0 M (.loop (loopAt 213 0)) ⟨[(3,.bs 1 0 0),(16,.sl false 7 (au f)),(17,nat (au f).length),(18,nat 0)],[.var (Val.mk k i s t l f).cells,.row 6 []]⟩=some (.exit 1,⟨[(3,.bs 0 0 (au f).length),(16,.sl false 7 (au f)),(17,nat (au f).length),(18,nat (au f).length),(19,boolX false)],[.row 6 (ah (f.map (·.2)))]⟩):=by
     refine aQ (σ:=fun j=>paH (au f) ((ah (f.map (·.2))).take j) (au f).length j) (k:=(au f).length) (by kernel_rfl) (fun j Y=>?_) ?_ (by simp) (by omega)
     ·have n:j<f.length:=by omega
      have L:=iC n;have w:(ah (f.map (·.2)))[j]?=some f[j].2.cells:=by rw [dN];simp [n]
      have y:=bM w;have q:j=((ah (f.map (·.2))).take j).length:=by rw [qai,aF,qaB];omega
      generalize f[j]=p at L y;obtain ⟨O,A,B,E,F,H,J⟩:=p;refine ⟨zuv (au f) ((ah (f.map (·.2))).take j) (au f).length j (strX O::(Val.mk A B E F H J).cells) (Val.mk A B E F H J).cells,ruA [(19,.b true),(20,.e (strX O::(Val.mk A B E F H J).cells)),(26,.app),(27,.i (Int.ofNat (j+1)))] (pf4 (aH (j:=j) (k:=(au f).length) (by omega)) L (L6 (acc:=(ah (f.map (·.2))).take j) j 0 88 q (by omega) (by omega)) (ay (j:=j) (by omega))),?_⟩
      grind[Z7]
     have y:(ah (f.map (·.2))).take (au f).length=ah (f.map (·.2)):=List.take_of_length_le (by grind[aF]);rw [y];exact ruA [(19,.b false)] (pf1 (aG (qas (au f).length)))
    have P:(X.bs 0 0 (au f).length).data [.row 6 (ah (f.map (·.2)))] false=some (.sl false 6 (ah (f.map (·.2)))):=by
     have Q:(ah (f.map (·.2))).length=(au f).length:=by rw [aF,qaB,S]
     simp only [X.data,rowOf,List.getElem?_cons_zero,Nat.zero_add,Q,Nat.le_refl,if_true,qam,List.drop_zero];rw [List.take_of_length_le (by omega)]
    exact pure_of [(9,.b false),(10,.b false),(14,.b true)] [(.exit 1,⟨[(3,.bs 0 0 (au f).length),(16,.sl false 7 (au f)),(17,nat (au f).length),(18,nat (au f).length),(19,boolX false)],[.row 6 (ah (f.map (·.2)))]⟩)]
     (pf4 h m u a) (bx:=[.row 6 (ah (f.map (·.2)))]) (by kernel_rfl) P
def Wy:C->List (C×C)
 |.seq a b|.cond _ a b=>Wy a++Wy b
 |.block _ b|.loop b=>Wy b
 |.rf _ _ _ a b=>(a,b)::(Wy a++Wy b)
 |_=>[]
noncomputable def zmE (f:Nat):C×C:=match tab f with
 |some fd=>(Wy fd.body).getD 0 (.skip,.skip)
 |none=>(.skip,.skip)
noncomputable def recC (st:LoopState)(p:Option Ex):Bx:=.loop st p [(2,.ptr 1 0 0),(3,.ptr 2 0 0),(4,.ptr 3 0 0)] [11,12] (zmE 81).1 (zmE 81).2
def vT:List X:=[.v .nilFunc,.fn 156 [],.fn 158 [],.fn 159 [],.fn 161 [],.fn 164 [],.fn 165 [],.fn 166 [],.fn 167 [],.fn 168 [],.fn 169 []]
noncomputable def goC (n:Nat):List Bx:=[recC .ready none,.var [num 0],.var vT,.var [nat n]]
noncomputable def zbS (c:Int)(n:Nat):List Bx:=[recC .done (some .ret),.var [num c],.var vT,.var [nat n]]
def Round (v:Val)(lev:Int)(n:Nat):Prop:=
 (∃c:Int,(0<=c/\c<=100)/\∀N,60010<=N->callF tab ext N .yl [.yl 0,num lev,.agg v.cells] (goC n)=some (boolX false,zbS c (n+1)))\/
 (n<=4096/\∀N,60010<=N->callF tab ext N .yl [.yl 0,num lev,.agg v.cells] (goC n)=some (boolX true,goC (n+1)))
theorem fH {lev:Int}{n:Nat}(h:(∃c:Int,(0<=c/\c<=100)/\∀N,60009<=N->callF tab ext (N+1) .yl [.yl 0,num lev,.agg v.cells] (goC n)=some (boolX false,zbS c (n+1)))\/
 (n<=4096/\∀N,60009<=N->callF tab ext (N+1) .yl [.yl 0,num lev,.agg v.cells] (goC n)=some (boolX true,goC (n+1)))):Round v lev n:=by
 rcases h with ⟨c,a,h⟩|⟨j,h⟩;·refine .inl ⟨c,a,fun N f=>?_⟩;obtain ⟨M,rfl⟩:=pR_ N<;>simp_all
 refine .inr ⟨j,fun N f=>?_⟩;obtain ⟨M,rfl⟩:=pR_ N<;>simp_all
theorem lU (v:Val)(N:Nat)(hN:60009<=N):Gam.pureD (callF tab ext N) 65 [.agg v.cells]=some (boolX (dU v)):=by obtain ⟨M,rfl⟩:=pR_ N<;>simp_all[yQ]
theorem jK {n:Nat}(h:decide (4096<Int.ofNat (n+1))=false):n<=4096:=by grind
theorem znR (i s:Int)(t:qaW)(l:List Val)(f:List (qaW×Val))(lev:Int)(n:Nat)(hn:n<4294967296):Round (Val.mk 1 i s t l f) lev n:=by
 obtain ⟨b,q⟩:=zqT i s t l f;obtain ⟨c,y,w⟩:=ziB (Val.mk 1 i s t l f);apply fH;cases h:decide (4096<Int.ofNat (n+1)) with
 |true=>exact .inl ⟨9,by decide,fun N a=>yiA [(14,.i (Int.ofNat (n+1))),(17,.b true)] (pf2 (ay (j:=n) hn) h)⟩
 |false=>
  cases m:decide (8<lev) with
  |true=>exact .inl ⟨23,by decide,fun N a=>yiA [(14,.i (Int.ofNat (n+1))),(17,.b false),(20,.b true)] (pf3 (ay (j:=n) hn) h m)⟩
  |false=>
   have hz:=lU (Val.mk 1 i s t l f);generalize dU (Val.mk 1 i s t l f)=z at hz;cases z with
   |true=>exact .inl ⟨19,by decide,fun N a=>yiA [(14,.i (Int.ofNat (n+1))),(17,.b false),(20,.b false),(23,.p (boolX true))] (pf4 (ay (j:=n) hn) h m (hz N a))⟩
   |false=>
    cases b with
    |true=>
     cases u:(!(c==0)) with
     |true=>exact .inl ⟨c,y,fun N a=>yiA [(14,.i (Int.ofNat (n+1))),(17,.b false),(20,.b false),(23,.p (boolX false)),(35,.p (boolX true)),(42,.p (num c)),(44,.b true)] (pf7 (ay (j:=n) hn) h m (hz N a) (q N (by omega)) (w N (by omega)) u)⟩
     |false=>exact .inr ⟨jK h,fun N a=>yiA [(14,.i (Int.ofNat (n+1))),(17,.b false),(20,.b false),(23,.p (boolX false)),(35,.p (boolX true)),(42,.p (num c)),(44,.b false)] (pf7 (ay (j:=n) hn) h m (hz N a) (q N (by omega)) (w N (by omega)) u)⟩
    |false=>exact .inl ⟨3,by decide,fun N a=>yiA [(14,.i (Int.ofNat (n+1))),(17,.b false),(20,.b false),(23,.p (boolX false)),(35,.p (boolX false))] (pf5 (ay (j:=n) hn) h m (hz N a) (q N (by omega)))⟩
theorem znQ (i s:Int)(t:qaW)(l:List Val)(f:List (qaW×Val))(lev:Int)(n:Nat)(hn:n<4294967296):Round (Val.mk 2 i s t l f) lev n:=by
 obtain ⟨b,q⟩:=zqS i s t l f;obtain ⟨c,y,w⟩:=ziA (Val.mk 2 i s t l f);apply fH;cases h:decide (4096<Int.ofNat (n+1)) with
 |true=>exact .inl ⟨9,by decide,fun N a=>yiA [(14,.i (Int.ofNat (n+1))),(17,.b true)] (pf2 (ay (j:=n) hn) h)⟩
 |false=>
  cases m:decide (8<lev) with
  |true=>exact .inl ⟨23,by decide,fun N a=>yiA [(14,.i (Int.ofNat (n+1))),(17,.b false),(20,.b true)] (pf3 (ay (j:=n) hn) h m)⟩
  |false=>
   have hz:=lU (Val.mk 2 i s t l f);generalize dU (Val.mk 2 i s t l f)=z at hz;cases z with
   |true=>exact .inl ⟨19,by decide,fun N a=>yiA [(14,.i (Int.ofNat (n+1))),(17,.b false),(20,.b false),(23,.p (boolX true))] (pf4 (ay (j:=n) hn) h m (hz N a))⟩
   |false=>
    cases b with
    |true=>
     cases u:(!(c==0)) with
     |true=>exact .inl ⟨c,y,fun N a=>yiA [(14,.i (Int.ofNat (n+1))),(17,.b false),(20,.b false),(23,.p (boolX false)),(35,.p (boolX true)),(42,.p (num c)),(44,.b true)] (pf7 (ay (j:=n) hn) h m (hz N a) (q N (by omega)) (w N (by omega)) u)⟩
     |false=>exact .inr ⟨jK h,fun N a=>yiA [(14,.i (Int.ofNat (n+1))),(17,.b false),(20,.b false),(23,.p (boolX false)),(35,.p (boolX true)),(42,.p (num c)),(44,.b false)] (pf7 (ay (j:=n) hn) h m (hz N a) (q N (by omega)) (w N (by omega)) u)⟩
    |false=>exact .inl ⟨3,by decide,fun N a=>yiA [(14,.i (Int.ofNat (n+1))),(17,.b false),(20,.b false),(23,.p (boolX false)),(35,.p (boolX false))] (pf5 (ay (j:=n) hn) h m (hz N a) (q N (by omega)))⟩
theorem znP (i s:Int)(t:qaW)(l:List Val)(f:List (qaW×Val))(lev:Int)(n:Nat)(hn:n<4294967296):Round (Val.mk 3 i s t l f) lev n:=by
 obtain ⟨b,q⟩:=zqR i s t l f;obtain ⟨c,y,w⟩:=ziz (Val.mk 3 i s t l f);apply fH;cases h:decide (4096<Int.ofNat (n+1)) with
 |true=>exact .inl ⟨9,by decide,fun N a=>yiA [(14,.i (Int.ofNat (n+1))),(17,.b true)] (pf2 (ay (j:=n) hn) h)⟩
 |false=>
  cases m:decide (8<lev) with
  |true=>exact .inl ⟨23,by decide,fun N a=>yiA [(14,.i (Int.ofNat (n+1))),(17,.b false),(20,.b true)] (pf3 (ay (j:=n) hn) h m)⟩
  |false=>
   have hz:=lU (Val.mk 3 i s t l f);generalize dU (Val.mk 3 i s t l f)=z at hz;cases z with
   |true=>exact .inl ⟨19,by decide,fun N a=>yiA [(14,.i (Int.ofNat (n+1))),(17,.b false),(20,.b false),(23,.p (boolX true))] (pf4 (ay (j:=n) hn) h m (hz N a))⟩
   |false=>
    cases b with
    |true=>
     cases u:(!(c==0)) with
     |true=>exact .inl ⟨c,y,fun N a=>yiA [(14,.i (Int.ofNat (n+1))),(17,.b false),(20,.b false),(23,.p (boolX false)),(35,.p (boolX true)),(42,.p (num c)),(44,.b true)] (pf7 (ay (j:=n) hn) h m (hz N a) (q N (by omega)) (w N (by omega)) u)⟩
     |false=>exact .inr ⟨jK h,fun N a=>yiA [(14,.i (Int.ofNat (n+1))),(17,.b false),(20,.b false),(23,.p (boolX false)),(35,.p (boolX true)),(42,.p (num c)),(44,.b false)] (pf7 (ay (j:=n) hn) h m (hz N a) (q N (by omega)) (w N (by omega)) u)⟩
    |false=>exact .inl ⟨3,by decide,fun N a=>yiA [(14,.i (Int.ofNat (n+1))),(17,.b false),(20,.b false),(23,.p (boolX false)),(35,.p (boolX false))] (pf5 (ay (j:=n) hn) h m (hz N a) (q N (by omega)))⟩
theorem znO (i s:Int)(t:qaW)(l:List Val)(f:List (qaW×Val))(lev:Int)(n:Nat)(hn:n<4294967296):Round (Val.mk 4 i s t l f) lev n:=by
 obtain ⟨b,q⟩:=zqQ i s t l f;obtain ⟨c,y,w⟩:=ziy (Val.mk 4 i s t l f);apply fH;cases h:decide (4096<Int.ofNat (n+1)) with
 |true=>exact .inl ⟨9,by decide,fun N a=>yiA [(14,.i (Int.ofNat (n+1))),(17,.b true)] (pf2 (ay (j:=n) hn) h)⟩
 |false=>
  cases m:decide (8<lev) with
  |true=>exact .inl ⟨23,by decide,fun N a=>yiA [(14,.i (Int.ofNat (n+1))),(17,.b false),(20,.b true)] (pf3 (ay (j:=n) hn) h m)⟩
  |false=>
   have hz:=lU (Val.mk 4 i s t l f);generalize dU (Val.mk 4 i s t l f)=z at hz;cases z with
   |true=>exact .inl ⟨19,by decide,fun N a=>yiA [(14,.i (Int.ofNat (n+1))),(17,.b false),(20,.b false),(23,.p (boolX true))] (pf4 (ay (j:=n) hn) h m (hz N a))⟩
   |false=>
    cases b with
    |true=>
     cases u:(!(c==0)) with
     |true=>exact .inl ⟨c,y,fun N a=>yiA [(14,.i (Int.ofNat (n+1))),(17,.b false),(20,.b false),(23,.p (boolX false)),(35,.p (boolX true)),(42,.p (num c)),(44,.b true)] (pf7 (ay (j:=n) hn) h m (hz N a) (q N (by omega)) (w N (by omega)) u)⟩
     |false=>exact .inr ⟨jK h,fun N a=>yiA [(14,.i (Int.ofNat (n+1))),(17,.b false),(20,.b false),(23,.p (boolX false)),(35,.p (boolX true)),(42,.p (num c)),(44,.b false)] (pf7 (ay (j:=n) hn) h m (hz N a) (q N (by omega)) (w N (by omega)) u)⟩
    |false=>exact .inl ⟨3,by decide,fun N a=>yiA [(14,.i (Int.ofNat (n+1))),(17,.b false),(20,.b false),(23,.p (boolX false)),(35,.p (boolX false))] (pf5 (ay (j:=n) hn) h m (hz N a) (q N (by omega)))⟩
theorem znN (i s:Int)(t:qaW)(l:List Val)(f:List (qaW×Val))(lev:Int)(n:Nat)(hn:n<4294967296):Round (Val.mk 5 i s t l f) lev n:=by
 obtain ⟨b,q⟩:=zqP i s t l f;obtain ⟨c,y,w⟩:=zix (Val.mk 5 i s t l f);apply fH;cases h:decide (4096<Int.ofNat (n+1)) with
 |true=>exact .inl ⟨9,by decide,fun N a=>yiA [(14,.i (Int.ofNat (n+1))),(17,.b true)] (pf2 (ay (j:=n) hn) h)⟩
 |false=>
  cases m:decide (8<lev) with
  |true=>exact .inl ⟨23,by decide,fun N a=>yiA [(14,.i (Int.ofNat (n+1))),(17,.b false),(20,.b true)] (pf3 (ay (j:=n) hn) h m)⟩
  |false=>
   have hz:=lU (Val.mk 5 i s t l f);generalize dU (Val.mk 5 i s t l f)=z at hz;cases z with
   |true=>exact .inl ⟨19,by decide,fun N a=>yiA [(14,.i (Int.ofNat (n+1))),(17,.b false),(20,.b false),(23,.p (boolX true))] (pf4 (ay (j:=n) hn) h m (hz N a))⟩
   |false=>
    cases b with
    |true=>
     cases u:(!(c==0)) with
     |true=>exact .inl ⟨c,y,fun N a=>yiA [(14,.i (Int.ofNat (n+1))),(17,.b false),(20,.b false),(23,.p (boolX false)),(35,.p (boolX true)),(42,.p (num c)),(44,.b true)] (pf7 (ay (j:=n) hn) h m (hz N a) (q N (by omega)) (w N (by omega)) u)⟩
     |false=>exact .inr ⟨jK h,fun N a=>yiA [(14,.i (Int.ofNat (n+1))),(17,.b false),(20,.b false),(23,.p (boolX false)),(35,.p (boolX true)),(42,.p (num c)),(44,.b false)] (pf7 (ay (j:=n) hn) h m (hz N a) (q N (by omega)) (w N (by omega)) u)⟩
    |false=>exact .inl ⟨3,by decide,fun N a=>yiA [(14,.i (Int.ofNat (n+1))),(17,.b false),(20,.b false),(23,.p (boolX false)),(35,.p (boolX false))] (pf5 (ay (j:=n) hn) h m (hz N a) (q N (by omega)))⟩
theorem znM (i s:Int)(t:qaW)(l:List Val)(f:List (qaW×Val))(lev:Int)(n:Nat)(hn:n<4294967296):Round (Val.mk 6 i s t l f) lev n:=by
 obtain ⟨b,q⟩:=zqO i s t l f;obtain ⟨c,y,w⟩:=ziw (Val.mk 6 i s t l f);apply fH;cases h:decide (4096<Int.ofNat (n+1)) with
 |true=>exact .inl ⟨9,by decide,fun N a=>yiA [(14,.i (Int.ofNat (n+1))),(17,.b true)] (pf2 (ay (j:=n) hn) h)⟩
 |false=>
  cases m:decide (8<lev) with
  |true=>exact .inl ⟨23,by decide,fun N a=>yiA [(14,.i (Int.ofNat (n+1))),(17,.b false),(20,.b true)] (pf3 (ay (j:=n) hn) h m)⟩
  |false=>
   have hz:=lU (Val.mk 6 i s t l f);generalize dU (Val.mk 6 i s t l f)=z at hz;cases z with
   |true=>exact .inl ⟨19,by decide,fun N a=>yiA [(14,.i (Int.ofNat (n+1))),(17,.b false),(20,.b false),(23,.p (boolX true))] (pf4 (ay (j:=n) hn) h m (hz N a))⟩
   |false=>
    cases b with
    |true=>
     cases u:(!(c==0)) with
     |true=>exact .inl ⟨c,y,fun N a=>yiA [(14,.i (Int.ofNat (n+1))),(17,.b false),(20,.b false),(23,.p (boolX false)),(35,.p (boolX true)),(42,.p (num c)),(44,.b true)] (pf7 (ay (j:=n) hn) h m (hz N a) (q N (by omega)) (w N (by omega)) u)⟩
     |false=>exact .inr ⟨jK h,fun N a=>yiA [(14,.i (Int.ofNat (n+1))),(17,.b false),(20,.b false),(23,.p (boolX false)),(35,.p (boolX true)),(42,.p (num c)),(44,.b false)] (pf7 (ay (j:=n) hn) h m (hz N a) (q N (by omega)) (w N (by omega)) u)⟩
    |false=>exact .inl ⟨3,by decide,fun N a=>yiA [(14,.i (Int.ofNat (n+1))),(17,.b false),(20,.b false),(23,.p (boolX false)),(35,.p (boolX false))] (pf5 (ay (j:=n) hn) h m (hz N a) (q N (by omega)))⟩
theorem znL (i s:Int)(t:qaW)(l:List Val)(f:List (qaW×Val))(lev:Int)(n:Nat)(hn:n<4294967296):Round (Val.mk 7 i s t l f) lev n:=by
 obtain ⟨b,q⟩:=zqN i s t l f;obtain ⟨c,y,w⟩:=ziv (Val.mk 7 i s t l f);apply fH;cases h:decide (4096<Int.ofNat (n+1)) with
 |true=>exact .inl ⟨9,by decide,fun N a=>yiA [(14,.i (Int.ofNat (n+1))),(17,.b true)] (pf2 (ay (j:=n) hn) h)⟩
 |false=>
  cases m:decide (8<lev) with
  |true=>exact .inl ⟨23,by decide,fun N a=>yiA [(14,.i (Int.ofNat (n+1))),(17,.b false),(20,.b true)] (pf3 (ay (j:=n) hn) h m)⟩
  |false=>
   have hz:=lU (Val.mk 7 i s t l f);generalize dU (Val.mk 7 i s t l f)=z at hz;cases z with
   |true=>exact .inl ⟨19,by decide,fun N a=>yiA [(14,.i (Int.ofNat (n+1))),(17,.b false),(20,.b false),(23,.p (boolX true))] (pf4 (ay (j:=n) hn) h m (hz N a))⟩
   |false=>
    cases b with
    |true=>
     cases u:(!(c==0)) with
     |true=>exact .inl ⟨c,y,fun N a=>yiA [(14,.i (Int.ofNat (n+1))),(17,.b false),(20,.b false),(23,.p (boolX false)),(35,.p (boolX true)),(42,.p (num c)),(44,.b true)] (pf7 (ay (j:=n) hn) h m (hz N a) (q N (by omega)) (w N (by omega)) u)⟩
     |false=>exact .inr ⟨jK h,fun N a=>yiA [(14,.i (Int.ofNat (n+1))),(17,.b false),(20,.b false),(23,.p (boolX false)),(35,.p (boolX true)),(42,.p (num c)),(44,.b false)] (pf7 (ay (j:=n) hn) h m (hz N a) (q N (by omega)) (w N (by omega)) u)⟩
    |false=>exact .inl ⟨3,by decide,fun N a=>yiA [(14,.i (Int.ofNat (n+1))),(17,.b false),(20,.b false),(23,.p (boolX false)),(35,.p (boolX false))] (pf5 (ay (j:=n) hn) h m (hz N a) (q N (by omega)))⟩
theorem znK (i s:Int)(t:qaW)(l:List Val)(f:List (qaW×Val))(lev:Int)(n:Nat)(hn:n<4294967296):Round (Val.mk 8 i s t l f) lev n:=by
 obtain ⟨b,q⟩:=zqM i s t l f;obtain ⟨c,y,w⟩:=ziu (Val.mk 8 i s t l f);apply fH;cases h:decide (4096<Int.ofNat (n+1)) with
 |true=>exact .inl ⟨9,by decide,fun N a=>yiA [(14,.i (Int.ofNat (n+1))),(17,.b true)] (pf2 (ay (j:=n) hn) h)⟩
 |false=>
  cases m:decide (8<lev) with
  |true=>exact .inl ⟨23,by decide,fun N a=>yiA [(14,.i (Int.ofNat (n+1))),(17,.b false),(20,.b true)] (pf3 (ay (j:=n) hn) h m)⟩
  |false=>
   have hz:=lU (Val.mk 8 i s t l f);generalize dU (Val.mk 8 i s t l f)=z at hz;cases z with
   |true=>exact .inl ⟨19,by decide,fun N a=>yiA [(14,.i (Int.ofNat (n+1))),(17,.b false),(20,.b false),(23,.p (boolX true))] (pf4 (ay (j:=n) hn) h m (hz N a))⟩
   |false=>
    cases b with
    |true=>
     cases u:(!(c==0)) with
     |true=>exact .inl ⟨c,y,fun N a=>yiA [(14,.i (Int.ofNat (n+1))),(17,.b false),(20,.b false),(23,.p (boolX false)),(35,.p (boolX true)),(42,.p (num c)),(44,.b true)] (pf7 (ay (j:=n) hn) h m (hz N a) (q N (by omega)) (w N (by omega)) u)⟩
     |false=>exact .inr ⟨jK h,fun N a=>yiA [(14,.i (Int.ofNat (n+1))),(17,.b false),(20,.b false),(23,.p (boolX false)),(35,.p (boolX true)),(42,.p (num c)),(44,.b false)] (pf7 (ay (j:=n) hn) h m (hz N a) (q N (by omega)) (w N (by omega)) u)⟩
    |false=>exact .inl ⟨3,by decide,fun N a=>yiA [(14,.i (Int.ofNat (n+1))),(17,.b false),(20,.b false),(23,.p (boolX false)),(35,.p (boolX false))] (pf5 (ay (j:=n) hn) h m (hz N a) (q N (by omega)))⟩
theorem znJ (i s:Int)(t:qaW)(l:List Val)(f:List (qaW×Val))(lev:Int)(n:Nat)(hn:n<4294967296):Round (Val.mk 9 i s t l f) lev n:=by
 obtain ⟨b,q⟩:=zqL i s t l f;obtain ⟨c,y,w⟩:=zit (Val.mk 9 i s t l f);apply fH;cases h:decide (4096<Int.ofNat (n+1)) with
 |true=>exact .inl ⟨9,by decide,fun N a=>yiA [(14,.i (Int.ofNat (n+1))),(17,.b true)] (pf2 (ay (j:=n) hn) h)⟩
 |false=>
  cases m:decide (8<lev) with
  |true=>exact .inl ⟨23,by decide,fun N a=>yiA [(14,.i (Int.ofNat (n+1))),(17,.b false),(20,.b true)] (pf3 (ay (j:=n) hn) h m)⟩
  |false=>
   have hz:=lU (Val.mk 9 i s t l f);generalize dU (Val.mk 9 i s t l f)=z at hz;cases z with
   |true=>exact .inl ⟨19,by decide,fun N a=>yiA [(14,.i (Int.ofNat (n+1))),(17,.b false),(20,.b false),(23,.p (boolX true))] (pf4 (ay (j:=n) hn) h m (hz N a))⟩
   |false=>
    cases b with
    |true=>
     cases u:(!(c==0)) with
     |true=>exact .inl ⟨c,y,fun N a=>yiA [(14,.i (Int.ofNat (n+1))),(17,.b false),(20,.b false),(23,.p (boolX false)),(35,.p (boolX true)),(42,.p (num c)),(44,.b true)] (pf7 (ay (j:=n) hn) h m (hz N a) (q N (by omega)) (w N (by omega)) u)⟩
     |false=>exact .inr ⟨jK h,fun N a=>yiA [(14,.i (Int.ofNat (n+1))),(17,.b false),(20,.b false),(23,.p (boolX false)),(35,.p (boolX true)),(42,.p (num c)),(44,.b false)] (pf7 (ay (j:=n) hn) h m (hz N a) (q N (by omega)) (w N (by omega)) u)⟩
    |false=>exact .inl ⟨3,by decide,fun N a=>yiA [(14,.i (Int.ofNat (n+1))),(17,.b false),(20,.b false),(23,.p (boolX false)),(35,.p (boolX false))] (pf5 (ay (j:=n) hn) h m (hz N a) (q N (by omega)))⟩
theorem ziE (i s:Int)(t:qaW)(l:List Val)(f:List (qaW×Val))(lev:Int)(n:Nat)(hn:n<4294967296):Round (Val.mk 10 i s t l f) lev n:=by
 obtain ⟨b,q⟩:=zm2 i s t l f;obtain ⟨c,y,w⟩:=zis (Val.mk 10 i s t l f);apply fH;cases h:decide (4096<Int.ofNat (n+1)) with
 |true=>exact .inl ⟨9,by decide,fun N a=>yiA [(14,.i (Int.ofNat (n+1))),(17,.b true)] (pf2 (ay (j:=n) hn) h)⟩
 |false=>
  cases m:decide (8<lev) with
  |true=>exact .inl ⟨23,by decide,fun N a=>yiA [(14,.i (Int.ofNat (n+1))),(17,.b false),(20,.b true)] (pf3 (ay (j:=n) hn) h m)⟩
  |false=>
   have hz:=lU (Val.mk 10 i s t l f);generalize dU (Val.mk 10 i s t l f)=z at hz;cases z with
   |true=>exact .inl ⟨19,by decide,fun N a=>yiA [(14,.i (Int.ofNat (n+1))),(17,.b false),(20,.b false),(23,.p (boolX true))] (pf4 (ay (j:=n) hn) h m (hz N a))⟩
   |false=>
    cases b with
    |true=>
     cases u:(!(c==0)) with
     |true=>exact .inl ⟨c,y,fun N a=>yiA [(14,.i (Int.ofNat (n+1))),(17,.b false),(20,.b false),(23,.p (boolX false)),(35,.p (boolX true)),(42,.p (num c)),(44,.b true)] (pf7 (ay (j:=n) hn) h m (hz N a) (q N (by omega)) (w N (by omega)) u)⟩
     |false=>exact .inr ⟨jK h,fun N a=>yiA [(14,.i (Int.ofNat (n+1))),(17,.b false),(20,.b false),(23,.p (boolX false)),(35,.p (boolX true)),(42,.p (num c)),(44,.b false)] (pf7 (ay (j:=n) hn) h m (hz N a) (q N (by omega)) (w N (by omega)) u)⟩
    |false=>exact .inl ⟨3,by decide,fun N a=>yiA [(14,.i (Int.ofNat (n+1))),(17,.b false),(20,.b false),(23,.p (boolX false)),(35,.p (boolX false))] (pf5 (ay (j:=n) hn) h m (hz N a) (q N (by omega)))⟩
theorem Qe (v:Val)(lev:Int)(n:Nat)(hn:n<4294967296):Round v lev n:=by
 obtain ⟨k,i,s,t,l,f⟩:=v;by_cases h:1<=k/\k<=10
 ·have:k=1\/k=2\/k=3\/k=4\/k=5\/k=6\/k=7\/k=8\/k=9\/k=10:=by omega
  rcases this with rfl|rfl|rfl|rfl|rfl|rfl|rfl|rfl|rfl|rfl
  ·grind[znR]
  ·grind[znQ]
  ·grind[znP]
  ·grind[znO]
  ·grind[znN]
  ·grind[znM]
  ·grind[znL]
  ·grind[znK]
  ·grind[znJ]
  grind[ziE]
 apply fH;cases m:decide (4096<Int.ofNat (n+1)) with
 |true=>exact .inl ⟨9,by decide,fun N a=>yiA [(14,.i (Int.ofNat (n+1))),(17,.b true)] (pf2 (ay (j:=n) hn) m)⟩
 |false=>
  cases q:decide (8<lev) with
  |true=>exact .inl ⟨23,by decide,fun N a=>yiA [(14,.i (Int.ofNat (n+1))),(17,.b false),(20,.b true)] (pf3 (ay (j:=n) hn) m q)⟩
  |false=>
   have hz:=lU (Val.mk k i s t l f);generalize dU (Val.mk k i s t l f)=z at hz;cases z with
   |true=>exact .inl ⟨19,by decide,fun N a=>yiA [(14,.i (Int.ofNat (n+1))),(17,.b false),(20,.b false),(23,.p (boolX true))] (pf4 (ay (j:=n) hn) m q (hz N a))⟩
   |false=>
    cases u:decide (k<1) with
    |true=>exact .inl ⟨11,by decide,fun N a=>yiA [(14,.i (Int.ofNat (n+1))),(17,.b false),(20,.b false),(23,.p (boolX false)),(27,.b true)] (pf5 (ay (j:=n) hn) m q (hz N a) u)⟩
    |false=>
     cases w:decide (10<k) with
     |true=>exact .inl ⟨11,by decide,fun N a=>yiA [(14,.i (Int.ofNat (n+1))),(17,.b false),(20,.b false),(23,.p (boolX false)),(27,.b false),(31,.b true)] (pf6 (ay (j:=n) hn) m q (hz N a) u w)⟩
     |false=>grind
def Visit (v:Val)(lev n:Nat):Prop:=
 (∃(c:Int) (m:Nat),(0<=c/\c<=100)/\∀N,60020+v.size<=N->callF tab ext N (.fn 171) [.agg v.cells,nat lev,.yl 0] (goC n)=some (boolX false,zbS c m))\/
 (∃m:Nat,(n<=m/\m<=4097)/\∀N,60020+v.size<=N->callF tab ext N (.fn 171) [.agg v.cells,nat lev,.yl 0] (goC n)=some (boolX true,goC m))
section
variable (ps:qaV) (lev len j n m:Nat) (c:Int) (u:List X)
noncomputable def viH:St:=⟨[(1,nat lev),(2,.yl 0),(15,.sl false 6 ps),(16,nat len),(17,nat j)],goC n⟩
noncomputable def zpX:St:=⟨[(1,nat lev),(2,.yl 0),(15,.sl false 6 ps),(16,nat len),(17,nat j)],goC n++[.var u]⟩
noncomputable def viE:St:=⟨[(1,nat lev),(2,.yl 0),(15,.sl false 6 ps),(16,nat len),(17,nat j),(18,boolX false)],goC n⟩
theorem uG:canon 4 (viH ps lev len j n)=some (viH ps lev len j n):=by kernel_rfl
theorem xP:canon 4 (zpX ps lev len j n u)=some (viH ps lev len j n):=by kernel_rfl
end
theorem Il {B:Nat}(ps:List Val)(lev:Nat)(zuI:lev<=100000)(hl:ps.length<=2000000)(hv:∀u,u∈ps->60020+u.size<=B/\∀n,n<=4097->lev<=n->Visit u (lev+1) n):∀d j n,j+d=ps.length->n<=4097->lev<=n->
  (∃(c:Int) (m:Nat) (u:List X),(0<=c/\c<=100)/\∀M F,B<=M->d<F->iter 4 (run (callF tab ext M) 4 M (loopAt 171 0)) F (viH (ah ps) lev (ah ps).length j n)=some (.ret,⟨[(6,boolX false)],zbS c m++[.var u]⟩))\/
  (∃m:Nat,(n<=m/\m<=4097)/\∀M F,B<=M->d<F->iter 4 (run (callF tab ext M) 4 M (loopAt 171 0)) F (viH (ah ps) lev (ah ps).length j n)=some (.exit 0,viE (ah ps) lev (ah ps).length (ah ps).length m))
 |0,j,n,hj,hn,hln=>by
  have hc:=aF ps;have hj':j=(ah ps).length:=by omega
  subst hj';right;refine ⟨n,⟨Nat.le_refl _,hn⟩,fun M F _ hF=>?_⟩;obtain ⟨F',rfl⟩:∃F',F=F'+1:=⟨F-1,by omega⟩;exact bF (uG ..) (ruA [(18,.b false)] (pf1 (aG (qas (ah ps).length)))) (by simp)
 |d+1,j,n,hj,hn,hln=>by
  have hc:=aF ps;have hj':j<ps.length:=by omega
  have hg:=dR hj';obtain ⟨hB,hu⟩:=hv _ (qaf hj');have hu:=hu n hn hln;generalize ps[j]=u at hg hB hu;obtain ⟨u1,u2,u3,u4,u5,u6⟩:=u;have hlt:=aH (j:=j) (k:=(ah ps).length) (by omega);have hnx:=ay (j:=lev) (by omega);rcases hu with ⟨c,m,cr,h⟩|⟨m,⟨hnm,hm⟩,h⟩;·left;refine ⟨c,m,(Val.mk u1 u2 u3 u4 u5 u6).cells,cr,fun M F hM hF=>?_⟩;obtain ⟨F',rfl⟩:∃F',F=F'+1:=⟨F-1,by omega⟩;exact bF (uG ..) (ruA [(18,.b true),(19,.e (Val.mk u1 u2 u3 u4 u5 u6).cells),(23,.i (Int.ofNat (lev+1))),(25,.r (boolX false) (zbS c m))] (pf4 hlt hg hnx (h M (by omega)))) (by simp)
  have hs:∀M,B<=M->run (callF tab ext M) 4 M (loopAt 171 0) (viH (ah ps) lev (ah ps).length j n)=some (.norm,zpX (ah ps) lev (ah ps).length (j+1) m (Val.mk u1 u2 u3 u4 u5 u6).cells):=fun M hM=>ruA [(18,.b true),(19,.e (Val.mk u1 u2 u3 u4 u5 u6).cells),(23,.i (Int.ofNat (lev+1))),(25,.r (boolX true) (goC m)),(27,.i (Int.ofNat (j+1)))] (pf5 hlt hg hnx (h M (by omega)) (ay (j:=j) (by omega)));rcases Il ps lev zuI hl hv d (j+1) m (by omega) hm (by omega) with ⟨c,m',x,cr,h'⟩|⟨m',hm',h'⟩;·left;refine ⟨c,m',x,cr,fun M F hM hF=>?_⟩;obtain ⟨F',rfl⟩:∃F',F=F'+1:=⟨F-1,by omega⟩<;>simp_all[dV,uG,jF,xP]
  right;refine ⟨m',⟨by omega,hm'.2⟩,fun M F hM hF=>?_⟩;obtain ⟨F',rfl⟩:∃F',F=F'+1:=⟨F-1,by omega⟩<;>simp_all[dV,uG,jF,xP]
theorem Qq (v:Val):∀u,u∈oP v->u.size<v.size:=by
 obtain ⟨k,i,s,t,l,f⟩:=v;intro u a;simp only [oP] at a;simp only [Val.size];split at a;·have:=fD a;omega
 split at a;·obtain ⟨p,h,rfl⟩:=qah.1 a;have:=oD h;omega
 grind
theorem Kt (v:Val):(oP v).length<v.size:=by obtain ⟨k,i,s,t,l,f⟩:=v<;>grind[oP,Val.size,gX,fM]
theorem WJ (v:Val)(hv:v.wide):(oP v).length<=2000000/\∀u,u∈oP v->u.wide:=by
 obtain ⟨k,i,s,t,l,f⟩:=v;simp only [Val.wide] at hv;obtain ⟨⟨h,j⟩,m,n⟩:=hv;simp only [oP];split
 ·grind[qZ]
 split
 ·refine ⟨by grind,fun u a=>?_⟩;obtain ⟨p,q,rfl⟩:=qah.1 a
  grind[xM]
 grind
theorem Eh:∀(sz:Nat) (v:Val),v.size<=sz->v.wide->∀(lev n:Nat),lev<=n+1->n<=4097->Visit v lev n
 |0,.mk ..,h,_,_,_,_,_=>by grind[Val.size]
 |sz+1,v,h,hv,lev,n,zuI,hn=>by
  have hr:=Qe v (Int.ofNat lev) n (by omega);have hp:∀M,60019+v.size<=M->Gam.pureD (callF tab ext M) 213 [.agg v.cells]=some (.sl false 6 (ah (oP v))):=fun M hM=>WI M v (RV hv) (by omega);have hlen:=Kt v;have hfew:=WJ v hv;have hloop:∀n,n<=4097->lev<=n->_:=fun n hn hln=>Il (B:=60019+v.size) (oP v) lev (by omega) hfew.1 (fun u hu=>by have:=Qq v u hu;exact ⟨by omega,fun n hn hln=>Eh sz u (by omega) (hfew.2 u hu) (lev+1) n (by omega) hn⟩) (oP v).length 0 n (by omega) hn hln;generalize oP v=ps at hp hlen hloop;obtain ⟨k,i,s,t,l,f⟩:=v;rcases hr with ⟨c,cr,h⟩|⟨hn',h⟩;·refine .inl ⟨c,n+1,cr,fun N hN=>?_⟩;obtain ⟨M,rfl⟩:=pR_ N;exact caA [(12,.r (boolX false) (zbS c (n+1)))] (pf1 (h M (by omega)))
  rcases hloop (n+1) (by omega) (by omega) with ⟨c,m,u,cr,h'⟩|⟨m,hm,h'⟩
  ·refine .inl ⟨c,m,cr,fun N hN=>?_⟩;obtain ⟨M,rfl⟩:=pR_ N;have hl:run (callF tab ext M) 4 M (.loop (loopAt 171 0)) (zpX (ah ps) lev (ah ps).length 0 (n+1) (Val.mk k i s t l f).cells)=some (.ret,⟨[(6,boolX false)],zbS c m++[.var u]⟩):=by simp only [run];rw [jF (xP ..) (uG ..)];exact h' M M (by omega) (by omega)
   exact caB [(12,.r (boolX true) (goC (n+1))),(15,.p (.sl false 6 (ah ps)))] [(.ret,⟨[(6,boolX false)],zbS c m++[.var u]⟩)] (pf3 (h M (by omega)) (hp M (by omega)) hl)
  refine .inr ⟨m,⟨by omega,hm.2⟩,fun N hN=>?_⟩;obtain ⟨M,rfl⟩:=pR_ N;have hl:run (callF tab ext M) 4 M (.loop (loopAt 171 0)) (zpX (ah ps) lev (ah ps).length 0 (n+1) (Val.mk k i s t l f).cells)=some (.exit 0,viE (ah ps) lev (ah ps).length (ah ps).length m):=by simp only [run];rw [jF (xP ..) (uG ..)];exact h' M M (by omega) (by omega)
  exact caB [(12,.r (boolX true) (goC (n+1))),(15,.p (.sl false 6 (ah ps)))] [(.exit 0,viE (ah ps) lev (ah ps).length (ah ps).length m)] (pf3 (h M (by omega)) (hp M (by omega)) hl)
noncomputable def zq7 (v:List X):St:=⟨[(2,.ptr 1 0 0),(3,.ptr 2 0 0),(4,.ptr 3 0 0),(10,.fn 170 [.dp v])],[.var v,.var [num 0],.var vT,.var [num 0]]⟩
noncomputable def zd2 (v:List X)(c:Int)(m:Nat):St:=⟨(zq7 v).tm,[.var v,.var [num c],.var vT,.var [nat m],.dead]⟩
theorem Io (v:Val)(hv:v.wide):kU (60025+v.size) 81 [.agg v.cells]:=by
 have a:=Eh v.size v (Nat.le_refl _) hv 1 0 (by omega) (by omega);obtain ⟨k,i,s,t,l,f⟩:=v;generalize B:(Val.mk k i s t l f).size=sz at a;have j:∀N,3<=N->Gam.pureD (callF tab ext N) 114 [.agg (Val.mk k i s t l f).cells]=some (.fn 170 [.dp (Val.mk k i s t l f).cells]):=fun N A=>by obtain ⟨M,rfl⟩:=pR_ N;exact puA [] pf0 (.fn 170 [.dp (Val.mk k i s t l f).cells])
 have u:∀N,3<=N->Gam.pureD (callF tab ext N) 113 []=some (.agg vT):=fun N A=>by obtain ⟨M,rfl⟩:=pR_ N;exact puA [] pf0 (.agg vT)
 unfold Visit at a;rw [B] at a;rcases a with ⟨c,m,E,h⟩|⟨m,_,h⟩
 ·refine ⟨c,E,fun N A=>?_⟩;obtain ⟨M,rfl⟩:∃M,N=M+2:=⟨N-2,by omega⟩;have w:callF tab ext (M+1) (.fn 170) [.yl 0,.dp (Val.mk k i s t l f).cells] (goC 0)=some (.tup [],zbS c m):=
   caA [(5,.r (boolX false) (zbS c m))] (pf1 (h M (by omega)))
  have n:run (callF tab ext (M+1)) 0 (M+1) (.rf (.t 10) [11,12] [2,3,4] (zmE 81).1 (zmE 81).2) (zq7 (Val.mk k i s t l f).cells)=some (.ret,zd2 (Val.mk k i s t l f).cells c m):=
   Hq (g:=170) (caps:=[.dp (Val.mk k i s t l f).cells]) (y:=.tup []) (outb:=zbS c m)
    (q:=(.tup [],[.var (Val.mk k i s t l f).cells,.var [num c],.var vT,.var [nat m],recC .done (some .ret)],[4,1,2,3])) w (by kernel_rfl) (by kernel_rfl) (by kernel_rfl)
  exact puB [(8,.p (.agg vT)),(10,.p (.fn 170 [.dp (Val.mk k i s t l f).cells]))] [(.ret,zd2 (Val.mk k i s t l f).cells c m)] (pf3 (u (M+1) (by omega)) (j (M+1) (by omega)) n) (num c)
 refine ⟨0,by decide,fun N A=>?_⟩;obtain ⟨M,rfl⟩:∃M,N=M+2:=⟨N-2,by omega⟩;have w:callF tab ext (M+1) (.fn 170) [.yl 0,.dp (Val.mk k i s t l f).cells] (goC 0)=some (.tup [],goC m):=
  caA [(5,.r (boolX true) (goC m))] (pf1 (h M (by omega)))
 have n:run (callF tab ext (M+1)) 0 (M+1) (.rf (.t 10) [11,12] [2,3,4] (zmE 81).1 (zmE 81).2) (zq7 (Val.mk k i s t l f).cells)=some (.norm,zd2 (Val.mk k i s t l f).cells 0 m):=
  Hq (g:=170) (caps:=[.dp (Val.mk k i s t l f).cells]) (y:=.tup []) (outb:=goC m)
   (q:=(.tup [],[.var (Val.mk k i s t l f).cells,.var [num 0],.var vT,.var [nat m],recC .ready none],[4,1,2,3])) w (by kernel_rfl) (by kernel_rfl) (by kernel_rfl)
 exact puB [(8,.p (.agg vT)),(10,.p (.fn 170 [.dp (Val.mk k i s t l f).cells]))] [(.norm,zd2 (Val.mk k i s t l f).cells 0 m)] (pf3 (u (M+1) (by omega)) (j (M+1) (by omega)) n) (num 0)
theorem VD (v:Val)(hv:v.ok):kU (60025+v.size) 81 [.agg v.cells]:=Io v (oq hv)
end Go.Proofs.YtkeefpkcepodeaaGreatDoor
