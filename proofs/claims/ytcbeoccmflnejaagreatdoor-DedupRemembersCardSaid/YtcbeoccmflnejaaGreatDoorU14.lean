/-.-/
import Derived.Test.YtcbeoccmflnejaaGreatDoorU13
set_option linter.all false
namespace Go.Proofs.YtcbeoccmflnejaaGreatDoor
open Go.Em
set_option maxRecDepth 100000
variable {p:List Int}{args:List X}{B:Nat}{v:Val}
structure Otp where
 port:Int
 m:Msg
def Otp.cells (o:Otp):List X:=num o.port::o.m.cells
def wP (l:List Otp):qaW:=l.map Otp.cells
structure Fte where
 st:Stp
 kind:Int
 node:qaX
 into:List Stp
 text:qaX
def Fte.cells (f:Fte):List X:=[num f.st.e,.sl false 1 (aC f.st.p),num f.kind,strX f.node,.sl false 2 (gq f.into),strX f.text]
def ji (l:List Fte):qaW:=l.map Fte.cells
structure Ocm where
 s:Stt
 outs:List Otp
 Dh:List Fte
 letters:List Msg
def Ocm.cells (o:Ocm):List X:=[num o.s.n,num o.s.t,.sl false 10 (ak o.s.slots),.sl false 11 (wP o.outs),.sl false 11 [],.sl false 6 (ji o.Dh),.sl false 10 (aA o.letters)]
def Val.ok (v:Val):Prop:=v.size<=60000
structure Stp.ok (s:Stp):Prop where
 p:s.p.length<=60000
structure Msg.ok (m:Msg):Prop where
 st:m.st.ok
 orig:m.orig.length<=60000
 body:m.body.ok
structure Slt.ok (s:Slt):Prop where
 key:s.key.ok
 items:s.items.length<=60000
 item:∀m,m∈s.items->m.ok
 vals:s.vals.length<=60000
 val:∀v,v∈s.vals->v.ok
structure Stt.ok (s:Stt):Prop where
 slots:s.slots.length<=60000
 slot:∀x,x∈s.slots->x.ok
structure Fte.ok (f:Fte):Prop where
 st:f.st.ok
 len:f.into.length<=60000
 into:∀s,s∈f.into->s.ok
structure Ocm.ok (o:Ocm):Prop where
 s:o.s.ok
 ziA:o.outs.length<=60000
 outs:∀x,x∈o.outs->x.m.ok
 zfX:o.Dh.length<=60000
 Dh:∀x,x∈o.Dh->x.ok
 WH:o.letters.length<=60000
 letters:∀x,x∈o.letters->x.ok
theorem eq_self {α:Type}[BEq α][ReflBEq α](a:α):(a==a)=true:=BEq.rfl
theorem jF {k:Nat}:(!(Int.ofNat k==Int.ofNat k))=false:=by simp
theorem zjQ (M g:Nat)(l:List Val)(hr:∀a,a∈l->Gam.pureD (callF tab ext M) g [.agg a.cells,.agg a.cells]=some (boolX true))(hl:l.length<=60000)(hN:l.length<M):
  Gam.pureD (callF tab ext (M+1)) 95 [.sl false 6 (ah l),.sl false 6 (ah l),.fn g []]=some (boolX true):=by
 have F:=aK l;have h:run (callF tab ext M) 0 M (.loop (loopAt 95 0)) (zgw g (ah l) (ah l) (ah l).length 0)=some (.exit 0,zlr g (ah l) (ah l) (ah l).length (ah l).length):=by
  refine loop_for (σ:=fun j=>zgw g (ah l) (ah l) (ah l).length j) (k:=(ah l).length) (Ox _ _ _ _ _) (fun j E=>?_) ?_ (by simp) (by omega)
  ·have f:j<l.length:=by omega
   have A:=dN f;have B:=hr _ (qae f);generalize l[j]=a at A B;obtain ⟨m,n,q,u,w,y⟩:=a;exact ⟨⟨(zgw g (ah l) (ah l) (ah l).length (j+1)).tm,[.var (Val.mk m n q u w y).cells,.var (Val.mk m n q u w y).cells]⟩,ruA [(18,.b true),(20,.e (Val.mk m n q u w y).cells),(24,.e (Val.mk m n q u w y).cells),(29,.p (boolX true)),(31,.i (Int.ofNat (j+1)))] (pf5 (aI (j:=j) (k:=(ah l).length) (by omega)) A A B (ay (j:=j) (by omega))),by kernel_rfl⟩
  exact ruA [(18,.b false)] (pf1 (aG (qan (ah l).length)))
 exact puB [(14,.b false)] [(.exit 0,zlr g (ah l) (ah l) (ah l).length (ah l).length)] (pf2 (jF (k:=(ah l).length)) h) (boolX true)
theorem zjR (M g:Nat)(l:List Msg)(hr:∀a,a∈l->Gam.pureD (callF tab ext M) g [.agg a.cells,.agg a.cells]=some (boolX true))(hl:l.length<=60000)(hN:l.length<M):
  Gam.pureD (callF tab ext (M+1)) 94 [.sl false 10 (aA l),.sl false 10 (aA l),.fn g []]=some (boolX true):=by
 have N:=bF l;have h:run (callF tab ext M) 0 M (.loop (loopAt 94 0)) (zgx g (aA l) (aA l) (aA l).length 0)=some (.exit 0,zls g (aA l) (aA l) (aA l).length (aA l).length):=by
  refine loop_for (σ:=fun j=>zgx g (aA l) (aA l) (aA l).length j) (k:=(aA l).length) (Oy _ _ _ _ _) (fun j L=>?_) ?_ (by simp) (by omega)
  ·have f:j<l.length:=by omega
   have H:=kD f;have J:=hr _ (qae f);generalize l[j]=a at H J;obtain ⟨⟨n,q⟩,u,w,y,A,B,E,F,m⟩:=a;exact ⟨⟨(zgx g (aA l) (aA l) (aA l).length (j+1)).tm,[.var (Msg.mk ⟨n,q⟩ u w (Val.mk y A B E F m)).cells,.var (Msg.mk ⟨n,q⟩ u w (Val.mk y A B E F m)).cells]⟩,ruA [(18,.b true),(20,.e (Msg.mk ⟨n,q⟩ u w (Val.mk y A B E F m)).cells),(24,.e (Msg.mk ⟨n,q⟩ u w (Val.mk y A B E F m)).cells),(29,.p (boolX true)),(31,.i (Int.ofNat (j+1)))] (pf5 (aI (j:=j) (k:=(aA l).length) (by omega)) H H J (ay (j:=j) (by omega))),by kernel_rfl⟩
  exact ruA [(18,.b false)] (pf1 (aG (qan (aA l).length)))
 exact puB [(14,.b false)] [(.exit 0,zls g (aA l) (aA l) (aA l).length (aA l).length)] (pf2 (jF (k:=(aA l).length)) h) (boolX true)
theorem zgs (M g:Nat)(l:List Slt)(hr:∀a,a∈l->Gam.pureD (callF tab ext M) g [.agg a.cells,.agg a.cells]=some (boolX true))(hl:l.length<=60000)(hN:l.length<M):
  Gam.pureD (callF tab ext (M+1)) 49 [.sl false 10 (ak l),.sl false 10 (ak l),.fn g []]=some (boolX true):=by
 have N:=aN l;have h:run (callF tab ext M) 0 M (.loop (loopAt 49 0)) (zgy g (ak l) (ak l) (ak l).length 0)=some (.exit 0,zlt g (ak l) (ak l) (ak l).length (ak l).length):=by
  refine loop_for (σ:=fun j=>zgy g (ak l) (ak l) (ak l).length j) (k:=(ak l).length) (Oz _ _ _ _ _) (fun j L=>?_) ?_ (by simp) (by omega)
  ·have f:j<l.length:=by omega
   have H:=aW f;have J:=hr _ (qae f);generalize l[j]=a at H J;obtain ⟨⟨n,q,u,w,y,A⟩,B,E,F,m⟩:=a;exact ⟨⟨(zgy g (ak l) (ak l) (ak l).length (j+1)).tm,[.var (Slt.mk (Val.mk n q u w y A) B E F m).cells,.var (Slt.mk (Val.mk n q u w y A) B E F m).cells]⟩,ruA [(18,.b true),(20,.e (Slt.mk (Val.mk n q u w y A) B E F m).cells),(24,.e (Slt.mk (Val.mk n q u w y A) B E F m).cells),(29,.p (boolX true)),(31,.i (Int.ofNat (j+1)))] (pf5 (aI (j:=j) (k:=(ak l).length) (by omega)) H H J (ay (j:=j) (by omega))),by kernel_rfl⟩
  exact ruA [(18,.b false)] (pf1 (aG (qan (ak l).length)))
 exact puB [(14,.b false)] [(.exit 0,zlt g (ak l) (ak l) (ak l).length (ak l).length)] (pf2 (jF (k:=(ak l).length)) h) (boolX true)
theorem Bg (N:Nat)(v:Val)(h:v.ok)(hN:190000<=N):Gam.pureD (callF tab ext N) 51 [.agg v.cells,.agg v.cells]=some (boolX true):=by grind[Val.ok,zgu,kG]
theorem uU (N:Nat)(s:Stp)(h:s.ok)(hN:190000<=N):Gam.pureD (callF tab ext N) 74 [.agg s.cells,.agg s.cells]=some (boolX true):=by have:=h.p<;>grind[Lu,TT]
theorem Ro (N:Nat)(l:List Int)(h:l.length<=60000)(hN:190000<=N):Gam.pureD (callF tab ext N) 75 [.sl false 1 (aC l),.sl false 1 (aC l)]=some (boolX true):=by obtain ⟨M,rfl⟩:=pR_ N;rw [TB M l l (by omega) (by omega),LC (by simp)]
theorem pV (N:Nat)(m:Msg)(h:m.ok)(hN:190001<=N):Gam.pureD (callF tab ext N) 29 [.agg m.cells,.agg m.cells]=some (boolX true):=by obtain ⟨M,rfl⟩:=pR_ N;have f:=uU M m.st h.st (by omega);have j:=Ro M m.orig h.orig (by omega);have l:=Bg M m.body h.body (by omega);obtain ⟨⟨q,u⟩,a,w,y,A,B,E,F,n⟩:=m;exact puA [(9,.p (boolX true)),(15,.b true),(22,.p (boolX true)),(29,.p (boolX true))] (pf4 f (eq_self a) j l) (boolX true)
theorem BK (N:Nat)(s:Slt)(h:s.ok)(hN:190005<=N):Gam.pureD (callF tab ext N) 50 [.agg s.cells,.agg s.cells]=some (boolX true):=by obtain ⟨M,rfl⟩:∃M,N=M+2:=⟨N-2,by omega⟩;have J:=h.items;have L:=h.vals;have m:=Bg (M+1) s.key h.key (by omega);have n:=zjR M 29 s.items (fun a f=>pV M a (h.item a f) (by omega)) (by omega) (by omega);have q:=zjQ M 51 s.vals (fun a f=>Bg M a (h.val a f) (by omega)) (by omega) (by omega);obtain ⟨⟨w,y,A,B,E,F⟩,j,l,H,u⟩:=s;exact puA [(9,.p (boolX true)),(15,.b true),(22,.b true),(29,.p (boolX true)),(36,.p (boolX true))] (pf5 m (eq_self j) (eq_self l) n q) (boolX true)
theorem uo:∀l:List Int,intsOf (aC l)=some l
 |[]=>rfl
 |x::l=>by
  have h:=uo l;show (match intsOf (aC l) with
   |some l=>some (x::l)
   |none=>none)=some (x::l)
  rw [h]
theorem TW (N:Nat)(l:List Int)(hl:l.length<=60000):callF tab ext (N+1) (.fn 79) [.sl false 1 (aC l)] []=some (.bs 0 0 l.length,[.row 1 (aC l)]):=by show vJ [.sl false 1 (aC l)] []=_;unfold vJ;simp only [uo,if_pos (show l.length<=1000000 by omega)];rfl
theorem AO (N:Nat)(l:List Int)(hl:l.length<=60000):Gam.pureD (callF tab ext (N+1)) 79 [.sl false 1 (aC l)]=some (.sl false 1 (aC l)):=by simp_all[Gam.pureD,TW,X.data,rowOf,aX,List.take_of_length_le]
theorem yG (N:Nat)(s:Stp)(h:s.ok):Gam.pureD (callF tab ext (N+2)) 78 [.agg s.cells]=some (.agg s.cells):=
 puA [(7,.p (.sl false 1 (aC s.p)))] (pf1 (AO N s.p h.p)) (.agg s.cells)
theorem qF (N:Nat)(m:Msg)(h:m.ok)(hN:190001<=N):Gam.pureD (callF tab ext N) 34 [.agg m.cells]=some (.agg m.cells):=by obtain ⟨M,rfl⟩:∃M,N=M+3:=⟨N-3,by omega⟩;have B:=yG M m.st h.st;have E:=AO (M+1) m.orig h.orig;have H:=h.body;unfold Val.ok at H;have F:=jk (M+2) m.body (by omega) (by omega);obtain ⟨⟨f,j⟩,A,l,n,q,u,w,y,a⟩:=m;exact puA [(5,.p (.agg (Stp.mk f j).cells)),(10,.p (.sl false 1 (aC l))),(13,.p (.agg (Val.mk n q u w y a).cells))] (pf3 B E F) (.agg (Msg.mk ⟨f,j⟩ A l (Val.mk n q u w y a)).cells)
def MH:List X:=[num 0,num 0,num 0,noText,.sl true 6 [],.sl true 7 [],num 0,num 0,.sl true 10 [],.sl true 6 []]
section
variable (s items acc vals zeg:qaW) (n m k j:Nat)
variable (k0 i0 s0:Int) (t0:qaX) (l0 f0:qaW) (n0 d0:Int) (x:List X)
def csH:St:=⟨[(1,.ptr 0 0 0),(2,.ptr 1 0 0),(3,.bs 2 0 j),(14,.sl false 10 items),(15,nat n),(16,nat j)],[.var (aJ k0 i0 s0 t0 l0 f0 n0 d0 items vals),.var MH,.row 10 acc]⟩
def zlv:St:=⟨[(1,.ptr 0 0 0),(2,.ptr 1 0 0),(3,.bs 4 0 (j+1)),(14,.sl false 10 items),(15,nat n),(16,nat (j+1))],[.var (aJ k0 i0 s0 t0 l0 f0 n0 d0 items vals),.var MH,.dead,.var x,.row 10 (acc++[x])]⟩
def csE:St:=⟨[(1,.ptr 0 0 0),(2,.ptr 1 0 0),(3,.bs 2 0 j),(14,.sl false 10 items),(15,nat n),(16,nat j),(17,boolX false)],[.var (aJ k0 i0 s0 t0 l0 f0 n0 d0 items vals),.var MH,.row 10 acc]⟩
theorem Yq:canon 0 (csH items acc vals n j k0 i0 s0 t0 l0 f0 n0 d0)=some (csH items acc vals n j k0 i0 s0 t0 l0 f0 n0 d0):=by kernel_rfl
theorem TR:canon 0 (zlv items acc vals n j k0 i0 s0 t0 l0 f0 n0 d0 x)=some (csH items (acc++[x]) vals n (j+1) k0 i0 s0 t0 l0 f0 n0 d0):=by kernel_rfl
def cvH:St:=⟨[(1,.ptr 0 0 0),(2,.ptr 1 0 0),(3,.bs 2 0 m),(6,.bs 3 0 j),(31,.sl false 6 vals),(32,nat n),(33,nat j)],[.var (aJ k0 i0 s0 t0 l0 f0 n0 d0 items vals),.var MH,.row 10 acc,.row 6 zeg]⟩
def zlu:St:=⟨[(1,.ptr 0 0 0),(2,.ptr 1 0 0),(3,.bs 2 0 m),(6,.bs 5 0 (j+1)),(31,.sl false 6 vals),(32,nat n),(33,nat (j+1))],[.var (aJ k0 i0 s0 t0 l0 f0 n0 d0 items vals),.var MH,.row 10 acc,.dead,.var x,.row 6 (zeg++[x])]⟩
def cvE:St:=⟨[(1,.ptr 0 0 0),(2,.ptr 1 0 0),(3,.bs 2 0 m),(6,.bs 3 0 j),(31,.sl false 6 vals),(32,nat n),(33,nat j),(34,boolX false)],[.var (aJ k0 i0 s0 t0 l0 f0 n0 d0 items vals),.var MH,.row 10 acc,.row 6 zeg]⟩
theorem Ym:canon 0 (cvH items acc vals zeg n m j k0 i0 s0 t0 l0 f0 n0 d0)=some (cvH items acc vals zeg n m j k0 i0 s0 t0 l0 f0 n0 d0):=by kernel_rfl
theorem TQ:canon 0 (zlu items acc vals zeg n m j k0 i0 s0 t0 l0 f0 n0 d0 x)=some (cvH items acc vals (zeg++[x]) n m (j+1) k0 i0 s0 t0 l0 f0 n0 d0):=by kernel_rfl
end
theorem tJ (N:Nat)(s:Slt)(h:s.ok)(hN:190005<=N):callF tab ext N (.fn 84) [.agg s.cells] []=some (match s with
  |⟨.mk k i s t l f,n,d,ms,vs⟩=>(.agg [num k,num i,num s,strX t,.sl false 6 (ah l),.sl false 7 (aj f),num n,num d,.bs 0 0 (aA ms).length,.bs 1 0 (ah vs).length],[.row 10 (aA ms),.row 6 (ah vs)])):=by
 obtain ⟨M,rfl⟩:=pR_ N;have hi:=h.items;have hv:=h.vals;have hk:=h.key;have hit:=h.item;have V:=h.val;obtain ⟨⟨u,q,y,A,w,m⟩,F,E,ms,vs⟩:=s;have em:=bF ms;have ev:=aK vs;dsimp only at hi hv hk hit V;unfold Val.ok at hk;have pa:=jk M (Val.mk u q y A w m) (by omega) (by omega);have h1:run (callF tab ext M) 0 M (.loop (loopAt 84 0)) (csH (aA ms) [] (ah vs) (aA ms).length 0 u q y A (ah w) (aj m) F E)=some (.exit 0,csE (aA ms) (aA ms) (ah vs) (aA ms).length (aA ms).length u q y A (ah w) (aj m) F E):=by
  refine loop_for (σ:=fun j=>csH (aA ms) ((aA ms).take j) (ah vs) (aA ms).length j u q y A (ah w) (aj m) F E) (k:=(aA ms).length) (Yq ..) (fun j hj=>?_) ?_ (by simp) (by omega)
  ·have B:j<ms.length:=by omega
   have S:=kD B;have U:=qF M ms[j] (hit _ (qae B)) (by omega);have ht:=bI S;generalize ms[j]=a at S U ht;obtain ⟨⟨H,J⟩,L,O,P,Q,Y,Z,a9,W⟩:=a;refine ⟨zlv (aA ms) ((aA ms).take j) (ah vs) (aA ms).length j u q y A (ah w) (aj m) F E (Msg.mk ⟨H,J⟩ L O (Val.mk P Q Y Z a9 W)).cells,ruA [(17,.b true),(18,.e (Msg.mk ⟨H,J⟩ L O (Val.mk P Q Y Z a9 W)).cells),(22,.p (.agg (Msg.mk ⟨H,J⟩ L O (Val.mk P Q Y Z a9 W)).cells)),(24,.app),(25,.i (Int.ofNat (j+1)))] (pf5 (aI (j:=j) (k:=(aA ms).length) (by omega)) S U (aU (acc:=(aA ms).take j) j 2 152 (by grind) (by omega) (by omega)) (ay (j:=j) (by omega))),?_⟩
   grind[TR]
  rw [List.take_length];exact ruA [(17,.b false)] (pf1 (aG (qan (aA ms).length)))
 have h2:run (callF tab ext M) 0 M (.loop (loopAt 84 1)) (cvH (aA ms) (aA ms) (ah vs) [] (ah vs).length (aA ms).length 0 u q y A (ah w) (aj m) F E)=some (.exit 2,cvE (aA ms) (aA ms) (ah vs) (ah vs) (ah vs).length (aA ms).length (ah vs).length u q y A (ah w) (aj m) F E):=by
  refine loop_for (σ:=fun j=>cvH (aA ms) (aA ms) (ah vs) ((ah vs).take j) (ah vs).length (aA ms).length j u q y A (ah w) (aj m) F E) (k:=(ah vs).length) (Ym ..) (fun j hj=>?_) ?_ (by simp) (by omega)
  ·have B:j<vs.length:=by omega
   have S:=dN B;have pb:=V _ (qae B);unfold Val.ok at pb;have U:=jk M vs[j] (by omega) (by omega);have ht:=bI S;generalize vs[j]=a at S U ht;obtain ⟨H,J,L,O,P,Q⟩:=a;refine ⟨zlu (aA ms) (aA ms) (ah vs) ((ah vs).take j) (ah vs).length (aA ms).length j u q y A (ah w) (aj m) F E (Val.mk H J L O P Q).cells,ruA [(34,.b true),(35,.e (Val.mk H J L O P Q).cells),(39,.p (.agg (Val.mk H J L O P Q).cells)),(41,.app),(42,.i (Int.ofNat (j+1)))] (pf5 (aI (j:=j) (k:=(ah vs).length) (by omega)) S U (aU (acc:=(ah vs).take j) j 3 88 (by grind) (by omega) (by omega)) (ay (j:=j) (by omega))),?_⟩
   grind[TQ]
  rw [List.take_length];exact ruA [(34,.b false)] (pf1 (aG (qan (ah vs).length)))
 exact caB [(12,.mk),(29,.mk),(45,.p (.agg (Val.mk u q y A w m).cells))] [(.exit 0,csE (aA ms) (aA ms) (ah vs) (aA ms).length (aA ms).length u q y A (ah w) (aj m) F E),(.exit 2,cvE (aA ms) (aA ms) (ah vs) (ah vs) (ah vs).length (aA ms).length (ah vs).length u q y A (ah w) (aj m) F E)] (pf5 (a:=0<=(aA ms).length/\roomOk (aA ms).length 152=true) ⟨by omega,fP (by omega) (by omega)⟩ h1 (c:=0<=(ah vs).length/\roomOk (ah vs).length 88=true) ⟨by omega,fP (by omega) (by omega)⟩ h2 pa)
theorem yH (N:Nat)(s:Slt)(h:s.ok)(hN:190005<=N):Gam.pureD (callF tab ext N) 84 [.agg s.cells]=some (.agg s.cells):=by unfold Gam.pureD;rw [tJ N s h hN];obtain ⟨⟨l,j,u,w,m,f⟩,q,a,n,y⟩:=s<;>simp_all[X.data,dataL,rowOf,Slt.cells,aJ,num,strX]
def jB:List X:=[num 0,num 0,.sl true 10 []]
section
variable (a b:Int) (l acc:qaW) (n j:Nat) (x:List X)
def stH:St:=⟨[(1,.ptr 0 0 0),(2,.ptr 1 0 0),(3,.bs 2 0 j),(11,.sl false 10 l),(12,nat n),(13,nat j)],[.var [num a,num b,.sl false 10 l],.var jB,.row 10 acc]⟩
def zif:St:=⟨[(1,.ptr 0 0 0),(2,.ptr 1 0 0),(3,.bs 4 0 (j+1)),(11,.sl false 10 l),(12,nat n),(13,nat (j+1))],[.var [num a,num b,.sl false 10 l],.var jB,.dead,.var x,.row 10 (acc++[x])]⟩
def stE:St:=⟨[(1,.ptr 0 0 0),(2,.ptr 1 0 0),(3,.bs 2 0 j),(11,.sl false 10 l),(12,nat n),(13,nat j),(14,boolX false)],[.var [num a,num b,.sl false 10 l],.var jB,.row 10 acc]⟩
theorem J9:canon 0 (stH a b l acc n j)=some (stH a b l acc n j):=by kernel_rfl
theorem EG:canon 0 (zif a b l acc n j x)=some (stH a b l (acc++[x]) n (j+1)):=by kernel_rfl
end
theorem yF (N:Nat)(s:Stt)(h:s.ok)(hN:190010<=N):callF tab ext N (.fn 77) [.agg s.cells] []=some (.agg [num s.n,num s.t,.bs 0 0 (ak s.slots).length],[.row 10 (ak s.slots)]):=by
 obtain ⟨M,rfl⟩:=pR_ N;have Q:=h.slots;have hit:=h.slot;obtain ⟨a,b,f⟩:=s;dsimp only at Q hit;have U:=aN f;have P:run (callF tab ext M) 0 M (.loop (loopAt 77 0)) (stH a b (ak f) [] (ak f).length 0)=some (.exit 0,stE a b (ak f) (ak f) (ak f).length (ak f).length):=by
  refine loop_for (σ:=fun j=>stH a b (ak f) ((ak f).take j) (ak f).length j) (k:=(ak f).length) (J9 ..) (fun j V=>?_) ?_ (by simp) (by omega)
  ·have l:j<f.length:=by omega
   have L:=aW l;have O:=yH M f[j] (hit _ (qae l)) (by omega);have S:=bI L;generalize f[j]=q at L O S;obtain ⟨⟨u,w,y,A,B,E⟩,F,H,J,m⟩:=q;refine ⟨zif a b (ak f) ((ak f).take j) (ak f).length j (Slt.mk (Val.mk u w y A B E) F H J m).cells,ruA [(14,.b true),(15,.e (Slt.mk (Val.mk u w y A B E) F H J m).cells),(19,.p (.agg (Slt.mk (Val.mk u w y A B E) F H J m).cells)),(21,.app),(22,.i (Int.ofNat (j+1)))] (pf5 (aI (j:=j) (k:=(ak f).length) (by omega)) L O (aU (acc:=(ak f).take j) j 2 152 (by grind) (by omega) (by omega)) (ay (j:=j) (by omega))),?_⟩
   grind[EG]
  rw [List.take_length];exact ruA [(14,.b false)] (pf1 (aG (qan (ak f).length)))
 exact caB [(9,.mk)] [(.exit 0,stE a b (ak f) (ak f) (ak f).length (ak f).length)] (pf2 (a:=0<=(ak f).length/\roomOk (ak f).length 152=true) ⟨by omega,fP (by omega) (by omega)⟩ P)
theorem iJ (N:Nat)(s:Stt)(h:s.ok)(hN:190010<=N):Gam.pureD (callF tab ext N) 77 [.agg s.cells]=some (.agg s.cells):=by unfold Gam.pureD;rw [yF N s h hN];simp_all[X.data,dataL,rowOf,Stt.cells,num]
theorem Uj (x:Int):∃b:Bool,∀N,Gam.pureD (callF tab ext (N+2)) 162 [num x]=some (boolX b):=by
 cases a:decide (x<0) with
 |true=>exact ⟨true,fun N=>puA [(4,.b true)] (pf1 a) (boolX true)⟩
 |false=>
  cases f:decide (65535<x) with
  |true=>exact ⟨true,fun N=>puA [(4,.b false),(7,.b true)] (pf2 a f) (boolX true)⟩
  |false=>exact ⟨false,fun N=>puA [(4,.b false),(7,.b false)] (pf2 a f) (boolX false)⟩
theorem Xx (x:Int):∃b:Bool,∀N,Gam.pureD (callF tab ext (N+2)) 122 [num x]=some (boolX b):=by
 cases a:decide (x<0) with
 |true=>exact ⟨true,fun N=>puA [(4,.b true)] (pf1 a) (boolX true)⟩
 |false=>
  cases f:decide (1099511627776<x) with
  |true=>exact ⟨true,fun N=>puA [(4,.b false),(7,.b true)] (pf2 a f) (boolX true)⟩
  |false=>exact ⟨false,fun N=>puA [(4,.b false),(7,.b false)] (pf2 a f) (boolX false)⟩
theorem Yj (x:Int):∃b:Bool,∀N,Gam.pureD (callF tab ext (N+2)) 123 [num x]=some (boolX b):=by
 cases a:decide (1<=x) with
 |true=>
  cases f:decide (x<=1048576) with
  |true=>exact ⟨true,fun N=>puA [(4,.b true),(7,.b true)] (pf2 a f) (boolX true)⟩
  |false=>exact ⟨false,fun N=>puA [(4,.b true),(7,.b false)] (pf2 a f) (boolX false)⟩
 |false=>exact ⟨false,fun N=>puA [(4,.b false)] (pf1 a) (boolX false)⟩
def ixH (l:qaW)(n j:Nat):St:=⟨[(0,.sl false 1 l),(1,.fn 162 []),(7,nat n),(8,nat j)],[]⟩
theorem CU (l:qaW)(n j:Nat):canon 0 (ixH l n j)=some (ixH l n j):=by kernel_rfl
theorem Ar (l:List Int)(hl:l.length<=60000):∀d j,j+d=l.length->∃(e:Ex) (fin:St),e≠.norm/\((∃k:Nat,e=.ret/\fin=⟨[(4,nat k)],[]⟩)\/(e=.exit 0/\fin=⟨[(0,.sl false 1 (aC l)),(1,.fn 162 []),(7,nat (aC l).length),(8,nat (aC l).length),(9,boolX false)],[]⟩))/\
  ∀M F,d<F->iter 0 (run (callF tab ext (M+2)) 0 (M+2) (loopAt 209 0)) F (ixH (aC l) (aC l).length j)=some (e,fin)
 |0,j,hj=>by
  have hn:=aX l;have hj':j=(aC l).length:=by omega
  subst hj';refine ⟨.exit 0,_,by simp,.inr ⟨rfl,rfl⟩,fun M F hF=>?_⟩;obtain ⟨F',rfl⟩:∃F',F=F'+1:=⟨F-1,by omega⟩;exact iter_end (CU _ _ _) (ruA [(9,.b false)] (pf1 (aG (qan (aC l).length)))) (by simp)
 |d+1,j,hj=>by
  have hn:=aX l;have hj':j<l.length:=by omega
  have hg:=eY hj';generalize l[j]=x at hg;obtain ⟨b,hb⟩:=Uj x;cases b with
  |true=>refine ⟨.ret,⟨[(4,nat j)],[]⟩,by simp,.inl ⟨j,rfl,rfl⟩,fun M F hF=>?_⟩;obtain ⟨F',rfl⟩:∃F',F=F'+1:=⟨F-1,by omega⟩;exact iter_end (CU _ _ _) (ruA [(9,.b true),(14,.e [num x]),(16,.p (boolX true))] (pf3 (aI (j:=j) (k:=(aC l).length) (by omega)) hg (hb M))) (by simp)
  |false=>
   obtain ⟨e,fin,hne,hc,h⟩:=Ar l hl d (j+1) (by omega);refine ⟨e,fin,hne,hc,fun M F hF=>?_⟩;obtain ⟨F',rfl⟩:∃F',F=F'+1:=⟨F-1,by omega⟩;have hs:run (callF tab ext (M+2)) 0 (M+2) (loopAt 209 0) (ixH (aC l) (aC l).length j)=some (.norm,ixH (aC l) (aC l).length (j+1)):=
    ruA [(9,.b true),(14,.e [num x]),(16,.p (boolX false)),(18,.i (Int.ofNat (j+1)))] (pf4 (aI (j:=j) (k:=(aC l).length) (by omega)) hg (hb M) (ay (j:=j) (by omega)))
   rw [iter_step (CU _ _ _) hs rfl];exact h M F' (by omega)
theorem Xu (l:List Int)(hl:l.length<=60000):∃c:Int,∀M,l.length<M->Gam.pureD (callF tab ext (M+3)) 209 [.sl false 1 (aC l),.fn 162 []]=some (num c):=by
 obtain ⟨e,a,m,j,h⟩:=Ar l hl l.length 0 (by omega);rcases j with ⟨k,rfl,rfl⟩|⟨rfl,rfl⟩;·exact ⟨Int.ofNat k,fun M f=>puB [] [(.ret,⟨[(4,nat k)],[]⟩)] (pf1 (h M (M+2) (by omega))) (nat k)⟩
 exact ⟨-1,fun M f=>puB [] [(.exit 0,⟨[(0,.sl false 1 (aC l)),(1,.fn 162 []),(7,nat (aC l).length),(8,nat (aC l).length),(9,boolX false)],[]⟩)] (pf1 (h M (M+2) (by omega))) (num (-1))⟩
theorem JF (l:List Int)(hl:l.length<=60000):∃b:Bool,∀M,l.length<M->Gam.pureD (callF tab ext (M+4)) 161 [.sl false 1 (aC l),.fn 162 []]=some (boolX b):=by obtain ⟨c,h⟩:=Xu l hl;exact ⟨decide (0<=c),fun M a=>puA [(7,.p (num c))] (pf1 (h M a)) (boolX (decide (0<=c)))⟩
theorem SX (h:(Int.ofNat (aC p).length==0)=false):∃x:Int,(aC p)[0]?=some [num x]:=by
 cases p with
 |nil=>simp [aC] at h
 |cons x r=>exact ⟨x,rfl⟩
theorem Ny (h:(Int.ofNat (aC p).length==0)=false)(h':(Int.ofNat (aC p).length==1)=false):∃x:Int,(aC p)[1]?=some [num x]:=by
 match p,h,h' with
 |[],h,_=>simp [aC] at h
 |[_],_,h'=>simp [aC] at h'
 |_::y::r,_,_=>exact ⟨y,rfl⟩
def Comes (B:Nat)(f:FuncId)(args:List X):Prop:=∃c:Int,∀N,B<=N->Gam.pureD (callF tab ext N) f args=some (num c)
def iO (B:Nat)(f:FuncId)(args:List X):Prop:=∃c:Bool,∀N,B<=N->Gam.pureD (callF tab ext N) f args=some (boolX c)
theorem tH {f:FuncId}(h:∃c:Int,∀N,B<=N->Gam.pureD (callF tab ext (N+1)) f args=some (num c)):Comes (B+1) f args:=by obtain ⟨c,h⟩:=h;refine ⟨c,fun N a=>?_⟩;obtain ⟨M,rfl⟩:=pR_ N;exact h M (by omega)
theorem bW {f:FuncId}(h:∃c:Bool,∀N,B<=N->Gam.pureD (callF tab ext (N+1)) f args=some (boolX c)):iO (B+1) f args:=by obtain ⟨c,h⟩:=h;refine ⟨c,fun N a=>?_⟩;obtain ⟨M,rfl⟩:=pR_ N<;>simp_all
theorem zn (l:List Int)(hl:l.length<=60000):iO 60005 161 [.sl false 1 (aC l),.fn 162 []]:=by obtain ⟨b,a⟩:=JF l hl;refine ⟨b,fun N f=>?_⟩;obtain ⟨M,rfl⟩:∃M,N=M+4:=⟨N-4,by omega⟩;exact a M (by omega)
theorem IB (x:Int):iO 2 122 [num x]:=by obtain ⟨b,a⟩:=Xx x;refine ⟨b,fun N f=>?_⟩;obtain ⟨M,rfl⟩:∃M,N=M+2:=⟨N-2,by omega⟩;exact a M
theorem JA (x:Int):iO 2 123 [num x]:=by obtain ⟨b,a⟩:=Yj x;refine ⟨b,fun N f=>?_⟩;obtain ⟨M,rfl⟩:∃M,N=M+2:=⟨N-2,by omega⟩;exact a M
theorem Ho (s:Stp)(h:s.ok):Comes 60006 121 [.agg s.cells]:=by
 obtain ⟨b,q⟩:=zn s.p h.p;have F:=h.p;obtain ⟨e,p⟩:=s;dsimp only at F q;apply tH;cases f:decide (e<1) with
 |true=>exact ⟨2,fun N a=>puA [(6,.b true)] (pf1 f) (num 2)⟩
 |false=>
  cases l:decide (1048576<e) with
  |true=>exact ⟨2,fun N a=>puA [(6,.b false),(10,.b true)] (pf2 f l) (num 2)⟩
  |false=>
   cases j:(Int.ofNat (aC p).length==0) with
   |true=>exact ⟨4,fun N a=>puA [(6,.b false),(10,.b false),(16,.b true)] (pf3 f l j) (num 4)⟩
   |false=>
    cases n:decide (512<Int.ofNat (aC p).length) with
    |true=>exact ⟨9,fun N a=>puA [(6,.b false),(10,.b false),(16,.b false),(21,.b true)] (pf4 f l j n) (num 9)⟩
    |false=>
     cases b with
     |true=>exact ⟨2,fun N a=>puA [(6,.b false),(10,.b false),(16,.b false),(21,.b false),(25,.p (boolX true))] (pf5 f l j n (q N a)) (num 2)⟩
     |false=>
      obtain ⟨x,m⟩:=SX j;cases u:decide (1<x) with
      |true=>exact ⟨11,fun N a=>puA [(6,.b false),(10,.b false),(16,.b false),(21,.b false),(25,.p (boolX false)),(29,.e [num x]),(31,.b true)] (pf7 f l j n (q N a) m u) (num 11)⟩
      |false=>
       cases w:(x==1) with
       |true=>exact ⟨0,fun N a=>puA [(6,.b false),(10,.b false),(16,.b false),(21,.b false),(25,.p (boolX false)),(29,.e [num x]),(31,.b false),(35,.e [num x]),(37,.b true)] (pf9 f l j n (q N a) m u m w) (num 0)⟩
       |false=>
        cases A:(Int.ofNat (aC p).length==1) with
        |true=>exact ⟨4,fun N a=>puA [(6,.b false),(10,.b false),(16,.b false),(21,.b false),(25,.p (boolX false)),(29,.e [num x]),(31,.b false),(35,.e [num x]),(37,.b false),(42,.b true)] (pf10 f l j n (q N a) m u m w A) (num 4)⟩
        |false=>
         obtain ⟨y,E⟩:=Ny j (p:=p) (by assumption);cases B:decide (128<=y) with
         |true=>exact ⟨2,fun N a=>puA [(6,.b false),(10,.b false),(16,.b false),(21,.b false),(25,.p (boolX false)),(29,.e [num x]),(31,.b false),(35,.e [num x]),(37,.b false),(42,.b false),(46,.e [num y]),(48,.b true)] (pf12 f l j n (q N a) m u m w A E B) (num 2)⟩
         |false=>exact ⟨0,fun N a=>puA [(6,.b false),(10,.b false),(16,.b false),(21,.b false),(25,.p (boolX false)),(29,.e [num x]),(31,.b false),(35,.e [num x]),(37,.b false),(42,.b false),(46,.e [num y]),(48,.b false)] (pf12 f l j n (q N a) m u m w A E B) (num 0)⟩
def iM (B:Nat)(f:FuncId)(args:List X):Prop:=∃c:Int,(0<=c/\c<=100)/\∀N,B<=N->Gam.pureD (callF tab ext N) f args=some (num c)
theorem bM {f:FuncId}(h:∃c:Int,(0<=c/\c<=100)/\∀N,B<=N->Gam.pureD (callF tab ext (N+1)) f args=some (num c)):iM (B+1) f args:=by obtain ⟨c,a,h⟩:=h;refine ⟨c,a,fun N j=>?_⟩;obtain ⟨M,rfl⟩:=pR_ N<;>simp_all
theorem scan {b:C}{H:Nat->St}{e:Ex}{fin τ:St}{n B:Nat}(good:St->Prop)(h0:canon 0 τ=some (H 0))
  (hstep:∀j,j<n->(∃r,good r/\∀M,B<=M->run (callF tab ext M) 0 M b (H j)=some (.ret,r))\/(∃υ,canon 0 υ=some (H (j+1))/\∀M,B<=M->run (callF tab ext M) 0 M b (H j)=some (.norm,υ)))
  (hend:∀M,B<=M->run (callF tab ext M) 0 M b (H n)=some (e,fin)) (hne:e≠.norm):
  (∃r,good r/\∀M,B<=M->n<M->run (callF tab ext M) 0 M (.loop b) τ=some (.ret,r))\/(∀M,B<=M->n<M->run (callF tab ext M) 0 M (.loop b) τ=some (e,fin)):=by
 have y:∀d j,j+d=n->(∃r,good r/\∀M F υ,B<=M->d<F->canon 0 υ=some (H j)->iter 0 (run (callF tab ext M) 0 M b) F υ=some (.ret,r))\/(∀M F υ,B<=M->d<F->canon 0 υ=some (H j)->iter 0 (run (callF tab ext M) 0 M b) F υ=some (e,fin)):=by
  intro d;induction d with
  |zero=>
   intro j w;have m:j=n:=by omega
   subst m;right;intro M F υ f a l;obtain ⟨F',rfl⟩:∃F',F=F'+1:=⟨F-1,by omega⟩
   grind[iter_end]
  |succ d ih=>
   intro j w;rcases hstep j (by omega) with ⟨r,q,h⟩|⟨ω,A,h⟩
   ·left;refine ⟨r,q,fun M F υ f a l=>?_⟩;obtain ⟨F',rfl⟩:∃F',F=F'+1:=⟨F-1,by omega⟩
    grind[iter_end]
   rcases ih (j+1) (by omega) with ⟨r,q,u⟩|u;·left;refine ⟨r,q,fun M F υ f a l=>?_⟩;obtain ⟨F',rfl⟩:∃F',F=F'+1:=⟨F-1,by omega⟩<;>simp_all[iter_step]
   right;intro M F υ f a l;obtain ⟨F',rfl⟩:∃F',F=F'+1:=⟨F-1,by omega⟩<;>simp_all[iter_step]
 grind[run]
def dw:Val->Bool
 |.mk k i s t l f=>(k==0)&&((i==0)&&((s==0)&&((t.toList==(⟨#[]⟩:qaX).toList)&&((Int.ofNat (ah l).length==0)&&(Int.ofNat (aj f).length==0)))))
theorem nD (N:Nat)(v:Val):Gam.pureD (callF tab ext (N+1)) 26 [.agg v.cells]=some (boolX (dw v)):=by
 obtain ⟨k,i,s,t,l,f⟩:=v;cases a:(k==0) with
 |true=>
  cases h:(i==0) with
  |true=>
   cases j:(s==0) with
   |true=>
    cases m:(t.toList==(⟨#[]⟩:qaX).toList) with
    |true=>
     cases n:(Int.ofNat (ah l).length==0) with
     |true=>
      cases q:(Int.ofNat (aj f).length==0) with
      |true=>rw [show dw (Val.mk k i s t l f)=true from by grind[dw]];exact puA [(5,.b true),(9,.b true),(14,.b true),(19,.b true),(25,.b true),(31,.b true)] (pf6 a h j m n q) (boolX true)
      |false=>rw [show dw (Val.mk k i s t l f)=false from by grind[dw]];exact puA [(5,.b true),(9,.b true),(14,.b true),(19,.b true),(25,.b true),(31,.b false)] (pf6 a h j m n q) (boolX false)
     |false=>rw [show dw (Val.mk k i s t l f)=false from by grind[dw]];exact puA [(5,.b true),(9,.b true),(14,.b true),(19,.b true),(25,.b false)] (pf5 a h j m n) (boolX false)
    |false=>rw [show dw (Val.mk k i s t l f)=false from by grind[dw]];exact puA [(5,.b true),(9,.b true),(14,.b true),(19,.b false)] (pf4 a h j m) (boolX false)
   |false=>rw [show dw (Val.mk k i s t l f)=false from by grind[dw]];exact puA [(5,.b true),(9,.b true),(14,.b false)] (pf3 a h j) (boolX false)
  |false=>rw [show dw (Val.mk k i s t l f)=false from by grind[dw]];exact puA [(5,.b true),(9,.b false)] (pf2 a h) (boolX false)
 |false=>rw [show dw (Val.mk k i s t l f)=false from by grind[dw]];exact puA [(5,.b false)] (pf1 a) (boolX false)
theorem zic (i s:Int)(t:qaX)(l:List Val)(f:List (qaX×Val)):iO 2 65 [.agg (Val.mk 1 i s t l f).cells]:=by
 apply bW;cases a:(s==0) with
 |true=>
  cases h:(t.toList==(⟨#[]⟩:qaX).toList) with
  |true=>
   cases m:(Int.ofNat (ah l).length==0) with
   |true=>
    cases n:(Int.ofNat (aj f).length==0) with
    |true=>exact ⟨true,fun N j=>puA [(63,.b true),(71,.b true),(80,.b true),(91,.b true)] (pf4 a h m n) (boolX true)⟩
    |false=>exact ⟨false,fun N j=>puA [(63,.b true),(71,.b true),(80,.b true),(91,.b false)] (pf4 a h m n) (boolX false)⟩
   |false=>exact ⟨false,fun N j=>puA [(63,.b true),(71,.b true),(80,.b false)] (pf3 a h m) (boolX false)⟩
  |false=>exact ⟨false,fun N j=>puA [(63,.b true),(71,.b false)] (pf2 a h) (boolX false)⟩
 |false=>exact ⟨false,fun N j=>puA [(63,.b false)] (pf1 a) (boolX false)⟩
theorem zib (i s:Int)(t:qaX)(l:List Val)(f:List (qaX×Val)):iO 2 65 [.agg (Val.mk 2 i s t l f).cells]:=by
 apply bW;cases a:(s==0) with
 |true=>
  cases h:(t.toList==(⟨#[]⟩:qaX).toList) with
  |true=>
   cases m:(Int.ofNat (ah l).length==0) with
   |true=>
    cases n:(Int.ofNat (aj f).length==0) with
    |true=>exact ⟨true,fun N j=>puA [(63,.b true),(71,.b true),(80,.b true),(91,.b true)] (pf4 a h m n) (boolX true)⟩
    |false=>exact ⟨false,fun N j=>puA [(63,.b true),(71,.b true),(80,.b true),(91,.b false)] (pf4 a h m n) (boolX false)⟩
   |false=>exact ⟨false,fun N j=>puA [(63,.b true),(71,.b true),(80,.b false)] (pf3 a h m) (boolX false)⟩
  |false=>exact ⟨false,fun N j=>puA [(63,.b true),(71,.b false)] (pf2 a h) (boolX false)⟩
 |false=>exact ⟨false,fun N j=>puA [(63,.b false)] (pf1 a) (boolX false)⟩
theorem zia (i s:Int)(t:qaX)(l:List Val)(f:List (qaX×Val)):iO 2 65 [.agg (Val.mk 3 i s t l f).cells]:=by
 apply bW;cases a:(t.toList==(⟨#[]⟩:qaX).toList) with
 |true=>
  cases h:(Int.ofNat (ah l).length==0) with
  |true=>
   cases m:(Int.ofNat (aj f).length==0) with
   |true=>exact ⟨true,fun N j=>puA [(71,.b true),(80,.b true),(91,.b true)] (pf3 a h m) (boolX true)⟩
   |false=>exact ⟨false,fun N j=>puA [(71,.b true),(80,.b true),(91,.b false)] (pf3 a h m) (boolX false)⟩
  |false=>exact ⟨false,fun N j=>puA [(71,.b true),(80,.b false)] (pf2 a h) (boolX false)⟩
 |false=>exact ⟨false,fun N j=>puA [(71,.b false)] (pf1 a) (boolX false)⟩
theorem zh9 (i s:Int)(t:qaX)(l:List Val)(f:List (qaX×Val)):iO 2 65 [.agg (Val.mk 4 i s t l f).cells]:=by
 apply bW;cases a:(i==0) with
 |true=>
  cases h:(s==0) with
  |true=>
   cases m:(Int.ofNat (ah l).length==0) with
   |true=>
    cases n:(Int.ofNat (aj f).length==0) with
    |true=>exact ⟨true,fun N j=>puA [(54,.b true),(63,.b true),(80,.b true),(91,.b true)] (pf4 a h m n) (boolX true)⟩
    |false=>exact ⟨false,fun N j=>puA [(54,.b true),(63,.b true),(80,.b true),(91,.b false)] (pf4 a h m n) (boolX false)⟩
   |false=>exact ⟨false,fun N j=>puA [(54,.b true),(63,.b true),(80,.b false)] (pf3 a h m) (boolX false)⟩
  |false=>exact ⟨false,fun N j=>puA [(54,.b true),(63,.b false)] (pf2 a h) (boolX false)⟩
 |false=>exact ⟨false,fun N j=>puA [(54,.b false)] (pf1 a) (boolX false)⟩
theorem zh8 (i s:Int)(t:qaX)(l:List Val)(f:List (qaX×Val)):iO 2 65 [.agg (Val.mk 5 i s t l f).cells]:=by
 apply bW;cases a:(i==0) with
 |true=>
  cases h:(s==0) with
  |true=>
   cases m:(Int.ofNat (ah l).length==0) with
   |true=>
    cases n:(Int.ofNat (aj f).length==0) with
    |true=>exact ⟨true,fun N j=>puA [(54,.b true),(63,.b true),(80,.b true),(91,.b true)] (pf4 a h m n) (boolX true)⟩
    |false=>exact ⟨false,fun N j=>puA [(54,.b true),(63,.b true),(80,.b true),(91,.b false)] (pf4 a h m n) (boolX false)⟩
   |false=>exact ⟨false,fun N j=>puA [(54,.b true),(63,.b true),(80,.b false)] (pf3 a h m) (boolX false)⟩
  |false=>exact ⟨false,fun N j=>puA [(54,.b true),(63,.b false)] (pf2 a h) (boolX false)⟩
 |false=>exact ⟨false,fun N j=>puA [(54,.b false)] (pf1 a) (boolX false)⟩
theorem zh7 (i s:Int)(t:qaX)(l:List Val)(f:List (qaX×Val)):iO 2 65 [.agg (Val.mk 6 i s t l f).cells]:=by
 apply bW;cases a:(s==0) with
 |true=>
  cases h:(t.toList==(⟨#[]⟩:qaX).toList) with
  |true=>
   cases m:(Int.ofNat (ah l).length==0) with
   |true=>
    cases n:(Int.ofNat (aj f).length==0) with
    |true=>exact ⟨true,fun N j=>puA [(63,.b true),(71,.b true),(80,.b true),(91,.b true)] (pf4 a h m n) (boolX true)⟩
    |false=>exact ⟨false,fun N j=>puA [(63,.b true),(71,.b true),(80,.b true),(91,.b false)] (pf4 a h m n) (boolX false)⟩
   |false=>exact ⟨false,fun N j=>puA [(63,.b true),(71,.b true),(80,.b false)] (pf3 a h m) (boolX false)⟩
  |false=>exact ⟨false,fun N j=>puA [(63,.b true),(71,.b false)] (pf2 a h) (boolX false)⟩
 |false=>exact ⟨false,fun N j=>puA [(63,.b false)] (pf1 a) (boolX false)⟩
theorem zh6 (i s:Int)(t:qaX)(l:List Val)(f:List (qaX×Val)):iO 2 65 [.agg (Val.mk 7 i s t l f).cells]:=by
 apply bW;cases a:(s==0) with
 |true=>
  cases h:(t.toList==(⟨#[]⟩:qaX).toList) with
  |true=>
   cases m:(Int.ofNat (ah l).length==0) with
   |true=>
    cases n:(Int.ofNat (aj f).length==0) with
    |true=>exact ⟨true,fun N j=>puA [(63,.b true),(71,.b true),(80,.b true),(91,.b true)] (pf4 a h m n) (boolX true)⟩
    |false=>exact ⟨false,fun N j=>puA [(63,.b true),(71,.b true),(80,.b true),(91,.b false)] (pf4 a h m n) (boolX false)⟩
   |false=>exact ⟨false,fun N j=>puA [(63,.b true),(71,.b true),(80,.b false)] (pf3 a h m) (boolX false)⟩
  |false=>exact ⟨false,fun N j=>puA [(63,.b true),(71,.b false)] (pf2 a h) (boolX false)⟩
 |false=>exact ⟨false,fun N j=>puA [(63,.b false)] (pf1 a) (boolX false)⟩
theorem zh5 (i s:Int)(t:qaX)(l:List Val)(f:List (qaX×Val)):iO 2 65 [.agg (Val.mk 8 i s t l f).cells]:=by
 apply bW;cases a:(i==0) with
 |true=>
  cases h:(s==0) with
  |true=>
   cases m:(t.toList==(⟨#[]⟩:qaX).toList) with
   |true=>
    cases n:(Int.ofNat (aj f).length==0) with
    |true=>exact ⟨true,fun N j=>puA [(54,.b true),(63,.b true),(71,.b true),(91,.b true)] (pf4 a h m n) (boolX true)⟩
    |false=>exact ⟨false,fun N j=>puA [(54,.b true),(63,.b true),(71,.b true),(91,.b false)] (pf4 a h m n) (boolX false)⟩
   |false=>exact ⟨false,fun N j=>puA [(54,.b true),(63,.b true),(71,.b false)] (pf3 a h m) (boolX false)⟩
  |false=>exact ⟨false,fun N j=>puA [(54,.b true),(63,.b false)] (pf2 a h) (boolX false)⟩
 |false=>exact ⟨false,fun N j=>puA [(54,.b false)] (pf1 a) (boolX false)⟩
theorem zh4 (i s:Int)(t:qaX)(l:List Val)(f:List (qaX×Val)):iO 2 65 [.agg (Val.mk 9 i s t l f).cells]:=by
 apply bW;cases a:(i==0) with
 |true=>
  cases h:(s==0) with
  |true=>
   cases m:(t.toList==(⟨#[]⟩:qaX).toList) with
   |true=>
    cases n:(Int.ofNat (ah l).length==0) with
    |true=>exact ⟨true,fun N j=>puA [(54,.b true),(63,.b true),(71,.b true),(80,.b true)] (pf4 a h m n) (boolX true)⟩
    |false=>exact ⟨false,fun N j=>puA [(54,.b true),(63,.b true),(71,.b true),(80,.b false)] (pf4 a h m n) (boolX false)⟩
   |false=>exact ⟨false,fun N j=>puA [(54,.b true),(63,.b true),(71,.b false)] (pf3 a h m) (boolX false)⟩
  |false=>exact ⟨false,fun N j=>puA [(54,.b true),(63,.b false)] (pf2 a h) (boolX false)⟩
 |false=>exact ⟨false,fun N j=>puA [(54,.b false)] (pf1 a) (boolX false)⟩
theorem zeM (i s:Int)(t:qaX)(l:List Val)(f:List (qaX×Val)):iO 2 65 [.agg (Val.mk 10 i s t l f).cells]:=by
 apply bW;cases a:(i==0) with
 |true=>
  cases h:(s==0) with
  |true=>
   cases m:(Int.ofNat (aj f).length==0) with
   |true=>exact ⟨true,fun N j=>puA [(54,.b true),(63,.b true),(91,.b true)] (pf3 a h m) (boolX true)⟩
   |false=>exact ⟨false,fun N j=>puA [(54,.b true),(63,.b true),(91,.b false)] (pf3 a h m) (boolX false)⟩
  |false=>exact ⟨false,fun N j=>puA [(54,.b true),(63,.b false)] (pf2 a h) (boolX false)⟩
 |false=>exact ⟨false,fun N j=>puA [(54,.b false)] (pf1 a) (boolX false)⟩
theorem eU (x a b:Int):iM 2 104 [num x,num a,num b]:=by
 apply bM;cases f:decide (x<a) with
 |true=>exact ⟨2,by decide,fun N j=>puA [(9,.b true)] (pf1 f) (num (2))⟩
 |false=>
  cases h:decide (b<x) with
  |true=>exact ⟨2,by decide,fun N j=>puA [(9,.b false),(13,.b true)] (pf2 f h) (num (2))⟩
  |false=>exact ⟨0,by decide,fun N j=>puA [(9,.b false),(13,.b false)] (pf2 f h) (num (0))⟩
theorem mZ (x a e:Int)(he:0<=e/\e<=100):iM 2 109 [num x,num a,num e]:=by
 apply bM;cases f:decide (a<x) with
 |true=>exact ⟨e,he,fun N h=>puA [(9,.b true)] (pf1 f) (num (e))⟩
 |false=>exact ⟨0,by decide,fun N h=>puA [(9,.b false)] (pf1 f) (num (0))⟩
theorem za0 (v:Val):iM 3 103 [.agg v.cells]:=by obtain ⟨k,i,s,t,l,f⟩:=v;obtain ⟨c,a,j⟩:=eU i 0 1;exact bM ⟨c,a,fun N h=>puA [(5,.p (num c))] (pf1 (j N h)) (num c)⟩
theorem zaZ (v:Val):iM 3 105 [.agg v.cells]:=by obtain ⟨k,i,s,t,l,f⟩:=v;obtain ⟨c,a,j⟩:=eU i (-999999999999999) 999999999999999;exact bM ⟨c,a,fun N h=>puA [(5,.p (num c))] (pf1 (j N h)) (num c)⟩
theorem zaV (v:Val):iM 3 112 [.agg v.cells]:=by obtain ⟨k,i,s,t,l,f⟩:=v;obtain ⟨c,a,j⟩:=eU i (-719162) 2932896;exact bM ⟨c,a,fun N h=>puA [(5,.p (num c))] (pf1 (j N h)) (num c)⟩
theorem zaU (v:Val):iM 3 113 [.agg v.cells]:=by obtain ⟨k,i,s,t,l,f⟩:=v;obtain ⟨c,a,j⟩:=eU i (-62135596800000) 253402300799999;exact bM ⟨c,a,fun N h=>puA [(5,.p (num c))] (pf1 (j N h)) (num c)⟩
theorem zaW (v:Val):iM 3 111 [.agg v.cells]:=by obtain ⟨k,i,s,t,l,f⟩:=v;obtain ⟨c,a,j⟩:=mZ (Int.ofNat t.size) 1024 5 (by decide);exact bM ⟨c,a,fun N h=>puA [(6,.p (num c))] (pf1 (j N h)) (num c)⟩
theorem zaT (v:Val):iM 3 114 [.agg v.cells]:=by obtain ⟨k,i,s,t,l,f⟩:=v;obtain ⟨c,a,j⟩:=mZ (Int.ofNat (ah l).length) 256 9 (by decide);exact bM ⟨c,a,fun N h=>puA [(6,.p (num c))] (pf1 (j N h)) (num c)⟩
def fiH (l:qaW)(n j:Nat):St:=⟨[(5,.sl false 1 l),(6,nat n),(7,nat j)],[]⟩
theorem Ju (l:List Int)(hl:l.length<=60000)(hb:∀x,x∈l->0<=x/\x<=100):iM 60002 107 [.sl false 1 (aC l)]:=by
 have w:=aX l;have:=scan (B:=0) (b:=loopAt 107 0) (H:=fun j=>fiH (aC l) (aC l).length j) (τ:=fiH (aC l) (aC l).length 0) (n:=(aC l).length) (e:=.exit 0) (fin:=⟨[(5,.sl false 1 (aC l)),(6,nat (aC l).length),(7,nat (aC l).length),(8,boolX false)],[]⟩) (fun r=>∃x:Int,(0<=x/\x<=100)/\r=⟨[(2,num x)],[]⟩) (by kernel_rfl) (fun j u=>by
  have a:j<l.length:=by omega
  have m:=eY a;have f:=hb _ (qae a);generalize l[j]=x at m f;cases h:(!(x==0)) with
  |true=>left;exact ⟨⟨[(2,num x)],[]⟩,⟨x,f,rfl⟩,fun M _=>ruA [(8,.b true),(9,.e [num x]),(12,.b true)] (pf3 (aI (j:=j) (k:=(aC l).length) (by omega)) m h)⟩
  |false=>right;exact ⟨fiH (aC l) (aC l).length (j+1),by kernel_rfl,fun M _=>ruA [(8,.b true),(9,.e [num x]),(12,.b false),(14,.i (Int.ofNat (j+1)))] (pf4 (aI (j:=j) (k:=(aC l).length) (by omega)) m h (ay (j:=j) (by omega)))⟩)
  (fun M _=>run_of [(8,.b false)] [] (pf1 (aG (qan (aC l).length))) (lo':=[]) (σ':=⟨[(5,.sl false 1 (aC l)),(6,nat (aC l).length),(7,nat (aC l).length),(8,boolX false)],[]⟩) (by kernel_rfl)) (by simp)
 apply bM;rcases this with ⟨r,⟨x,f,rfl⟩,h⟩|h;·exact ⟨x,f,fun N q=>puB [] [(.ret,⟨[(2,num x)],[]⟩)] (pf1 (h N (by omega) (by omega))) (num x)⟩
 exact ⟨0,by decide,fun N q=>puB [] [(.exit 0,⟨[(5,.sl false 1 (aC l)),(6,nat (aC l).length),(7,nat (aC l).length),(8,boolX false)],[]⟩)] (pf1 (h N (by omega) (by omega))) (num 0)⟩
theorem zaY (v:Val):iM 60003 106 [.agg v.cells]:=by obtain ⟨k,i,s,t,l,f⟩:=v;obtain ⟨c,n,h⟩:=eU i (-999999999999999) 999999999999999;obtain ⟨d,q,j⟩:=eU s 0 12;obtain ⟨e,a,m⟩:=Ju [c,d] (by simp) (fun x w=>by grind);exact bM ⟨e,a,fun N u=>puA [(5,.p (num c)),(8,.p (num d)),(10,.p (num e))] (pf3 (h N (by omega)) (j N (by omega)) (m N (by omega))) (num e)⟩
theorem Ph (N:Nat)(t:qaX)(h:t.size<=9223372036854775807):Gam.pureD (callF tab ext (N+1)) 110 [strX t]=some (boolX (Lib.validD t.data.toList)):=by
 have e:callF tab ext (N+1) (.fn 110) [strX t] []=some (boolX (Lib.validD t.data.toList),[]):=by show mY [strX t] []=_;unfold mY strX;simp only [if_pos h];rfl
 unfold Gam.pureD;rw [e];rfl
theorem zaX (v:Val):iM 4 108 [.agg v.cells]:=by
 obtain ⟨k,i,s,t,l,f⟩:=v;apply bM;cases j:decide (1024<Int.ofNat t.size) with
 |true=>
  have h:∀N,2<=N->Gam.pureD (callF tab ext N) 109 [num (Int.ofNat t.size),num 1024,num 5]=some (num 5):=fun N a=>by obtain ⟨M,rfl⟩:=pR_ N;exact puA [(9,.b true)] (pf1 j) (num 5)
  exact ⟨5,by decide,fun N a=>puA [(7,.p (num 5))] (pf1 (h N (by omega))) (num 5)⟩
 |false=>
  have n:t.size<=9223372036854775807:=by have:=of_decide_eq_false j;simp only [qaq] at this;omega
  have h:∀N,2<=N->Gam.pureD (callF tab ext N) 109 [num (Int.ofNat t.size),num 1024,num 5]=some (num 0):=fun N a=>by obtain ⟨M,rfl⟩:=pR_ N;exact puA [(9,.b false)] (pf1 j) (num 0)
  have m:∀N,3<=N->Gam.pureD (callF tab ext N) 110 [strX t]=some (boolX (Lib.validD t.data.toList)):=fun N a=>by obtain ⟨M,rfl⟩:=pR_ N<;>simp_all[Ph]
  generalize Lib.validD t.data.toList=b at m;cases b with
  |true=>exact ⟨0,by decide,fun N a=>puA [(7,.p (num 0)),(13,.p (boolX true))] (pf2 (h N (by omega)) (m N a)) (num 0)⟩
  |false=>exact ⟨16,by decide,fun N a=>puA [(7,.p (num 0)),(13,.p (boolX false))] (pf2 (h N (by omega)) (m N a)) (num 16)⟩
theorem JJ {s:qaX}{j:Nat}(h:j<(byteRow s).length):∃u:Int,(byteRow s)[j]?=some [.v (.int .u8 u)]:=by simp_all[byteRow]
def naH (s:qaX)(n j:Nat):St:=⟨[(23,.sl false 1 (byteRow s)),(24,nat n),(25,nat j)],[]⟩
theorem NV (s:qaX)(u:Int)(n j:Nat)(hj:j<n)(hn:n<1000000)(hg:(byteRow s)[j]?=some [.v (.int .u8 u)]):
  (∃r,r=⟨[(2,boolX false)],[]⟩/\∀M,0<=M->run (callF tab ext M) 0 M (loopAt 116 0) (naH s n j)=some (.ret,r))\/(∃υ,canon 0 υ=some (naH s n (j+1))/\∀M,0<=M->run (callF tab ext M) 0 M (loopAt 116 0) (naH s n j)=some (.norm,υ)):=by
 cases a:decide (u<97) with
 |true=>
  cases f:decide (u<48) with
  |true=>
   cases w:(!(u==95)) with
   |true=>exact .inl ⟨_,rfl,fun M _=>ruA [(26,.b true),(27,.e [.v (.int .u8 u)]),(30,.b true),(37,.b true),(45,.b true)] (pf5 (aI (j:=j) (k:=n) hj) hg a f w)⟩
   |false=>grind
  |false=>
   cases l:decide (57<u) with
   |true=>
    cases m:(!(u==95)) with
    |true=>exact .inl ⟨_,rfl,fun M _=>ruA [(26,.b true),(27,.e [.v (.int .u8 u)]),(30,.b true),(37,.b false),(40,.b true),(45,.b true)] (pf6 (aI (j:=j) (k:=n) hj) hg a f l m)⟩
    |false=>exact .inr ⟨naH s n (j+1),by kernel_rfl,fun M _=>ruA [(26,.b true),(27,.e [.v (.int .u8 u)]),(30,.b true),(37,.b false),(40,.b true),(45,.b false),(47,.i (Int.ofNat (j+1)))] (pf7 (aI (j:=j) (k:=n) hj) hg a f l m (ay (j:=j) (by omega)))⟩
   |false=>exact .inr ⟨naH s n (j+1),by kernel_rfl,fun M _=>ruA [(26,.b true),(27,.e [.v (.int .u8 u)]),(30,.b true),(37,.b false),(40,.b false),(47,.i (Int.ofNat (j+1)))] (pf6 (aI (j:=j) (k:=n) hj) hg a f l (ay (j:=j) (by omega)))⟩
 |false=>
  cases q:decide (122<u) with
  |true=>
   cases y:decide (u<48) with
   |true=>grind
   |false=>
    cases A:decide (57<u) with
    |true=>
     cases h:(!(u==95)) with
     |true=>exact .inl ⟨_,rfl,fun M _=>ruA [(26,.b true),(27,.e [.v (.int .u8 u)]),(30,.b false),(33,.b true),(37,.b false),(40,.b true),(45,.b true)] (pf7 (aI (j:=j) (k:=n) hj) hg a q y A h)⟩
     |false=>grind
    |false=>grind
  |false=>exact .inr ⟨naH s n (j+1),by kernel_rfl,fun M _=>ruA [(26,.b true),(27,.e [.v (.int .u8 u)]),(30,.b false),(33,.b false),(47,.i (Int.ofNat (j+1)))] (pf5 (aI (j:=j) (k:=n) hj) hg a q (ay (j:=j) (by omega)))⟩
theorem size_pos {s:qaX}(h:(s.toList==(⟨#[]⟩:qaX).toList)=false):0<s.size:=by rcases Nat.eq_zero_or_pos s.size with h0|h0<;>simp_all
theorem NU (s:qaX)(hs:s.size<=60000):iO 60002 116 [strX s]:=by
 have y:(byteRow s).length=s.size:=by unfold byteRow;rw [qaB,Array.length_toList];rfl
 have:=scan (B:=0) (b:=loopAt 116 0) (H:=fun j=>naH s (byteRow s).length j) (τ:=naH s (byteRow s).length 0) (n:=(byteRow s).length) (e:=.exit 0) (fin:=⟨[(23,.sl false 1 (byteRow s)),(24,nat (byteRow s).length),(25,nat (byteRow s).length),(26,boolX false)],[]⟩) (fun r=>r=⟨[(2,boolX false)],[]⟩) (by kernel_rfl) (fun j w=>by
  grind[JJ,NV])
  (fun M _=>ruA [(26,.b false)] (pf1 (aG (qan (byteRow s).length)))) (by simp)
 apply bW;cases f:(s.toList==(⟨#[]⟩:qaX).toList) with
 |true=>exact ⟨false,fun N m=>puA [(6,.b true)] (pf1 f) (boolX false)⟩
 |false=>
  cases l:decide (32<Int.ofNat s.size) with
  |true=>exact ⟨false,fun N m=>puA [(6,.b false),(10,.b true)] (pf2 f l) (boolX false)⟩
  |false=>
   have a:=size_pos f;cases q:decide ((((s[0]?).getD 0).toNat:Int)<97) with
   |true=>exact ⟨false,fun N m=>puA [(6,.b false),(10,.b false),(14,.at),(15,.b true)] (pf4 f l a q) (boolX false)⟩
   |false=>
    cases u:decide (122<(((s[0]?).getD 0).toNat:Int)) with
    |true=>exact ⟨false,fun N m=>puA [(6,.b false),(10,.b false),(14,.at),(15,.b false),(19,.at),(20,.b true)] (pf6 f l a q a u) (boolX false)⟩
    |false=>
     rcases this with ⟨r,rfl,h⟩|h;·exact ⟨false,fun N m=>puB [(6,.b false),(10,.b false),(14,.at),(15,.b false),(19,.at),(20,.b false)] [(.ret,⟨[(2,boolX false)],[]⟩)] (pf7 f l a q a u (h N (by omega) (by omega))) (boolX false)⟩
     exact ⟨true,fun N m=>puB [(6,.b false),(10,.b false),(14,.at),(15,.b false),(19,.at),(20,.b false)] [(.exit 0,⟨[(23,.sl false 1 (byteRow s)),(24,nat (byteRow s).length),(25,nat (byteRow s).length),(26,boolX false)],[]⟩)] (pf7 f l a q a u (h N (by omega) (by omega))) (boolX true)⟩
theorem Ai (s:qaX):iO 60002 116 [strX s]:=by
 by_cases j:s.size<=60000
 ·grind[NU]
 apply bW;have f:decide (32<Int.ofNat s.size)=true:=by simp;omega
 cases a:(s.toList==(⟨#[]⟩:qaX).toList) with
 |true=>exact ⟨false,fun N h=>puA [(6,.b true)] (pf1 a) (boolX false)⟩
 |false=>exact ⟨false,fun N h=>puA [(6,.b false),(10,.b true)] (pf2 a f) (boolX false)⟩
theorem zaR (v:Val):iM 60003 117 [.agg v.cells]:=by
 obtain ⟨k,i,s,t,l,f⟩:=v;obtain ⟨b,a⟩:=Ai t;obtain ⟨c,m,n⟩:=mZ (Int.ofNat (ah l).length) 1 3 (by decide);apply bM;cases b with
 |true=>
  cases h:(Int.ofNat (ah l).length==0) with
  |true=>exact ⟨4,by decide,fun N j=>puA [(6,.p (boolX true)),(12,.b true)] (pf2 (a N (by omega)) h) (num (4))⟩
  |false=>exact ⟨c,m,fun N j=>puA [(6,.p (boolX true)),(12,.b false),(16,.p (num c))] (pf3 (a N (by omega)) h (n N (by omega))) (num (c))⟩
 |false=>exact ⟨12,by decide,fun N j=>puA [(6,.p (boolX false))] (pf1 (a N (by omega))) (num (12))⟩
section
variable (k i s:Int) (t:qaX) (l f:qaW) (n j:Nat)
def reH:St:=⟨[(1,.ptr 0 0 0),(14,.sl false 7 f),(15,nat n),(16,nat j)],[.var [num k,num i,num s,strX t,.sl false 6 l,.sl false 7 f]]⟩
end
theorem bZ {j:Nat}(h:j<4294967296):IntKind.i64.wrap (Int.ofNat (j+1)-1)=Int.ofNat j:=by grind[IntKind.wrap_i64]
theorem dM {j:Nat}:decide (0<Int.ofNat (j+1))=true:=by grind
theorem fK:decide (0<Int.ofNat 0)=false:=rfl
theorem QB (k i s:Int)(t:qaX)(l:qaW)(f:List (qaX×Val))(j:Nat)(hl:f.length<=60000)(hj:j<f.length):
  (∃r,(∃c:Int,(0<=c/\c<=100)/\∃bx,r=⟨[(2,num c)],bx⟩)/\∀M,60002<=M->run (callF tab ext M) 0 M (loopAt 115 0) (reH k i s t l (aj f) (aj f).length j)=some (.ret,r))\/(∃υ,canon 0 υ=some (reH k i s t l (aj f) (aj f).length (j+1))/\∀M,60002<=M->run (callF tab ext M) 0 M (loopAt 115 0) (reH k i s t l (aj f) (aj f).length j)=some (.norm,υ)):=by
 have Y:=aT f;have H:=eG hj;obtain ⟨b,F⟩:=Ai f[j].1;generalize f[j]=p at H F;obtain ⟨a,m,n,u,w,y,A⟩:=p;have h:=aI (j:=j) (k:=(aj f).length) (by omega);cases b with
 |false=>exact .inl ⟨⟨[(2,num 12)],[.var [num k,num i,num s,strX t,.sl false 6 l,.sl false 7 (aj f)],.var (strX a::(Val.mk m n u w y A).cells)]⟩,⟨12,by decide,_,rfl⟩,fun M B=>ruA [(17,.b true),(19,.e (strX a::(Val.mk m n u w y A).cells)),(24,.p (boolX false))] (pf3 h H (F M B))⟩
 |true=>
  cases j with
  |zero=>exact .inr ⟨⟨[(1,.ptr 0 0 0),(14,.sl false 7 (aj f)),(15,nat (aj f).length),(16,nat (0+1))],[.var [num k,num i,num s,strX t,.sl false 6 l,.sl false 7 (aj f)],.var (strX a::(Val.mk m n u w y A).cells)]⟩,by kernel_rfl,fun M B=>ruA [(17,.b true),(19,.e (strX a::(Val.mk m n u w y A).cells)),(24,.p (boolX true)),(28,.b false),(43,.b false),(56,.i (Int.ofNat (0+1)))] (pf6 h H (F M B) fK fK (ay (j:=0) (by omega)))⟩
  |succ j=>
   have V:j<f.length:=by omega
   have J:=eG V;generalize f[j]=q at J;obtain ⟨E,L,N,O,P,Q,S⟩:=q;cases U:(a.toList==E.toList) with
   |true=>exact .inl ⟨⟨[(2,num 7)],[.var [num k,num i,num s,strX t,.sl false 6 l,.sl false 7 (aj f)],.var (strX a::(Val.mk m n u w y A).cells)]⟩,⟨7,by decide,_,rfl⟩,fun M B=>ruA [(17,.b true),(19,.e (strX a::(Val.mk m n u w y A).cells)),(24,.p (boolX true)),(28,.b true),(35,.i (Int.ofNat j)),(36,.e (strX E::(Val.mk L N O P Q S).cells)),(39,.b true)] (pf7 h H (F M B) (dM (j:=j)) (bZ (j:=j) (by omega)) J U)⟩
   |false=>
    cases W:Op.bytesLess a.toList E.toList with
    |true=>exact .inl ⟨⟨[(2,num 24)],[.var [num k,num i,num s,strX t,.sl false 6 l,.sl false 7 (aj f)],.var (strX a::(Val.mk m n u w y A).cells)]⟩,⟨24,by decide,_,rfl⟩,fun M B=>ruA [(17,.b true),(19,.e (strX a::(Val.mk m n u w y A).cells)),(24,.p (boolX true)),(28,.b true),(35,.i (Int.ofNat j)),(36,.e (strX E::(Val.mk L N O P Q S).cells)),(39,.b false),(43,.b true),(50,.i (Int.ofNat j)),(51,.e (strX E::(Val.mk L N O P Q S).cells)),(54,.b true)] (pf11 h H (F M B) (dM (j:=j)) (bZ (j:=j) (by omega)) J U (dM (j:=j)) (bZ (j:=j) (by omega)) J W)⟩
    |false=>exact .inr ⟨⟨[(1,.ptr 0 0 0),(14,.sl false 7 (aj f)),(15,nat (aj f).length),(16,nat ((j+1)+1))],[.var [num k,num i,num s,strX t,.sl false 6 l,.sl false 7 (aj f)],.var (strX a::(Val.mk m n u w y A).cells)]⟩,by kernel_rfl,fun M B=>ruA [(17,.b true),(19,.e (strX a::(Val.mk m n u w y A).cells)),(24,.p (boolX true)),(28,.b true),(35,.i (Int.ofNat j)),(36,.e (strX E::(Val.mk L N O P Q S).cells)),(39,.b false),(43,.b true),(50,.i (Int.ofNat j)),(51,.e (strX E::(Val.mk L N O P Q S).cells)),(54,.b false),(56,.i (Int.ofNat ((j+1)+1)))] (pf12 h H (F M B) (dM (j:=j)) (bZ (j:=j) (by omega)) J U (dM (j:=j)) (bZ (j:=j) (by omega)) J W (ay (j:=(j+1)) (by omega)))⟩
theorem VI (x:Int)(h:decide (64<x)=true)(N:Nat)(hN:2<=N):Gam.pureD (callF tab ext N) 109 [num x,num 64,num 9]=some (num 9):=by obtain ⟨M,rfl⟩:=pR_ N;exact puA [(9,.b true)] (pf1 h) (num 9)
theorem zaS (v:Val):iM 60003 115 [.agg v.cells]:=by
 obtain ⟨k,i,s,t,l,f⟩:=v;have E:=aT f;by_cases F:f.length<=60000
 case neg=>
  have a:decide (64<Int.ofNat (aj f).length)=true:=by
   have:64<Int.ofNat (aj f).length:=by simp;omega
   exact decide_eq_true this
  apply bM;exact ⟨9,by decide,fun N m=>puA [(9,.p (num 9)),(11,.b true)] (pf2 (VI _ a N (by omega)) (show (!((9:Int)==0))=true from rfl)) (num 9)⟩
 obtain ⟨c,w,q⟩:=mZ (Int.ofNat (aj f).length) 64 9 (by decide);have:=scan (B:=60002) (b:=loopAt 115 0) (H:=fun j=>reH k i s t (ah l) (aj f) (aj f).length j) (τ:=reH k i s t (ah l) (aj f) (aj f).length 0) (n:=(aj f).length) (e:=.exit 0) (fin:=⟨[(1,.ptr 0 0 0),(14,.sl false 7 (aj f)),(15,nat (aj f).length),(16,nat (aj f).length),(17,boolX false)],[.var [num k,num i,num s,strX t,.sl false 6 (ah l),.sl false 7 (aj f)]]⟩) (fun r=>∃c:Int,(0<=c/\c<=100)/\∃bx,r=⟨[(2,num c)],bx⟩) (by kernel_rfl)
  (fun j A=>QB k i s t (ah l) f j (by omega) (by omega))
  (fun M _=>ruA [(17,.b false)] (pf1 (aG (qan (aj f).length)))) (by simp)
 apply bM;cases h:(!(c==0)) with
 |true=>exact ⟨c,w,fun N m=>puA [(9,.p (num c)),(11,.b true)] (pf2 (q N (by omega)) h) (num c)⟩
 |false=>
  rcases this with ⟨r,⟨d,y,bx,rfl⟩,u⟩|u;·exact ⟨d,y,fun N m=>puB [(9,.p (num c)),(11,.b false)] [(.ret,⟨[(2,num d)],bx⟩)] (pf3 (q N (by omega)) h (u N (by omega) (by omega))) (num d)⟩
  exact ⟨0,by decide,fun N m=>puB [(9,.p (num c)),(11,.b false)] [(.exit 0,⟨[(1,.ptr 0 0 0),(14,.sl false 7 (aj f)),(15,nat (aj f).length),(16,nat (aj f).length),(17,boolX false)],[.var [num k,num i,num s,strX t,.sl false 6 (ah l),.sl false 7 (aj f)]]⟩)] (pf3 (q N (by omega)) h (u N (by omega) (by omega))) (num 0)⟩
def Val.few:Val->Prop
 |.mk _ _ _ _ l f=>l.length<=2000000/\f.length<=2000000
mutual
def Val.wide:Val->Prop
 |.mk _ _ _ _ l f=>(l.length<=2000000/\f.length<=2000000)/\vP l/\vT f
def vP:List Val->Prop
 |[]=>True
 |v::r=>v.wide/\vP r
def vT:List (qaX×Val)->Prop
 |[]=>True
 |(_,v)::r=>v.wide/\vT r
end
theorem oP {v:Val}:∀{l:List Val},vP l->v∈l->v.wide
 |u::r,h,hm=>by
  simp only [vP] at h;rcases qal.1 hm with rfl|hm
  ·grind
  exact oP h.2 hm
theorem oQ {p:qaX×Val}:∀{l:List (qaX×Val)},vT l->p∈l->p.2.wide
 |(n,u)::r,h,hm=>by
  simp only [vT] at h;rcases qal.1 hm with rfl|hm
  ·grind
  exact oQ h.2 hm
theorem Jw (h:v.wide):v.few:=by obtain ⟨k,i,s,t,l,f⟩:=v;simp only [Val.wide] at h;exact h.1
mutual
theorem G9:∀{v:Val},v.size<=2000000->v.wide
 |.mk k i s t l f,h=>by simp only [Val.size] at h;have:=dU l;have:=dK f;simp only [Val.wide];exact ⟨⟨by omega,by omega⟩,JW (by omega),JX (by omega)⟩
theorem JW:∀{l:List Val},nZ l<=2000000->vP l
 |[],_=>by grind[vP]
 |v::r,h=>by simp only [nZ] at h;simp only [vP];exact ⟨G9 (by omega),JW (by omega)⟩
theorem JX:∀{l:List (qaX×Val)},pJ l<=2000000->vT l
 |[],_=>by grind[vT]
 |(n,v)::r,h=>by simp only [pJ] at h;simp only [vT];exact ⟨G9 (by omega),JX (by omega)⟩
end
theorem qL (h:v.ok):v.wide:=by grind[G9,Val.ok]
theorem Ea {acc:qaW}(j i bytes:Nat)(h:j=acc.length)(hj:j<3000000)(hb:bytes<1000):0+j=acc.length/\roomOk (j+1) bytes=true/\memN i []=false:=
 ⟨by omega,fP (by have:(j+1)*bytes<=3000000*1000:=Nat.mul_le_mul (by omega) (by omega);omega) (by omega),rfl⟩
def kC:Val->List Val
 |.mk k _ _ _ l f=>if k=8\/k=10 then l else if k=9 then f.map (·.2) else []
def paH (f acc:qaW)(n j:Nat):St:=⟨[(3,.bs 0 0 j),(16,.sl false 7 f),(17,nat n),(18,nat j)],[.row 6 acc]⟩
def zkQ (f acc:qaW)(n j:Nat)(x y:List X):St:=⟨[(3,.bs 2 0 (j+1)),(16,.sl false 7 f),(17,nat n),(18,nat (j+1))],[.dead,.var x,.row 6 (acc++[y])]⟩
theorem QK (f acc:qaW)(n j:Nat)(x y:List X):canon 0 (zkQ f acc n j x y)=some (paH f (acc++[y]) n (j+1)):=by kernel_rfl
theorem NJ (N:Nat)(v:Val)(hv:v.few)(hN:v.size+10<=N):Gam.pureD (callF tab ext N) 159 [.agg v.cells]=some (.sl false 6 (ah (kC v))):=by
 obtain ⟨M,rfl⟩:=pR_ N;obtain ⟨k,i,s,t,l,f⟩:=v;simp only [Val.size] at hN;have hv:=hv.2;have W:=dK f;have S:=aT f;simp only [kC];cases h:(k==8) with
 |true=>
  have:k=8:=by simpa using h
  rw [if_pos (Or.inl this)];exact puA [(9,.b true)] (pf1 h) (.sl false 6 (ah l))
 |false=>
  have Z:k≠8:=by simpa using h
  cases m:(k==10) with
  |true=>
   have:k=10:=by simpa using m
   rw [if_pos (Or.inr this)];exact puA [(9,.b false),(10,.b true)] (pf2 h m) (.sl false 6 (ah l))
  |false=>
   have U:k≠10:=by simpa using m
   rw [if_neg (by grind)];cases u:(k==9) with
   |false=>
    have V:k≠9:=by simpa using u
    rw [if_neg V];exact puA [(9,.b false),(10,.b false),(14,.b false)] (pf3 h m u) (.sl true 6 [])
   |true=>
    have:k=9:=by simpa using u
    rw [if_pos this];have a:run (callF tab ext M) 0 M (.loop (loopAt 159 0)) ⟨[(3,.bs 1 0 0),(16,.sl false 7 (aj f)),(17,nat (aj f).length),(18,nat 0)],[.var (Val.mk k i s t l f).cells,.row 6 []]⟩=some (.exit 1,⟨[(3,.bs 0 0 (aj f).length),(16,.sl false 7 (aj f)),(17,nat (aj f).length),(18,nat (aj f).length),(19,boolX false)],[.row 6 (ah (f.map (·.2)))]⟩):=by
     refine loop_for (σ:=fun j=>paH (aj f) ((ah (f.map (·.2))).take j) (aj f).length j) (k:=(aj f).length) (by kernel_rfl) (fun j Y=>?_) ?_ (by simp) (by omega)
     ·have n:j<f.length:=by omega
      have L:=eG n;have w:(ah (f.map (·.2)))[j]?=some f[j].2.cells:=by rw [fA];simp [n]
      have y:=bI w;have q:j=((ah (f.map (·.2))).take j).length:=by rw [qag,aK,qaB];omega
      generalize f[j]=p at L y;obtain ⟨O,A,B,E,F,H,J⟩:=p;refine ⟨zkQ (aj f) ((ah (f.map (·.2))).take j) (aj f).length j (strX O::(Val.mk A B E F H J).cells) (Val.mk A B E F H J).cells,ruA [(19,.b true),(20,.e (strX O::(Val.mk A B E F H J).cells)),(26,.app),(27,.i (Int.ofNat (j+1)))] (pf4 (aI (j:=j) (k:=(aj f).length) (by omega)) L (Ea (acc:=(ah (f.map (·.2))).take j) j 0 88 q (by omega) (by omega)) (ay (j:=j) (by omega))),?_⟩
      grind[QK]
     have y:(ah (f.map (·.2))).take (aj f).length=ah (f.map (·.2)):=List.take_of_length_le (by grind[aK]);rw [y];exact ruA [(19,.b false)] (pf1 (aG (qan (aj f).length)))
    have P:(X.bs 0 0 (aj f).length).data [.row 6 (ah (f.map (·.2)))] false=some (.sl false 6 (ah (f.map (·.2)))):=by
     have Q:(ah (f.map (·.2))).length=(aj f).length:=by rw [aK,qaB,S]
     simp only [X.data,rowOf,List.getElem?_cons_zero,Nat.zero_add,Q,Nat.le_refl,if_true,qao,List.drop_zero];rw [List.take_of_length_le (by omega)]
    exact pure_of [(9,.b false),(10,.b false),(14,.b true)] [(.exit 1,⟨[(3,.bs 0 0 (aj f).length),(16,.sl false 7 (aj f)),(17,nat (aj f).length),(18,nat (aj f).length),(19,boolX false)],[.row 6 (ah (f.map (·.2)))]⟩)]
     (pf4 h m u a) (bx:=[.row 6 (ah (f.map (·.2)))]) (by kernel_rfl) P
def rfsOf:C->List (C×C)
 |.seq a b|.cond _ a b=>rfsOf a++rfsOf b
 |.block _ b|.loop b=>rfsOf b
 |.rf _ _ _ a b=>(a,b)::(rfsOf a++rfsOf b)
 |_=>[]
noncomputable def zeu (f:Nat):C×C:=match tab f with
 |some fd=>(rfsOf fd.body).getD 0 (.skip,.skip)
 |none=>(.skip,.skip)
noncomputable def recC (st:LoopState)(p:Option Ex):Bx:=.loop st p [(2,.ptr 1 0 0),(3,.ptr 2 0 0),(4,.ptr 3 0 0)] [11,12] (zeu 25).1 (zeu 25).2
def nR:List X:=[.v .nilFunc,.fn 103 [],.fn 105 [],.fn 106 [],.fn 108 [],.fn 111 [],.fn 112 [],.fn 113 [],.fn 114 [],.fn 115 [],.fn 117 []]
noncomputable def goC (n:Nat):List Bx:=[recC .ready none,.var [num 0],.var nR,.var [nat n]]
noncomputable def TF (c:Int)(n:Nat):List Bx:=[recC .done (some .ret),.var [num c],.var nR,.var [nat n]]
def Round (v:Val)(lev:Int)(n:Nat):Prop:=
 (∃c:Int,(0<=c/\c<=100)/\∀N,60010<=N->callF tab ext N .yl [.yl 0,num lev,.agg v.cells] (goC n)=some (boolX false,TF c (n+1)))\/
 (n<=4096/\∀N,60010<=N->callF tab ext N .yl [.yl 0,num lev,.agg v.cells] (goC n)=some (boolX true,goC (n+1)))
theorem dI {lev:Int}{n:Nat}(h:(∃c:Int,(0<=c/\c<=100)/\∀N,60009<=N->callF tab ext (N+1) .yl [.yl 0,num lev,.agg v.cells] (goC n)=some (boolX false,TF c (n+1)))\/
 (n<=4096/\∀N,60009<=N->callF tab ext (N+1) .yl [.yl 0,num lev,.agg v.cells] (goC n)=some (boolX true,goC (n+1)))):Round v lev n:=by
 rcases h with ⟨c,a,h⟩|⟨j,h⟩;·refine .inl ⟨c,a,fun N f=>?_⟩;obtain ⟨M,rfl⟩:=pR_ N<;>simp_all
 refine .inr ⟨j,fun N f=>?_⟩;obtain ⟨M,rfl⟩:=pR_ N<;>simp_all
theorem gQ (v:Val)(N:Nat)(hN:60009<=N):Gam.pureD (callF tab ext N) 26 [.agg v.cells]=some (boolX (dw v)):=by obtain ⟨M,rfl⟩:=pR_ N<;>simp_all[nD]
theorem iy {n:Nat}(h:decide (4096<Int.ofNat (n+1))=false):n<=4096:=by grind
theorem zfy (i s:Int)(t:qaX)(l:List Val)(f:List (qaX×Val))(lev:Int)(n:Nat)(hn:n<4294967296):Round (Val.mk 1 i s t l f) lev n:=by
 obtain ⟨b,q⟩:=zic i s t l f;obtain ⟨c,y,w⟩:=za0 (Val.mk 1 i s t l f);apply dI;cases h:decide (4096<Int.ofNat (n+1)) with
 |true=>exact .inl ⟨9,by decide,fun N a=>yiA [(14,.i (Int.ofNat (n+1))),(17,.b true)] (pf2 (ay (j:=n) hn) h)⟩
 |false=>
  cases m:decide (8<lev) with
  |true=>exact .inl ⟨23,by decide,fun N a=>yiA [(14,.i (Int.ofNat (n+1))),(17,.b false),(20,.b true)] (pf3 (ay (j:=n) hn) h m)⟩
  |false=>
   have hz:=gQ (Val.mk 1 i s t l f);generalize dw (Val.mk 1 i s t l f)=z at hz;cases z with
   |true=>exact .inl ⟨19,by decide,fun N a=>yiA [(14,.i (Int.ofNat (n+1))),(17,.b false),(20,.b false),(23,.p (boolX true))] (pf4 (ay (j:=n) hn) h m (hz N a))⟩
   |false=>
    cases b with
    |true=>
     cases u:(!(c==0)) with
     |true=>exact .inl ⟨c,y,fun N a=>yiA [(14,.i (Int.ofNat (n+1))),(17,.b false),(20,.b false),(23,.p (boolX false)),(35,.p (boolX true)),(42,.p (num c)),(44,.b true)] (pf7 (ay (j:=n) hn) h m (hz N a) (q N (by omega)) (w N (by omega)) u)⟩
     |false=>exact .inr ⟨iy h,fun N a=>yiA [(14,.i (Int.ofNat (n+1))),(17,.b false),(20,.b false),(23,.p (boolX false)),(35,.p (boolX true)),(42,.p (num c)),(44,.b false)] (pf7 (ay (j:=n) hn) h m (hz N a) (q N (by omega)) (w N (by omega)) u)⟩
    |false=>exact .inl ⟨3,by decide,fun N a=>yiA [(14,.i (Int.ofNat (n+1))),(17,.b false),(20,.b false),(23,.p (boolX false)),(35,.p (boolX false))] (pf5 (ay (j:=n) hn) h m (hz N a) (q N (by omega)))⟩
theorem zfx (i s:Int)(t:qaX)(l:List Val)(f:List (qaX×Val))(lev:Int)(n:Nat)(hn:n<4294967296):Round (Val.mk 2 i s t l f) lev n:=by
 obtain ⟨b,q⟩:=zib i s t l f;obtain ⟨c,y,w⟩:=zaZ (Val.mk 2 i s t l f);apply dI;cases h:decide (4096<Int.ofNat (n+1)) with
 |true=>exact .inl ⟨9,by decide,fun N a=>yiA [(14,.i (Int.ofNat (n+1))),(17,.b true)] (pf2 (ay (j:=n) hn) h)⟩
 |false=>
  cases m:decide (8<lev) with
  |true=>exact .inl ⟨23,by decide,fun N a=>yiA [(14,.i (Int.ofNat (n+1))),(17,.b false),(20,.b true)] (pf3 (ay (j:=n) hn) h m)⟩
  |false=>
   have hz:=gQ (Val.mk 2 i s t l f);generalize dw (Val.mk 2 i s t l f)=z at hz;cases z with
   |true=>exact .inl ⟨19,by decide,fun N a=>yiA [(14,.i (Int.ofNat (n+1))),(17,.b false),(20,.b false),(23,.p (boolX true))] (pf4 (ay (j:=n) hn) h m (hz N a))⟩
   |false=>
    cases b with
    |true=>
     cases u:(!(c==0)) with
     |true=>exact .inl ⟨c,y,fun N a=>yiA [(14,.i (Int.ofNat (n+1))),(17,.b false),(20,.b false),(23,.p (boolX false)),(35,.p (boolX true)),(42,.p (num c)),(44,.b true)] (pf7 (ay (j:=n) hn) h m (hz N a) (q N (by omega)) (w N (by omega)) u)⟩
     |false=>exact .inr ⟨iy h,fun N a=>yiA [(14,.i (Int.ofNat (n+1))),(17,.b false),(20,.b false),(23,.p (boolX false)),(35,.p (boolX true)),(42,.p (num c)),(44,.b false)] (pf7 (ay (j:=n) hn) h m (hz N a) (q N (by omega)) (w N (by omega)) u)⟩
    |false=>exact .inl ⟨3,by decide,fun N a=>yiA [(14,.i (Int.ofNat (n+1))),(17,.b false),(20,.b false),(23,.p (boolX false)),(35,.p (boolX false))] (pf5 (ay (j:=n) hn) h m (hz N a) (q N (by omega)))⟩
theorem zfw (i s:Int)(t:qaX)(l:List Val)(f:List (qaX×Val))(lev:Int)(n:Nat)(hn:n<4294967296):Round (Val.mk 3 i s t l f) lev n:=by
 obtain ⟨b,q⟩:=zia i s t l f;obtain ⟨c,y,w⟩:=zaY (Val.mk 3 i s t l f);apply dI;cases h:decide (4096<Int.ofNat (n+1)) with
 |true=>exact .inl ⟨9,by decide,fun N a=>yiA [(14,.i (Int.ofNat (n+1))),(17,.b true)] (pf2 (ay (j:=n) hn) h)⟩
 |false=>
  cases m:decide (8<lev) with
  |true=>exact .inl ⟨23,by decide,fun N a=>yiA [(14,.i (Int.ofNat (n+1))),(17,.b false),(20,.b true)] (pf3 (ay (j:=n) hn) h m)⟩
  |false=>
   have hz:=gQ (Val.mk 3 i s t l f);generalize dw (Val.mk 3 i s t l f)=z at hz;cases z with
   |true=>exact .inl ⟨19,by decide,fun N a=>yiA [(14,.i (Int.ofNat (n+1))),(17,.b false),(20,.b false),(23,.p (boolX true))] (pf4 (ay (j:=n) hn) h m (hz N a))⟩
   |false=>
    cases b with
    |true=>
     cases u:(!(c==0)) with
     |true=>exact .inl ⟨c,y,fun N a=>yiA [(14,.i (Int.ofNat (n+1))),(17,.b false),(20,.b false),(23,.p (boolX false)),(35,.p (boolX true)),(42,.p (num c)),(44,.b true)] (pf7 (ay (j:=n) hn) h m (hz N a) (q N (by omega)) (w N (by omega)) u)⟩
     |false=>exact .inr ⟨iy h,fun N a=>yiA [(14,.i (Int.ofNat (n+1))),(17,.b false),(20,.b false),(23,.p (boolX false)),(35,.p (boolX true)),(42,.p (num c)),(44,.b false)] (pf7 (ay (j:=n) hn) h m (hz N a) (q N (by omega)) (w N (by omega)) u)⟩
    |false=>exact .inl ⟨3,by decide,fun N a=>yiA [(14,.i (Int.ofNat (n+1))),(17,.b false),(20,.b false),(23,.p (boolX false)),(35,.p (boolX false))] (pf5 (ay (j:=n) hn) h m (hz N a) (q N (by omega)))⟩
theorem zfv (i s:Int)(t:qaX)(l:List Val)(f:List (qaX×Val))(lev:Int)(n:Nat)(hn:n<4294967296):Round (Val.mk 4 i s t l f) lev n:=by
 obtain ⟨b,q⟩:=zh9 i s t l f;obtain ⟨c,y,w⟩:=zaX (Val.mk 4 i s t l f);apply dI;cases h:decide (4096<Int.ofNat (n+1)) with
 |true=>exact .inl ⟨9,by decide,fun N a=>yiA [(14,.i (Int.ofNat (n+1))),(17,.b true)] (pf2 (ay (j:=n) hn) h)⟩
 |false=>
  cases m:decide (8<lev) with
  |true=>exact .inl ⟨23,by decide,fun N a=>yiA [(14,.i (Int.ofNat (n+1))),(17,.b false),(20,.b true)] (pf3 (ay (j:=n) hn) h m)⟩
  |false=>
   have hz:=gQ (Val.mk 4 i s t l f);generalize dw (Val.mk 4 i s t l f)=z at hz;cases z with
   |true=>exact .inl ⟨19,by decide,fun N a=>yiA [(14,.i (Int.ofNat (n+1))),(17,.b false),(20,.b false),(23,.p (boolX true))] (pf4 (ay (j:=n) hn) h m (hz N a))⟩
   |false=>
    cases b with
    |true=>
     cases u:(!(c==0)) with
     |true=>exact .inl ⟨c,y,fun N a=>yiA [(14,.i (Int.ofNat (n+1))),(17,.b false),(20,.b false),(23,.p (boolX false)),(35,.p (boolX true)),(42,.p (num c)),(44,.b true)] (pf7 (ay (j:=n) hn) h m (hz N a) (q N (by omega)) (w N (by omega)) u)⟩
     |false=>exact .inr ⟨iy h,fun N a=>yiA [(14,.i (Int.ofNat (n+1))),(17,.b false),(20,.b false),(23,.p (boolX false)),(35,.p (boolX true)),(42,.p (num c)),(44,.b false)] (pf7 (ay (j:=n) hn) h m (hz N a) (q N (by omega)) (w N (by omega)) u)⟩
    |false=>exact .inl ⟨3,by decide,fun N a=>yiA [(14,.i (Int.ofNat (n+1))),(17,.b false),(20,.b false),(23,.p (boolX false)),(35,.p (boolX false))] (pf5 (ay (j:=n) hn) h m (hz N a) (q N (by omega)))⟩
theorem zfu (i s:Int)(t:qaX)(l:List Val)(f:List (qaX×Val))(lev:Int)(n:Nat)(hn:n<4294967296):Round (Val.mk 5 i s t l f) lev n:=by
 obtain ⟨b,q⟩:=zh8 i s t l f;obtain ⟨c,y,w⟩:=zaW (Val.mk 5 i s t l f);apply dI;cases h:decide (4096<Int.ofNat (n+1)) with
 |true=>exact .inl ⟨9,by decide,fun N a=>yiA [(14,.i (Int.ofNat (n+1))),(17,.b true)] (pf2 (ay (j:=n) hn) h)⟩
 |false=>
  cases m:decide (8<lev) with
  |true=>exact .inl ⟨23,by decide,fun N a=>yiA [(14,.i (Int.ofNat (n+1))),(17,.b false),(20,.b true)] (pf3 (ay (j:=n) hn) h m)⟩
  |false=>
   have hz:=gQ (Val.mk 5 i s t l f);generalize dw (Val.mk 5 i s t l f)=z at hz;cases z with
   |true=>exact .inl ⟨19,by decide,fun N a=>yiA [(14,.i (Int.ofNat (n+1))),(17,.b false),(20,.b false),(23,.p (boolX true))] (pf4 (ay (j:=n) hn) h m (hz N a))⟩
   |false=>
    cases b with
    |true=>
     cases u:(!(c==0)) with
     |true=>exact .inl ⟨c,y,fun N a=>yiA [(14,.i (Int.ofNat (n+1))),(17,.b false),(20,.b false),(23,.p (boolX false)),(35,.p (boolX true)),(42,.p (num c)),(44,.b true)] (pf7 (ay (j:=n) hn) h m (hz N a) (q N (by omega)) (w N (by omega)) u)⟩
     |false=>exact .inr ⟨iy h,fun N a=>yiA [(14,.i (Int.ofNat (n+1))),(17,.b false),(20,.b false),(23,.p (boolX false)),(35,.p (boolX true)),(42,.p (num c)),(44,.b false)] (pf7 (ay (j:=n) hn) h m (hz N a) (q N (by omega)) (w N (by omega)) u)⟩
    |false=>exact .inl ⟨3,by decide,fun N a=>yiA [(14,.i (Int.ofNat (n+1))),(17,.b false),(20,.b false),(23,.p (boolX false)),(35,.p (boolX false))] (pf5 (ay (j:=n) hn) h m (hz N a) (q N (by omega)))⟩
theorem zft (i s:Int)(t:qaX)(l:List Val)(f:List (qaX×Val))(lev:Int)(n:Nat)(hn:n<4294967296):Round (Val.mk 6 i s t l f) lev n:=by
 obtain ⟨b,q⟩:=zh7 i s t l f;obtain ⟨c,y,w⟩:=zaV (Val.mk 6 i s t l f);apply dI;cases h:decide (4096<Int.ofNat (n+1)) with
 |true=>exact .inl ⟨9,by decide,fun N a=>yiA [(14,.i (Int.ofNat (n+1))),(17,.b true)] (pf2 (ay (j:=n) hn) h)⟩
 |false=>
  cases m:decide (8<lev) with
  |true=>exact .inl ⟨23,by decide,fun N a=>yiA [(14,.i (Int.ofNat (n+1))),(17,.b false),(20,.b true)] (pf3 (ay (j:=n) hn) h m)⟩
  |false=>
   have hz:=gQ (Val.mk 6 i s t l f);generalize dw (Val.mk 6 i s t l f)=z at hz;cases z with
   |true=>exact .inl ⟨19,by decide,fun N a=>yiA [(14,.i (Int.ofNat (n+1))),(17,.b false),(20,.b false),(23,.p (boolX true))] (pf4 (ay (j:=n) hn) h m (hz N a))⟩
   |false=>
    cases b with
    |true=>
     cases u:(!(c==0)) with
     |true=>exact .inl ⟨c,y,fun N a=>yiA [(14,.i (Int.ofNat (n+1))),(17,.b false),(20,.b false),(23,.p (boolX false)),(35,.p (boolX true)),(42,.p (num c)),(44,.b true)] (pf7 (ay (j:=n) hn) h m (hz N a) (q N (by omega)) (w N (by omega)) u)⟩
     |false=>exact .inr ⟨iy h,fun N a=>yiA [(14,.i (Int.ofNat (n+1))),(17,.b false),(20,.b false),(23,.p (boolX false)),(35,.p (boolX true)),(42,.p (num c)),(44,.b false)] (pf7 (ay (j:=n) hn) h m (hz N a) (q N (by omega)) (w N (by omega)) u)⟩
    |false=>exact .inl ⟨3,by decide,fun N a=>yiA [(14,.i (Int.ofNat (n+1))),(17,.b false),(20,.b false),(23,.p (boolX false)),(35,.p (boolX false))] (pf5 (ay (j:=n) hn) h m (hz N a) (q N (by omega)))⟩
theorem zfs (i s:Int)(t:qaX)(l:List Val)(f:List (qaX×Val))(lev:Int)(n:Nat)(hn:n<4294967296):Round (Val.mk 7 i s t l f) lev n:=by
 obtain ⟨b,q⟩:=zh6 i s t l f;obtain ⟨c,y,w⟩:=zaU (Val.mk 7 i s t l f);apply dI;cases h:decide (4096<Int.ofNat (n+1)) with
 |true=>exact .inl ⟨9,by decide,fun N a=>yiA [(14,.i (Int.ofNat (n+1))),(17,.b true)] (pf2 (ay (j:=n) hn) h)⟩
 |false=>
  cases m:decide (8<lev) with
  |true=>exact .inl ⟨23,by decide,fun N a=>yiA [(14,.i (Int.ofNat (n+1))),(17,.b false),(20,.b true)] (pf3 (ay (j:=n) hn) h m)⟩
  |false=>
   have hz:=gQ (Val.mk 7 i s t l f);generalize dw (Val.mk 7 i s t l f)=z at hz;cases z with
   |true=>exact .inl ⟨19,by decide,fun N a=>yiA [(14,.i (Int.ofNat (n+1))),(17,.b false),(20,.b false),(23,.p (boolX true))] (pf4 (ay (j:=n) hn) h m (hz N a))⟩
   |false=>
    cases b with
    |true=>
     cases u:(!(c==0)) with
     |true=>exact .inl ⟨c,y,fun N a=>yiA [(14,.i (Int.ofNat (n+1))),(17,.b false),(20,.b false),(23,.p (boolX false)),(35,.p (boolX true)),(42,.p (num c)),(44,.b true)] (pf7 (ay (j:=n) hn) h m (hz N a) (q N (by omega)) (w N (by omega)) u)⟩
     |false=>exact .inr ⟨iy h,fun N a=>yiA [(14,.i (Int.ofNat (n+1))),(17,.b false),(20,.b false),(23,.p (boolX false)),(35,.p (boolX true)),(42,.p (num c)),(44,.b false)] (pf7 (ay (j:=n) hn) h m (hz N a) (q N (by omega)) (w N (by omega)) u)⟩
    |false=>exact .inl ⟨3,by decide,fun N a=>yiA [(14,.i (Int.ofNat (n+1))),(17,.b false),(20,.b false),(23,.p (boolX false)),(35,.p (boolX false))] (pf5 (ay (j:=n) hn) h m (hz N a) (q N (by omega)))⟩
theorem zfr (i s:Int)(t:qaX)(l:List Val)(f:List (qaX×Val))(lev:Int)(n:Nat)(hn:n<4294967296):Round (Val.mk 8 i s t l f) lev n:=by
 obtain ⟨b,q⟩:=zh5 i s t l f;obtain ⟨c,y,w⟩:=zaT (Val.mk 8 i s t l f);apply dI;cases h:decide (4096<Int.ofNat (n+1)) with
 |true=>exact .inl ⟨9,by decide,fun N a=>yiA [(14,.i (Int.ofNat (n+1))),(17,.b true)] (pf2 (ay (j:=n) hn) h)⟩
 |false=>
  cases m:decide (8<lev) with
  |true=>exact .inl ⟨23,by decide,fun N a=>yiA [(14,.i (Int.ofNat (n+1))),(17,.b false),(20,.b true)] (pf3 (ay (j:=n) hn) h m)⟩
  |false=>
   have hz:=gQ (Val.mk 8 i s t l f);generalize dw (Val.mk 8 i s t l f)=z at hz;cases z with
   |true=>exact .inl ⟨19,by decide,fun N a=>yiA [(14,.i (Int.ofNat (n+1))),(17,.b false),(20,.b false),(23,.p (boolX true))] (pf4 (ay (j:=n) hn) h m (hz N a))⟩
   |false=>
    cases b with
    |true=>
     cases u:(!(c==0)) with
     |true=>exact .inl ⟨c,y,fun N a=>yiA [(14,.i (Int.ofNat (n+1))),(17,.b false),(20,.b false),(23,.p (boolX false)),(35,.p (boolX true)),(42,.p (num c)),(44,.b true)] (pf7 (ay (j:=n) hn) h m (hz N a) (q N (by omega)) (w N (by omega)) u)⟩
     |false=>exact .inr ⟨iy h,fun N a=>yiA [(14,.i (Int.ofNat (n+1))),(17,.b false),(20,.b false),(23,.p (boolX false)),(35,.p (boolX true)),(42,.p (num c)),(44,.b false)] (pf7 (ay (j:=n) hn) h m (hz N a) (q N (by omega)) (w N (by omega)) u)⟩
    |false=>exact .inl ⟨3,by decide,fun N a=>yiA [(14,.i (Int.ofNat (n+1))),(17,.b false),(20,.b false),(23,.p (boolX false)),(35,.p (boolX false))] (pf5 (ay (j:=n) hn) h m (hz N a) (q N (by omega)))⟩
theorem zfq (i s:Int)(t:qaX)(l:List Val)(f:List (qaX×Val))(lev:Int)(n:Nat)(hn:n<4294967296):Round (Val.mk 9 i s t l f) lev n:=by
 obtain ⟨b,q⟩:=zh4 i s t l f;obtain ⟨c,y,w⟩:=zaS (Val.mk 9 i s t l f);apply dI;cases h:decide (4096<Int.ofNat (n+1)) with
 |true=>exact .inl ⟨9,by decide,fun N a=>yiA [(14,.i (Int.ofNat (n+1))),(17,.b true)] (pf2 (ay (j:=n) hn) h)⟩
 |false=>
  cases m:decide (8<lev) with
  |true=>exact .inl ⟨23,by decide,fun N a=>yiA [(14,.i (Int.ofNat (n+1))),(17,.b false),(20,.b true)] (pf3 (ay (j:=n) hn) h m)⟩
  |false=>
   have hz:=gQ (Val.mk 9 i s t l f);generalize dw (Val.mk 9 i s t l f)=z at hz;cases z with
   |true=>exact .inl ⟨19,by decide,fun N a=>yiA [(14,.i (Int.ofNat (n+1))),(17,.b false),(20,.b false),(23,.p (boolX true))] (pf4 (ay (j:=n) hn) h m (hz N a))⟩
   |false=>
    cases b with
    |true=>
     cases u:(!(c==0)) with
     |true=>exact .inl ⟨c,y,fun N a=>yiA [(14,.i (Int.ofNat (n+1))),(17,.b false),(20,.b false),(23,.p (boolX false)),(35,.p (boolX true)),(42,.p (num c)),(44,.b true)] (pf7 (ay (j:=n) hn) h m (hz N a) (q N (by omega)) (w N (by omega)) u)⟩
     |false=>exact .inr ⟨iy h,fun N a=>yiA [(14,.i (Int.ofNat (n+1))),(17,.b false),(20,.b false),(23,.p (boolX false)),(35,.p (boolX true)),(42,.p (num c)),(44,.b false)] (pf7 (ay (j:=n) hn) h m (hz N a) (q N (by omega)) (w N (by omega)) u)⟩
    |false=>exact .inl ⟨3,by decide,fun N a=>yiA [(14,.i (Int.ofNat (n+1))),(17,.b false),(20,.b false),(23,.p (boolX false)),(35,.p (boolX false))] (pf5 (ay (j:=n) hn) h m (hz N a) (q N (by omega)))⟩
theorem za2 (i s:Int)(t:qaX)(l:List Val)(f:List (qaX×Val))(lev:Int)(n:Nat)(hn:n<4294967296):Round (Val.mk 10 i s t l f) lev n:=by
 obtain ⟨b,q⟩:=zeM i s t l f;obtain ⟨c,y,w⟩:=zaR (Val.mk 10 i s t l f);apply dI;cases h:decide (4096<Int.ofNat (n+1)) with
 |true=>exact .inl ⟨9,by decide,fun N a=>yiA [(14,.i (Int.ofNat (n+1))),(17,.b true)] (pf2 (ay (j:=n) hn) h)⟩
 |false=>
  cases m:decide (8<lev) with
  |true=>exact .inl ⟨23,by decide,fun N a=>yiA [(14,.i (Int.ofNat (n+1))),(17,.b false),(20,.b true)] (pf3 (ay (j:=n) hn) h m)⟩
  |false=>
   have hz:=gQ (Val.mk 10 i s t l f);generalize dw (Val.mk 10 i s t l f)=z at hz;cases z with
   |true=>exact .inl ⟨19,by decide,fun N a=>yiA [(14,.i (Int.ofNat (n+1))),(17,.b false),(20,.b false),(23,.p (boolX true))] (pf4 (ay (j:=n) hn) h m (hz N a))⟩
   |false=>
    cases b with
    |true=>
     cases u:(!(c==0)) with
     |true=>exact .inl ⟨c,y,fun N a=>yiA [(14,.i (Int.ofNat (n+1))),(17,.b false),(20,.b false),(23,.p (boolX false)),(35,.p (boolX true)),(42,.p (num c)),(44,.b true)] (pf7 (ay (j:=n) hn) h m (hz N a) (q N (by omega)) (w N (by omega)) u)⟩
     |false=>exact .inr ⟨iy h,fun N a=>yiA [(14,.i (Int.ofNat (n+1))),(17,.b false),(20,.b false),(23,.p (boolX false)),(35,.p (boolX true)),(42,.p (num c)),(44,.b false)] (pf7 (ay (j:=n) hn) h m (hz N a) (q N (by omega)) (w N (by omega)) u)⟩
    |false=>exact .inl ⟨3,by decide,fun N a=>yiA [(14,.i (Int.ofNat (n+1))),(17,.b false),(20,.b false),(23,.p (boolX false)),(35,.p (boolX false))] (pf5 (ay (j:=n) hn) h m (hz N a) (q N (by omega)))⟩
theorem H7 (v:Val)(lev:Int)(n:Nat)(hn:n<4294967296):Round v lev n:=by
 obtain ⟨k,i,s,t,l,f⟩:=v;by_cases h:1<=k/\k<=10
 ·have:k=1\/k=2\/k=3\/k=4\/k=5\/k=6\/k=7\/k=8\/k=9\/k=10:=by omega
  rcases this with rfl|rfl|rfl|rfl|rfl|rfl|rfl|rfl|rfl|rfl
  ·grind[zfy]
  ·grind[zfx]
  ·grind[zfw]
  ·grind[zfv]
  ·grind[zfu]
  ·grind[zft]
  ·grind[zfs]
  ·grind[zfr]
  ·grind[zfq]
  grind[za2]
 apply dI;cases m:decide (4096<Int.ofNat (n+1)) with
 |true=>exact .inl ⟨9,by decide,fun N a=>yiA [(14,.i (Int.ofNat (n+1))),(17,.b true)] (pf2 (ay (j:=n) hn) m)⟩
 |false=>
  cases q:decide (8<lev) with
  |true=>exact .inl ⟨23,by decide,fun N a=>yiA [(14,.i (Int.ofNat (n+1))),(17,.b false),(20,.b true)] (pf3 (ay (j:=n) hn) m q)⟩
  |false=>
   have hz:=gQ (Val.mk k i s t l f);generalize dw (Val.mk k i s t l f)=z at hz;cases z with
   |true=>exact .inl ⟨19,by decide,fun N a=>yiA [(14,.i (Int.ofNat (n+1))),(17,.b false),(20,.b false),(23,.p (boolX true))] (pf4 (ay (j:=n) hn) m q (hz N a))⟩
   |false=>
    cases u:decide (k<1) with
    |true=>exact .inl ⟨11,by decide,fun N a=>yiA [(14,.i (Int.ofNat (n+1))),(17,.b false),(20,.b false),(23,.p (boolX false)),(27,.b true)] (pf5 (ay (j:=n) hn) m q (hz N a) u)⟩
    |false=>
     cases w:decide (10<k) with
     |true=>exact .inl ⟨11,by decide,fun N a=>yiA [(14,.i (Int.ofNat (n+1))),(17,.b false),(20,.b false),(23,.p (boolX false)),(27,.b false),(31,.b true)] (pf6 (ay (j:=n) hn) m q (hz N a) u w)⟩
     |false=>grind
end Go.Proofs.YtcbeoccmflnejaaGreatDoor
