/-.-/
import Derived.Test.YtpcjeobkehmhpaaGreatDoorU13
set_option linter.unusedSimpArgs false
set_option linter.unusedVariables false
namespace Go.Proofs.YtpcjeobkehmhpaaGreatDoor
open Go.Em
set_option maxRecDepth 100000
variable {e:Ex}{args:List X}{B:Nat}{H:Nat->St}{fin τ:St}{v:Val}
structure Otp where
 port:Int
 m:Msg
def Otp.cells (o:Otp):List X:=num o.port::o.m.cells
def uw (l:List Otp):qaY:=l.map Otp.cells
theorem qV (l:List Otp):(uw l).length=l.length:=by simp [uw]
theorem Y3 {l:List Otp}{j:Nat}(h:j<l.length):(uw l)[j]?=some l[j].cells:=by grind[uw]
structure Fte where
 st:Stp
 kind:Int
 node:qaZ
 into:List Stp
 text:qaZ
def Fte.cells (f:Fte):List X:=[num f.st.e,.sl false 1 (aI f.st.p),num f.kind,aC f.node,.sl false 2 (iJ f.into),aC f.text]
def zrv (l:List Fte):qaY:=l.map Fte.cells
structure Ocm where
 s:Stt
 outs:List Otp
 dK:List Fte
 letters:List Msg
def Ocm.cells (o:Ocm):List X:=[num o.s.n,num o.s.t,.sl false 10 (bf o.s.slots),.sl false 11 (uw o.outs),.sl false 11 [],.sl false 6 (zrv o.dK),.sl false 10 (aP o.letters)]
def Val.ok (v:Val):Prop:=v.size<=60000
structure Stp.ok (s:Stp):Prop where
 p:s.p.length<=60000
structure Msg.ok (m:Msg):Prop where
 st:m.st.ok
 orig:m.orig.length<=60000
 body:m.body.ok
structure Slt.ok (s:Slt):Prop where
 key:s.key.ok
 items:s.items.length<=60000
 item:∀m,m∈s.items->m.ok
 vals:s.vals.length<=60000
 val:∀v,v∈s.vals->v.ok
structure Stt.ok (s:Stt):Prop where
 slots:s.slots.length<=60000
 slot:∀x,x∈s.slots->x.ok
theorem eq_self {α:Type}[BEq α][ReflBEq α](a:α):(a==a)=true:=BEq.rfl
theorem WE (a:qaZ):(a.toList==a.toList)=true:=by simp
theorem I7 {k:Nat}:(!(Int.ofNat k==Int.ofNat k))=false:=by simp
theorem zrD (M g:Nat)(l:List Val)(hr:∀a,a∈l->Gam.aF (ah tab ext M) g [.agg a.cells,.agg a.cells]=some (ak true))(hl:l.length<=60000)(hN:l.length<M):
  Gam.aF (ah tab ext (M+1)) 58 [.sl false 6 (au l),.sl false 6 (au l),.fn g []]=some (ak true):=by
 have hn:=aS l;have h:run (ah tab ext M) 0 M (.loop (aH 58 0)) (znS g (au l) (au l) (au l).length 0)=some (.exit 0,ztB g (au l) (au l) (au l).length (au l).length):=by
  refine bJ (σ:=fun j=>znS g (au l) (au l) (au l).length j) (k:=(au l).length) (V9 _ _ _ _ _) (fun j hj=>?_) ?_ (by simp) (by omega)
  ·have hj':j<l.length:=by omega
   have hg:=fV hj';have hc:=hr _ (qah hj');generalize l[j]=a at hg hc;obtain ⟨a1,a2,a3,a4,a5,a6⟩:=a;exact ⟨⟨(znS g (au l) (au l) (au l).length (j+1)).tm,[.var (Val.mk a1 a2 a3 a4 a5 a6).cells,.var (Val.mk a1 a2 a3 a4 a5 a6).cells]⟩,ruA [(18,.b true),(20,.e (Val.mk a1 a2 a3 a4 a5 a6).cells),(24,.e (Val.mk a1 a2 a3 a4 a5 a6).cells),(29,.p (ak true)),(31,.i (Int.ofNat (j+1)))] (pf5 (aN (j:=j) (k:=(au l).length) (by omega)) hg hg hc (aB (j:=j) (by omega))),by kernel_rfl⟩
  exact ruA [(18,.b false)] (pf1 (aO (qaC (au l).length)))
 exact puB [(14,.b false)] [(.exit 0,ztB g (au l) (au l) (au l).length (au l).length)] (pf2 (I7 (k:=(au l).length)) h) (ak true)
theorem zrE (M g:Nat)(l:List Msg)(hr:∀a,a∈l->Gam.aF (ah tab ext M) g [.agg a.cells,.agg a.cells]=some (ak true))(hl:l.length<=60000)(hN:l.length<M):
  Gam.aF (ah tab ext (M+1)) 57 [.sl false 10 (aP l),.sl false 10 (aP l),.fn g []]=some (ak true):=by
 have hn:=gW l;have h:run (ah tab ext M) 0 M (.loop (aH 57 0)) (znT g (aP l) (aP l) (aP l).length 0)=some (.exit 0,ztC g (aP l) (aP l) (aP l).length (aP l).length):=by
  refine bJ (σ:=fun j=>znT g (aP l) (aP l) (aP l).length j) (k:=(aP l).length) (Wh _ _ _ _ _) (fun j hj=>?_) ?_ (by simp) (by omega)
  ·have hj':j<l.length:=by omega
   have hg:=vU hj';have hc:=hr _ (qah hj');generalize l[j]=a at hg hc;obtain ⟨⟨a1,a2⟩,a3,a4,a5,a6,a7,a8,a9,a0⟩:=a;exact ⟨⟨(znT g (aP l) (aP l) (aP l).length (j+1)).tm,[.var (Msg.mk ⟨a1,a2⟩ a3 a4 (Val.mk a5 a6 a7 a8 a9 a0)).cells,.var (Msg.mk ⟨a1,a2⟩ a3 a4 (Val.mk a5 a6 a7 a8 a9 a0)).cells]⟩,ruA [(18,.b true),(20,.e (Msg.mk ⟨a1,a2⟩ a3 a4 (Val.mk a5 a6 a7 a8 a9 a0)).cells),(24,.e (Msg.mk ⟨a1,a2⟩ a3 a4 (Val.mk a5 a6 a7 a8 a9 a0)).cells),(29,.p (ak true)),(31,.i (Int.ofNat (j+1)))] (pf5 (aN (j:=j) (k:=(aP l).length) (by omega)) hg hg hc (aB (j:=j) (by omega))),by kernel_rfl⟩
  exact ruA [(18,.b false)] (pf1 (aO (qaC (aP l).length)))
 exact puB [(14,.b false)] [(.exit 0,ztC g (aP l) (aP l) (aP l).length (aP l).length)] (pf2 (I7 (k:=(aP l).length)) h) (ak true)
theorem zrF (M g:Nat)(l:List Slt)(hr:∀a,a∈l->Gam.aF (ah tab ext M) g [.agg a.cells,.agg a.cells]=some (ak true))(hl:l.length<=60000)(hN:l.length<M):
  Gam.aF (ah tab ext (M+1)) 27 [.sl false 10 (bf l),.sl false 10 (bf l),.fn g []]=some (ak true):=by
 have hn:=jR l;have h:run (ah tab ext M) 0 M (.loop (aH 27 0)) (znU g (bf l) (bf l) (bf l).length 0)=some (.exit 0,ztD g (bf l) (bf l) (bf l).length (bf l).length):=by
  refine bJ (σ:=fun j=>znU g (bf l) (bf l) (bf l).length j) (k:=(bf l).length) (Wi _ _ _ _ _) (fun j hj=>?_) ?_ (by simp) (by omega)
  ·have hj':j<l.length:=by omega
   have hg:=AU hj';have hc:=hr _ (qah hj');generalize l[j]=a at hg hc;obtain ⟨⟨a1,a2,a3,a4,a5,a6⟩,a7,a8,a9,a0⟩:=a;exact ⟨⟨(znU g (bf l) (bf l) (bf l).length (j+1)).tm,[.var (Slt.mk (Val.mk a1 a2 a3 a4 a5 a6) a7 a8 a9 a0).cells,.var (Slt.mk (Val.mk a1 a2 a3 a4 a5 a6) a7 a8 a9 a0).cells]⟩,ruA [(18,.b true),(20,.e (Slt.mk (Val.mk a1 a2 a3 a4 a5 a6) a7 a8 a9 a0).cells),(24,.e (Slt.mk (Val.mk a1 a2 a3 a4 a5 a6) a7 a8 a9 a0).cells),(29,.p (ak true)),(31,.i (Int.ofNat (j+1)))] (pf5 (aN (j:=j) (k:=(bf l).length) (by omega)) hg hg hc (aB (j:=j) (by omega))),by kernel_rfl⟩
  exact ruA [(18,.b false)] (pf1 (aO (qaC (bf l).length)))
 exact puB [(14,.b false)] [(.exit 0,ztD g (bf l) (bf l) (bf l).length (bf l).length)] (pf2 (I7 (k:=(bf l).length)) h) (ak true)
section
variable (l m:qaY) (j:Nat)
end
section
variable (l m:qaY) (j:Nat)
end
theorem Hy (N:Nat)(v:Val)(h:v.ok)(hN:190000<=N):Gam.aF (ah tab ext N) 56 [.agg v.cells,.agg v.cells]=some (ak true):=by grind[Val.ok,znP,wR]
theorem Il (N:Nat)(s:Stp)(h:s.ok)(hN:190000<=N):Gam.aF (ah tab ext N) 59 [.agg s.cells,.agg s.cells]=some (ak true):=by have:=h.p<;>grind[zeR,zbi]
theorem MO (N:Nat)(l:List Int)(h:l.length<=60000)(hN:190000<=N):Gam.aF (ah tab ext N) 60 [.sl false 1 (aI l),.sl false 1 (aI l)]=some (ak true):=by obtain ⟨M,rfl⟩:∃M,N=M+1:=⟨N-1,by omega⟩;rw [za4 M l l (by omega) (by omega),TG (by simp)]
theorem Sr (N:Nat)(m:Msg)(h:m.ok)(hN:190001<=N):Gam.aF (ah tab ext N) 29 [.agg m.cells,.agg m.cells]=some (ak true):=by obtain ⟨M,rfl⟩:∃M,N=M+1:=⟨N-1,by omega⟩;have h1:=Il M m.st h.st (by omega);have h2:=MO M m.orig h.orig (by omega);have h3:=Hy M m.body h.body (by omega);obtain ⟨⟨a1,a2⟩,a3,a4,a5,a6,a7,a8,a9,a0⟩:=m;exact puA [(9,.p (ak true)),(15,.b true),(22,.p (ak true)),(29,.p (ak true))] (pf4 h1 (eq_self a3) h2 h3) (ak true)
theorem zcS (N:Nat)(s:Slt)(h:s.ok)(hN:190005<=N):Gam.aF (ah tab ext N) 28 [.agg s.cells,.agg s.cells]=some (ak true):=by obtain ⟨M,rfl⟩:∃M,N=M+2:=⟨N-2,by omega⟩;have hi:=h.items;have hv:=h.vals;have h1:=Hy (M+1) s.key h.key (by omega);have h2:=zrE M 29 s.items (fun a ha=>Sr M a (h.item a ha) (by omega)) (by omega) (by omega);have h3:=zrD M 56 s.vals (fun a ha=>Hy M a (h.val a ha) (by omega)) (by omega) (by omega);obtain ⟨⟨a1,a2,a3,a4,a5,a6⟩,a7,a8,a9,a0⟩:=s;exact puA [(9,.p (ak true)),(15,.b true),(22,.b true),(29,.p (ak true)),(36,.p (ak true))] (pf5 h1 (eq_self a7) (eq_self a8) h2 h3) (ak true)
theorem Ik (N:Nat)(s:Stt)(h:s.ok)(hN:190010<=N):Gam.aF (ah tab ext N) 10 [.agg s.cells,.agg s.cells]=some (ak true):=by obtain ⟨M,rfl⟩:∃M,N=M+2:=⟨N-2,by omega⟩;have hi:=h.slots;have h2:=zrF M 28 s.slots (fun a ha=>zcS M a (h.slot a ha) (by omega)) (by omega) (by omega);obtain ⟨a1,a2,a3⟩:=s;exact puA [(9,.b true),(15,.b true),(22,.p (ak true))] (pf3 (eq_self a1) (eq_self a2) h2) (ak true)
section
variable (a:List X) (z:qaY) (j:Nat)
end
theorem zf:∀l:List Int,intsOf (aI l)=some l
 |[]=>rfl
 |x::l=>by
  have h:=zf l;show (match intsOf (aI l) with
   |some l=>some (x::l)
   |none=>none)=some (x::l)
  rw [h]
theorem NG (N:Nat)(l:List Int)(hl:l.length<=60000):ah tab ext (N+1) (.fn 45) [.sl false 1 (aI l)] []=some (.bs 0 0 l.length,[.row 1 (aI l)]):=by show Am [.sl false 1 (aI l)] []=_;unfold Am;simp only [zf,if_pos (show l.length<=1000000 by omega)];rfl
theorem GY (N:Nat)(l:List Int)(hl:l.length<=60000):Gam.aF (ah tab ext (N+1)) 45 [.sl false 1 (aI l)]=some (.sl false 1 (aI l)):=by unfold Gam.aF;rw [NG N l hl];simp only [X.data,rowOf,List.getElem?_cons_zero,Nat.zero_add,bI,Nat.le_refl,if_true,qao,List.drop_zero];rw [List.take_of_length_le (by rw [bI];exact Nat.le_refl _)]
theorem lK (N:Nat)(s:Stp)(h:s.ok):Gam.aF (ah tab ext (N+2)) 44 [.agg s.cells]=some (.agg s.cells):=
 puA [(7,.p (.sl false 1 (aI s.p)))] (pf1 (GY N s.p h.p)) (.agg s.cells)
theorem jm (N:Nat)(m:Msg)(h:m.ok)(hN:190001<=N):Gam.aF (ah tab ext N) 18 [.agg m.cells]=some (.agg m.cells):=by obtain ⟨M,rfl⟩:∃M,N=M+3:=⟨N-3,by omega⟩;have h1:=lK M m.st h.st;have h2:=GY (M+1) m.orig h.orig;have hb:=h.body;unfold Val.ok at hb;have h3:=jl (M+2) m.body (by omega) (by omega);obtain ⟨⟨a1,a2⟩,a3,a4,a5,a6,a7,a8,a9,a0⟩:=m;exact puA [(5,.p (.agg (Stp.mk a1 a2).cells)),(10,.p (.sl false 1 (aI a4))),(13,.p (.agg (Val.mk a5 a6 a7 a8 a9 a0).cells))] (pf3 h1 h2 h3) (.agg (Msg.mk ⟨a1,a2⟩ a3 a4 (Val.mk a5 a6 a7 a8 a9 a0)).cells)
def Ui:List X:=[num 0,num 0,num 0,bD,.sl true 6 [],.sl true 7 [],num 0,num 0,.sl true 10 [],.sl true 6 []]
section
variable (s items acc vals zlk:qaY) (n m k j:Nat)
variable (k0 i0 s0:Int) (t0:qaZ) (l0 f0:qaY) (n0 d0:Int) (x:List X)
def csH:St:=⟨[(1,.ptr 0 0 0),(2,.ptr 1 0 0),(3,.bs 2 0 j),(14,.sl false 10 items),(15,nat n),(16,nat j)],[.var (nI k0 i0 s0 t0 l0 f0 n0 d0 items vals),.var Ui,.row 10 acc]⟩
def ztH:St:=⟨[(1,.ptr 0 0 0),(2,.ptr 1 0 0),(3,.bs 4 0 (j+1)),(14,.sl false 10 items),(15,nat n),(16,nat (j+1))],[.var (nI k0 i0 s0 t0 l0 f0 n0 d0 items vals),.var Ui,.dead,.var x,.row 10 (acc++[x])]⟩
def csE:St:=⟨[(1,.ptr 0 0 0),(2,.ptr 1 0 0),(3,.bs 2 0 j),(14,.sl false 10 items),(15,nat n),(16,nat j),(17,ak false)],[.var (nI k0 i0 s0 t0 l0 f0 n0 d0 items vals),.var Ui,.row 10 acc]⟩
theorem zeX:canon 0 (csH items acc vals n j k0 i0 s0 t0 l0 f0 n0 d0)=some (csH items acc vals n j k0 i0 s0 t0 l0 f0 n0 d0):=by kernel_rfl
theorem zbd:canon 0 (ztH items acc vals n j k0 i0 s0 t0 l0 f0 n0 d0 x)=some (csH items (acc++[x]) vals n (j+1) k0 i0 s0 t0 l0 f0 n0 d0):=by kernel_rfl
def cvH:St:=⟨[(1,.ptr 0 0 0),(2,.ptr 1 0 0),(3,.bs 2 0 m),(6,.bs 3 0 j),(31,.sl false 6 vals),(32,nat n),(33,nat j)],[.var (nI k0 i0 s0 t0 l0 f0 n0 d0 items vals),.var Ui,.row 10 acc,.row 6 zlk]⟩
def ztF:St:=⟨[(1,.ptr 0 0 0),(2,.ptr 1 0 0),(3,.bs 2 0 m),(6,.bs 5 0 (j+1)),(31,.sl false 6 vals),(32,nat n),(33,nat (j+1))],[.var (nI k0 i0 s0 t0 l0 f0 n0 d0 items vals),.var Ui,.row 10 acc,.dead,.var x,.row 6 (zlk++[x])]⟩
def cvE:St:=⟨[(1,.ptr 0 0 0),(2,.ptr 1 0 0),(3,.bs 2 0 m),(6,.bs 3 0 j),(31,.sl false 6 vals),(32,nat n),(33,nat j),(34,ak false)],[.var (nI k0 i0 s0 t0 l0 f0 n0 d0 items vals),.var Ui,.row 10 acc,.row 6 zlk]⟩
theorem zeW:canon 0 (cvH items acc vals zlk n m j k0 i0 s0 t0 l0 f0 n0 d0)=some (cvH items acc vals zlk n m j k0 i0 s0 t0 l0 f0 n0 d0):=by kernel_rfl
theorem zbc:canon 0 (ztF items acc vals zlk n m j k0 i0 s0 t0 l0 f0 n0 d0 x)=some (cvH items acc vals (zlk++[x]) n m (j+1) k0 i0 s0 t0 l0 f0 n0 d0):=by kernel_rfl
end
theorem WA (N:Nat)(s:Slt)(h:s.ok)(hN:190005<=N):ah tab ext N (.fn 43) [.agg s.cells] []=some (match s with
  |⟨.mk k i s t l f,n,d,ms,vs⟩=>(.agg [num k,num i,num s,aC t,.sl false 6 (au l),.sl false 7 (aA f),num n,num d,.bs 0 0 (aP ms).length,.bs 1 0 (au vs).length],[.row 10 (aP ms),.row 6 (au vs)])):=by
 obtain ⟨M,rfl⟩:∃M,N=M+1:=⟨N-1,by omega⟩;have hi:=h.items;have hv:=h.vals;have hk:=h.key;have hit:=h.item;have hva:=h.val;obtain ⟨⟨k0,i0,s0,t0,l0,f0⟩,n0,d0,ms,vs⟩:=s;have em:=gW ms;have ev:=aS vs;dsimp only at hi hv hk hit hva;unfold Val.ok at hk;have hk':=jl M (Val.mk k0 i0 s0 t0 l0 f0) (by omega) (by omega);have h1:run (ah tab ext M) 0 M (.loop (aH 43 0)) (csH (aP ms) [] (au vs) (aP ms).length 0 k0 i0 s0 t0 (au l0) (aA f0) n0 d0)=some (.exit 0,csE (aP ms) (aP ms) (au vs) (aP ms).length (aP ms).length k0 i0 s0 t0 (au l0) (aA f0) n0 d0):=by
  refine bJ (σ:=fun j=>csH (aP ms) ((aP ms).take j) (au vs) (aP ms).length j k0 i0 s0 t0 (au l0) (aA f0) n0 d0) (k:=(aP ms).length) (zeX ..) (fun j hj=>?_) ?_ (by simp) (by omega)
  ·have hj':j<ms.length:=by omega
   have hg:=vU hj';have hc:=jm M ms[j] (hit _ (qah hj')) (by omega);have ht:=dJ hg;generalize ms[j]=a at hg hc ht;obtain ⟨⟨a1,a2⟩,a3,a4,a5,a6,a7,a8,a9,a0⟩:=a;refine ⟨ztH (aP ms) ((aP ms).take j) (au vs) (aP ms).length j k0 i0 s0 t0 (au l0) (aA f0) n0 d0 (Msg.mk ⟨a1,a2⟩ a3 a4 (Val.mk a5 a6 a7 a8 a9 a0)).cells,ruA [(17,.b true),(18,.e (Msg.mk ⟨a1,a2⟩ a3 a4 (Val.mk a5 a6 a7 a8 a9 a0)).cells),(22,.p (.agg (Msg.mk ⟨a1,a2⟩ a3 a4 (Val.mk a5 a6 a7 a8 a9 a0)).cells)),(24,.app),(25,.i (Int.ofNat (j+1)))] (pf5 (aN (j:=j) (k:=(aP ms).length) (by omega)) hg hc (fJ (acc:=(aP ms).take j) j 2 152 (by rw [qaf];omega) (by omega) (by omega)) (aB (j:=j) (by omega))),?_⟩;rw [zbd,ht]
  rw [List.take_length];exact ruA [(17,.b false)] (pf1 (aO (qaC (aP ms).length)))
 have h2:run (ah tab ext M) 0 M (.loop (aH 43 1)) (cvH (aP ms) (aP ms) (au vs) [] (au vs).length (aP ms).length 0 k0 i0 s0 t0 (au l0) (aA f0) n0 d0)=some (.exit 2,cvE (aP ms) (aP ms) (au vs) (au vs) (au vs).length (aP ms).length (au vs).length k0 i0 s0 t0 (au l0) (aA f0) n0 d0):=by
  refine bJ (σ:=fun j=>cvH (aP ms) (aP ms) (au vs) ((au vs).take j) (au vs).length (aP ms).length j k0 i0 s0 t0 (au l0) (aA f0) n0 d0) (k:=(au vs).length) (zeW ..) (fun j hj=>?_) ?_ (by simp) (by omega)
  ·have hj':j<vs.length:=by omega
   have hg:=fV hj';have hok:=hva _ (qah hj');unfold Val.ok at hok;have hc:=jl M vs[j] (by omega) (by omega);have ht:=dJ hg;generalize vs[j]=a at hg hc ht;obtain ⟨a1,a2,a3,a4,a5,a6⟩:=a;refine ⟨ztF (aP ms) (aP ms) (au vs) ((au vs).take j) (au vs).length (aP ms).length j k0 i0 s0 t0 (au l0) (aA f0) n0 d0 (Val.mk a1 a2 a3 a4 a5 a6).cells,ruA [(34,.b true),(35,.e (Val.mk a1 a2 a3 a4 a5 a6).cells),(39,.p (.agg (Val.mk a1 a2 a3 a4 a5 a6).cells)),(41,.app),(42,.i (Int.ofNat (j+1)))] (pf5 (aN (j:=j) (k:=(au vs).length) (by omega)) hg hc (fJ (acc:=(au vs).take j) j 3 88 (by rw [qaf];omega) (by omega) (by omega)) (aB (j:=j) (by omega))),?_⟩;rw [zbc,ht]
  rw [List.take_length];exact ruA [(34,.b false)] (pf1 (aO (qaC (au vs).length)))
 exact caB [(12,.mk),(29,.mk),(45,.p (.agg (Val.mk k0 i0 s0 t0 l0 f0).cells))] [(.exit 0,csE (aP ms) (aP ms) (au vs) (aP ms).length (aP ms).length k0 i0 s0 t0 (au l0) (aA f0) n0 d0),(.exit 2,cvE (aP ms) (aP ms) (au vs) (au vs) (au vs).length (aP ms).length (au vs).length k0 i0 s0 t0 (au l0) (aA f0) n0 d0)] (pf5 (a:=0<=(aP ms).length/\dD (aP ms).length 152=true) ⟨by omega,jc (by omega) (by omega)⟩ h1 (c:=0<=(au vs).length/\dD (au vs).length 88=true) ⟨by omega,jc (by omega) (by omega)⟩ h2 hk')
theorem DU (N:Nat)(s:Slt)(h:s.ok)(hN:190005<=N):Gam.aF (ah tab ext N) 43 [.agg s.cells]=some (.agg s.cells):=by unfold Gam.aF;rw [WA N s h hN];obtain ⟨⟨k0,i0,s0,t0,l0,f0⟩,n0,d0,ms,vs⟩:=s;simp [X.data,dZ,rowOf,Slt.cells,nI,num,aC]
def lY:List X:=[num 0,num 0,.sl true 10 []]
section
variable (a b:Int) (l acc:qaY) (n j:Nat) (x:List X)
def stH:St:=⟨[(1,.ptr 0 0 0),(2,.ptr 1 0 0),(3,.bs 2 0 j),(11,.sl false 10 l),(12,nat n),(13,nat j)],[.var [num a,num b,.sl false 10 l],.var lY,.row 10 acc]⟩
def zsF:St:=⟨[(1,.ptr 0 0 0),(2,.ptr 1 0 0),(3,.bs 4 0 (j+1)),(11,.sl false 10 l),(12,nat n),(13,nat (j+1))],[.var [num a,num b,.sl false 10 l],.var lY,.dead,.var x,.row 10 (acc++[x])]⟩
def stE:St:=⟨[(1,.ptr 0 0 0),(2,.ptr 1 0 0),(3,.bs 2 0 j),(11,.sl false 10 l),(12,nat n),(13,nat j),(14,ak false)],[.var [num a,num b,.sl false 10 l],.var lY,.row 10 acc]⟩
theorem zcO:canon 0 (stH a b l acc n j)=some (stH a b l acc n j):=by kernel_rfl
theorem X4:canon 0 (zsF a b l acc n j x)=some (stH a b l (acc++[x]) n (j+1)):=by kernel_rfl
end
theorem QK (N:Nat)(s:Stt)(h:s.ok)(hN:190010<=N):ah tab ext N (.fn 17) [.agg s.cells] []=some (.agg [num s.n,num s.t,.bs 0 0 (bf s.slots).length],[.row 10 (bf s.slots)]):=by
 obtain ⟨M,rfl⟩:∃M,N=M+1:=⟨N-1,by omega⟩;have hi:=h.slots;have hit:=h.slot;obtain ⟨a,b,ss⟩:=s;dsimp only at hi hit;have em:=jR ss;have h1:run (ah tab ext M) 0 M (.loop (aH 17 0)) (stH a b (bf ss) [] (bf ss).length 0)=some (.exit 0,stE a b (bf ss) (bf ss) (bf ss).length (bf ss).length):=by
  refine bJ (σ:=fun j=>stH a b (bf ss) ((bf ss).take j) (bf ss).length j) (k:=(bf ss).length) (zcO ..) (fun j hj=>?_) ?_ (by simp) (by omega)
  ·have hj':j<ss.length:=by omega
   have hg:=AU hj';have hc:=DU M ss[j] (hit _ (qah hj')) (by omega);have ht:=dJ hg;generalize ss[j]=q at hg hc ht;obtain ⟨⟨a1,a2,a3,a4,a5,a6⟩,a7,a8,a9,a0⟩:=q;refine ⟨zsF a b (bf ss) ((bf ss).take j) (bf ss).length j (Slt.mk (Val.mk a1 a2 a3 a4 a5 a6) a7 a8 a9 a0).cells,ruA [(14,.b true),(15,.e (Slt.mk (Val.mk a1 a2 a3 a4 a5 a6) a7 a8 a9 a0).cells),(19,.p (.agg (Slt.mk (Val.mk a1 a2 a3 a4 a5 a6) a7 a8 a9 a0).cells)),(21,.app),(22,.i (Int.ofNat (j+1)))] (pf5 (aN (j:=j) (k:=(bf ss).length) (by omega)) hg hc (fJ (acc:=(bf ss).take j) j 2 152 (by rw [qaf];omega) (by omega) (by omega)) (aB (j:=j) (by omega))),?_⟩;rw [X4,ht]
  rw [List.take_length];exact ruA [(14,.b false)] (pf1 (aO (qaC (bf ss).length)))
 exact caB [(9,.mk)] [(.exit 0,stE a b (bf ss) (bf ss) (bf ss).length (bf ss).length)] (pf2 (a:=0<=(bf ss).length/\dD (bf ss).length 152=true) ⟨by omega,jc (by omega) (by omega)⟩ h1)
theorem dP (N:Nat)(s:Stt)(h:s.ok)(hN:190010<=N):Gam.aF (ah tab ext N) 17 [.agg s.cells]=some (.agg s.cells):=by unfold Gam.aF;rw [QK N s h hN];simp [X.data,dZ,rowOf,Stt.cells,num]
def oJ (B:Nat)(f:FuncId)(args:List X):Prop:=∃c:Bool,∀N,B<=N->Gam.aF (ah tab ext N) f args=some (ak c)
theorem dO {f:FuncId}(h:∃c:Bool,∀N,B<=N->Gam.aF (ah tab ext (N+1)) f args=some (ak c)):oJ (B+1) f args:=by obtain ⟨c,h⟩:=h;refine ⟨c,fun N hN=>?_⟩;obtain ⟨M,rfl⟩:∃M,N=M+1:=⟨N-1,by omega⟩;exact h M (by omega)
def kK (B:Nat)(f:FuncId)(args:List X):Prop:=∃c:Int,(0<=c/\c<=100)/\∀N,B<=N->Gam.aF (ah tab ext N) f args=some (num c)
theorem dA {f:FuncId}(h:∃c:Int,(0<=c/\c<=100)/\∀N,B<=N->Gam.aF (ah tab ext (N+1)) f args=some (num c)):kK (B+1) f args:=by obtain ⟨c,cr,h⟩:=h;refine ⟨c,cr,fun N hN=>?_⟩;obtain ⟨M,rfl⟩:∃M,N=M+1:=⟨N-1,by omega⟩<;>simp_all
theorem scan {b:C}{n B:Nat}(good:St->Prop)(h0:canon 0 τ=some (H 0))
  (hstep:∀j,j<n->(∃r,good r/\∀M,B<=M->run (ah tab ext M) 0 M b (H j)=some (.ret,r))\/(∃υ,canon 0 υ=some (H (j+1))/\∀M,B<=M->run (ah tab ext M) 0 M b (H j)=some (.norm,υ)))
  (hend:∀M,B<=M->run (ah tab ext M) 0 M b (H n)=some (e,fin)) (hne:e≠.norm):
  (∃r,good r/\∀M,B<=M->n<M->run (ah tab ext M) 0 M (.loop b) τ=some (.ret,r))\/(∀M,B<=M->n<M->run (ah tab ext M) 0 M (.loop b) τ=some (e,fin)):=by
 have key:∀d j,j+d=n->(∃r,good r/\∀M F υ,B<=M->d<F->canon 0 υ=some (H j)->iter 0 (run (ah tab ext M) 0 M b) F υ=some (.ret,r))\/(∀M F υ,B<=M->d<F->canon 0 υ=some (H j)->iter 0 (run (ah tab ext M) 0 M b) F υ=some (e,fin)):=by
  intro d;induction d with
  |zero=>
   intro j hj;have hjn:j=n:=by omega
   subst hjn;right;intro M F υ hM hF hc;obtain ⟨F',rfl⟩:∃F',F=F'+1:=⟨F-1,by omega⟩
   grind[bK]
  |succ d ih=>
   intro j hj;rcases hstep j (by omega) with ⟨r,hr,h⟩|⟨ω,hω,h⟩
   ·left;refine ⟨r,hr,fun M F υ hM hF hc=>?_⟩;obtain ⟨F',rfl⟩:∃F',F=F'+1:=⟨F-1,by omega⟩
    grind[bK]
   rcases ih (j+1) (by omega) with ⟨r,hr,h'⟩|h';·left;refine ⟨r,hr,fun M F υ hM hF hc=>?_⟩;obtain ⟨F',rfl⟩:∃F',F=F'+1:=⟨F-1,by omega⟩<;>simp_all[dV]
   right;intro M F υ hM hF hc;obtain ⟨F',rfl⟩:∃F',F=F'+1:=⟨F-1,by omega⟩<;>simp_all[dV]
 grind[run]
def jf:Val->Bool
 |.mk k i s t l f=>(k==0)&&((i==0)&&((s==0)&&((t.toList==(⟨#[]⟩:qaZ).toList)&&((Int.ofNat (au l).length==0)&&(Int.ofNat (aA f).length==0)))))
theorem Sl (N:Nat)(v:Val):Gam.aF (ah tab ext (N+1)) 67 [.agg v.cells]=some (ak (jf v)):=by
 obtain ⟨k,i,s,t,l,f⟩:=v;cases h1:(k==0) with
 |true=>
  cases h2:(i==0) with
  |true=>
   cases h3:(s==0) with
   |true=>
    cases h4:(t.toList==(⟨#[]⟩:qaZ).toList) with
    |true=>
     cases h5:(Int.ofNat (au l).length==0) with
     |true=>
      cases h6:(Int.ofNat (aA f).length==0) with
      |true=>rw [show jf (Val.mk k i s t l f)=true from by grind[jf]];exact puA [(5,.b true),(9,.b true),(14,.b true),(19,.b true),(25,.b true),(31,.b true)] (pf6 h1 h2 h3 h4 h5 h6) (ak true)
      |false=>rw [show jf (Val.mk k i s t l f)=false from by grind[jf]];exact puA [(5,.b true),(9,.b true),(14,.b true),(19,.b true),(25,.b true),(31,.b false)] (pf6 h1 h2 h3 h4 h5 h6) (ak false)
     |false=>rw [show jf (Val.mk k i s t l f)=false from by grind[jf]];exact puA [(5,.b true),(9,.b true),(14,.b true),(19,.b true),(25,.b false)] (pf5 h1 h2 h3 h4 h5) (ak false)
    |false=>rw [show jf (Val.mk k i s t l f)=false from by grind[jf]];exact puA [(5,.b true),(9,.b true),(14,.b true),(19,.b false)] (pf4 h1 h2 h3 h4) (ak false)
   |false=>rw [show jf (Val.mk k i s t l f)=false from by grind[jf]];exact puA [(5,.b true),(9,.b true),(14,.b false)] (pf3 h1 h2 h3) (ak false)
  |false=>rw [show jf (Val.mk k i s t l f)=false from by grind[jf]];exact puA [(5,.b true),(9,.b false)] (pf2 h1 h2) (ak false)
 |false=>rw [show jf (Val.mk k i s t l f)=false from by grind[jf]];exact puA [(5,.b false)] (pf1 h1) (ak false)
theorem zpB (i s:Int)(t:qaZ)(l:List Val)(f:List (qaZ×Val)):oJ 2 104 [.agg (Val.mk 1 i s t l f).cells]:=by
 apply dO;cases h1:(s==0) with
 |true=>
  cases h2:(t.toList==(⟨#[]⟩:qaZ).toList) with
  |true=>
   cases h3:(Int.ofNat (au l).length==0) with
   |true=>
    cases h4:(Int.ofNat (aA f).length==0) with
    |true=>exact ⟨true,fun N hN=>puA [(63,.b true),(71,.b true),(80,.b true),(91,.b true)] (pf4 h1 h2 h3 h4) (ak true)⟩
    |false=>exact ⟨false,fun N hN=>puA [(63,.b true),(71,.b true),(80,.b true),(91,.b false)] (pf4 h1 h2 h3 h4) (ak false)⟩
   |false=>exact ⟨false,fun N hN=>puA [(63,.b true),(71,.b true),(80,.b false)] (pf3 h1 h2 h3) (ak false)⟩
  |false=>exact ⟨false,fun N hN=>puA [(63,.b true),(71,.b false)] (pf2 h1 h2) (ak false)⟩
 |false=>exact ⟨false,fun N hN=>puA [(63,.b false)] (pf1 h1) (ak false)⟩
theorem zpA (i s:Int)(t:qaZ)(l:List Val)(f:List (qaZ×Val)):oJ 2 104 [.agg (Val.mk 2 i s t l f).cells]:=by
 apply dO;cases h1:(s==0) with
 |true=>
  cases h2:(t.toList==(⟨#[]⟩:qaZ).toList) with
  |true=>
   cases h3:(Int.ofNat (au l).length==0) with
   |true=>
    cases h4:(Int.ofNat (aA f).length==0) with
    |true=>exact ⟨true,fun N hN=>puA [(63,.b true),(71,.b true),(80,.b true),(91,.b true)] (pf4 h1 h2 h3 h4) (ak true)⟩
    |false=>exact ⟨false,fun N hN=>puA [(63,.b true),(71,.b true),(80,.b true),(91,.b false)] (pf4 h1 h2 h3 h4) (ak false)⟩
   |false=>exact ⟨false,fun N hN=>puA [(63,.b true),(71,.b true),(80,.b false)] (pf3 h1 h2 h3) (ak false)⟩
  |false=>exact ⟨false,fun N hN=>puA [(63,.b true),(71,.b false)] (pf2 h1 h2) (ak false)⟩
 |false=>exact ⟨false,fun N hN=>puA [(63,.b false)] (pf1 h1) (ak false)⟩
theorem zpz (i s:Int)(t:qaZ)(l:List Val)(f:List (qaZ×Val)):oJ 2 104 [.agg (Val.mk 3 i s t l f).cells]:=by
 apply dO;cases h1:(t.toList==(⟨#[]⟩:qaZ).toList) with
 |true=>
  cases h2:(Int.ofNat (au l).length==0) with
  |true=>
   cases h3:(Int.ofNat (aA f).length==0) with
   |true=>exact ⟨true,fun N hN=>puA [(71,.b true),(80,.b true),(91,.b true)] (pf3 h1 h2 h3) (ak true)⟩
   |false=>exact ⟨false,fun N hN=>puA [(71,.b true),(80,.b true),(91,.b false)] (pf3 h1 h2 h3) (ak false)⟩
  |false=>exact ⟨false,fun N hN=>puA [(71,.b true),(80,.b false)] (pf2 h1 h2) (ak false)⟩
 |false=>exact ⟨false,fun N hN=>puA [(71,.b false)] (pf1 h1) (ak false)⟩
theorem zpy (i s:Int)(t:qaZ)(l:List Val)(f:List (qaZ×Val)):oJ 2 104 [.agg (Val.mk 4 i s t l f).cells]:=by
 apply dO;cases h1:(i==0) with
 |true=>
  cases h2:(s==0) with
  |true=>
   cases h3:(Int.ofNat (au l).length==0) with
   |true=>
    cases h4:(Int.ofNat (aA f).length==0) with
    |true=>exact ⟨true,fun N hN=>puA [(54,.b true),(63,.b true),(80,.b true),(91,.b true)] (pf4 h1 h2 h3 h4) (ak true)⟩
    |false=>exact ⟨false,fun N hN=>puA [(54,.b true),(63,.b true),(80,.b true),(91,.b false)] (pf4 h1 h2 h3 h4) (ak false)⟩
   |false=>exact ⟨false,fun N hN=>puA [(54,.b true),(63,.b true),(80,.b false)] (pf3 h1 h2 h3) (ak false)⟩
  |false=>exact ⟨false,fun N hN=>puA [(54,.b true),(63,.b false)] (pf2 h1 h2) (ak false)⟩
 |false=>exact ⟨false,fun N hN=>puA [(54,.b false)] (pf1 h1) (ak false)⟩
theorem zpx (i s:Int)(t:qaZ)(l:List Val)(f:List (qaZ×Val)):oJ 2 104 [.agg (Val.mk 5 i s t l f).cells]:=by
 apply dO;cases h1:(i==0) with
 |true=>
  cases h2:(s==0) with
  |true=>
   cases h3:(Int.ofNat (au l).length==0) with
   |true=>
    cases h4:(Int.ofNat (aA f).length==0) with
    |true=>exact ⟨true,fun N hN=>puA [(54,.b true),(63,.b true),(80,.b true),(91,.b true)] (pf4 h1 h2 h3 h4) (ak true)⟩
    |false=>exact ⟨false,fun N hN=>puA [(54,.b true),(63,.b true),(80,.b true),(91,.b false)] (pf4 h1 h2 h3 h4) (ak false)⟩
   |false=>exact ⟨false,fun N hN=>puA [(54,.b true),(63,.b true),(80,.b false)] (pf3 h1 h2 h3) (ak false)⟩
  |false=>exact ⟨false,fun N hN=>puA [(54,.b true),(63,.b false)] (pf2 h1 h2) (ak false)⟩
 |false=>exact ⟨false,fun N hN=>puA [(54,.b false)] (pf1 h1) (ak false)⟩
theorem zpw (i s:Int)(t:qaZ)(l:List Val)(f:List (qaZ×Val)):oJ 2 104 [.agg (Val.mk 6 i s t l f).cells]:=by
 apply dO;cases h1:(s==0) with
 |true=>
  cases h2:(t.toList==(⟨#[]⟩:qaZ).toList) with
  |true=>
   cases h3:(Int.ofNat (au l).length==0) with
   |true=>
    cases h4:(Int.ofNat (aA f).length==0) with
    |true=>exact ⟨true,fun N hN=>puA [(63,.b true),(71,.b true),(80,.b true),(91,.b true)] (pf4 h1 h2 h3 h4) (ak true)⟩
    |false=>exact ⟨false,fun N hN=>puA [(63,.b true),(71,.b true),(80,.b true),(91,.b false)] (pf4 h1 h2 h3 h4) (ak false)⟩
   |false=>exact ⟨false,fun N hN=>puA [(63,.b true),(71,.b true),(80,.b false)] (pf3 h1 h2 h3) (ak false)⟩
  |false=>exact ⟨false,fun N hN=>puA [(63,.b true),(71,.b false)] (pf2 h1 h2) (ak false)⟩
 |false=>exact ⟨false,fun N hN=>puA [(63,.b false)] (pf1 h1) (ak false)⟩
theorem zpv (i s:Int)(t:qaZ)(l:List Val)(f:List (qaZ×Val)):oJ 2 104 [.agg (Val.mk 7 i s t l f).cells]:=by
 apply dO;cases h1:(s==0) with
 |true=>
  cases h2:(t.toList==(⟨#[]⟩:qaZ).toList) with
  |true=>
   cases h3:(Int.ofNat (au l).length==0) with
   |true=>
    cases h4:(Int.ofNat (aA f).length==0) with
    |true=>exact ⟨true,fun N hN=>puA [(63,.b true),(71,.b true),(80,.b true),(91,.b true)] (pf4 h1 h2 h3 h4) (ak true)⟩
    |false=>exact ⟨false,fun N hN=>puA [(63,.b true),(71,.b true),(80,.b true),(91,.b false)] (pf4 h1 h2 h3 h4) (ak false)⟩
   |false=>exact ⟨false,fun N hN=>puA [(63,.b true),(71,.b true),(80,.b false)] (pf3 h1 h2 h3) (ak false)⟩
  |false=>exact ⟨false,fun N hN=>puA [(63,.b true),(71,.b false)] (pf2 h1 h2) (ak false)⟩
 |false=>exact ⟨false,fun N hN=>puA [(63,.b false)] (pf1 h1) (ak false)⟩
theorem zpu (i s:Int)(t:qaZ)(l:List Val)(f:List (qaZ×Val)):oJ 2 104 [.agg (Val.mk 8 i s t l f).cells]:=by
 apply dO;cases h1:(i==0) with
 |true=>
  cases h2:(s==0) with
  |true=>
   cases h3:(t.toList==(⟨#[]⟩:qaZ).toList) with
   |true=>
    cases h4:(Int.ofNat (aA f).length==0) with
    |true=>exact ⟨true,fun N hN=>puA [(54,.b true),(63,.b true),(71,.b true),(91,.b true)] (pf4 h1 h2 h3 h4) (ak true)⟩
    |false=>exact ⟨false,fun N hN=>puA [(54,.b true),(63,.b true),(71,.b true),(91,.b false)] (pf4 h1 h2 h3 h4) (ak false)⟩
   |false=>exact ⟨false,fun N hN=>puA [(54,.b true),(63,.b true),(71,.b false)] (pf3 h1 h2 h3) (ak false)⟩
  |false=>exact ⟨false,fun N hN=>puA [(54,.b true),(63,.b false)] (pf2 h1 h2) (ak false)⟩
 |false=>exact ⟨false,fun N hN=>puA [(54,.b false)] (pf1 h1) (ak false)⟩
theorem zpt (i s:Int)(t:qaZ)(l:List Val)(f:List (qaZ×Val)):oJ 2 104 [.agg (Val.mk 9 i s t l f).cells]:=by
 apply dO;cases h1:(i==0) with
 |true=>
  cases h2:(s==0) with
  |true=>
   cases h3:(t.toList==(⟨#[]⟩:qaZ).toList) with
   |true=>
    cases h4:(Int.ofNat (au l).length==0) with
    |true=>exact ⟨true,fun N hN=>puA [(54,.b true),(63,.b true),(71,.b true),(80,.b true)] (pf4 h1 h2 h3 h4) (ak true)⟩
    |false=>exact ⟨false,fun N hN=>puA [(54,.b true),(63,.b true),(71,.b true),(80,.b false)] (pf4 h1 h2 h3 h4) (ak false)⟩
   |false=>exact ⟨false,fun N hN=>puA [(54,.b true),(63,.b true),(71,.b false)] (pf3 h1 h2 h3) (ak false)⟩
  |false=>exact ⟨false,fun N hN=>puA [(54,.b true),(63,.b false)] (pf2 h1 h2) (ak false)⟩
 |false=>exact ⟨false,fun N hN=>puA [(54,.b false)] (pf1 h1) (ak false)⟩
theorem zl1 (i s:Int)(t:qaZ)(l:List Val)(f:List (qaZ×Val)):oJ 2 104 [.agg (Val.mk 10 i s t l f).cells]:=by
 apply dO;cases h1:(i==0) with
 |true=>
  cases h2:(s==0) with
  |true=>
   cases h3:(Int.ofNat (aA f).length==0) with
   |true=>exact ⟨true,fun N hN=>puA [(54,.b true),(63,.b true),(91,.b true)] (pf3 h1 h2 h3) (ak true)⟩
   |false=>exact ⟨false,fun N hN=>puA [(54,.b true),(63,.b true),(91,.b false)] (pf3 h1 h2 h3) (ak false)⟩
  |false=>exact ⟨false,fun N hN=>puA [(54,.b true),(63,.b false)] (pf2 h1 h2) (ak false)⟩
 |false=>exact ⟨false,fun N hN=>puA [(54,.b false)] (pf1 h1) (ak false)⟩
theorem iF (x a b:Int):kK 2 140 [num x,num a,num b]:=by
 apply dA;cases h1:decide (x<a) with
 |true=>exact ⟨2,by decide,fun N hN=>puA [(9,.b true)] (pf1 h1) (num (2))⟩
 |false=>
  cases h2:decide (b<x) with
  |true=>exact ⟨2,by decide,fun N hN=>puA [(9,.b false),(13,.b true)] (pf2 h1 h2) (num (2))⟩
  |false=>exact ⟨0,by decide,fun N hN=>puA [(9,.b false),(13,.b false)] (pf2 h1 h2) (num (0))⟩
theorem rU (x a e:Int)(he:0<=e/\e<=100):kK 2 145 [num x,num a,num e]:=by
 apply dA;cases h1:decide (a<x) with
 |true=>exact ⟨e,he,fun N hN=>puA [(9,.b true)] (pf1 h1) (num (e))⟩
 |false=>exact ⟨0,by decide,fun N hN=>puA [(9,.b false)] (pf1 h1) (num (0))⟩
theorem zhs (v:Val):kK 3 139 [.agg v.cells]:=by obtain ⟨k,i,s,t,l,f⟩:=v;obtain ⟨c,cr,hc⟩:=iF i 0 1;exact dA ⟨c,cr,fun N hN=>puA [(5,.p (num c))] (pf1 (hc N hN)) (num c)⟩
theorem zhr (v:Val):kK 3 141 [.agg v.cells]:=by obtain ⟨k,i,s,t,l,f⟩:=v;obtain ⟨c,cr,hc⟩:=iF i (-999999999999999) 999999999999999;exact dA ⟨c,cr,fun N hN=>puA [(5,.p (num c))] (pf1 (hc N hN)) (num c)⟩
theorem zhn (v:Val):kK 3 148 [.agg v.cells]:=by obtain ⟨k,i,s,t,l,f⟩:=v;obtain ⟨c,cr,hc⟩:=iF i (-719162) 2932896;exact dA ⟨c,cr,fun N hN=>puA [(5,.p (num c))] (pf1 (hc N hN)) (num c)⟩
theorem zhm (v:Val):kK 3 149 [.agg v.cells]:=by obtain ⟨k,i,s,t,l,f⟩:=v;obtain ⟨c,cr,hc⟩:=iF i (-62135596800000) 253402300799999;exact dA ⟨c,cr,fun N hN=>puA [(5,.p (num c))] (pf1 (hc N hN)) (num c)⟩
theorem zho (v:Val):kK 3 147 [.agg v.cells]:=by obtain ⟨k,i,s,t,l,f⟩:=v;obtain ⟨c,cr,hc⟩:=rU (Int.ofNat t.size) 1024 5 (by decide);exact dA ⟨c,cr,fun N hN=>puA [(6,.p (num c))] (pf1 (hc N hN)) (num c)⟩
theorem zhl (v:Val):kK 3 150 [.agg v.cells]:=by obtain ⟨k,i,s,t,l,f⟩:=v;obtain ⟨c,cr,hc⟩:=rU (Int.ofNat (au l).length) 256 9 (by decide);exact dA ⟨c,cr,fun N hN=>puA [(6,.p (num c))] (pf1 (hc N hN)) (num c)⟩
def fiH (l:qaY)(n j:Nat):St:=⟨[(5,.sl false 1 l),(6,nat n),(7,nat j)],[]⟩
theorem Qx (l:List Int)(hl:l.length<=60000)(hb:∀x,x∈l->0<=x/\x<=100):kK 60002 143 [.sl false 1 (aI l)]:=by
 have hn:=bI l;have:=scan (B:=0) (b:=aH 143 0) (H:=fun j=>fiH (aI l) (aI l).length j) (τ:=fiH (aI l) (aI l).length 0) (n:=(aI l).length) (e:=.exit 0) (fin:=⟨[(5,.sl false 1 (aI l)),(6,nat (aI l).length),(7,nat (aI l).length),(8,ak false)],[]⟩) (fun r=>∃x:Int,(0<=x/\x<=100)/\r=⟨[(2,num x)],[]⟩) (by kernel_rfl) (fun j hj=>by
  have hj':j<l.length:=by omega
  have hg:=lI hj';have hx:=hb _ (qah hj');generalize l[j]=x at hg hx;cases h:(!(x==0)) with
  |true=>left;exact ⟨⟨[(2,num x)],[]⟩,⟨x,hx,rfl⟩,fun M _=>ruA [(8,.b true),(9,.e [num x]),(12,.b true)] (pf3 (aN (j:=j) (k:=(aI l).length) (by omega)) hg h)⟩
  |false=>right;exact ⟨fiH (aI l) (aI l).length (j+1),by kernel_rfl,fun M _=>ruA [(8,.b true),(9,.e [num x]),(12,.b false),(14,.i (Int.ofNat (j+1)))] (pf4 (aN (j:=j) (k:=(aI l).length) (by omega)) hg h (aB (j:=j) (by omega)))⟩)
  (fun M _=>nP [(8,.b false)] [] (pf1 (aO (qaC (aI l).length))) (lo':=[]) (σ':=⟨[(5,.sl false 1 (aI l)),(6,nat (aI l).length),(7,nat (aI l).length),(8,ak false)],[]⟩) (by kernel_rfl)) (by simp)
 apply dA;rcases this with ⟨r,⟨x,hx,rfl⟩,h⟩|h;·exact ⟨x,hx,fun N hN=>puB [] [(.ret,⟨[(2,num x)],[]⟩)] (pf1 (h N (by omega) (by omega))) (num x)⟩
 exact ⟨0,by decide,fun N hN=>puB [] [(.exit 0,⟨[(5,.sl false 1 (aI l)),(6,nat (aI l).length),(7,nat (aI l).length),(8,ak false)],[]⟩)] (pf1 (h N (by omega) (by omega))) (num 0)⟩
theorem zhq (v:Val):kK 60003 142 [.agg v.cells]:=by obtain ⟨k,i,s,t,l,f⟩:=v;obtain ⟨c,cr,hc⟩:=iF i (-999999999999999) 999999999999999;obtain ⟨d,dr,hd⟩:=iF s 0 12;obtain ⟨e,er,he⟩:=Qx [c,d] (by simp) (fun x hx=>by grind);exact dA ⟨e,er,fun N hN=>puA [(5,.p (num c)),(8,.p (num d)),(10,.p (num e))] (pf3 (hc N (by omega)) (hd N (by omega)) (he N (by omega))) (num e)⟩
theorem XA (N:Nat)(t:qaZ)(h:t.size<=9223372036854775807):Gam.aF (ah tab ext (N+1)) 146 [aC t]=some (ak (Lib.validD t.data.toList)):=by
 have e:ah tab ext (N+1) (.fn 146) [aC t] []=some (ak (Lib.validD t.data.toList),[]):=by show oO [aC t] []=_;unfold oO aC;simp only [if_pos h];rfl
 unfold Gam.aF;rw [e];rfl
theorem zhp (v:Val):kK 4 144 [.agg v.cells]:=by
 obtain ⟨k,i,s,t,l,f⟩:=v;apply dA;cases h0:decide (1024<Int.ofNat t.size) with
 |true=>
  have hc:∀N,2<=N->Gam.aF (ah tab ext N) 145 [num (Int.ofNat t.size),num 1024,num 5]=some (num 5):=fun N hN=>by obtain ⟨M,rfl⟩:∃M,N=M+1:=⟨N-1,by omega⟩;exact puA [(9,.b true)] (pf1 h0) (num 5)
  exact ⟨5,by decide,fun N hN=>puA [(7,.p (num 5))] (pf1 (hc N (by omega))) (num 5)⟩
 |false=>
  have hsz:t.size<=9223372036854775807:=by have:=of_decide_eq_false h0;simp only [qaq] at this;omega
  have hc:∀N,2<=N->Gam.aF (ah tab ext N) 145 [num (Int.ofNat t.size),num 1024,num 5]=some (num 0):=fun N hN=>by obtain ⟨M,rfl⟩:∃M,N=M+1:=⟨N-1,by omega⟩;exact puA [(9,.b false)] (pf1 h0) (num 0)
  have hv:∀N,3<=N->Gam.aF (ah tab ext N) 146 [aC t]=some (ak (Lib.validD t.data.toList)):=fun N hN=>by obtain ⟨M,rfl⟩:∃M,N=M+1:=⟨N-1,by omega⟩<;>simp_all[XA]
  generalize Lib.validD t.data.toList=b at hv;cases b with
  |true=>exact ⟨0,by decide,fun N hN=>puA [(7,.p (num 0)),(13,.p (ak true))] (pf2 (hc N (by omega)) (hv N hN)) (num 0)⟩
  |false=>exact ⟨16,by decide,fun N hN=>puA [(7,.p (num 0)),(13,.p (ak false))] (pf2 (hc N (by omega)) (hv N hN)) (num 16)⟩
theorem QU {s:qaZ}{j:Nat}(h:j<(byteRow s).length):∃u:Int,(byteRow s)[j]?=some [.v (.int .u8 u)]:=by simp_all[byteRow]
def naH (s:qaZ)(n j:Nat):St:=⟨[(23,.sl false 1 (byteRow s)),(24,nat n),(25,nat j)],[]⟩
theorem Vr (s:qaZ)(u:Int)(n j:Nat)(hj:j<n)(hn:n<1000000)(hg:(byteRow s)[j]?=some [.v (.int .u8 u)]):
  (∃r,r=⟨[(2,ak false)],[]⟩/\∀M,0<=M->run (ah tab ext M) 0 M (aH 130 0) (naH s n j)=some (.ret,r))\/(∃υ,canon 0 υ=some (naH s n (j+1))/\∀M,0<=M->run (ah tab ext M) 0 M (aH 130 0) (naH s n j)=some (.norm,υ)):=by
 cases h1:decide (u<97) with
 |true=>
  cases h2:decide (u<48) with
  |true=>
   cases h3:(!(u==95)) with
   |true=>exact .inl ⟨_,rfl,fun M _=>ruA [(26,.b true),(27,.e [.v (.int .u8 u)]),(30,.b true),(37,.b true),(45,.b true)] (pf5 (aN (j:=j) (k:=n) hj) hg h1 h2 h3)⟩
   |false=>grind
  |false=>
   cases h4:decide (57<u) with
   |true=>
    cases h5:(!(u==95)) with
    |true=>exact .inl ⟨_,rfl,fun M _=>ruA [(26,.b true),(27,.e [.v (.int .u8 u)]),(30,.b true),(37,.b false),(40,.b true),(45,.b true)] (pf6 (aN (j:=j) (k:=n) hj) hg h1 h2 h4 h5)⟩
    |false=>exact .inr ⟨naH s n (j+1),by kernel_rfl,fun M _=>ruA [(26,.b true),(27,.e [.v (.int .u8 u)]),(30,.b true),(37,.b false),(40,.b true),(45,.b false),(47,.i (Int.ofNat (j+1)))] (pf7 (aN (j:=j) (k:=n) hj) hg h1 h2 h4 h5 (aB (j:=j) (by omega)))⟩
   |false=>exact .inr ⟨naH s n (j+1),by kernel_rfl,fun M _=>ruA [(26,.b true),(27,.e [.v (.int .u8 u)]),(30,.b true),(37,.b false),(40,.b false),(47,.i (Int.ofNat (j+1)))] (pf6 (aN (j:=j) (k:=n) hj) hg h1 h2 h4 (aB (j:=j) (by omega)))⟩
 |false=>
  cases h6:decide (122<u) with
  |true=>
   cases h7:decide (u<48) with
   |true=>grind
   |false=>
    cases h9:decide (57<u) with
    |true=>
     cases h10:(!(u==95)) with
     |true=>exact .inl ⟨_,rfl,fun M _=>ruA [(26,.b true),(27,.e [.v (.int .u8 u)]),(30,.b false),(33,.b true),(37,.b false),(40,.b true),(45,.b true)] (pf7 (aN (j:=j) (k:=n) hj) hg h1 h6 h7 h9 h10)⟩
     |false=>grind
    |false=>grind
  |false=>exact .inr ⟨naH s n (j+1),by kernel_rfl,fun M _=>ruA [(26,.b true),(27,.e [.v (.int .u8 u)]),(30,.b false),(33,.b false),(47,.i (Int.ofNat (j+1)))] (pf5 (aN (j:=j) (k:=n) hj) hg h1 h6 (aB (j:=j) (by omega)))⟩
theorem size_pos {s:qaZ}(h:(s.toList==(⟨#[]⟩:qaZ).toList)=false):0<s.size:=by rcases Nat.eq_zero_or_pos s.size with h0|h0<;>simp_all
theorem Vq (s:qaZ)(hs:s.size<=60000):oJ 60002 130 [aC s]:=by
 have hl:(byteRow s).length=s.size:=by unfold byteRow;rw [qat,Array.length_toList];rfl
 have:=scan (B:=0) (b:=aH 130 0) (H:=fun j=>naH s (byteRow s).length j) (τ:=naH s (byteRow s).length 0) (n:=(byteRow s).length) (e:=.exit 0) (fin:=⟨[(23,.sl false 1 (byteRow s)),(24,nat (byteRow s).length),(25,nat (byteRow s).length),(26,ak false)],[]⟩) (fun r=>r=⟨[(2,ak false)],[]⟩) (by kernel_rfl) (fun j hj=>by
  grind[QU,Vr])
  (fun M _=>ruA [(26,.b false)] (pf1 (aO (qaC (byteRow s).length)))) (by simp)
 apply dO;cases h1:(s.toList==(⟨#[]⟩:qaZ).toList) with
 |true=>exact ⟨false,fun N hN=>puA [(6,.b true)] (pf1 h1) (ak false)⟩
 |false=>
  cases h2:decide (32<Int.ofNat s.size) with
  |true=>exact ⟨false,fun N hN=>puA [(6,.b false),(10,.b true)] (pf2 h1 h2) (ak false)⟩
  |false=>
   have hpos:=size_pos h1;cases h3:decide ((((s[0]?).getD 0).toNat:Int)<97) with
   |true=>exact ⟨false,fun N hN=>puA [(6,.b false),(10,.b false),(14,.at),(15,.b true)] (pf4 h1 h2 hpos h3) (ak false)⟩
   |false=>
    cases h4:decide (122<(((s[0]?).getD 0).toNat:Int)) with
    |true=>exact ⟨false,fun N hN=>puA [(6,.b false),(10,.b false),(14,.at),(15,.b false),(19,.at),(20,.b true)] (pf6 h1 h2 hpos h3 hpos h4) (ak false)⟩
    |false=>
     rcases this with ⟨r,rfl,h⟩|h;·exact ⟨false,fun N hN=>puB [(6,.b false),(10,.b false),(14,.at),(15,.b false),(19,.at),(20,.b false)] [(.ret,⟨[(2,ak false)],[]⟩)] (pf7 h1 h2 hpos h3 hpos h4 (h N (by omega) (by omega))) (ak false)⟩
     exact ⟨true,fun N hN=>puB [(6,.b false),(10,.b false),(14,.at),(15,.b false),(19,.at),(20,.b false)] [(.exit 0,⟨[(23,.sl false 1 (byteRow s)),(24,nat (byteRow s).length),(25,nat (byteRow s).length),(26,ak false)],[]⟩)] (pf7 h1 h2 hpos h3 hpos h4 (h N (by omega) (by omega))) (ak true)⟩
theorem Gn (s:qaZ):oJ 60002 130 [aC s]:=by
 by_cases hs:s.size<=60000
 ·grind[Vq]
 apply dO;have h2:decide (32<Int.ofNat s.size)=true:=by simp;omega
 cases h1:(s.toList==(⟨#[]⟩:qaZ).toList) with
 |true=>exact ⟨false,fun N hN=>puA [(6,.b true)] (pf1 h1) (ak false)⟩
 |false=>exact ⟨false,fun N hN=>puA [(6,.b false),(10,.b true)] (pf2 h1 h2) (ak false)⟩
theorem zhj (v:Val):kK 60003 152 [.agg v.cells]:=by
 obtain ⟨k,i,s,t,l,f⟩:=v;obtain ⟨b,hb⟩:=Gn t;obtain ⟨c,cr,hc⟩:=rU (Int.ofNat (au l).length) 1 3 (by decide);apply dA;cases b with
 |true=>
  cases h1:(Int.ofNat (au l).length==0) with
  |true=>exact ⟨4,by decide,fun N hN=>puA [(6,.p (ak true)),(12,.b true)] (pf2 (hb N (by omega)) h1) (num (4))⟩
  |false=>exact ⟨c,cr,fun N hN=>puA [(6,.p (ak true)),(12,.b false),(16,.p (num c))] (pf3 (hb N (by omega)) h1 (hc N (by omega))) (num (c))⟩
 |false=>exact ⟨12,by decide,fun N hN=>puA [(6,.p (ak false))] (pf1 (hb N (by omega))) (num (12))⟩
section
variable (k i s:Int) (t:qaZ) (l f:qaY) (n j:Nat)
def reH:St:=⟨[(1,.ptr 0 0 0),(14,.sl false 7 f),(15,nat n),(16,nat j)],[.var [num k,num i,num s,aC t,.sl false 6 l,.sl false 7 f]]⟩
end
theorem vM {j:Nat}(h:j<4294967296):IntKind.i64.wrap (Int.ofNat (j+1)-1)=Int.ofNat j:=by rw [IntKind.wrap_i64];simp only [qaq];omega
theorem BF {j:Nat}:decide (0<Int.ofNat (j+1))=true:=by simp only [qaq,qaF];omega
theorem Rf:decide (0<Int.ofNat 0)=false:=rfl
theorem YP (k i s:Int)(t:qaZ)(l:qaY)(f:List (qaZ×Val))(j:Nat)(hl:f.length<=60000)(hj:j<f.length):
  (∃r,(∃c:Int,(0<=c/\c<=100)/\∃bx,r=⟨[(2,num c)],bx⟩)/\∀M,60002<=M->run (ah tab ext M) 0 M (aH 151 0) (reH k i s t l (aA f) (aA f).length j)=some (.ret,r))\/(∃υ,canon 0 υ=some (reH k i s t l (aA f) (aA f).length (j+1))/\∀M,60002<=M->run (ah tab ext M) 0 M (aH 151 0) (reH k i s t l (aA f) (aA f).length j)=some (.norm,υ)):=by
 have hn:=bg f;have hg:=iD hj;obtain ⟨b,hb⟩:=Gn f[j].1;generalize f[j]=p at hg hb;obtain ⟨p0,p1,p2,p3,p4,p5,p6⟩:=p;have hlt:=aN (j:=j) (k:=(aA f).length) (by omega);cases b with
 |false=>exact .inl ⟨⟨[(2,num 12)],[.var [num k,num i,num s,aC t,.sl false 6 l,.sl false 7 (aA f)],.var (aC p0::(Val.mk p1 p2 p3 p4 p5 p6).cells)]⟩,⟨12,by decide,_,rfl⟩,fun M hM=>ruA [(17,.b true),(19,.e (aC p0::(Val.mk p1 p2 p3 p4 p5 p6).cells)),(24,.p (ak false))] (pf3 hlt hg (hb M hM))⟩
 |true=>
  cases j with
  |zero=>exact .inr ⟨⟨[(1,.ptr 0 0 0),(14,.sl false 7 (aA f)),(15,nat (aA f).length),(16,nat (0+1))],[.var [num k,num i,num s,aC t,.sl false 6 l,.sl false 7 (aA f)],.var (aC p0::(Val.mk p1 p2 p3 p4 p5 p6).cells)]⟩,by kernel_rfl,fun M hM=>ruA [(17,.b true),(19,.e (aC p0::(Val.mk p1 p2 p3 p4 p5 p6).cells)),(24,.p (ak true)),(28,.b false),(43,.b false),(56,.i (Int.ofNat (0+1)))] (pf6 hlt hg (hb M hM) Rf Rf (aB (j:=0) (by omega)))⟩
  |succ j=>
   have hj':j<f.length:=by omega
   have hq:=iD hj';generalize f[j]=q at hq;obtain ⟨q0,q1,q2,q3,q4,q5,q6⟩:=q;cases h1:(p0.toList==q0.toList) with
   |true=>exact .inl ⟨⟨[(2,num 7)],[.var [num k,num i,num s,aC t,.sl false 6 l,.sl false 7 (aA f)],.var (aC p0::(Val.mk p1 p2 p3 p4 p5 p6).cells)]⟩,⟨7,by decide,_,rfl⟩,fun M hM=>ruA [(17,.b true),(19,.e (aC p0::(Val.mk p1 p2 p3 p4 p5 p6).cells)),(24,.p (ak true)),(28,.b true),(35,.i (Int.ofNat j)),(36,.e (aC q0::(Val.mk q1 q2 q3 q4 q5 q6).cells)),(39,.b true)] (pf7 hlt hg (hb M hM) (BF (j:=j)) (vM (j:=j) (by omega)) hq h1)⟩
   |false=>
    cases h2:Op.bytesLess p0.toList q0.toList with
    |true=>exact .inl ⟨⟨[(2,num 24)],[.var [num k,num i,num s,aC t,.sl false 6 l,.sl false 7 (aA f)],.var (aC p0::(Val.mk p1 p2 p3 p4 p5 p6).cells)]⟩,⟨24,by decide,_,rfl⟩,fun M hM=>ruA [(17,.b true),(19,.e (aC p0::(Val.mk p1 p2 p3 p4 p5 p6).cells)),(24,.p (ak true)),(28,.b true),(35,.i (Int.ofNat j)),(36,.e (aC q0::(Val.mk q1 q2 q3 q4 q5 q6).cells)),(39,.b false),(43,.b true),(50,.i (Int.ofNat j)),(51,.e (aC q0::(Val.mk q1 q2 q3 q4 q5 q6).cells)),(54,.b true)] (zsM hlt hg (hb M hM) (BF (j:=j)) (vM (j:=j) (by omega)) hq h1 (BF (j:=j)) (vM (j:=j) (by omega)) hq h2)⟩
    |false=>exact .inr ⟨⟨[(1,.ptr 0 0 0),(14,.sl false 7 (aA f)),(15,nat (aA f).length),(16,nat ((j+1)+1))],[.var [num k,num i,num s,aC t,.sl false 6 l,.sl false 7 (aA f)],.var (aC p0::(Val.mk p1 p2 p3 p4 p5 p6).cells)]⟩,by kernel_rfl,fun M hM=>ruA [(17,.b true),(19,.e (aC p0::(Val.mk p1 p2 p3 p4 p5 p6).cells)),(24,.p (ak true)),(28,.b true),(35,.i (Int.ofNat j)),(36,.e (aC q0::(Val.mk q1 q2 q3 q4 q5 q6).cells)),(39,.b false),(43,.b true),(50,.i (Int.ofNat j)),(51,.e (aC q0::(Val.mk q1 q2 q3 q4 q5 q6).cells)),(54,.b false),(56,.i (Int.ofNat ((j+1)+1)))] (zoJ hlt hg (hb M hM) (BF (j:=j)) (vM (j:=j) (by omega)) hq h1 (BF (j:=j)) (vM (j:=j) (by omega)) hq h2 (aB (j:=(j+1)) (by omega)))⟩
theorem zcT (x:Int)(h:decide (64<x)=true)(N:Nat)(hN:2<=N):Gam.aF (ah tab ext N) 145 [num x,num 64,num 9]=some (num 9):=by obtain ⟨M,rfl⟩:∃M,N=M+1:=⟨N-1,by omega⟩;exact puA [(9,.b true)] (pf1 h) (num 9)
theorem zhk (v:Val):kK 60003 151 [.agg v.cells]:=by
 obtain ⟨k,i,s,t,l,f⟩:=v;have hn:=bg f;by_cases hv:f.length<=60000
 case neg=>
  have h64:decide (64<Int.ofNat (aA f).length)=true:=by
   have:64<Int.ofNat (aA f).length:=by simp only [qaq];omega
   exact decide_eq_true this
  apply dA;exact ⟨9,by decide,fun N hN=>puA [(9,.p (num 9)),(11,.b true)] (pf2 (zcT _ h64 N (by omega)) (show (!((9:Int)==0))=true from rfl)) (num 9)⟩
 obtain ⟨c,cr,hc⟩:=rU (Int.ofNat (aA f).length) 64 9 (by decide);have:=scan (B:=60002) (b:=aH 151 0) (H:=fun j=>reH k i s t (au l) (aA f) (aA f).length j) (τ:=reH k i s t (au l) (aA f) (aA f).length 0) (n:=(aA f).length) (e:=.exit 0) (fin:=⟨[(1,.ptr 0 0 0),(14,.sl false 7 (aA f)),(15,nat (aA f).length),(16,nat (aA f).length),(17,ak false)],[.var [num k,num i,num s,aC t,.sl false 6 (au l),.sl false 7 (aA f)]]⟩) (fun r=>∃c:Int,(0<=c/\c<=100)/\∃bx,r=⟨[(2,num c)],bx⟩) (by kernel_rfl)
  (fun j hj=>YP k i s t (au l) f j (by omega) (by omega))
  (fun M _=>ruA [(17,.b false)] (pf1 (aO (qaC (aA f).length)))) (by simp)
 apply dA;cases h:(!(c==0)) with
 |true=>exact ⟨c,cr,fun N hN=>puA [(9,.p (num c)),(11,.b true)] (pf2 (hc N (by omega)) h) (num c)⟩
 |false=>
  rcases this with ⟨r,⟨d,dr,bx,rfl⟩,hr⟩|hr;·exact ⟨d,dr,fun N hN=>puB [(9,.p (num c)),(11,.b false)] [(.ret,⟨[(2,num d)],bx⟩)] (pf3 (hc N (by omega)) h (hr N (by omega) (by omega))) (num d)⟩
  exact ⟨0,by decide,fun N hN=>puB [(9,.p (num c)),(11,.b false)] [(.exit 0,⟨[(1,.ptr 0 0 0),(14,.sl false 7 (aA f)),(15,nat (aA f).length),(16,nat (aA f).length),(17,ak false)],[.var [num k,num i,num s,aC t,.sl false 6 (au l),.sl false 7 (aA f)]]⟩)] (pf3 (hc N (by omega)) h (hr N (by omega) (by omega))) (num 0)⟩
def Val.few:Val->Prop
 |.mk _ _ _ _ l f=>l.length<=2000000/\f.length<=2000000
mutual
def Val.wide:Val->Prop
 |.mk _ _ _ _ l f=>(l.length<=2000000/\f.length<=2000000)/\zB l/\zC f
def zB:List Val->Prop
 |[]=>True
 |v::r=>v.wide/\zB r
def zC:List (qaZ×Val)->Prop
 |[]=>True
 |(_,v)::r=>v.wide/\zC r
end
theorem uQ {v:Val}:∀{l:List Val},zB l->v∈l->v.wide
 |u::r,h,hm=>by
  simp only [zB] at h;rcases qaj.1 hm with rfl|hm
  ·grind
  exact uQ h.2 hm
theorem uS {p:qaZ×Val}:∀{l:List (qaZ×Val)},zC l->p∈l->p.2.wide
 |(n,u)::r,h,hm=>by
  simp only [zC] at h;rcases qaj.1 hm with rfl|hm
  ·grind
  exact uS h.2 hm
theorem QA (h:v.wide):v.few:=by obtain ⟨k,i,s,t,l,f⟩:=v;simp only [Val.wide] at h;exact h.1
mutual
theorem Ob:∀{v:Val},v.size<=2000000->v.wide
 |.mk k i s t l f,h=>by simp only [Val.size] at h;have:=gV l;have:=fG f;simp only [Val.wide];exact ⟨⟨by omega,by omega⟩,Rh (by omega),Ri (by omega)⟩
theorem Rh:∀{l:List Val},sU l<=2000000->zB l
 |[],_=>by grind[zB]
 |v::r,h=>by simp only [sU] at h;simp only [zB];exact ⟨Ob (by omega),Rh (by omega)⟩
theorem Ri:∀{l:List (qaZ×Val)},sV l<=2000000->zC l
 |[],_=>by grind[zC]
 |(n,v)::r,h=>by simp only [sV] at h;simp only [zC];exact ⟨Ob (by omega),Ri (by omega)⟩
end
theorem E5 (h:v.ok):v.wide:=by grind[Ob,Val.ok]
theorem Kt {acc:qaY}(j i bytes:Nat)(h:j=acc.length)(hj:j<3000000)(hb:bytes<1000):0+j=acc.length/\dD (j+1) bytes=true/\sD i []=false:=
 ⟨by omega,jc (by have:(j+1)*bytes<=3000000*1000:=Nat.mul_le_mul (by omega) (by omega);omega) (by omega),rfl⟩
def nY:Val->List Val
 |.mk k _ _ _ l f=>if k=8\/k=10 then l else if k=9 then f.map (·.2) else []
def paH (f acc:qaY)(n j:Nat):St:=⟨[(3,.bs 0 0 j),(16,.sl false 7 f),(17,nat n),(18,nat j)],[.row 6 acc]⟩
def zsP (f acc:qaY)(n j:Nat)(x y:List X):St:=⟨[(3,.bs 2 0 (j+1)),(16,.sl false 7 f),(17,nat n),(18,nat (j+1))],[.dead,.var x,.row 6 (acc++[y])]⟩
theorem Y0 (f acc:qaY)(n j:Nat)(x y:List X):canon 0 (zsP f acc n j x y)=some (paH f (acc++[y]) n (j+1)):=by kernel_rfl
theorem Vg (N:Nat)(v:Val)(hv:v.few)(hN:v.size+10<=N):Gam.aF (ah tab ext N) 205 [.agg v.cells]=some (.sl false 6 (au (nY v))):=by
 obtain ⟨M,rfl⟩:∃M,N=M+1:=⟨N-1,by omega⟩;obtain ⟨k,i,s,t,l,f⟩:=v;simp only [Val.size] at hN;have hv:=hv.2;have hf:=fG f;have hn:=bg f;simp only [nY];cases h1:(k==8) with
 |true=>
  have:k=8:=by simpa using h1
  rw [if_pos (Or.inl this)];exact puA [(9,.b true)] (pf1 h1) (.sl false 6 (au l))
 |false=>
  have n8:k≠8:=by simpa using h1
  cases h2:(k==10) with
  |true=>
   have:k=10:=by simpa using h2
   rw [if_pos (Or.inr this)];exact puA [(9,.b false),(10,.b true)] (pf2 h1 h2) (.sl false 6 (au l))
  |false=>
   have n10:k≠10:=by simpa using h2
   rw [if_neg (by grind)];cases h3:(k==9) with
   |false=>
    have n9:k≠9:=by simpa using h3
    rw [if_neg n9];exact puA [(9,.b false),(10,.b false),(14,.b false)] (pf3 h1 h2 h3) (.sl true 6 [])
   |true=>
    have:k=9:=by simpa using h3
    rw [if_pos this];have hloop:run (ah tab ext M) 0 M (.loop (aH 205 0)) ⟨[(3,.bs 1 0 0),(16,.sl false 7 (aA f)),(17,nat (aA f).length),(18,nat 0)],[.var (Val.mk k i s t l f).cells,.row 6 []]⟩=some (.exit 1,⟨[(3,.bs 0 0 (aA f).length),(16,.sl false 7 (aA f)),(17,nat (aA f).length),(18,nat (aA f).length),(19,ak false)],[.row 6 (au (f.map (·.2)))]⟩):=by
     refine bJ (σ:=fun j=>paH (aA f) ((au (f.map (·.2))).take j) (aA f).length j) (k:=(aA f).length) (by kernel_rfl) (fun j hj=>?_) ?_ (by simp) (by omega)
     ·have hj':j<f.length:=by omega
      have hg:=iD hj';have hg2:(au (f.map (·.2)))[j]?=some f[j].2.cells:=by rw [jW];simp [hj']
      have ht:=dJ hg2;have hlen:j=((au (f.map (·.2))).take j).length:=by rw [qaf,aS,qat];omega
      generalize f[j]=p at hg ht;obtain ⟨p0,p1,p2,p3,p4,p5,p6⟩:=p;refine ⟨zsP (aA f) ((au (f.map (·.2))).take j) (aA f).length j (aC p0::(Val.mk p1 p2 p3 p4 p5 p6).cells) (Val.mk p1 p2 p3 p4 p5 p6).cells,ruA [(19,.b true),(20,.e (aC p0::(Val.mk p1 p2 p3 p4 p5 p6).cells)),(26,.app),(27,.i (Int.ofNat (j+1)))] (pf4 (aN (j:=j) (k:=(aA f).length) (by omega)) hg (Kt (acc:=(au (f.map (·.2))).take j) j 0 88 hlen (by omega) (by omega)) (aB (j:=j) (by omega))),?_⟩
      grind[Y0]
     have ht:(au (f.map (·.2))).take (aA f).length=au (f.map (·.2)):=List.take_of_length_le (by grind[aS]);rw [ht];exact ruA [(19,.b false)] (pf1 (aO (qaC (aA f).length)))
    have hd:(X.bs 0 0 (aA f).length).data [.row 6 (au (f.map (·.2)))] false=some (.sl false 6 (au (f.map (·.2)))):=by
     have hl:(au (f.map (·.2))).length=(aA f).length:=by rw [aS,qat,hn]
     simp only [X.data,rowOf,List.getElem?_cons_zero,Nat.zero_add,hl,Nat.le_refl,if_true,qao,List.drop_zero];rw [List.take_of_length_le (by omega)]
    exact eH [(9,.b false),(10,.b false),(14,.b true)] [(.exit 1,⟨[(3,.bs 0 0 (aA f).length),(16,.sl false 7 (aA f)),(17,nat (aA f).length),(18,nat (aA f).length),(19,ak false)],[.row 6 (au (f.map (·.2)))]⟩)]
     (pf4 h1 h2 h3 hloop) (bx:=[.row 6 (au (f.map (·.2)))]) (by kernel_rfl) hd
def U7:C->List (C×C)
 |.seq a b|.cond _ a b=>U7 a++U7 b
 |.block _ b|.loop b=>U7 b
 |.rf _ _ _ a b=>(a,b)::(U7 a++U7 b)
 |_=>[]
noncomputable def zlF (f:Nat):C×C:=match tab f with
 |some fd=>(U7 fd.body).getD 0 (.skip,.skip)
 |none=>(.skip,.skip)
noncomputable def recC (st:LoopState)(p:Option Ex):Bx:=.loop st p [(2,.ptr 1 0 0),(3,.ptr 2 0 0),(4,.ptr 3 0 0)] [11,12] (zlF 71).1 (zlF 71).2
def tJ:List X:=[.v .nilFunc,.fn 139 [],.fn 141 [],.fn 142 [],.fn 144 [],.fn 147 [],.fn 148 [],.fn 149 [],.fn 150 [],.fn 151 [],.fn 152 []]
noncomputable def goC (n:Nat):List Bx:=[recC .ready none,.var [num 0],.var tJ,.var [nat n]]
noncomputable def za6 (c:Int)(n:Nat):List Bx:=[recC .done (some .ret),.var [num c],.var tJ,.var [nat n]]
def Round (v:Val)(lev:Int)(n:Nat):Prop:=
 (∃c:Int,(0<=c/\c<=100)/\∀N,60010<=N->ah tab ext N .yl [.yl 0,num lev,.agg v.cells] (goC n)=some (ak false,za6 c (n+1)))\/
 (n<=4096/\∀N,60010<=N->ah tab ext N .yl [.yl 0,num lev,.agg v.cells] (goC n)=some (ak true,goC (n+1)))
theorem fC {lev:Int}{n:Nat}(h:(∃c:Int,(0<=c/\c<=100)/\∀N,60009<=N->ah tab ext (N+1) .yl [.yl 0,num lev,.agg v.cells] (goC n)=some (ak false,za6 c (n+1)))\/
 (n<=4096/\∀N,60009<=N->ah tab ext (N+1) .yl [.yl 0,num lev,.agg v.cells] (goC n)=some (ak true,goC (n+1)))):Round v lev n:=by
 rcases h with ⟨c,cr,h⟩|⟨hn,h⟩;·refine .inl ⟨c,cr,fun N hN=>?_⟩;obtain ⟨M,rfl⟩:∃M,N=M+1:=⟨N-1,by omega⟩<;>simp_all
 refine .inr ⟨hn,fun N hN=>?_⟩;obtain ⟨M,rfl⟩:∃M,N=M+1:=⟨N-1,by omega⟩<;>simp_all
theorem lC (v:Val)(N:Nat)(hN:60009<=N):Gam.aF (ah tab ext N) 67 [.agg v.cells]=some (ak (jf v)):=by obtain ⟨M,rfl⟩:∃M,N=M+1:=⟨N-1,by omega⟩<;>simp_all[Sl]
theorem jL {n:Nat}(h:decide (4096<Int.ofNat (n+1))=false):n<=4096:=by grind
theorem zmL (i s:Int)(t:qaZ)(l:List Val)(f:List (qaZ×Val))(lev:Int)(n:Nat)(hn:n<4294967296):Round (Val.mk 1 i s t l f) lev n:=by
 obtain ⟨b,hb⟩:=zpB i s t l f;obtain ⟨c,cr,hc⟩:=zhs (Val.mk 1 i s t l f);apply fC;cases h1:decide (4096<Int.ofNat (n+1)) with
 |true=>exact .inl ⟨9,by decide,fun N hN=>yiA [(14,.i (Int.ofNat (n+1))),(17,.b true)] (pf2 (aB (j:=n) hn) h1)⟩
 |false=>
  cases h2:decide (8<lev) with
  |true=>exact .inl ⟨23,by decide,fun N hN=>yiA [(14,.i (Int.ofNat (n+1))),(17,.b false),(20,.b true)] (pf3 (aB (j:=n) hn) h1 h2)⟩
  |false=>
   have hz:=lC (Val.mk 1 i s t l f);generalize jf (Val.mk 1 i s t l f)=z at hz;cases z with
   |true=>exact .inl ⟨19,by decide,fun N hN=>yiA [(14,.i (Int.ofNat (n+1))),(17,.b false),(20,.b false),(23,.p (ak true))] (pf4 (aB (j:=n) hn) h1 h2 (hz N hN))⟩
   |false=>
    cases b with
    |true=>
     cases h3:(!(c==0)) with
     |true=>exact .inl ⟨c,cr,fun N hN=>yiA [(14,.i (Int.ofNat (n+1))),(17,.b false),(20,.b false),(23,.p (ak false)),(35,.p (ak true)),(42,.p (num c)),(44,.b true)] (pf7 (aB (j:=n) hn) h1 h2 (hz N hN) (hb N (by omega)) (hc N (by omega)) h3)⟩
     |false=>exact .inr ⟨jL h1,fun N hN=>yiA [(14,.i (Int.ofNat (n+1))),(17,.b false),(20,.b false),(23,.p (ak false)),(35,.p (ak true)),(42,.p (num c)),(44,.b false)] (pf7 (aB (j:=n) hn) h1 h2 (hz N hN) (hb N (by omega)) (hc N (by omega)) h3)⟩
    |false=>exact .inl ⟨3,by decide,fun N hN=>yiA [(14,.i (Int.ofNat (n+1))),(17,.b false),(20,.b false),(23,.p (ak false)),(35,.p (ak false))] (pf5 (aB (j:=n) hn) h1 h2 (hz N hN) (hb N (by omega)))⟩
theorem zmK (i s:Int)(t:qaZ)(l:List Val)(f:List (qaZ×Val))(lev:Int)(n:Nat)(hn:n<4294967296):Round (Val.mk 2 i s t l f) lev n:=by
 obtain ⟨b,hb⟩:=zpA i s t l f;obtain ⟨c,cr,hc⟩:=zhr (Val.mk 2 i s t l f);apply fC;cases h1:decide (4096<Int.ofNat (n+1)) with
 |true=>exact .inl ⟨9,by decide,fun N hN=>yiA [(14,.i (Int.ofNat (n+1))),(17,.b true)] (pf2 (aB (j:=n) hn) h1)⟩
 |false=>
  cases h2:decide (8<lev) with
  |true=>exact .inl ⟨23,by decide,fun N hN=>yiA [(14,.i (Int.ofNat (n+1))),(17,.b false),(20,.b true)] (pf3 (aB (j:=n) hn) h1 h2)⟩
  |false=>
   have hz:=lC (Val.mk 2 i s t l f);generalize jf (Val.mk 2 i s t l f)=z at hz;cases z with
   |true=>exact .inl ⟨19,by decide,fun N hN=>yiA [(14,.i (Int.ofNat (n+1))),(17,.b false),(20,.b false),(23,.p (ak true))] (pf4 (aB (j:=n) hn) h1 h2 (hz N hN))⟩
   |false=>
    cases b with
    |true=>
     cases h3:(!(c==0)) with
     |true=>exact .inl ⟨c,cr,fun N hN=>yiA [(14,.i (Int.ofNat (n+1))),(17,.b false),(20,.b false),(23,.p (ak false)),(35,.p (ak true)),(42,.p (num c)),(44,.b true)] (pf7 (aB (j:=n) hn) h1 h2 (hz N hN) (hb N (by omega)) (hc N (by omega)) h3)⟩
     |false=>exact .inr ⟨jL h1,fun N hN=>yiA [(14,.i (Int.ofNat (n+1))),(17,.b false),(20,.b false),(23,.p (ak false)),(35,.p (ak true)),(42,.p (num c)),(44,.b false)] (pf7 (aB (j:=n) hn) h1 h2 (hz N hN) (hb N (by omega)) (hc N (by omega)) h3)⟩
    |false=>exact .inl ⟨3,by decide,fun N hN=>yiA [(14,.i (Int.ofNat (n+1))),(17,.b false),(20,.b false),(23,.p (ak false)),(35,.p (ak false))] (pf5 (aB (j:=n) hn) h1 h2 (hz N hN) (hb N (by omega)))⟩
theorem zmJ (i s:Int)(t:qaZ)(l:List Val)(f:List (qaZ×Val))(lev:Int)(n:Nat)(hn:n<4294967296):Round (Val.mk 3 i s t l f) lev n:=by
 obtain ⟨b,hb⟩:=zpz i s t l f;obtain ⟨c,cr,hc⟩:=zhq (Val.mk 3 i s t l f);apply fC;cases h1:decide (4096<Int.ofNat (n+1)) with
 |true=>exact .inl ⟨9,by decide,fun N hN=>yiA [(14,.i (Int.ofNat (n+1))),(17,.b true)] (pf2 (aB (j:=n) hn) h1)⟩
 |false=>
  cases h2:decide (8<lev) with
  |true=>exact .inl ⟨23,by decide,fun N hN=>yiA [(14,.i (Int.ofNat (n+1))),(17,.b false),(20,.b true)] (pf3 (aB (j:=n) hn) h1 h2)⟩
  |false=>
   have hz:=lC (Val.mk 3 i s t l f);generalize jf (Val.mk 3 i s t l f)=z at hz;cases z with
   |true=>exact .inl ⟨19,by decide,fun N hN=>yiA [(14,.i (Int.ofNat (n+1))),(17,.b false),(20,.b false),(23,.p (ak true))] (pf4 (aB (j:=n) hn) h1 h2 (hz N hN))⟩
   |false=>
    cases b with
    |true=>
     cases h3:(!(c==0)) with
     |true=>exact .inl ⟨c,cr,fun N hN=>yiA [(14,.i (Int.ofNat (n+1))),(17,.b false),(20,.b false),(23,.p (ak false)),(35,.p (ak true)),(42,.p (num c)),(44,.b true)] (pf7 (aB (j:=n) hn) h1 h2 (hz N hN) (hb N (by omega)) (hc N (by omega)) h3)⟩
     |false=>exact .inr ⟨jL h1,fun N hN=>yiA [(14,.i (Int.ofNat (n+1))),(17,.b false),(20,.b false),(23,.p (ak false)),(35,.p (ak true)),(42,.p (num c)),(44,.b false)] (pf7 (aB (j:=n) hn) h1 h2 (hz N hN) (hb N (by omega)) (hc N (by omega)) h3)⟩
    |false=>exact .inl ⟨3,by decide,fun N hN=>yiA [(14,.i (Int.ofNat (n+1))),(17,.b false),(20,.b false),(23,.p (ak false)),(35,.p (ak false))] (pf5 (aB (j:=n) hn) h1 h2 (hz N hN) (hb N (by omega)))⟩
theorem zmI (i s:Int)(t:qaZ)(l:List Val)(f:List (qaZ×Val))(lev:Int)(n:Nat)(hn:n<4294967296):Round (Val.mk 4 i s t l f) lev n:=by
 obtain ⟨b,hb⟩:=zpy i s t l f;obtain ⟨c,cr,hc⟩:=zhp (Val.mk 4 i s t l f);apply fC;cases h1:decide (4096<Int.ofNat (n+1)) with
 |true=>exact .inl ⟨9,by decide,fun N hN=>yiA [(14,.i (Int.ofNat (n+1))),(17,.b true)] (pf2 (aB (j:=n) hn) h1)⟩
 |false=>
  cases h2:decide (8<lev) with
  |true=>exact .inl ⟨23,by decide,fun N hN=>yiA [(14,.i (Int.ofNat (n+1))),(17,.b false),(20,.b true)] (pf3 (aB (j:=n) hn) h1 h2)⟩
  |false=>
   have hz:=lC (Val.mk 4 i s t l f);generalize jf (Val.mk 4 i s t l f)=z at hz;cases z with
   |true=>exact .inl ⟨19,by decide,fun N hN=>yiA [(14,.i (Int.ofNat (n+1))),(17,.b false),(20,.b false),(23,.p (ak true))] (pf4 (aB (j:=n) hn) h1 h2 (hz N hN))⟩
   |false=>
    cases b with
    |true=>
     cases h3:(!(c==0)) with
     |true=>exact .inl ⟨c,cr,fun N hN=>yiA [(14,.i (Int.ofNat (n+1))),(17,.b false),(20,.b false),(23,.p (ak false)),(35,.p (ak true)),(42,.p (num c)),(44,.b true)] (pf7 (aB (j:=n) hn) h1 h2 (hz N hN) (hb N (by omega)) (hc N (by omega)) h3)⟩
     |false=>exact .inr ⟨jL h1,fun N hN=>yiA [(14,.i (Int.ofNat (n+1))),(17,.b false),(20,.b false),(23,.p (ak false)),(35,.p (ak true)),(42,.p (num c)),(44,.b false)] (pf7 (aB (j:=n) hn) h1 h2 (hz N hN) (hb N (by omega)) (hc N (by omega)) h3)⟩
    |false=>exact .inl ⟨3,by decide,fun N hN=>yiA [(14,.i (Int.ofNat (n+1))),(17,.b false),(20,.b false),(23,.p (ak false)),(35,.p (ak false))] (pf5 (aB (j:=n) hn) h1 h2 (hz N hN) (hb N (by omega)))⟩
theorem zmH (i s:Int)(t:qaZ)(l:List Val)(f:List (qaZ×Val))(lev:Int)(n:Nat)(hn:n<4294967296):Round (Val.mk 5 i s t l f) lev n:=by
 obtain ⟨b,hb⟩:=zpx i s t l f;obtain ⟨c,cr,hc⟩:=zho (Val.mk 5 i s t l f);apply fC;cases h1:decide (4096<Int.ofNat (n+1)) with
 |true=>exact .inl ⟨9,by decide,fun N hN=>yiA [(14,.i (Int.ofNat (n+1))),(17,.b true)] (pf2 (aB (j:=n) hn) h1)⟩
 |false=>
  cases h2:decide (8<lev) with
  |true=>exact .inl ⟨23,by decide,fun N hN=>yiA [(14,.i (Int.ofNat (n+1))),(17,.b false),(20,.b true)] (pf3 (aB (j:=n) hn) h1 h2)⟩
  |false=>
   have hz:=lC (Val.mk 5 i s t l f);generalize jf (Val.mk 5 i s t l f)=z at hz;cases z with
   |true=>exact .inl ⟨19,by decide,fun N hN=>yiA [(14,.i (Int.ofNat (n+1))),(17,.b false),(20,.b false),(23,.p (ak true))] (pf4 (aB (j:=n) hn) h1 h2 (hz N hN))⟩
   |false=>
    cases b with
    |true=>
     cases h3:(!(c==0)) with
     |true=>exact .inl ⟨c,cr,fun N hN=>yiA [(14,.i (Int.ofNat (n+1))),(17,.b false),(20,.b false),(23,.p (ak false)),(35,.p (ak true)),(42,.p (num c)),(44,.b true)] (pf7 (aB (j:=n) hn) h1 h2 (hz N hN) (hb N (by omega)) (hc N (by omega)) h3)⟩
     |false=>exact .inr ⟨jL h1,fun N hN=>yiA [(14,.i (Int.ofNat (n+1))),(17,.b false),(20,.b false),(23,.p (ak false)),(35,.p (ak true)),(42,.p (num c)),(44,.b false)] (pf7 (aB (j:=n) hn) h1 h2 (hz N hN) (hb N (by omega)) (hc N (by omega)) h3)⟩
    |false=>exact .inl ⟨3,by decide,fun N hN=>yiA [(14,.i (Int.ofNat (n+1))),(17,.b false),(20,.b false),(23,.p (ak false)),(35,.p (ak false))] (pf5 (aB (j:=n) hn) h1 h2 (hz N hN) (hb N (by omega)))⟩
theorem zmG (i s:Int)(t:qaZ)(l:List Val)(f:List (qaZ×Val))(lev:Int)(n:Nat)(hn:n<4294967296):Round (Val.mk 6 i s t l f) lev n:=by
 obtain ⟨b,hb⟩:=zpw i s t l f;obtain ⟨c,cr,hc⟩:=zhn (Val.mk 6 i s t l f);apply fC;cases h1:decide (4096<Int.ofNat (n+1)) with
 |true=>exact .inl ⟨9,by decide,fun N hN=>yiA [(14,.i (Int.ofNat (n+1))),(17,.b true)] (pf2 (aB (j:=n) hn) h1)⟩
 |false=>
  cases h2:decide (8<lev) with
  |true=>exact .inl ⟨23,by decide,fun N hN=>yiA [(14,.i (Int.ofNat (n+1))),(17,.b false),(20,.b true)] (pf3 (aB (j:=n) hn) h1 h2)⟩
  |false=>
   have hz:=lC (Val.mk 6 i s t l f);generalize jf (Val.mk 6 i s t l f)=z at hz;cases z with
   |true=>exact .inl ⟨19,by decide,fun N hN=>yiA [(14,.i (Int.ofNat (n+1))),(17,.b false),(20,.b false),(23,.p (ak true))] (pf4 (aB (j:=n) hn) h1 h2 (hz N hN))⟩
   |false=>
    cases b with
    |true=>
     cases h3:(!(c==0)) with
     |true=>exact .inl ⟨c,cr,fun N hN=>yiA [(14,.i (Int.ofNat (n+1))),(17,.b false),(20,.b false),(23,.p (ak false)),(35,.p (ak true)),(42,.p (num c)),(44,.b true)] (pf7 (aB (j:=n) hn) h1 h2 (hz N hN) (hb N (by omega)) (hc N (by omega)) h3)⟩
     |false=>exact .inr ⟨jL h1,fun N hN=>yiA [(14,.i (Int.ofNat (n+1))),(17,.b false),(20,.b false),(23,.p (ak false)),(35,.p (ak true)),(42,.p (num c)),(44,.b false)] (pf7 (aB (j:=n) hn) h1 h2 (hz N hN) (hb N (by omega)) (hc N (by omega)) h3)⟩
    |false=>exact .inl ⟨3,by decide,fun N hN=>yiA [(14,.i (Int.ofNat (n+1))),(17,.b false),(20,.b false),(23,.p (ak false)),(35,.p (ak false))] (pf5 (aB (j:=n) hn) h1 h2 (hz N hN) (hb N (by omega)))⟩
theorem zmF (i s:Int)(t:qaZ)(l:List Val)(f:List (qaZ×Val))(lev:Int)(n:Nat)(hn:n<4294967296):Round (Val.mk 7 i s t l f) lev n:=by
 obtain ⟨b,hb⟩:=zpv i s t l f;obtain ⟨c,cr,hc⟩:=zhm (Val.mk 7 i s t l f);apply fC;cases h1:decide (4096<Int.ofNat (n+1)) with
 |true=>exact .inl ⟨9,by decide,fun N hN=>yiA [(14,.i (Int.ofNat (n+1))),(17,.b true)] (pf2 (aB (j:=n) hn) h1)⟩
 |false=>
  cases h2:decide (8<lev) with
  |true=>exact .inl ⟨23,by decide,fun N hN=>yiA [(14,.i (Int.ofNat (n+1))),(17,.b false),(20,.b true)] (pf3 (aB (j:=n) hn) h1 h2)⟩
  |false=>
   have hz:=lC (Val.mk 7 i s t l f);generalize jf (Val.mk 7 i s t l f)=z at hz;cases z with
   |true=>exact .inl ⟨19,by decide,fun N hN=>yiA [(14,.i (Int.ofNat (n+1))),(17,.b false),(20,.b false),(23,.p (ak true))] (pf4 (aB (j:=n) hn) h1 h2 (hz N hN))⟩
   |false=>
    cases b with
    |true=>
     cases h3:(!(c==0)) with
     |true=>exact .inl ⟨c,cr,fun N hN=>yiA [(14,.i (Int.ofNat (n+1))),(17,.b false),(20,.b false),(23,.p (ak false)),(35,.p (ak true)),(42,.p (num c)),(44,.b true)] (pf7 (aB (j:=n) hn) h1 h2 (hz N hN) (hb N (by omega)) (hc N (by omega)) h3)⟩
     |false=>exact .inr ⟨jL h1,fun N hN=>yiA [(14,.i (Int.ofNat (n+1))),(17,.b false),(20,.b false),(23,.p (ak false)),(35,.p (ak true)),(42,.p (num c)),(44,.b false)] (pf7 (aB (j:=n) hn) h1 h2 (hz N hN) (hb N (by omega)) (hc N (by omega)) h3)⟩
    |false=>exact .inl ⟨3,by decide,fun N hN=>yiA [(14,.i (Int.ofNat (n+1))),(17,.b false),(20,.b false),(23,.p (ak false)),(35,.p (ak false))] (pf5 (aB (j:=n) hn) h1 h2 (hz N hN) (hb N (by omega)))⟩
theorem zmE (i s:Int)(t:qaZ)(l:List Val)(f:List (qaZ×Val))(lev:Int)(n:Nat)(hn:n<4294967296):Round (Val.mk 8 i s t l f) lev n:=by
 obtain ⟨b,hb⟩:=zpu i s t l f;obtain ⟨c,cr,hc⟩:=zhl (Val.mk 8 i s t l f);apply fC;cases h1:decide (4096<Int.ofNat (n+1)) with
 |true=>exact .inl ⟨9,by decide,fun N hN=>yiA [(14,.i (Int.ofNat (n+1))),(17,.b true)] (pf2 (aB (j:=n) hn) h1)⟩
 |false=>
  cases h2:decide (8<lev) with
  |true=>exact .inl ⟨23,by decide,fun N hN=>yiA [(14,.i (Int.ofNat (n+1))),(17,.b false),(20,.b true)] (pf3 (aB (j:=n) hn) h1 h2)⟩
  |false=>
   have hz:=lC (Val.mk 8 i s t l f);generalize jf (Val.mk 8 i s t l f)=z at hz;cases z with
   |true=>exact .inl ⟨19,by decide,fun N hN=>yiA [(14,.i (Int.ofNat (n+1))),(17,.b false),(20,.b false),(23,.p (ak true))] (pf4 (aB (j:=n) hn) h1 h2 (hz N hN))⟩
   |false=>
    cases b with
    |true=>
     cases h3:(!(c==0)) with
     |true=>exact .inl ⟨c,cr,fun N hN=>yiA [(14,.i (Int.ofNat (n+1))),(17,.b false),(20,.b false),(23,.p (ak false)),(35,.p (ak true)),(42,.p (num c)),(44,.b true)] (pf7 (aB (j:=n) hn) h1 h2 (hz N hN) (hb N (by omega)) (hc N (by omega)) h3)⟩
     |false=>exact .inr ⟨jL h1,fun N hN=>yiA [(14,.i (Int.ofNat (n+1))),(17,.b false),(20,.b false),(23,.p (ak false)),(35,.p (ak true)),(42,.p (num c)),(44,.b false)] (pf7 (aB (j:=n) hn) h1 h2 (hz N hN) (hb N (by omega)) (hc N (by omega)) h3)⟩
    |false=>exact .inl ⟨3,by decide,fun N hN=>yiA [(14,.i (Int.ofNat (n+1))),(17,.b false),(20,.b false),(23,.p (ak false)),(35,.p (ak false))] (pf5 (aB (j:=n) hn) h1 h2 (hz N hN) (hb N (by omega)))⟩
theorem zmD (i s:Int)(t:qaZ)(l:List Val)(f:List (qaZ×Val))(lev:Int)(n:Nat)(hn:n<4294967296):Round (Val.mk 9 i s t l f) lev n:=by
 obtain ⟨b,hb⟩:=zpt i s t l f;obtain ⟨c,cr,hc⟩:=zhk (Val.mk 9 i s t l f);apply fC;cases h1:decide (4096<Int.ofNat (n+1)) with
 |true=>exact .inl ⟨9,by decide,fun N hN=>yiA [(14,.i (Int.ofNat (n+1))),(17,.b true)] (pf2 (aB (j:=n) hn) h1)⟩
 |false=>
  cases h2:decide (8<lev) with
  |true=>exact .inl ⟨23,by decide,fun N hN=>yiA [(14,.i (Int.ofNat (n+1))),(17,.b false),(20,.b true)] (pf3 (aB (j:=n) hn) h1 h2)⟩
  |false=>
   have hz:=lC (Val.mk 9 i s t l f);generalize jf (Val.mk 9 i s t l f)=z at hz;cases z with
   |true=>exact .inl ⟨19,by decide,fun N hN=>yiA [(14,.i (Int.ofNat (n+1))),(17,.b false),(20,.b false),(23,.p (ak true))] (pf4 (aB (j:=n) hn) h1 h2 (hz N hN))⟩
   |false=>
    cases b with
    |true=>
     cases h3:(!(c==0)) with
     |true=>exact .inl ⟨c,cr,fun N hN=>yiA [(14,.i (Int.ofNat (n+1))),(17,.b false),(20,.b false),(23,.p (ak false)),(35,.p (ak true)),(42,.p (num c)),(44,.b true)] (pf7 (aB (j:=n) hn) h1 h2 (hz N hN) (hb N (by omega)) (hc N (by omega)) h3)⟩
     |false=>exact .inr ⟨jL h1,fun N hN=>yiA [(14,.i (Int.ofNat (n+1))),(17,.b false),(20,.b false),(23,.p (ak false)),(35,.p (ak true)),(42,.p (num c)),(44,.b false)] (pf7 (aB (j:=n) hn) h1 h2 (hz N hN) (hb N (by omega)) (hc N (by omega)) h3)⟩
    |false=>exact .inl ⟨3,by decide,fun N hN=>yiA [(14,.i (Int.ofNat (n+1))),(17,.b false),(20,.b false),(23,.p (ak false)),(35,.p (ak false))] (pf5 (aB (j:=n) hn) h1 h2 (hz N hN) (hb N (by omega)))⟩
theorem zhw (i s:Int)(t:qaZ)(l:List Val)(f:List (qaZ×Val))(lev:Int)(n:Nat)(hn:n<4294967296):Round (Val.mk 10 i s t l f) lev n:=by
 obtain ⟨b,hb⟩:=zl1 i s t l f;obtain ⟨c,cr,hc⟩:=zhj (Val.mk 10 i s t l f);apply fC;cases h1:decide (4096<Int.ofNat (n+1)) with
 |true=>exact .inl ⟨9,by decide,fun N hN=>yiA [(14,.i (Int.ofNat (n+1))),(17,.b true)] (pf2 (aB (j:=n) hn) h1)⟩
 |false=>
  cases h2:decide (8<lev) with
  |true=>exact .inl ⟨23,by decide,fun N hN=>yiA [(14,.i (Int.ofNat (n+1))),(17,.b false),(20,.b true)] (pf3 (aB (j:=n) hn) h1 h2)⟩
  |false=>
   have hz:=lC (Val.mk 10 i s t l f);generalize jf (Val.mk 10 i s t l f)=z at hz;cases z with
   |true=>exact .inl ⟨19,by decide,fun N hN=>yiA [(14,.i (Int.ofNat (n+1))),(17,.b false),(20,.b false),(23,.p (ak true))] (pf4 (aB (j:=n) hn) h1 h2 (hz N hN))⟩
   |false=>
    cases b with
    |true=>
     cases h3:(!(c==0)) with
     |true=>exact .inl ⟨c,cr,fun N hN=>yiA [(14,.i (Int.ofNat (n+1))),(17,.b false),(20,.b false),(23,.p (ak false)),(35,.p (ak true)),(42,.p (num c)),(44,.b true)] (pf7 (aB (j:=n) hn) h1 h2 (hz N hN) (hb N (by omega)) (hc N (by omega)) h3)⟩
     |false=>exact .inr ⟨jL h1,fun N hN=>yiA [(14,.i (Int.ofNat (n+1))),(17,.b false),(20,.b false),(23,.p (ak false)),(35,.p (ak true)),(42,.p (num c)),(44,.b false)] (pf7 (aB (j:=n) hn) h1 h2 (hz N hN) (hb N (by omega)) (hc N (by omega)) h3)⟩
    |false=>exact .inl ⟨3,by decide,fun N hN=>yiA [(14,.i (Int.ofNat (n+1))),(17,.b false),(20,.b false),(23,.p (ak false)),(35,.p (ak false))] (pf5 (aB (j:=n) hn) h1 h2 (hz N hN) (hb N (by omega)))⟩
theorem OC (v:Val)(lev:Int)(n:Nat)(hn:n<4294967296):Round v lev n:=by
 obtain ⟨k,i,s,t,l,f⟩:=v;by_cases h:1<=k/\k<=10
 ·have:k=1\/k=2\/k=3\/k=4\/k=5\/k=6\/k=7\/k=8\/k=9\/k=10:=by omega
  rcases this with rfl|rfl|rfl|rfl|rfl|rfl|rfl|rfl|rfl|rfl
  ·grind[zmL]
  ·grind[zmK]
  ·grind[zmJ]
  ·grind[zmI]
  ·grind[zmH]
  ·grind[zmG]
  ·grind[zmF]
  ·grind[zmE]
  ·grind[zmD]
  grind[zhw]
 apply fC;cases h1:decide (4096<Int.ofNat (n+1)) with
 |true=>exact .inl ⟨9,by decide,fun N hN=>yiA [(14,.i (Int.ofNat (n+1))),(17,.b true)] (pf2 (aB (j:=n) hn) h1)⟩
 |false=>
  cases h2:decide (8<lev) with
  |true=>exact .inl ⟨23,by decide,fun N hN=>yiA [(14,.i (Int.ofNat (n+1))),(17,.b false),(20,.b true)] (pf3 (aB (j:=n) hn) h1 h2)⟩
  |false=>
   have hz:=lC (Val.mk k i s t l f);generalize jf (Val.mk k i s t l f)=z at hz;cases z with
   |true=>exact .inl ⟨19,by decide,fun N hN=>yiA [(14,.i (Int.ofNat (n+1))),(17,.b false),(20,.b false),(23,.p (ak true))] (pf4 (aB (j:=n) hn) h1 h2 (hz N hN))⟩
   |false=>
    cases h3:decide (k<1) with
    |true=>exact .inl ⟨11,by decide,fun N hN=>yiA [(14,.i (Int.ofNat (n+1))),(17,.b false),(20,.b false),(23,.p (ak false)),(27,.b true)] (pf5 (aB (j:=n) hn) h1 h2 (hz N hN) h3)⟩
    |false=>
     cases h4:decide (10<k) with
     |true=>exact .inl ⟨11,by decide,fun N hN=>yiA [(14,.i (Int.ofNat (n+1))),(17,.b false),(20,.b false),(23,.p (ak false)),(27,.b false),(31,.b true)] (pf6 (aB (j:=n) hn) h1 h2 (hz N hN) h3 h4)⟩
     |false=>grind
def Visit (v:Val)(lev n:Nat):Prop:=
 (∃(c:Int) (m:Nat),(0<=c/\c<=100)/\∀N,60020+v.size<=N->ah tab ext N (.fn 154) [.agg v.cells,nat lev,.yl 0] (goC n)=some (ak false,za6 c m))\/
 (∃m:Nat,(n<=m/\m<=4097)/\∀N,60020+v.size<=N->ah tab ext N (.fn 154) [.agg v.cells,nat lev,.yl 0] (goC n)=some (ak true,goC m))
section
variable (ps:qaY) (lev len j n m:Nat) (c:Int) (u:List X)
noncomputable def viH:St:=⟨[(1,nat lev),(2,.yl 0),(15,.sl false 6 ps),(16,nat len),(17,nat j)],goC n⟩
noncomputable def zoF:St:=⟨[(1,nat lev),(2,.yl 0),(15,.sl false 6 ps),(16,nat len),(17,nat j)],goC n++[.var u]⟩
noncomputable def viE:St:=⟨[(1,nat lev),(2,.yl 0),(15,.sl false 6 ps),(16,nat len),(17,nat j),(18,ak false)],goC n⟩
theorem lZ:canon 4 (viH ps lev len j n)=some (viH ps lev len j n):=by kernel_rfl
theorem uT:canon 4 (zoF ps lev len j n u)=some (viH ps lev len j n):=by kernel_rfl
end
theorem E8 {B:Nat}(ps:List Val)(lev:Nat)(zs7:lev<=100000)(hl:ps.length<=2000000)(hv:∀u,u∈ps->60020+u.size<=B/\∀n,n<=4097->lev<=n->Visit u (lev+1) n):∀d j n,j+d=ps.length->n<=4097->lev<=n->
  (∃(c:Int) (m:Nat) (u:List X),(0<=c/\c<=100)/\∀M F,B<=M->d<F->iter 4 (run (ah tab ext M) 4 M (aH 154 0)) F (viH (au ps) lev (au ps).length j n)=some (.ret,⟨[(6,ak false)],za6 c m++[.var u]⟩))\/
  (∃m:Nat,(n<=m/\m<=4097)/\∀M F,B<=M->d<F->iter 4 (run (ah tab ext M) 4 M (aH 154 0)) F (viH (au ps) lev (au ps).length j n)=some (.exit 0,viE (au ps) lev (au ps).length (au ps).length m))
 |0,j,n,hj,hn,hln=>by
  have hc:=aS ps;have hj':j=(au ps).length:=by omega
  subst hj';right;refine ⟨n,⟨Nat.le_refl _,hn⟩,fun M F _ hF=>?_⟩;obtain ⟨F',rfl⟩:∃F',F=F'+1:=⟨F-1,by omega⟩;exact bK (lZ ..) (ruA [(18,.b false)] (pf1 (aO (qaC (au ps).length)))) (by simp)
 |d+1,j,n,hj,hn,hln=>by
  have hc:=aS ps;have hj':j<ps.length:=by omega
  have hg:=fV hj';obtain ⟨hB,hu⟩:=hv _ (qah hj');have hu:=hu n hn hln;generalize ps[j]=u at hg hB hu;obtain ⟨u1,u2,u3,u4,u5,u6⟩:=u;have hlt:=aN (j:=j) (k:=(au ps).length) (by omega);have hnx:=aB (j:=lev) (by omega);rcases hu with ⟨c,m,cr,h⟩|⟨m,⟨hnm,hm⟩,h⟩;·left;refine ⟨c,m,(Val.mk u1 u2 u3 u4 u5 u6).cells,cr,fun M F hM hF=>?_⟩;obtain ⟨F',rfl⟩:∃F',F=F'+1:=⟨F-1,by omega⟩;exact bK (lZ ..) (ruA [(18,.b true),(19,.e (Val.mk u1 u2 u3 u4 u5 u6).cells),(23,.i (Int.ofNat (lev+1))),(25,.r (ak false) (za6 c m))] (pf4 hlt hg hnx (h M (by omega)))) (by simp)
  have hs:∀M,B<=M->run (ah tab ext M) 4 M (aH 154 0) (viH (au ps) lev (au ps).length j n)=some (.norm,zoF (au ps) lev (au ps).length (j+1) m (Val.mk u1 u2 u3 u4 u5 u6).cells):=fun M hM=>ruA [(18,.b true),(19,.e (Val.mk u1 u2 u3 u4 u5 u6).cells),(23,.i (Int.ofNat (lev+1))),(25,.r (ak true) (goC m)),(27,.i (Int.ofNat (j+1)))] (pf5 hlt hg hnx (h M (by omega)) (aB (j:=j) (by omega)));rcases E8 ps lev zs7 hl hv d (j+1) m (by omega) hm (by omega) with ⟨c,m',x,cr,h'⟩|⟨m',hm',h'⟩;·left;refine ⟨c,m',x,cr,fun M F hM hF=>?_⟩;obtain ⟨F',rfl⟩:∃F',F=F'+1:=⟨F-1,by omega⟩;rw [(dV (lZ ..) (hs M hM) rfl).trans (jF (uT ..) (lZ ..))];exact h' M F' hM (by omega)
  right;refine ⟨m',⟨by omega,hm'.2⟩,fun M F hM hF=>?_⟩;obtain ⟨F',rfl⟩:∃F',F=F'+1:=⟨F-1,by omega⟩;rw [(dV (lZ ..) (hs M hM) rfl).trans (jF (uT ..) (lZ ..))];exact h' M F' hM (by omega)
theorem OT (v:Val):∀u,u∈nY v->u.size<v.size:=by
 obtain ⟨k,i,s,t,l,f⟩:=v;intro u hu;simp only [nY] at hu;simp only [Val.size];split at hu;·have:=nJ hu;omega
 split at hu;·obtain ⟨p,hp,rfl⟩:=qal.1 hu;have:=nK hp;omega
 cases hu
theorem IY (v:Val):(nY v).length<v.size:=by
 obtain ⟨k,i,s,t,l,f⟩:=v;simp only [nY,Val.size];have:=gV l;have:=fG f;split;·omega
 split;·rw [qat];omega
 simp
theorem Vh (v:Val)(hv:v.wide):(nY v).length<=2000000/\∀u,u∈nY v->u.wide:=by
 obtain ⟨k,i,s,t,l,f⟩:=v;simp only [Val.wide] at hv;obtain ⟨⟨h1,h2⟩,h3,h4⟩:=hv;simp only [nY];split;·exact ⟨h1,fun u hu=>uQ h3 hu⟩
 split;·refine ⟨by rw [qat];exact h2,fun u hu=>?_⟩;obtain ⟨p,hp,rfl⟩:=qal.1 hu;exact uS h4 hp
 exact ⟨by simp,fun u hu=>by cases hu⟩
theorem Aw:∀(sz:Nat) (v:Val),v.size<=sz->v.wide->∀(lev n:Nat),lev<=n+1->n<=4097->Visit v lev n
 |0,.mk ..,h,_,_,_,_,_=>by simp [Val.size] at h
 |sz+1,v,h,hv,lev,n,zs7,hn=>by
  have hr:=OC v (Int.ofNat lev) n (by omega);have hp:∀M,60019+v.size<=M->Gam.aF (ah tab ext M) 205 [.agg v.cells]=some (.sl false 6 (au (nY v))):=fun M hM=>Vg M v (QA hv) (by omega);have hlen:=IY v;have hfew:=Vh v hv;have hloop:∀n,n<=4097->lev<=n->_:=fun n hn hln=>E8 (B:=60019+v.size) (nY v) lev (by omega) hfew.1 (fun u hu=>by have:=OT v u hu;exact ⟨by omega,fun n hn hln=>Aw sz u (by omega) (hfew.2 u hu) (lev+1) n (by omega) hn⟩) (nY v).length 0 n (by omega) hn hln;generalize nY v=ps at hp hlen hloop;obtain ⟨k,i,s,t,l,f⟩:=v;rcases hr with ⟨c,cr,h⟩|⟨hn',h⟩;·refine .inl ⟨c,n+1,cr,fun N hN=>?_⟩;obtain ⟨M,rfl⟩:∃M,N=M+1:=⟨N-1,by omega⟩;exact caA [(12,.r (ak false) (za6 c (n+1)))] (pf1 (h M (by omega)))
  rcases hloop (n+1) (by omega) (by omega) with ⟨c,m,u,cr,h'⟩|⟨m,hm,h'⟩
  ·refine .inl ⟨c,m,cr,fun N hN=>?_⟩;obtain ⟨M,rfl⟩:∃M,N=M+1:=⟨N-1,by omega⟩;have hl:run (ah tab ext M) 4 M (.loop (aH 154 0)) (zoF (au ps) lev (au ps).length 0 (n+1) (Val.mk k i s t l f).cells)=some (.ret,⟨[(6,ak false)],za6 c m++[.var u]⟩):=by simp only [run];rw [jF (uT ..) (lZ ..)];exact h' M M (by omega) (by omega)
   exact caB [(12,.r (ak true) (goC (n+1))),(15,.p (.sl false 6 (au ps)))] [(.ret,⟨[(6,ak false)],za6 c m++[.var u]⟩)] (pf3 (h M (by omega)) (hp M (by omega)) hl)
  refine .inr ⟨m,⟨by omega,hm.2⟩,fun N hN=>?_⟩;obtain ⟨M,rfl⟩:∃M,N=M+1:=⟨N-1,by omega⟩;have hl:run (ah tab ext M) 4 M (.loop (aH 154 0)) (zoF (au ps) lev (au ps).length 0 (n+1) (Val.mk k i s t l f).cells)=some (.exit 0,viE (au ps) lev (au ps).length (au ps).length m):=by simp only [run];rw [jF (uT ..) (lZ ..)];exact h' M M (by omega) (by omega)
  exact caB [(12,.r (ak true) (goC (n+1))),(15,.p (.sl false 6 (au ps)))] [(.exit 0,viE (au ps) lev (au ps).length (au ps).length m)] (pf3 (h M (by omega)) (hp M (by omega)) hl)
noncomputable def zpM (v:List X):St:=⟨[(2,.ptr 1 0 0),(3,.ptr 2 0 0),(4,.ptr 3 0 0),(10,.fn 153 [.dp v])],[.var v,.var [num 0],.var tJ,.var [num 0]]⟩
noncomputable def zc4 (v:List X)(c:Int)(m:Nat):St:=⟨(zpM v).tm,[.var v,.var [num c],.var tJ,.var [nat m],.dead]⟩
theorem Fe (v:Val)(hv:v.wide):kK (60025+v.size) 71 [.agg v.cells]:=by
 have zlN:=Aw v.size v (Nat.le_refl _) hv 1 0 (by omega) (by omega);obtain ⟨k,i,s,t,l,f⟩:=v;generalize hsz:(Val.mk k i s t l f).size=sz at zlN;have hpre:∀N,3<=N->Gam.aF (ah tab ext N) 103 [.agg (Val.mk k i s t l f).cells]=some (.fn 153 [.dp (Val.mk k i s t l f).cells]):=fun N hN=>by obtain ⟨M,rfl⟩:∃M,N=M+1:=⟨N-1,by omega⟩;exact puA [] pf0 (.fn 153 [.dp (Val.mk k i s t l f).cells])
 have zs5:∀N,3<=N->Gam.aF (ah tab ext N) 102 []=some (.agg tJ):=fun N hN=>by obtain ⟨M,rfl⟩:∃M,N=M+1:=⟨N-1,by omega⟩;exact puA [] pf0 (.agg tJ)
 unfold Visit at zlN;rw [hsz] at zlN;rcases zlN with ⟨c,m,cr,h⟩|⟨m,_,h⟩
 ·refine ⟨c,cr,fun N hN=>?_⟩;obtain ⟨M,rfl⟩:∃M,N=M+2:=⟨N-2,by omega⟩;have h5:ah tab ext (M+1) (.fn 153) [.yl 0,.dp (Val.mk k i s t l f).cells] (goC 0)=some (.tup [],za6 c m):=
   caA [(5,.r (ak false) (za6 c m))] (pf1 (h M (by omega)))
  have hrf:run (ah tab ext (M+1)) 0 (M+1) (.rf (.t 10) [11,12] [2,3,4] (zlF 71).1 (zlF 71).2) (zpM (Val.mk k i s t l f).cells)=some (.ret,zc4 (Val.mk k i s t l f).cells c m):=
   U8 (g:=153) (caps:=[.dp (Val.mk k i s t l f).cells]) (y:=.tup []) (outb:=za6 c m)
    (q:=(.tup [],[.var (Val.mk k i s t l f).cells,.var [num c],.var tJ,.var [nat m],recC .done (some .ret)],[4,1,2,3])) h5 (by kernel_rfl) (by kernel_rfl) (by kernel_rfl)
  exact puB [(8,.p (.agg tJ)),(10,.p (.fn 153 [.dp (Val.mk k i s t l f).cells]))] [(.ret,zc4 (Val.mk k i s t l f).cells c m)] (pf3 (zs5 (M+1) (by omega)) (hpre (M+1) (by omega)) hrf) (num c)
 refine ⟨0,by decide,fun N hN=>?_⟩;obtain ⟨M,rfl⟩:∃M,N=M+2:=⟨N-2,by omega⟩;have h5:ah tab ext (M+1) (.fn 153) [.yl 0,.dp (Val.mk k i s t l f).cells] (goC 0)=some (.tup [],goC m):=
  caA [(5,.r (ak true) (goC m))] (pf1 (h M (by omega)))
 have hrf:run (ah tab ext (M+1)) 0 (M+1) (.rf (.t 10) [11,12] [2,3,4] (zlF 71).1 (zlF 71).2) (zpM (Val.mk k i s t l f).cells)=some (.norm,zc4 (Val.mk k i s t l f).cells 0 m):=
  U8 (g:=153) (caps:=[.dp (Val.mk k i s t l f).cells]) (y:=.tup []) (outb:=goC m)
   (q:=(.tup [],[.var (Val.mk k i s t l f).cells,.var [num 0],.var tJ,.var [nat m],recC .ready none],[4,1,2,3])) h5 (by kernel_rfl) (by kernel_rfl) (by kernel_rfl)
 exact puB [(8,.p (.agg tJ)),(10,.p (.fn 153 [.dp (Val.mk k i s t l f).cells]))] [(.norm,zc4 (Val.mk k i s t l f).cells 0 m)] (pf3 (zs5 (M+1) (by omega)) (hpre (M+1) (by omega)) hrf) (num 0)
theorem Um (v:Val)(hv:v.ok):kK (60025+v.size) 71 [.agg v.cells]:=Fe v (E5 hv)
section
variable (m:List X) (o:qaY) (n j:Nat)
end
structure Stt.small (s:Stt):Prop where
 slots:s.slots.length<=100
 slot:∀x,x∈s.slots->x.ok/\x.items.length<=100/\x.vals.length<=100
theorem Stt.small.ok {s:Stt}(h:s.small):s.ok:=⟨by have:=h.slots;omega,fun x hx=>(h.slot x hx).1⟩
theorem zmz {nIn:Nat}{b:C}{n B:Nat}(P:Nat->Bool)(r υ:Nat->St)(h0:canon nIn τ=some (H 0))
  (hT:∀j,j<n->P j=true->∀M,B<=M->run (ah tab ext M) nIn M b (H j)=some (.ret,r j)) (hF:∀j,j<n->P j=false->canon nIn (υ j)=some (H (j+1))/\∀M,B<=M->run (ah tab ext M) nIn M b (H j)=some (.norm,υ j))
  (hend:∀M,B<=M->run (ah tab ext M) nIn M b (H n)=some (e,fin)) (hne:e≠.norm):
  (∃j,j<n/\P j=true/\(∀i,i<j->P i=false)/\∀M,B<=M->n<M->run (ah tab ext M) nIn M (.loop b) τ=some (.ret,r j))\/((∀j,j<n->P j=false)/\∀M,B<=M->n<M->run (ah tab ext M) nIn M (.loop b) τ=some (e,fin)):=by
 have key:∀d j,j+d=n->(∀i,i<j->P i=false)->(∃k,k<n/\P k=true/\(∀i,i<k->P i=false)/\∀M F ω,B<=M->d<F->canon nIn ω=some (H j)->iter nIn (run (ah tab ext M) nIn M b) F ω=some (.ret,r k))\/((∀j,j<n->P j=false)/\∀M F ω,B<=M->d<F->canon nIn ω=some (H j)->iter nIn (run (ah tab ext M) nIn M b) F ω=some (e,fin)):=by
  intro d;induction d with
  |zero=>
   intro j hj hall;have hjn:j=n:=by omega
   subst hjn;refine .inr ⟨hall,fun M F ω hM hF' hc=>?_⟩;obtain ⟨F',rfl⟩:∃F',F=F'+1:=⟨F-1,by omega⟩;exact bK hc (hend M hM) hne
  |succ d ih=>
   intro j hj hall;cases hP:P j with
   |true=>refine .inl ⟨j,by omega,hP,hall,fun M F ω hM hF' hc=>?_⟩;obtain ⟨F',rfl⟩:∃F',F=F'+1:=⟨F-1,by omega⟩;exact bK hc (hT j (by omega) hP M hM) (by simp)
   |false=>
    obtain ⟨hυ,hs⟩:=hF j (by omega) hP;rcases ih (j+1) (by omega) (fun i hi=>by
     rcases Nat.lt_or_ge i j with h|h;·exact hall i h
     rw [show i=j by omega];exact hP) with ⟨k,hk,hPk,hlt,h'⟩|⟨ha,h'⟩
    ·refine .inl ⟨k,hk,hPk,hlt,fun M F ω hM hF' hc=>?_⟩;obtain ⟨F',rfl⟩:∃F',F=F'+1:=⟨F-1,by omega⟩;exact dV hc (hs M hM) (h' M F' _ hM (by omega) hυ)
    refine .inr ⟨ha,fun M F ω hM hF' hc=>?_⟩;obtain ⟨F',rfl⟩:∃F',F=F'+1:=⟨F-1,by omega⟩;exact dV hc (hs M hM) (h' M F' _ hM (by omega) hυ)
 simp only [run];rcases key n 0 (by omega) (fun i hi=>by omega) with ⟨k,h1,h2,h3,h⟩|⟨ha,h⟩;·exact .inl ⟨k,h1,h2,h3,fun M hM hn=>h M M τ hM hn h0⟩
 exact .inr ⟨ha,fun M hM hn=>h M M τ hM hn h0⟩
set_option linter.unusedSimpArgs false
section
variable {ce cc:Int} {z:Bool} {sp:Prop}
end
section
variable (l items acc:qaY) (n j k m i:Nat) (x:List X)
end
end Go.Proofs.YtpcjeobkehmhpaaGreatDoor
