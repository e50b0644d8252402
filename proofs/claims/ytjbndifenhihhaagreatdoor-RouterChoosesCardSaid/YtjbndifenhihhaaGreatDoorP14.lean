/- What is equal is found equal: messages, slots, states, outcomes. -/
import Derived.Test.YtjbndifenhihhaaGreatDoorP13
namespace Go.Proofs.YtjbndifenhihhaaGreatDoor
open Go.Em
set_option maxRecDepth 100000
structure Fte where
 st:Stp
 kind:Int
 node:ByteArray
 into:List Stp
 text:ByteArray
def Fte.cells (f:Fte):List X:=[num f.st.e,.sl false 1 (aF f.st.p),num f.kind,strX f.node,.sl false 2 (zjx f.into),strX f.text]
def Val.ok (v:Val):Prop:=v.size≤60000
structure Stp.ok (s:Stp):Prop where
 p:s.p.length≤60000
structure Msg.ok (m:Msg):Prop where
 st:m.st.ok
 orig:m.orig.length≤60000
 body:m.body.ok
structure Slt.ok (s:Slt):Prop where
 key:s.key.ok
 items:s.items.length≤60000
 item:∀m,m∈s.items→m.ok
 vals:s.vals.length≤60000
 val:∀v,v∈s.vals→v.ok
structure Stt.ok (s:Stt):Prop where
 slots:s.slots.length≤60000
 slot:∀x,x∈s.slots→x.ok
theorem eq_self {α:Type}[BEq α][ReflBEq α](a:α):(a==a)=true:=BEq.rfl
theorem RV (a:ByteArray):(a.toList==a.toList)=true:=by simp
theorem ED {k:Nat}:(!(Int.ofNat k==Int.ofNat k))=false:=by simp
theorem zlr (M g:Nat)(l:List Val)(hr:∀a,a∈l→Gam.pureD (callF tab ext M) g [.agg a.cells,.agg a.cells]=some (boolX true))(hl:l.length≤60000)(hN:l.length<M):
  Gam.pureD (callF tab ext (M+1)) 102 [.sl false 6 (aj l),.sl false 6 (aj l),.fn g []]=some (boolX true):=by
 have hn:=aO l
 have h:run (callF tab ext M) 0 M (.loop (loopAt 102 0)) (zhO g (aj l) (aj l) (aj l).length 0)=some (.exit 0,znn g (aj l) (aj l) (aj l).length (aj l).length):=by
  refine dR (σ:=fun j=>zhO g (aj l) (aj l) (aj l).length j) (k:=(aj l).length) (Rt _ _ _ _ _) (fun j hj=>?_) ?_ (by simp) (by omega)
  ·have hj':j<l.length:=by omega
   have hg:=gX hj'
   have hc:=hr _ (List.getElem_mem hj')
   generalize l[j]=a at hg hc
   obtain ⟨a1,a2,a3,a4,a5,a6⟩:=a
   exact ⟨⟨(zhO g (aj l) (aj l) (aj l).length (j+1)).tm,[.var (Val.mk a1 a2 a3 a4 a5 a6).cells,.var (Val.mk a1 a2 a3 a4 a5 a6).cells]⟩,run_of [(18,.b true),(20,.e (Val.mk a1 a2 a3 a4 a5 a6).cells),(24,.e (Val.mk a1 a2 a3 a4 a5 a6).cells),(29,.p (boolX true)),(31,.i (Int.ofNat (j+1)))] []
     (pf5 (aI (j:=j) (k:=(aj l).length) (by omega)) hg hg hc (next_nat (j:=j) (by omega))) (lo':=[]) (by kernel_rfl),by kernel_rfl⟩
  ·exact run_of [(18,.b false)] [] (pf1 (aJ (Nat.lt_irrefl (aj l).length))) (lo':=[]) (by kernel_rfl)
 exact pure_of [(14,.b false)] [(.exit 0,znn g (aj l) (aj l) (aj l).length (aj l).length)] (pf2 (ED (k:=(aj l).length)) h) (x:=boolX true) (bx:=[]) (by kernel_rfl) rfl
theorem zls (M g:Nat)(l:List Msg)(hr:∀a,a∈l→Gam.pureD (callF tab ext M) g [.agg a.cells,.agg a.cells]=some (boolX true))(hl:l.length≤60000)(hN:l.length<M):
  Gam.pureD (callF tab ext (M+1)) 101 [.sl false 10 (aX l),.sl false 10 (aX l),.fn g []]=some (boolX true):=by
 have hn:=jg l
 have h:run (callF tab ext M) 0 M (.loop (loopAt 101 0)) (zhP g (aX l) (aX l) (aX l).length 0)=some (.exit 0,zno g (aX l) (aX l) (aX l).length (aX l).length):=by
  refine dR (σ:=fun j=>zhP g (aX l) (aX l) (aX l).length j) (k:=(aX l).length) (Ru _ _ _ _ _) (fun j hj=>?_) ?_ (by simp) (by omega)
  ·have hj':j<l.length:=by omega
   have hg:=zl hj'
   have hc:=hr _ (List.getElem_mem hj')
   generalize l[j]=a at hg hc
   obtain ⟨⟨a1,a2⟩,a3,a4,a5,a6,a7,a8,a9,a0⟩:=a
   exact ⟨⟨(zhP g (aX l) (aX l) (aX l).length (j+1)).tm,[.var (Msg.mk ⟨a1,a2⟩ a3 a4 (Val.mk a5 a6 a7 a8 a9 a0)).cells,.var (Msg.mk ⟨a1,a2⟩ a3 a4 (Val.mk a5 a6 a7 a8 a9 a0)).cells]⟩,run_of [(18,.b true),(20,.e (Msg.mk ⟨a1,a2⟩ a3 a4 (Val.mk a5 a6 a7 a8 a9 a0)).cells),(24,.e (Msg.mk ⟨a1,a2⟩ a3 a4 (Val.mk a5 a6 a7 a8 a9 a0)).cells),(29,.p (boolX true)),(31,.i (Int.ofNat (j+1)))] []
     (pf5 (aI (j:=j) (k:=(aX l).length) (by omega)) hg hg hc (next_nat (j:=j) (by omega))) (lo':=[]) (by kernel_rfl),by kernel_rfl⟩
  ·exact run_of [(18,.b false)] [] (pf1 (aJ (Nat.lt_irrefl (aX l).length))) (lo':=[]) (by kernel_rfl)
 exact pure_of [(14,.b false)] [(.exit 0,zno g (aX l) (aX l) (aX l).length (aX l).length)] (pf2 (ED (k:=(aX l).length)) h) (x:=boolX true) (bx:=[]) (by kernel_rfl) rfl
theorem zlt (M g:Nat)(l:List Slt)(hr:∀a,a∈l→Gam.pureD (callF tab ext M) g [.agg a.cells,.agg a.cells]=some (boolX true))(hl:l.length≤60000)(hN:l.length<M):
  Gam.pureD (callF tab ext (M+1)) 56 [.sl false 10 (bf l),.sl false 10 (bf l),.fn g []]=some (boolX true):=by
 have hn:=je l
 have h:run (callF tab ext M) 0 M (.loop (loopAt 56 0)) (zhQ g (bf l) (bf l) (bf l).length 0)=some (.exit 0,znp g (bf l) (bf l) (bf l).length (bf l).length):=by
  refine dR (σ:=fun j=>zhQ g (bf l) (bf l) (bf l).length j) (k:=(bf l).length) (Rw _ _ _ _ _) (fun j hj=>?_) ?_ (by simp) (by omega)
  ·have hj':j<l.length:=by omega
   have hg:=yG hj'
   have hc:=hr _ (List.getElem_mem hj')
   generalize l[j]=a at hg hc
   obtain ⟨⟨a1,a2,a3,a4,a5,a6⟩,a7,a8,a9,a0⟩:=a
   exact ⟨⟨(zhQ g (bf l) (bf l) (bf l).length (j+1)).tm,[.var (Slt.mk (Val.mk a1 a2 a3 a4 a5 a6) a7 a8 a9 a0).cells,.var (Slt.mk (Val.mk a1 a2 a3 a4 a5 a6) a7 a8 a9 a0).cells]⟩,run_of [(18,.b true),(20,.e (Slt.mk (Val.mk a1 a2 a3 a4 a5 a6) a7 a8 a9 a0).cells),(24,.e (Slt.mk (Val.mk a1 a2 a3 a4 a5 a6) a7 a8 a9 a0).cells),(29,.p (boolX true)),(31,.i (Int.ofNat (j+1)))] []
     (pf5 (aI (j:=j) (k:=(bf l).length) (by omega)) hg hg hc (next_nat (j:=j) (by omega))) (lo':=[]) (by kernel_rfl),by kernel_rfl⟩
  ·exact run_of [(18,.b false)] [] (pf1 (aJ (Nat.lt_irrefl (bf l).length))) (lo':=[]) (by kernel_rfl)
 exact pure_of [(14,.b false)] [(.exit 0,znp g (bf l) (bf l) (bf l).length (bf l).length)] (pf2 (ED (k:=(bf l).length)) h) (x:=boolX true) (bx:=[]) (by kernel_rfl) rfl
section
variable (l m:List (List X)) (j:Nat)
end
section
variable (l m:List (List X)) (j:Nat)
end
theorem DU (N:Nat)(v:Val)(h:v.ok)(hN:190000≤N):Gam.pureD (callF tab ext N) 50 [.agg v.cells,.agg v.cells]=some (boolX true):=by
 unfold Val.ok at h
 have:=zhM N v v (by omega) (by omega)
 rw [this,Ah];rfl
theorem Ny (N:Nat)(s:Stp)(h:s.ok)(hN:190000≤N):Gam.pureD (callF tab ext N) 79 [.agg s.cells,.agg s.cells]=some (boolX true):=by
 have:=h.p
 have:=zal N s s (by omega) (by omega)
 rw [this,Xd];rfl
theorem VD (N:Nat)(l:List Int)(h:l.length≤60000)(hN:190000≤N):Gam.pureD (callF tab ext N) 80 [.sl false 1 (aF l),.sl false 1 (aF l)]=some (boolX true):=by
 obtain ⟨M,rfl⟩:∃M,N=M+1:=⟨N-1,by omega⟩
 rw [WR M l l (by omega) (by omega),OW (by simp)]
theorem EI (N:Nat)(m:Msg)(h:m.ok)(hN:190001≤N):Gam.pureD (callF tab ext N) 30 [.agg m.cells,.agg m.cells]=some (boolX true):=by
 obtain ⟨M,rfl⟩:∃M,N=M+1:=⟨N-1,by omega⟩
 have h1:=Ny M m.st h.st (by omega)
 have h2:=VD M m.orig h.orig (by omega)
 have h3:=DU M m.body h.body (by omega)
 obtain ⟨⟨a1,a2⟩,a3,a4,a5,a6,a7,a8,a9,a0⟩:=m
 exact pure_of [(9,.p (boolX true)),(15,.b true),(22,.p (boolX true)),(29,.p (boolX true))] [] (pf4 h1 (eq_self a3) h2 h3) (x:=boolX true) (bx:=[]) (by kernel_rfl) rfl
theorem YB (N:Nat)(s:Slt)(h:s.ok)(hN:190005≤N):Gam.pureD (callF tab ext N) 57 [.agg s.cells,.agg s.cells]=some (boolX true):=by
 obtain ⟨M,rfl⟩:∃M,N=M+2:=⟨N-2,by omega⟩
 have hi:=h.items
 have hv:=h.vals
 have h1:=DU (M+1) s.key h.key (by omega)
 have h2:=zls M 30 s.items (fun a ha=>EI M a (h.item a ha) (by omega)) (by omega) (by omega)
 have h3:=zlr M 50 s.vals (fun a ha=>DU M a (h.val a ha) (by omega)) (by omega) (by omega)
 obtain ⟨⟨a1,a2,a3,a4,a5,a6⟩,a7,a8,a9,a0⟩:=s
 exact pure_of [(9,.p (boolX true)),(15,.b true),(22,.b true),(29,.p (boolX true)),(36,.p (boolX true))] [] (pf5 h1 (eq_self a7) (eq_self a8) h2 h3) (x:=boolX true) (bx:=[]) (by kernel_rfl) rfl
theorem Nw (N:Nat)(s:Stt)(h:s.ok)(hN:190010≤N):Gam.pureD (callF tab ext N) 18 [.agg s.cells,.agg s.cells]=some (boolX true):=by
 obtain ⟨M,rfl⟩:∃M,N=M+2:=⟨N-2,by omega⟩
 have hi:=h.slots
 have h2:=zlt M 57 s.slots (fun a ha=>YB M a (h.slot a ha) (by omega)) (by omega) (by omega)
 obtain ⟨a1,a2,a3⟩:=s
 exact pure_of [(9,.b true),(15,.b true),(22,.p (boolX true))] [] (pf3 (eq_self a1) (eq_self a2) h2) (x:=boolX true) (bx:=[]) (by kernel_rfl) rfl
section
variable (a:List X) (z:List (List X)) (j:Nat)
end
end Go.Proofs.YtjbndifenhihhaaGreatDoor
namespace Go.Proofs.YtjbndifenhihhaaGreatDoor
open Go.Em
set_option maxRecDepth 100000
theorem wI:∀l:List Int,intsOf (aF l)=some l
 |[]=>rfl
 |x::l=>by
  have h:=wI l
  show (match intsOf (aF l) with
   |some l=>some (x::l)
   |none=>none)=some (x::l)
  rw [h]
theorem Xf (N:Nat)(l:List Int)(hl:l.length≤60000):callF tab ext (N+1) (.fn 84) [.sl false 1 (aF l)] []=some (.bs 0 0 l.length,[.row 1 (aF l)]):=by
 show yw [.sl false 1 (aF l)] []=_
 unfold yw
 simp only [wI,if_pos (show l.length≤1000000 by omega)]
 rfl
theorem Du (N:Nat)(l:List Int)(hl:l.length≤60000):Gam.pureD (callF tab ext (N+1)) 84 [.sl false 1 (aF l)]=some (.sl false 1 (aF l)):=by
 unfold Gam.pureD
 rw [Xf N l hl]
 simp only [X.data,rowOf,List.getElem?_cons_zero,Nat.zero_add,bI,Nat.le_refl,if_true,Option.map_some,List.drop_zero]
 rw [List.take_of_length_le (by rw [bI];exact Nat.le_refl _)]
theorem Ak (N:Nat)(s:Stp)(h:s.ok):Gam.pureD (callF tab ext (N+2)) 83 [.agg s.cells]=some (.agg s.cells):=
 pure_of [(7,.p (.sl false 1 (aF s.p)))] [] (pf1 (Du N s.p h.p)) (x:=.agg s.cells) (bx:=[]) (by kernel_rfl) rfl
theorem Jg (N:Nat)(m:Msg)(h:m.ok)(hN:190001≤N):Gam.pureD (callF tab ext N) 35 [.agg m.cells]=some (.agg m.cells):=by
 obtain ⟨M,rfl⟩:∃M,N=M+3:=⟨N-3,by omega⟩
 have h1:=Ak M m.st h.st
 have h2:=Du (M+1) m.orig h.orig
 have hb:=h.body
 unfold Val.ok at hb
 have h3:=kJ (M+2) m.body (by omega) (by omega)
 obtain ⟨⟨a1,a2⟩,a3,a4,a5,a6,a7,a8,a9,a0⟩:=m
 exact pure_of [(5,.p (.agg (Stp.mk a1 a2).cells)),(10,.p (.sl false 1 (aF a4))),(13,.p (.agg (Val.mk a5 a6 a7 a8 a9 a0).cells))] [] (pf3 h1 h2 h3) (x:=.agg (Msg.mk ⟨a1,a2⟩ a3 a4 (Val.mk a5 a6 a7 a8 a9 a0)).cells) (bx:=[]) (by kernel_rfl) rfl
def PE:List X:=[num 0,num 0,num 0,noText,.sl true 6 [],.sl true 7 [],num 0,num 0,.sl true 10 [],.sl true 6 []]
section
variable (s items acc vals zfD:List (List X)) (n m k j:Nat)
variable (k0 i0 s0:Int) (t0:ByteArray) (l0 f0:List (List X)) (n0 d0:Int) (x:List X)
def csH:St:=⟨[(1,.ptr 0 0 0),(2,.ptr 1 0 0),(3,.bs 2 0 j),(14,.sl false 10 items),(15,nat n),(16,nat j)],[.var (lW k0 i0 s0 t0 l0 f0 n0 d0 items vals),.var PE,.row 10 acc]⟩
def zns:St:=⟨[(1,.ptr 0 0 0),(2,.ptr 1 0 0),(3,.bs 4 0 (j+1)),(14,.sl false 10 items),(15,nat n),(16,nat (j+1))],[.var (lW k0 i0 s0 t0 l0 f0 n0 d0 items vals),.var PE,.dead,.var x,.row 10 (acc++[x])]⟩
def csE:St:=⟨[(1,.ptr 0 0 0),(2,.ptr 1 0 0),(3,.bs 2 0 j),(14,.sl false 10 items),(15,nat n),(16,nat j),(17,boolX false)],[.var (lW k0 i0 s0 t0 l0 f0 n0 d0 items vals),.var PE,.row 10 acc]⟩
theorem zat:canon 0 (csH items acc vals n j k0 i0 s0 t0 l0 f0 n0 d0)=some (csH items acc vals n j k0 i0 s0 t0 l0 f0 n0 d0):=by kernel_rfl
theorem WY:canon 0 (zns items acc vals n j k0 i0 s0 t0 l0 f0 n0 d0 x)=some (csH items (acc++[x]) vals n (j+1) k0 i0 s0 t0 l0 f0 n0 d0):=by kernel_rfl
def cvH:St:=⟨[(1,.ptr 0 0 0),(2,.ptr 1 0 0),(3,.bs 2 0 m),(6,.bs 3 0 j),(31,.sl false 6 vals),(32,nat n),(33,nat j)],[.var (lW k0 i0 s0 t0 l0 f0 n0 d0 items vals),.var PE,.row 10 acc,.row 6 zfD]⟩
def znr:St:=⟨[(1,.ptr 0 0 0),(2,.ptr 1 0 0),(3,.bs 2 0 m),(6,.bs 5 0 (j+1)),(31,.sl false 6 vals),(32,nat n),(33,nat (j+1))],[.var (lW k0 i0 s0 t0 l0 f0 n0 d0 items vals),.var PE,.row 10 acc,.dead,.var x,.row 6 (zfD++[x])]⟩
def cvE:St:=⟨[(1,.ptr 0 0 0),(2,.ptr 1 0 0),(3,.bs 2 0 m),(6,.bs 3 0 j),(31,.sl false 6 vals),(32,nat n),(33,nat j),(34,boolX false)],[.var (lW k0 i0 s0 t0 l0 f0 n0 d0 items vals),.var PE,.row 10 acc,.row 6 zfD]⟩
theorem zar:canon 0 (cvH items acc vals zfD n m j k0 i0 s0 t0 l0 f0 n0 d0)=some (cvH items acc vals zfD n m j k0 i0 s0 t0 l0 f0 n0 d0):=by kernel_rfl
theorem WX:canon 0 (znr items acc vals zfD n m j k0 i0 s0 t0 l0 f0 n0 d0 x)=some (cvH items acc vals (zfD++[x]) n m (j+1) k0 i0 s0 t0 l0 f0 n0 d0):=by kernel_rfl
end
theorem RQ (N:Nat)(s:Slt)(h:s.ok)(hN:190005≤N):callF tab ext N (.fn 89) [.agg s.cells] []=some (match s with
  |⟨.mk k i s t l f,n,d,ms,vs⟩=>(.agg [num k,num i,num s,strX t,.sl false 6 (aj l),.sl false 7 (ay f),num n,num d,.bs 0 0 (aX ms).length,.bs 1 0 (aj vs).length],[.row 10 (aX ms),.row 6 (aj vs)])):=by
 obtain ⟨M,rfl⟩:∃M,N=M+1:=⟨N-1,by omega⟩
 have hi:=h.items
 have hv:=h.vals
 have hk:=h.key
 have hit:=h.item
 have hva:=h.val
 obtain ⟨⟨k0,i0,s0,t0,l0,f0⟩,n0,d0,ms,vs⟩:=s
 have em:=jg ms
 have ev:=aO vs
 dsimp only at hi hv hk hit hva
 unfold Val.ok at hk
 have hk':=kJ M (Val.mk k0 i0 s0 t0 l0 f0) (by omega) (by omega)
 have h1:run (callF tab ext M) 0 M (.loop (loopAt 89 0)) (csH (aX ms) [] (aj vs) (aX ms).length 0 k0 i0 s0 t0 (aj l0) (ay f0) n0 d0)=some (.exit 0,csE (aX ms) (aX ms) (aj vs) (aX ms).length (aX ms).length k0 i0 s0 t0 (aj l0) (ay f0) n0 d0):=by
  refine dR (σ:=fun j=>csH (aX ms) ((aX ms).take j) (aj vs) (aX ms).length j k0 i0 s0 t0 (aj l0) (ay f0) n0 d0) (k:=(aX ms).length) (zat ..) (fun j hj=>?_) ?_ (by simp) (by omega)
  ·have hj':j<ms.length:=by omega
   have hg:=zl hj'
   have hc:=Jg M ms[j] (hit _ (List.getElem_mem hj')) (by omega)
   have ht:=fM hg
   generalize ms[j]=a at hg hc ht
   obtain ⟨⟨a1,a2⟩,a3,a4,a5,a6,a7,a8,a9,a0⟩:=a
   refine ⟨zns (aX ms) ((aX ms).take j) (aj vs) (aX ms).length j k0 i0 s0 t0 (aj l0) (ay f0) n0 d0 (Msg.mk ⟨a1,a2⟩ a3 a4 (Val.mk a5 a6 a7 a8 a9 a0)).cells,run_of [(17,.b true),(18,.e (Msg.mk ⟨a1,a2⟩ a3 a4 (Val.mk a5 a6 a7 a8 a9 a0)).cells),(22,.p (.agg (Msg.mk ⟨a1,a2⟩ a3 a4 (Val.mk a5 a6 a7 a8 a9 a0)).cells)),(24,.app),(25,.i (Int.ofNat (j+1)))] []
    (pf5 (aI (j:=j) (k:=(aX ms).length) (by omega)) hg hc (fZ (acc:=(aX ms).take j) j 2 152 (by rw [List.length_take];omega) (by omega) (by omega)) (next_nat (j:=j) (by omega))) (lo':=[]) (by kernel_rfl),?_⟩
   rw [WY,ht]
  ·rw [List.take_length]
   exact run_of [(17,.b false)] [] (pf1 (aJ (Nat.lt_irrefl (aX ms).length))) (lo':=[]) (by kernel_rfl)
 have h2:run (callF tab ext M) 0 M (.loop (loopAt 89 1)) (cvH (aX ms) (aX ms) (aj vs) [] (aj vs).length (aX ms).length 0 k0 i0 s0 t0 (aj l0) (ay f0) n0 d0)=some (.exit 2,cvE (aX ms) (aX ms) (aj vs) (aj vs) (aj vs).length (aX ms).length (aj vs).length k0 i0 s0 t0 (aj l0) (ay f0) n0 d0):=by
  refine dR (σ:=fun j=>cvH (aX ms) (aX ms) (aj vs) ((aj vs).take j) (aj vs).length (aX ms).length j k0 i0 s0 t0 (aj l0) (ay f0) n0 d0) (k:=(aj vs).length) (zar ..) (fun j hj=>?_) ?_ (by simp) (by omega)
  ·have hj':j<vs.length:=by omega
   have hg:=gX hj'
   have hok:=hva _ (List.getElem_mem hj')
   unfold Val.ok at hok
   have hc:=kJ M vs[j] (by omega) (by omega)
   have ht:=fM hg
   generalize vs[j]=a at hg hc ht
   obtain ⟨a1,a2,a3,a4,a5,a6⟩:=a
   refine ⟨znr (aX ms) (aX ms) (aj vs) ((aj vs).take j) (aj vs).length (aX ms).length j k0 i0 s0 t0 (aj l0) (ay f0) n0 d0 (Val.mk a1 a2 a3 a4 a5 a6).cells,run_of [(34,.b true),(35,.e (Val.mk a1 a2 a3 a4 a5 a6).cells),(39,.p (.agg (Val.mk a1 a2 a3 a4 a5 a6).cells)),(41,.app),(42,.i (Int.ofNat (j+1)))] []
    (pf5 (aI (j:=j) (k:=(aj vs).length) (by omega)) hg hc (fZ (acc:=(aj vs).take j) j 3 88 (by rw [List.length_take];omega) (by omega) (by omega)) (next_nat (j:=j) (by omega))) (lo':=[]) (by kernel_rfl),?_⟩
   rw [WX,ht]
  ·rw [List.take_length]
   exact run_of [(34,.b false)] [] (pf1 (aJ (Nat.lt_irrefl (aj vs).length))) (lo':=[]) (by kernel_rfl)
 exact aB [(12,.mk),(29,.mk),(45,.p (.agg (Val.mk k0 i0 s0 t0 l0 f0).cells))] [(.exit 0,csE (aX ms) (aX ms) (aj vs) (aX ms).length (aX ms).length k0 i0 s0 t0 (aj l0) (ay f0) n0 d0),(.exit 2,cvE (aX ms) (aX ms) (aj vs) (aj vs) (aj vs).length (aX ms).length (aj vs).length k0 i0 s0 t0 (aj l0) (ay f0) n0 d0)]
  (pf5 (a:=0≤(aX ms).length∧dD (aX ms).length 152=true) ⟨by omega,jW (by omega) (by omega)⟩ h1 (c:=0≤(aj vs).length∧dD (aj vs).length 88=true) ⟨by omega,jW (by omega) (by omega)⟩ h2 hk') (by kernel_rfl)
theorem Am (N:Nat)(s:Slt)(h:s.ok)(hN:190005≤N):Gam.pureD (callF tab ext N) 89 [.agg s.cells]=some (.agg s.cells):=by
 unfold Gam.pureD
 rw [RQ N s h hN]
 obtain ⟨⟨k0,i0,s0,t0,l0,f0⟩,n0,d0,ms,vs⟩:=s
 simp [X.data,fG,rowOf,Slt.cells,lW,num,strX]
def kX:List X:=[num 0,num 0,.sl true 10 []]
section
variable (a b:Int) (l acc:List (List X)) (n j:Nat) (x:List X)
def stH:St:=⟨[(1,.ptr 0 0 0),(2,.ptr 1 0 0),(3,.bs 2 0 j),(11,.sl false 10 l),(12,nat n),(13,nat j)],[.var [num a,num b,.sl false 10 l],.var kX,.row 10 acc]⟩
def zmg:St:=⟨[(1,.ptr 0 0 0),(2,.ptr 1 0 0),(3,.bs 4 0 (j+1)),(11,.sl false 10 l),(12,nat n),(13,nat (j+1))],[.var [num a,num b,.sl false 10 l],.var kX,.dead,.var x,.row 10 (acc++[x])]⟩
def stE:St:=⟨[(1,.ptr 0 0 0),(2,.ptr 1 0 0),(3,.bs 2 0 j),(11,.sl false 10 l),(12,nat n),(13,nat j),(14,boolX false)],[.var [num a,num b,.sl false 10 l],.var kX,.row 10 acc]⟩
theorem Yy:canon 0 (stH a b l acc n j)=some (stH a b l acc n j):=by kernel_rfl
theorem Ua:canon 0 (zmg a b l acc n j x)=some (stH a b l (acc++[x]) n (j+1)):=by kernel_rfl
end
theorem MJ (N:Nat)(s:Stt)(h:s.ok)(hN:190010≤N):callF tab ext N (.fn 82) [.agg s.cells] []=some (.agg [num s.n,num s.t,.bs 0 0 (bf s.slots).length],[.row 10 (bf s.slots)]):=by
 obtain ⟨M,rfl⟩:∃M,N=M+1:=⟨N-1,by omega⟩
 have hi:=h.slots
 have hit:=h.slot
 obtain ⟨a,b,ss⟩:=s
 dsimp only at hi hit
 have em:=je ss
 have h1:run (callF tab ext M) 0 M (.loop (loopAt 82 0)) (stH a b (bf ss) [] (bf ss).length 0)=some (.exit 0,stE a b (bf ss) (bf ss) (bf ss).length (bf ss).length):=by
  refine dR (σ:=fun j=>stH a b (bf ss) ((bf ss).take j) (bf ss).length j) (k:=(bf ss).length) (Yy ..) (fun j hj=>?_) ?_ (by simp) (by omega)
  ·have hj':j<ss.length:=by omega
   have hg:=yG hj'
   have hc:=Am M ss[j] (hit _ (List.getElem_mem hj')) (by omega)
   have ht:=fM hg
   generalize ss[j]=q at hg hc ht
   obtain ⟨⟨a1,a2,a3,a4,a5,a6⟩,a7,a8,a9,a0⟩:=q
   refine ⟨zmg a b (bf ss) ((bf ss).take j) (bf ss).length j (Slt.mk (Val.mk a1 a2 a3 a4 a5 a6) a7 a8 a9 a0).cells,run_of [(14,.b true),(15,.e (Slt.mk (Val.mk a1 a2 a3 a4 a5 a6) a7 a8 a9 a0).cells),(19,.p (.agg (Slt.mk (Val.mk a1 a2 a3 a4 a5 a6) a7 a8 a9 a0).cells)),(21,.app),(22,.i (Int.ofNat (j+1)))] []
    (pf5 (aI (j:=j) (k:=(bf ss).length) (by omega)) hg hc (fZ (acc:=(bf ss).take j) j 2 152 (by rw [List.length_take];omega) (by omega) (by omega)) (next_nat (j:=j) (by omega))) (lo':=[]) (by kernel_rfl),?_⟩
   rw [Ua,ht]
  ·rw [List.take_length]
   exact run_of [(14,.b false)] [] (pf1 (aJ (Nat.lt_irrefl (bf ss).length))) (lo':=[]) (by kernel_rfl)
 exact aB [(9,.mk)] [(.exit 0,stE a b (bf ss) (bf ss) (bf ss).length (bf ss).length)]
  (pf2 (a:=0≤(bf ss).length∧dD (bf ss).length 152=true) ⟨by omega,jW (by omega) (by omega)⟩ h1) (by kernel_rfl)
theorem xK (N:Nat)(s:Stt)(h:s.ok)(hN:190010≤N):Gam.pureD (callF tab ext N) 82 [.agg s.cells]=some (.agg s.cells):=by
 unfold Gam.pureD
 rw [MJ N s h hN]
 simp [X.data,fG,rowOf,Stt.cells,num]
end Go.Proofs.YtjbndifenhihhaaGreatDoor
namespace Go.Proofs.YtjbndifenhihhaaGreatDoor
open Go.Em
set_option maxRecDepth 100000
def mY (B:Nat)(f:FuncId)(args:List X):Prop:=∃c:Bool,∀N,B≤N→Gam.pureD (callF tab ext N) f args=some (boolX c)
theorem dw {B:Nat}{f:FuncId}{args:List X}(h:∃c:Bool,∀N,B≤N→Gam.pureD (callF tab ext (N+1)) f args=some (boolX c)):mY (B+1) f args:=by
 obtain ⟨c,h⟩:=h
 refine ⟨c,fun N hN=>?_⟩
 obtain ⟨M,rfl⟩:∃M,N=M+1:=⟨N-1,by omega⟩
 exact h M (by omega)
end Go.Proofs.YtjbndifenhihhaaGreatDoor
namespace Go.Proofs.YtjbndifenhihhaaGreatDoor
open Go.Em
set_option maxRecDepth 100000
def kR (B:Nat)(f:FuncId)(args:List X):Prop:=∃c:Int,(0≤c∧c≤100)∧∀N,B≤N→Gam.pureD (callF tab ext N) f args=some (num c)
theorem bY {B:Nat}{f:FuncId}{args:List X}(h:∃c:Int,(0≤c∧c≤100)∧∀N,B≤N→Gam.pureD (callF tab ext (N+1)) f args=some (num c)):kR (B+1) f args:=by
 obtain ⟨c,cr,h⟩:=h
 refine ⟨c,cr,fun N hN=>?_⟩
 obtain ⟨M,rfl⟩:∃M,N=M+1:=⟨N-1,by omega⟩
 exact h M (by omega)
theorem scan {b:C}{H:Nat→St}{e:Ex}{fin τ:St}{n B:Nat}(good:St→Prop)(h0:canon 0 τ=some (H 0))
  (hstep:∀j,j<n→(∃r,good r∧∀M,B≤M→run (callF tab ext M) 0 M b (H j)=some (.ret,r))∨(∃υ,canon 0 υ=some (H (j+1))∧∀M,B≤M→run (callF tab ext M) 0 M b (H j)=some (.norm,υ)))
  (hend:∀M,B≤M→run (callF tab ext M) 0 M b (H n)=some (e,fin)) (hne:e≠.norm):
  (∃r,good r∧∀M,B≤M→n<M→run (callF tab ext M) 0 M (.loop b) τ=some (.ret,r))∨(∀M,B≤M→n<M→run (callF tab ext M) 0 M (.loop b) τ=some (e,fin)):=by
 have key:∀d j,j+d=n→(∃r,good r∧∀M F υ,B≤M→d<F→canon 0 υ=some (H j)→iter 0 (run (callF tab ext M) 0 M b) F υ=some (.ret,r))∨(∀M F υ,B≤M→d<F→canon 0 υ=some (H j)→iter 0 (run (callF tab ext M) 0 M b) F υ=some (e,fin)):=by
  intro d
  induction d with
  |zero=>
   intro j hj
   have hjn:j=n:=by omega
   subst hjn
   right
   intro M F υ hM hF hc
   obtain ⟨F',rfl⟩:∃F',F=F'+1:=⟨F-1,by omega⟩
   exact bC hc (hend M hM) hne
  |succ d ih=>
   intro j hj
   rcases hstep j (by omega) with ⟨r,hr,h⟩|⟨ω,hω,h⟩
   ·left
    refine ⟨r,hr,fun M F υ hM hF hc=>?_⟩
    obtain ⟨F',rfl⟩:∃F',F=F'+1:=⟨F-1,by omega⟩
    exact bC hc (h M hM) (by simp)
   ·rcases ih (j+1) (by omega) with ⟨r,hr,h'⟩|h'
    ·left
     refine ⟨r,hr,fun M F υ hM hF hc=>?_⟩
     obtain ⟨F',rfl⟩:∃F',F=F'+1:=⟨F-1,by omega⟩
     exact dG hc (h M hM) (h' M F' ω hM (by omega) hω)
    ·right
     intro M F υ hM hF hc
     obtain ⟨F',rfl⟩:∃F',F=F'+1:=⟨F-1,by omega⟩
     exact dG hc (h M hM) (h' M F' ω hM (by omega) hω)
 simp only [run]
 rcases key n 0 (by omega) with ⟨r,hr,h⟩|h
 ·exact .inl ⟨r,hr,fun M hM hn=>h M M τ hM hn h0⟩
 ·exact .inr fun M hM hn=>h M M τ hM hn h0
def iw:Val→Bool
 |.mk k i s t l f=>(k==0)&&((i==0)&&((s==0)&&((t.toList==(⟨#[]⟩:ByteArray).toList)&&((Int.ofNat (aj l).length==0)&&(Int.ofNat (ay f).length==0)))))
theorem N7 (N:Nat)(v:Val):Gam.pureD (callF tab ext (N+1)) 27 [.agg v.cells]=some (boolX (iw v)):=by
 obtain ⟨k,i,s,t,l,f⟩:=v
 cases h1:(k==0) with
 |true=>
  cases h2:(i==0) with
  |true=>
   cases h3:(s==0) with
   |true=>
    cases h4:(t.toList==(⟨#[]⟩:ByteArray).toList) with
    |true=>
     cases h5:(Int.ofNat (aj l).length==0) with
     |true=>
      cases h6:(Int.ofNat (ay f).length==0) with
      |true=>
       rw [show iw (Val.mk k i s t l f)=true from by simp only [iw,h1,h2,h3,h4,h5,h6];rfl]
       exact pure_of [(5,.b true),(9,.b true),(14,.b true),(19,.b true),(25,.b true),(31,.b true)] [] (pf6 h1 h2 h3 h4 h5 h6) (x:=boolX true) (bx:=[]) (by kernel_rfl) rfl
      |false=>
       rw [show iw (Val.mk k i s t l f)=false from by simp only [iw,h1,h2,h3,h4,h5,h6];rfl]
       exact pure_of [(5,.b true),(9,.b true),(14,.b true),(19,.b true),(25,.b true),(31,.b false)] [] (pf6 h1 h2 h3 h4 h5 h6) (x:=boolX false) (bx:=[]) (by kernel_rfl) rfl
     |false=>
      rw [show iw (Val.mk k i s t l f)=false from by simp only [iw,h1,h2,h3,h4,h5];rfl]
      exact pure_of [(5,.b true),(9,.b true),(14,.b true),(19,.b true),(25,.b false)] [] (pf5 h1 h2 h3 h4 h5) (x:=boolX false) (bx:=[]) (by kernel_rfl) rfl
    |false=>
     rw [show iw (Val.mk k i s t l f)=false from by simp only [iw,h1,h2,h3,h4];rfl]
     exact pure_of [(5,.b true),(9,.b true),(14,.b true),(19,.b false)] [] (pf4 h1 h2 h3 h4) (x:=boolX false) (bx:=[]) (by kernel_rfl) rfl
   |false=>
    rw [show iw (Val.mk k i s t l f)=false from by simp only [iw,h1,h2,h3];rfl]
    exact pure_of [(5,.b true),(9,.b true),(14,.b false)] [] (pf3 h1 h2 h3) (x:=boolX false) (bx:=[]) (by kernel_rfl) rfl
  |false=>
   rw [show iw (Val.mk k i s t l f)=false from by simp only [iw,h1,h2];rfl]
   exact pure_of [(5,.b true),(9,.b false)] [] (pf2 h1 h2) (x:=boolX false) (bx:=[]) (by kernel_rfl) rfl
 |false=>
  rw [show iw (Val.mk k i s t l f)=false from by simp only [iw,h1];rfl]
  exact pure_of [(5,.b false)] [] (pf1 h1) (x:=boolX false) (bx:=[]) (by kernel_rfl) rfl
theorem zju (i s:Int)(t:ByteArray)(l:List Val)(f:List (ByteArray×Val)):mY 2 70 [.agg (Val.mk 1 i s t l f).cells]:=by
 apply dw
 cases h1:(s==0) with
 |true=>
  cases h2:(t.toList==(⟨#[]⟩:ByteArray).toList) with
  |true=>
   cases h3:(Int.ofNat (aj l).length==0) with
   |true=>
    cases h4:(Int.ofNat (ay f).length==0) with
    |true=>
     exact ⟨true,fun N hN=>pure_of [(63,.b true),(71,.b true),(80,.b true),(91,.b true)] [] (pf4 h1 h2 h3 h4) (x:=boolX true) (bx:=[]) (by kernel_rfl) rfl⟩
    |false=>
     exact ⟨false,fun N hN=>pure_of [(63,.b true),(71,.b true),(80,.b true),(91,.b false)] [] (pf4 h1 h2 h3 h4) (x:=boolX false) (bx:=[]) (by kernel_rfl) rfl⟩
   |false=>
    exact ⟨false,fun N hN=>pure_of [(63,.b true),(71,.b true),(80,.b false)] [] (pf3 h1 h2 h3) (x:=boolX false) (bx:=[]) (by kernel_rfl) rfl⟩
  |false=>
   exact ⟨false,fun N hN=>pure_of [(63,.b true),(71,.b false)] [] (pf2 h1 h2) (x:=boolX false) (bx:=[]) (by kernel_rfl) rfl⟩
 |false=>
  exact ⟨false,fun N hN=>pure_of [(63,.b false)] [] (pf1 h1) (x:=boolX false) (bx:=[]) (by kernel_rfl) rfl⟩
theorem zjt (i s:Int)(t:ByteArray)(l:List Val)(f:List (ByteArray×Val)):mY 2 70 [.agg (Val.mk 2 i s t l f).cells]:=by
 apply dw
 cases h1:(s==0) with
 |true=>
  cases h2:(t.toList==(⟨#[]⟩:ByteArray).toList) with
  |true=>
   cases h3:(Int.ofNat (aj l).length==0) with
   |true=>
    cases h4:(Int.ofNat (ay f).length==0) with
    |true=>
     exact ⟨true,fun N hN=>pure_of [(63,.b true),(71,.b true),(80,.b true),(91,.b true)] [] (pf4 h1 h2 h3 h4) (x:=boolX true) (bx:=[]) (by kernel_rfl) rfl⟩
    |false=>
     exact ⟨false,fun N hN=>pure_of [(63,.b true),(71,.b true),(80,.b true),(91,.b false)] [] (pf4 h1 h2 h3 h4) (x:=boolX false) (bx:=[]) (by kernel_rfl) rfl⟩
   |false=>
    exact ⟨false,fun N hN=>pure_of [(63,.b true),(71,.b true),(80,.b false)] [] (pf3 h1 h2 h3) (x:=boolX false) (bx:=[]) (by kernel_rfl) rfl⟩
  |false=>
   exact ⟨false,fun N hN=>pure_of [(63,.b true),(71,.b false)] [] (pf2 h1 h2) (x:=boolX false) (bx:=[]) (by kernel_rfl) rfl⟩
 |false=>
  exact ⟨false,fun N hN=>pure_of [(63,.b false)] [] (pf1 h1) (x:=boolX false) (bx:=[]) (by kernel_rfl) rfl⟩
theorem zjs (i s:Int)(t:ByteArray)(l:List Val)(f:List (ByteArray×Val)):mY 2 70 [.agg (Val.mk 3 i s t l f).cells]:=by
 apply dw
 cases h1:(t.toList==(⟨#[]⟩:ByteArray).toList) with
 |true=>
  cases h2:(Int.ofNat (aj l).length==0) with
  |true=>
   cases h3:(Int.ofNat (ay f).length==0) with
   |true=>
    exact ⟨true,fun N hN=>pure_of [(71,.b true),(80,.b true),(91,.b true)] [] (pf3 h1 h2 h3) (x:=boolX true) (bx:=[]) (by kernel_rfl) rfl⟩
   |false=>
    exact ⟨false,fun N hN=>pure_of [(71,.b true),(80,.b true),(91,.b false)] [] (pf3 h1 h2 h3) (x:=boolX false) (bx:=[]) (by kernel_rfl) rfl⟩
  |false=>
   exact ⟨false,fun N hN=>pure_of [(71,.b true),(80,.b false)] [] (pf2 h1 h2) (x:=boolX false) (bx:=[]) (by kernel_rfl) rfl⟩
 |false=>
  exact ⟨false,fun N hN=>pure_of [(71,.b false)] [] (pf1 h1) (x:=boolX false) (bx:=[]) (by kernel_rfl) rfl⟩
theorem zjr (i s:Int)(t:ByteArray)(l:List Val)(f:List (ByteArray×Val)):mY 2 70 [.agg (Val.mk 4 i s t l f).cells]:=by
 apply dw
 cases h1:(i==0) with
 |true=>
  cases h2:(s==0) with
  |true=>
   cases h3:(Int.ofNat (aj l).length==0) with
   |true=>
    cases h4:(Int.ofNat (ay f).length==0) with
    |true=>
     exact ⟨true,fun N hN=>pure_of [(54,.b true),(63,.b true),(80,.b true),(91,.b true)] [] (pf4 h1 h2 h3 h4) (x:=boolX true) (bx:=[]) (by kernel_rfl) rfl⟩
    |false=>
     exact ⟨false,fun N hN=>pure_of [(54,.b true),(63,.b true),(80,.b true),(91,.b false)] [] (pf4 h1 h2 h3 h4) (x:=boolX false) (bx:=[]) (by kernel_rfl) rfl⟩
   |false=>
    exact ⟨false,fun N hN=>pure_of [(54,.b true),(63,.b true),(80,.b false)] [] (pf3 h1 h2 h3) (x:=boolX false) (bx:=[]) (by kernel_rfl) rfl⟩
  |false=>
   exact ⟨false,fun N hN=>pure_of [(54,.b true),(63,.b false)] [] (pf2 h1 h2) (x:=boolX false) (bx:=[]) (by kernel_rfl) rfl⟩
 |false=>
  exact ⟨false,fun N hN=>pure_of [(54,.b false)] [] (pf1 h1) (x:=boolX false) (bx:=[]) (by kernel_rfl) rfl⟩
theorem zjq (i s:Int)(t:ByteArray)(l:List Val)(f:List (ByteArray×Val)):mY 2 70 [.agg (Val.mk 5 i s t l f).cells]:=by
 apply dw
 cases h1:(i==0) with
 |true=>
  cases h2:(s==0) with
  |true=>
   cases h3:(Int.ofNat (aj l).length==0) with
   |true=>
    cases h4:(Int.ofNat (ay f).length==0) with
    |true=>
     exact ⟨true,fun N hN=>pure_of [(54,.b true),(63,.b true),(80,.b true),(91,.b true)] [] (pf4 h1 h2 h3 h4) (x:=boolX true) (bx:=[]) (by kernel_rfl) rfl⟩
    |false=>
     exact ⟨false,fun N hN=>pure_of [(54,.b true),(63,.b true),(80,.b true),(91,.b false)] [] (pf4 h1 h2 h3 h4) (x:=boolX false) (bx:=[]) (by kernel_rfl) rfl⟩
   |false=>
    exact ⟨false,fun N hN=>pure_of [(54,.b true),(63,.b true),(80,.b false)] [] (pf3 h1 h2 h3) (x:=boolX false) (bx:=[]) (by kernel_rfl) rfl⟩
  |false=>
   exact ⟨false,fun N hN=>pure_of [(54,.b true),(63,.b false)] [] (pf2 h1 h2) (x:=boolX false) (bx:=[]) (by kernel_rfl) rfl⟩
 |false=>
  exact ⟨false,fun N hN=>pure_of [(54,.b false)] [] (pf1 h1) (x:=boolX false) (bx:=[]) (by kernel_rfl) rfl⟩
theorem zjo (i s:Int)(t:ByteArray)(l:List Val)(f:List (ByteArray×Val)):mY 2 70 [.agg (Val.mk 6 i s t l f).cells]:=by
 apply dw
 cases h1:(s==0) with
 |true=>
  cases h2:(t.toList==(⟨#[]⟩:ByteArray).toList) with
  |true=>
   cases h3:(Int.ofNat (aj l).length==0) with
   |true=>
    cases h4:(Int.ofNat (ay f).length==0) with
    |true=>
     exact ⟨true,fun N hN=>pure_of [(63,.b true),(71,.b true),(80,.b true),(91,.b true)] [] (pf4 h1 h2 h3 h4) (x:=boolX true) (bx:=[]) (by kernel_rfl) rfl⟩
    |false=>
     exact ⟨false,fun N hN=>pure_of [(63,.b true),(71,.b true),(80,.b true),(91,.b false)] [] (pf4 h1 h2 h3 h4) (x:=boolX false) (bx:=[]) (by kernel_rfl) rfl⟩
   |false=>
    exact ⟨false,fun N hN=>pure_of [(63,.b true),(71,.b true),(80,.b false)] [] (pf3 h1 h2 h3) (x:=boolX false) (bx:=[]) (by kernel_rfl) rfl⟩
  |false=>
   exact ⟨false,fun N hN=>pure_of [(63,.b true),(71,.b false)] [] (pf2 h1 h2) (x:=boolX false) (bx:=[]) (by kernel_rfl) rfl⟩
 |false=>
  exact ⟨false,fun N hN=>pure_of [(63,.b false)] [] (pf1 h1) (x:=boolX false) (bx:=[]) (by kernel_rfl) rfl⟩
theorem zjn (i s:Int)(t:ByteArray)(l:List Val)(f:List (ByteArray×Val)):mY 2 70 [.agg (Val.mk 7 i s t l f).cells]:=by
 apply dw
 cases h1:(s==0) with
 |true=>
  cases h2:(t.toList==(⟨#[]⟩:ByteArray).toList) with
  |true=>
   cases h3:(Int.ofNat (aj l).length==0) with
   |true=>
    cases h4:(Int.ofNat (ay f).length==0) with
    |true=>
     exact ⟨true,fun N hN=>pure_of [(63,.b true),(71,.b true),(80,.b true),(91,.b true)] [] (pf4 h1 h2 h3 h4) (x:=boolX true) (bx:=[]) (by kernel_rfl) rfl⟩
    |false=>
     exact ⟨false,fun N hN=>pure_of [(63,.b true),(71,.b true),(80,.b true),(91,.b false)] [] (pf4 h1 h2 h3 h4) (x:=boolX false) (bx:=[]) (by kernel_rfl) rfl⟩
   |false=>
    exact ⟨false,fun N hN=>pure_of [(63,.b true),(71,.b true),(80,.b false)] [] (pf3 h1 h2 h3) (x:=boolX false) (bx:=[]) (by kernel_rfl) rfl⟩
  |false=>
   exact ⟨false,fun N hN=>pure_of [(63,.b true),(71,.b false)] [] (pf2 h1 h2) (x:=boolX false) (bx:=[]) (by kernel_rfl) rfl⟩
 |false=>
  exact ⟨false,fun N hN=>pure_of [(63,.b false)] [] (pf1 h1) (x:=boolX false) (bx:=[]) (by kernel_rfl) rfl⟩
theorem zjm (i s:Int)(t:ByteArray)(l:List Val)(f:List (ByteArray×Val)):mY 2 70 [.agg (Val.mk 8 i s t l f).cells]:=by
 apply dw
 cases h1:(i==0) with
 |true=>
  cases h2:(s==0) with
  |true=>
   cases h3:(t.toList==(⟨#[]⟩:ByteArray).toList) with
   |true=>
    cases h4:(Int.ofNat (ay f).length==0) with
    |true=>
     exact ⟨true,fun N hN=>pure_of [(54,.b true),(63,.b true),(71,.b true),(91,.b true)] [] (pf4 h1 h2 h3 h4) (x:=boolX true) (bx:=[]) (by kernel_rfl) rfl⟩
    |false=>
     exact ⟨false,fun N hN=>pure_of [(54,.b true),(63,.b true),(71,.b true),(91,.b false)] [] (pf4 h1 h2 h3 h4) (x:=boolX false) (bx:=[]) (by kernel_rfl) rfl⟩
   |false=>
    exact ⟨false,fun N hN=>pure_of [(54,.b true),(63,.b true),(71,.b false)] [] (pf3 h1 h2 h3) (x:=boolX false) (bx:=[]) (by kernel_rfl) rfl⟩
  |false=>
   exact ⟨false,fun N hN=>pure_of [(54,.b true),(63,.b false)] [] (pf2 h1 h2) (x:=boolX false) (bx:=[]) (by kernel_rfl) rfl⟩
 |false=>
  exact ⟨false,fun N hN=>pure_of [(54,.b false)] [] (pf1 h1) (x:=boolX false) (bx:=[]) (by kernel_rfl) rfl⟩
theorem zjl (i s:Int)(t:ByteArray)(l:List Val)(f:List (ByteArray×Val)):mY 2 70 [.agg (Val.mk 9 i s t l f).cells]:=by
 apply dw
 cases h1:(i==0) with
 |true=>
  cases h2:(s==0) with
  |true=>
   cases h3:(t.toList==(⟨#[]⟩:ByteArray).toList) with
   |true=>
    cases h4:(Int.ofNat (aj l).length==0) with
    |true=>
     exact ⟨true,fun N hN=>pure_of [(54,.b true),(63,.b true),(71,.b true),(80,.b true)] [] (pf4 h1 h2 h3 h4) (x:=boolX true) (bx:=[]) (by kernel_rfl) rfl⟩
    |false=>
     exact ⟨false,fun N hN=>pure_of [(54,.b true),(63,.b true),(71,.b true),(80,.b false)] [] (pf4 h1 h2 h3 h4) (x:=boolX false) (bx:=[]) (by kernel_rfl) rfl⟩
   |false=>
    exact ⟨false,fun N hN=>pure_of [(54,.b true),(63,.b true),(71,.b false)] [] (pf3 h1 h2 h3) (x:=boolX false) (bx:=[]) (by kernel_rfl) rfl⟩
  |false=>
   exact ⟨false,fun N hN=>pure_of [(54,.b true),(63,.b false)] [] (pf2 h1 h2) (x:=boolX false) (bx:=[]) (by kernel_rfl) rfl⟩
 |false=>
  exact ⟨false,fun N hN=>pure_of [(54,.b false)] [] (pf1 h1) (x:=boolX false) (bx:=[]) (by kernel_rfl) rfl⟩
theorem zf9 (i s:Int)(t:ByteArray)(l:List Val)(f:List (ByteArray×Val)):mY 2 70 [.agg (Val.mk 10 i s t l f).cells]:=by
 apply dw
 cases h1:(i==0) with
 |true=>
  cases h2:(s==0) with
  |true=>
   cases h3:(Int.ofNat (ay f).length==0) with
   |true=>
    exact ⟨true,fun N hN=>pure_of [(54,.b true),(63,.b true),(91,.b true)] [] (pf3 h1 h2 h3) (x:=boolX true) (bx:=[]) (by kernel_rfl) rfl⟩
   |false=>
    exact ⟨false,fun N hN=>pure_of [(54,.b true),(63,.b true),(91,.b false)] [] (pf3 h1 h2 h3) (x:=boolX false) (bx:=[]) (by kernel_rfl) rfl⟩
  |false=>
   exact ⟨false,fun N hN=>pure_of [(54,.b true),(63,.b false)] [] (pf2 h1 h2) (x:=boolX false) (bx:=[]) (by kernel_rfl) rfl⟩
 |false=>
  exact ⟨false,fun N hN=>pure_of [(54,.b false)] [] (pf1 h1) (x:=boolX false) (bx:=[]) (by kernel_rfl) rfl⟩
theorem fU (x a b:Int):kR 2 120 [num x,num a,num b]:=by
 apply bY
 cases h1:decide (x<a) with
 |true=>
  exact ⟨2,by decide,fun N hN=>pure_of [(9,.b true)] [] (pf1 h1) (x:=num (2)) (bx:=[]) (by kernel_rfl) rfl⟩
 |false=>
  cases h2:decide (b<x) with
  |true=>
   exact ⟨2,by decide,fun N hN=>pure_of [(9,.b false),(13,.b true)] [] (pf2 h1 h2) (x:=num (2)) (bx:=[]) (by kernel_rfl) rfl⟩
  |false=>
   exact ⟨0,by decide,fun N hN=>pure_of [(9,.b false),(13,.b false)] [] (pf2 h1 h2) (x:=num (0)) (bx:=[]) (by kernel_rfl) rfl⟩
theorem pU (x a e:Int)(he:0≤e∧e≤100):kR 2 125 [num x,num a,num e]:=by
 apply bY
 cases h1:decide (a<x) with
 |true=>
  exact ⟨e,he,fun N hN=>pure_of [(9,.b true)] [] (pf1 h1) (x:=num (e)) (bx:=[]) (by kernel_rfl) rfl⟩
 |false=>
  exact ⟨0,by decide,fun N hN=>pure_of [(9,.b false)] [] (pf1 h1) (x:=num (0)) (bx:=[]) (by kernel_rfl) rfl⟩
theorem zcs (v:Val):kR 3 119 [.agg v.cells]:=by
 obtain ⟨k,i,s,t,l,f⟩:=v
 obtain ⟨c,cr,hc⟩:=fU i 0 1
 exact bY ⟨c,cr,fun N hN=>pure_of [(5,.p (num c))] [] (pf1 (hc N hN)) (x:=num c) (bx:=[]) (by kernel_rfl) rfl⟩
theorem zcr (v:Val):kR 3 121 [.agg v.cells]:=by
 obtain ⟨k,i,s,t,l,f⟩:=v
 obtain ⟨c,cr,hc⟩:=fU i (-999999999999999) 999999999999999
 exact bY ⟨c,cr,fun N hN=>pure_of [(5,.p (num c))] [] (pf1 (hc N hN)) (x:=num c) (bx:=[]) (by kernel_rfl) rfl⟩
theorem zcn (v:Val):kR 3 128 [.agg v.cells]:=by
 obtain ⟨k,i,s,t,l,f⟩:=v
 obtain ⟨c,cr,hc⟩:=fU i (-719162) 2932896
 exact bY ⟨c,cr,fun N hN=>pure_of [(5,.p (num c))] [] (pf1 (hc N hN)) (x:=num c) (bx:=[]) (by kernel_rfl) rfl⟩
theorem zcm (v:Val):kR 3 129 [.agg v.cells]:=by
 obtain ⟨k,i,s,t,l,f⟩:=v
 obtain ⟨c,cr,hc⟩:=fU i (-62135596800000) 253402300799999
 exact bY ⟨c,cr,fun N hN=>pure_of [(5,.p (num c))] [] (pf1 (hc N hN)) (x:=num c) (bx:=[]) (by kernel_rfl) rfl⟩
theorem zco (v:Val):kR 3 127 [.agg v.cells]:=by
 obtain ⟨k,i,s,t,l,f⟩:=v
 obtain ⟨c,cr,hc⟩:=pU (Int.ofNat t.size) 1024 5 (by decide)
 exact bY ⟨c,cr,fun N hN=>pure_of [(6,.p (num c))] [] (pf1 (hc N hN)) (x:=num c) (bx:=[]) (by kernel_rfl) rfl⟩
theorem zcl (v:Val):kR 3 130 [.agg v.cells]:=by
 obtain ⟨k,i,s,t,l,f⟩:=v
 obtain ⟨c,cr,hc⟩:=pU (Int.ofNat (aj l).length) 256 9 (by decide)
 exact bY ⟨c,cr,fun N hN=>pure_of [(6,.p (num c))] [] (pf1 (hc N hN)) (x:=num c) (bx:=[]) (by kernel_rfl) rfl⟩
def fiH (l:List (List X))(n j:Nat):St:=⟨[(5,.sl false 1 l),(6,nat n),(7,nat j)],[]⟩
theorem LW (l:List Int)(hl:l.length≤60000)(hb:∀x,x∈l→0≤x∧x≤100):kR 60002 123 [.sl false 1 (aF l)]:=by
 have hn:=bI l
 have:=scan (B:=0) (b:=loopAt 123 0) (H:=fun j=>fiH (aF l) (aF l).length j) (τ:=fiH (aF l) (aF l).length 0) (n:=(aF l).length) (e:=.exit 0) (fin:=⟨[(5,.sl false 1 (aF l)),(6,nat (aF l).length),(7,nat (aF l).length),(8,boolX false)],[]⟩) (fun r=>∃x:Int,(0≤x∧x≤100)∧r=⟨[(2,num x)],[]⟩) (by kernel_rfl) (fun j hj=>by
  have hj':j<l.length:=by omega
  have hg:=kG hj'
  have hx:=hb _ (List.getElem_mem hj')
  generalize l[j]=x at hg hx
  cases h:(!(x==0)) with
  |true=>
   left
   exact ⟨⟨[(2,num x)],[]⟩,⟨x,hx,rfl⟩,fun M _=>run_of [(8,.b true),(9,.e [num x]),(12,.b true)] [] (pf3 (aI (j:=j) (k:=(aF l).length) (by omega)) hg h) (lo':=[]) (by kernel_rfl)⟩
  |false=>
   right
   exact ⟨fiH (aF l) (aF l).length (j+1),by kernel_rfl,fun M _=>run_of [(8,.b true),(9,.e [num x]),(12,.b false),(14,.i (Int.ofNat (j+1)))] [] (pf4 (aI (j:=j) (k:=(aF l).length) (by omega)) hg h (next_nat (j:=j) (by omega))) (lo':=[]) (by kernel_rfl)⟩)
  (fun M _=>run_of [(8,.b false)] [] (pf1 (aJ (Nat.lt_irrefl (aF l).length))) (lo':=[]) (σ':=⟨[(5,.sl false 1 (aF l)),(6,nat (aF l).length),(7,nat (aF l).length),(8,boolX false)],[]⟩) (by kernel_rfl)) (by simp)
 apply bY
 rcases this with ⟨r,⟨x,hx,rfl⟩,h⟩|h
 ·exact ⟨x,hx,fun N hN=>pure_of [] [(.ret,⟨[(2,num x)],[]⟩)] (pf1 (h N (by omega) (by omega))) (x:=num x) (bx:=[]) (by kernel_rfl) rfl⟩
 ·exact ⟨0,by decide,fun N hN=>pure_of [] [(.exit 0,⟨[(5,.sl false 1 (aF l)),(6,nat (aF l).length),(7,nat (aF l).length),(8,boolX false)],[]⟩)] (pf1 (h N (by omega) (by omega))) (x:=num 0) (bx:=[]) (by kernel_rfl) rfl⟩
theorem zcq (v:Val):kR 60003 122 [.agg v.cells]:=by
 obtain ⟨k,i,s,t,l,f⟩:=v
 obtain ⟨c,cr,hc⟩:=fU i (-999999999999999) 999999999999999
 obtain ⟨d,dr,hd⟩:=fU s 0 12
 obtain ⟨e,er,he⟩:=LW [c,d] (by simp) (fun x hx=>by
  rcases List.mem_cons.1 hx with rfl|hx
  ·exact cr
  ·rw [List.mem_singleton.1 hx];exact dr)
 exact bY ⟨e,er,fun N hN=>pure_of [(5,.p (num c)),(8,.p (num d)),(10,.p (num e))] [] (pf3 (hc N (by omega)) (hd N (by omega)) (he N (by omega))) (x:=num e) (bx:=[]) (by kernel_rfl) rfl⟩
theorem Tz (N:Nat)(t:ByteArray)(h:t.size≤9223372036854775807):Gam.pureD (callF tab ext (N+1)) 126 [strX t]=some (boolX (Lib.validD t.data.toList)):=by
 have e:callF tab ext (N+1) (.fn 126) [strX t] []=some (boolX (Lib.validD t.data.toList),[]):=by
  show pR [strX t] []=_
  unfold pR strX
  simp only [if_pos h]
  rfl
 unfold Gam.pureD
 rw [e];rfl
theorem zcp (v:Val):kR 4 124 [.agg v.cells]:=by
 obtain ⟨k,i,s,t,l,f⟩:=v
 apply bY
 cases h0:decide (1024<Int.ofNat t.size) with
 |true=>
  have hc:∀N,2≤N→Gam.pureD (callF tab ext N) 125 [num (Int.ofNat t.size),num 1024,num 5]=some (num 5):=fun N hN=>by
   obtain ⟨M,rfl⟩:∃M,N=M+1:=⟨N-1,by omega⟩
   exact pure_of [(9,.b true)] [] (pf1 h0) (x:=num 5) (bx:=[]) (by kernel_rfl) rfl
  exact ⟨5,by decide,fun N hN=>pure_of [(7,.p (num 5))] [] (pf1 (hc N (by omega))) (x:=num 5) (bx:=[]) (by kernel_rfl) rfl⟩
 |false=>
  have hsz:t.size≤9223372036854775807:=by
   have:=of_decide_eq_false h0
   simp only [Int.ofNat_eq_natCast] at this;omega
  have hc:∀N,2≤N→Gam.pureD (callF tab ext N) 125 [num (Int.ofNat t.size),num 1024,num 5]=some (num 0):=fun N hN=>by
   obtain ⟨M,rfl⟩:∃M,N=M+1:=⟨N-1,by omega⟩
   exact pure_of [(9,.b false)] [] (pf1 h0) (x:=num 0) (bx:=[]) (by kernel_rfl) rfl
  have hv:∀N,3≤N→Gam.pureD (callF tab ext N) 126 [strX t]=some (boolX (Lib.validD t.data.toList)):=fun N hN=>by
   obtain ⟨M,rfl⟩:∃M,N=M+1:=⟨N-1,by omega⟩
   exact Tz M t hsz
  generalize Lib.validD t.data.toList=b at hv
  cases b with
  |true=>exact ⟨0,by decide,fun N hN=>pure_of [(7,.p (num 0)),(13,.p (boolX true))] [] (pf2 (hc N (by omega)) (hv N hN)) (x:=num 0) (bx:=[]) (by kernel_rfl) rfl⟩
  |false=>exact ⟨16,by decide,fun N hN=>pure_of [(7,.p (num 0)),(13,.p (boolX false))] [] (pf2 (hc N (by omega)) (hv N hN)) (x:=num 16) (bx:=[]) (by kernel_rfl) rfl⟩
theorem MV {s:ByteArray}{j:Nat}(h:j<(byteRow s).length):∃u:Int,(byteRow s)[j]?=some [.v (.int .u8 u)]:=by
 unfold byteRow at h ⊢
 rw [List.length_map] at h
 exact ⟨_,by rw [List.getElem?_map,List.getElem?_eq_getElem h];rfl⟩
def naH (s:ByteArray)(n j:Nat):St:=⟨[(23,.sl false 1 (byteRow s)),(24,nat n),(25,nat j)],[]⟩
theorem QH (s:ByteArray)(u:Int)(n j:Nat)(hj:j<n)(hn:n<1000000)(hg:(byteRow s)[j]?=some [.v (.int .u8 u)]):
  (∃r,r=⟨[(2,boolX false)],[]⟩∧∀M,0≤M→run (callF tab ext M) 0 M (loopAt 132 0) (naH s n j)=some (.ret,r))∨(∃υ,canon 0 υ=some (naH s n (j+1))∧∀M,0≤M→run (callF tab ext M) 0 M (loopAt 132 0) (naH s n j)=some (.norm,υ)):=by
 cases h1:decide (u<97) with
 |true=>
  cases h2:decide (u<48) with
  |true=>
   cases h3:(!(u==95)) with
   |true=>
    exact .inl ⟨_,rfl,fun M _=>run_of [(26,.b true),(27,.e [.v (.int .u8 u)]),(30,.b true),(37,.b true),(45,.b true)] [] (pf5 (aI (j:=j) (k:=n) hj) hg h1 h2 h3) (lo':=[]) (by kernel_rfl)⟩
   |false=>
    exact .inr ⟨naH s n (j+1),by kernel_rfl,fun M _=>run_of [(26,.b true),(27,.e [.v (.int .u8 u)]),(30,.b true),(37,.b true),(45,.b false),(47,.i (Int.ofNat (j+1)))] [] (pf6 (aI (j:=j) (k:=n) hj) hg h1 h2 h3 (next_nat (j:=j) (by omega))) (lo':=[]) (by kernel_rfl)⟩
  |false=>
   cases h4:decide (57<u) with
   |true=>
    cases h5:(!(u==95)) with
    |true=>
     exact .inl ⟨_,rfl,fun M _=>run_of [(26,.b true),(27,.e [.v (.int .u8 u)]),(30,.b true),(37,.b false),(40,.b true),(45,.b true)] [] (pf6 (aI (j:=j) (k:=n) hj) hg h1 h2 h4 h5) (lo':=[]) (by kernel_rfl)⟩
    |false=>
     exact .inr ⟨naH s n (j+1),by kernel_rfl,fun M _=>run_of [(26,.b true),(27,.e [.v (.int .u8 u)]),(30,.b true),(37,.b false),(40,.b true),(45,.b false),(47,.i (Int.ofNat (j+1)))] [] (pf7 (aI (j:=j) (k:=n) hj) hg h1 h2 h4 h5 (next_nat (j:=j) (by omega))) (lo':=[]) (by kernel_rfl)⟩
   |false=>
    exact .inr ⟨naH s n (j+1),by kernel_rfl,fun M _=>run_of [(26,.b true),(27,.e [.v (.int .u8 u)]),(30,.b true),(37,.b false),(40,.b false),(47,.i (Int.ofNat (j+1)))] [] (pf6 (aI (j:=j) (k:=n) hj) hg h1 h2 h4 (next_nat (j:=j) (by omega))) (lo':=[]) (by kernel_rfl)⟩
 |false=>
  cases h6:decide (122<u) with
  |true=>
   cases h7:decide (u<48) with
   |true=>
    cases h8:(!(u==95)) with
    |true=>
     exact .inl ⟨_,rfl,fun M _=>run_of [(26,.b true),(27,.e [.v (.int .u8 u)]),(30,.b false),(33,.b true),(37,.b true),(45,.b true)] [] (pf6 (aI (j:=j) (k:=n) hj) hg h1 h6 h7 h8) (lo':=[]) (by kernel_rfl)⟩
    |false=>
     exact .inr ⟨naH s n (j+1),by kernel_rfl,fun M _=>run_of [(26,.b true),(27,.e [.v (.int .u8 u)]),(30,.b false),(33,.b true),(37,.b true),(45,.b false),(47,.i (Int.ofNat (j+1)))] [] (pf7 (aI (j:=j) (k:=n) hj) hg h1 h6 h7 h8 (next_nat (j:=j) (by omega))) (lo':=[]) (by kernel_rfl)⟩
   |false=>
    cases h9:decide (57<u) with
    |true=>
     cases h10:(!(u==95)) with
     |true=>
      exact .inl ⟨_,rfl,fun M _=>run_of [(26,.b true),(27,.e [.v (.int .u8 u)]),(30,.b false),(33,.b true),(37,.b false),(40,.b true),(45,.b true)] [] (pf7 (aI (j:=j) (k:=n) hj) hg h1 h6 h7 h9 h10) (lo':=[]) (by kernel_rfl)⟩
     |false=>
      exact .inr ⟨naH s n (j+1),by kernel_rfl,fun M _=>run_of [(26,.b true),(27,.e [.v (.int .u8 u)]),(30,.b false),(33,.b true),(37,.b false),(40,.b true),(45,.b false),(47,.i (Int.ofNat (j+1)))] [] (pf8 (aI (j:=j) (k:=n) hj) hg h1 h6 h7 h9 h10 (next_nat (j:=j) (by omega))) (lo':=[]) (by kernel_rfl)⟩
    |false=>
     exact .inr ⟨naH s n (j+1),by kernel_rfl,fun M _=>run_of [(26,.b true),(27,.e [.v (.int .u8 u)]),(30,.b false),(33,.b true),(37,.b false),(40,.b false),(47,.i (Int.ofNat (j+1)))] [] (pf7 (aI (j:=j) (k:=n) hj) hg h1 h6 h7 h9 (next_nat (j:=j) (by omega))) (lo':=[]) (by kernel_rfl)⟩
  |false=>
   exact .inr ⟨naH s n (j+1),by kernel_rfl,fun M _=>run_of [(26,.b true),(27,.e [.v (.int .u8 u)]),(30,.b false),(33,.b false),(47,.i (Int.ofNat (j+1)))] [] (pf5 (aI (j:=j) (k:=n) hj) hg h1 h6 (next_nat (j:=j) (by omega))) (lo':=[]) (by kernel_rfl)⟩
theorem size_pos {s:ByteArray}(h:(s.toList==(⟨#[]⟩:ByteArray).toList)=false):0<s.size:=by
 rcases Nat.eq_zero_or_pos s.size with h0|h0
 ·exfalso
  have:s=⟨#[]⟩:=by
   cases s with
   |mk d=>congr 1;exact Array.eq_empty_of_size_eq_zero h0
  rw [this] at h
  simp at h
 ·exact h0
theorem QG (s:ByteArray)(hs:s.size≤60000):mY 60002 132 [strX s]:=by
 have hl:(byteRow s).length=s.size:=by
  unfold byteRow
  rw [List.length_map,Array.length_toList]
  rfl
 have:=scan (B:=0) (b:=loopAt 132 0) (H:=fun j=>naH s (byteRow s).length j) (τ:=naH s (byteRow s).length 0) (n:=(byteRow s).length) (e:=.exit 0) (fin:=⟨[(23,.sl false 1 (byteRow s)),(24,nat (byteRow s).length),(25,nat (byteRow s).length),(26,boolX false)],[]⟩) (fun r=>r=⟨[(2,boolX false)],[]⟩) (by kernel_rfl) (fun j hj=>by
  obtain ⟨u,hu⟩:=MV hj
  exact QH s u _ j hj (by omega) hu)
  (fun M _=>run_of [(26,.b false)] [] (pf1 (aJ (Nat.lt_irrefl (byteRow s).length))) (lo':=[]) (by kernel_rfl)) (by simp)
 apply dw
 cases h1:(s.toList==(⟨#[]⟩:ByteArray).toList) with
 |true=>
  exact ⟨false,fun N hN=>pure_of [(6,.b true)] [] (pf1 h1) (x:=boolX false) (bx:=[]) (by kernel_rfl) rfl⟩
 |false=>
  cases h2:decide (32<Int.ofNat s.size) with
  |true=>
   exact ⟨false,fun N hN=>pure_of [(6,.b false),(10,.b true)] [] (pf2 h1 h2) (x:=boolX false) (bx:=[]) (by kernel_rfl) rfl⟩
  |false=>
   have hpos:=size_pos h1
   cases h3:decide ((((s[0]?).getD 0).toNat:Int)<97) with
   |true=>
    exact ⟨false,fun N hN=>pure_of [(6,.b false),(10,.b false),(14,.at),(15,.b true)] [] (pf4 h1 h2 hpos h3) (x:=boolX false) (bx:=[]) (by kernel_rfl) rfl⟩
   |false=>
    cases h4:decide (122<(((s[0]?).getD 0).toNat:Int)) with
    |true=>
     exact ⟨false,fun N hN=>pure_of [(6,.b false),(10,.b false),(14,.at),(15,.b false),(19,.at),(20,.b true)] [] (pf6 h1 h2 hpos h3 hpos h4) (x:=boolX false) (bx:=[]) (by kernel_rfl) rfl⟩
    |false=>
     rcases this with ⟨r,rfl,h⟩|h
     ·exact ⟨false,fun N hN=>pure_of [(6,.b false),(10,.b false),(14,.at),(15,.b false),(19,.at),(20,.b false)] [(.ret,⟨[(2,boolX false)],[]⟩)] (pf7 h1 h2 hpos h3 hpos h4 (h N (by omega) (by omega))) (x:=boolX false) (bx:=[]) (by kernel_rfl) rfl⟩
     ·exact ⟨true,fun N hN=>pure_of [(6,.b false),(10,.b false),(14,.at),(15,.b false),(19,.at),(20,.b false)] [(.exit 0,⟨[(23,.sl false 1 (byteRow s)),(24,nat (byteRow s).length),(25,nat (byteRow s).length),(26,boolX false)],[]⟩)] (pf7 h1 h2 hpos h3 hpos h4 (h N (by omega) (by omega))) (x:=boolX true) (bx:=[]) (by kernel_rfl) rfl⟩
theorem CY (s:ByteArray):mY 60002 132 [strX s]:=by
 by_cases hs:s.size≤60000
 ·exact QG s hs
 ·apply dw
  have h2:decide (32<Int.ofNat s.size)=true:=by simp only [Int.ofNat_eq_natCast,decide_eq_true_eq];omega
  cases h1:(s.toList==(⟨#[]⟩:ByteArray).toList) with
  |true=>exact ⟨false,fun N hN=>pure_of [(6,.b true)] [] (pf1 h1) (x:=boolX false) (bx:=[]) (by kernel_rfl) rfl⟩
  |false=>exact ⟨false,fun N hN=>pure_of [(6,.b false),(10,.b true)] [] (pf2 h1 h2) (x:=boolX false) (bx:=[]) (by kernel_rfl) rfl⟩
theorem zcj (v:Val):kR 60003 133 [.agg v.cells]:=by
 obtain ⟨k,i,s,t,l,f⟩:=v
 obtain ⟨b,hb⟩:=CY t
 obtain ⟨c,cr,hc⟩:=pU (Int.ofNat (aj l).length) 1 3 (by decide)
 apply bY
 cases b with
 |true=>
  cases h1:(Int.ofNat (aj l).length==0) with
  |true=>
   exact ⟨4,by decide,fun N hN=>pure_of [(6,.p (boolX true)),(12,.b true)] [] (pf2 (hb N (by omega)) h1) (x:=num (4)) (bx:=[]) (by kernel_rfl) rfl⟩
  |false=>
   exact ⟨c,cr,fun N hN=>pure_of [(6,.p (boolX true)),(12,.b false),(16,.p (num c))] [] (pf3 (hb N (by omega)) h1 (hc N (by omega))) (x:=num (c)) (bx:=[]) (by kernel_rfl) rfl⟩
 |false=>
  exact ⟨12,by decide,fun N hN=>pure_of [(6,.p (boolX false))] [] (pf1 (hb N (by omega))) (x:=num (12)) (bx:=[]) (by kernel_rfl) rfl⟩
end Go.Proofs.YtjbndifenhihhaaGreatDoor
namespace Go.Proofs.YtjbndifenhihhaaGreatDoor
open Go.Em
set_option maxRecDepth 100000
section
variable (k i s:Int) (t:ByteArray) (l f:List (List X)) (n j:Nat)
def reH:St:=⟨[(1,.ptr 0 0 0),(14,.sl false 7 f),(15,nat n),(16,nat j)],[.var [num k,num i,num s,strX t,.sl false 6 l,.sl false 7 f]]⟩
end
theorem sN {j:Nat}(h:j<4294967296):IntKind.i64.wrap (Int.ofNat (j+1)-1)=Int.ofNat j:=by
 rw [IntKind.wrap_i64];simp only [Int.ofNat_eq_natCast];omega
theorem yY {j:Nat}:decide (0<Int.ofNat (j+1))=true:=by simp only [Int.ofNat_eq_natCast,decide_eq_true_eq];omega
theorem Nj:decide (0<Int.ofNat 0)=false:=rfl
theorem UN (k i s:Int)(t:ByteArray)(l:List (List X))(f:List (ByteArray×Val))(j:Nat)(hl:f.length≤60000)(hj:j<f.length):
  (∃r,(∃c:Int,(0≤c∧c≤100)∧∃bx,r=⟨[(2,num c)],bx⟩)∧∀M,60002≤M→run (callF tab ext M) 0 M (loopAt 131 0) (reH k i s t l (ay f) (ay f).length j)=some (.ret,r))∨(∃υ,canon 0 υ=some (reH k i s t l (ay f) (ay f).length (j+1))∧∀M,60002≤M→run (callF tab ext M) 0 M (loopAt 131 0) (reH k i s t l (ay f) (ay f).length j)=some (.norm,υ)):=by
 have hn:=aZ f
 have hg:=gY hj
 obtain ⟨b,hb⟩:=CY f[j].1
 generalize f[j]=p at hg hb
 obtain ⟨p0,p1,p2,p3,p4,p5,p6⟩:=p
 have hlt:=aI (j:=j) (k:=(ay f).length) (by omega)
 cases b with
 |false=>
  exact .inl ⟨⟨[(2,num 12)],[.var [num k,num i,num s,strX t,.sl false 6 l,.sl false 7 (ay f)],.var (strX p0::(Val.mk p1 p2 p3 p4 p5 p6).cells)]⟩,⟨12,by decide,_,rfl⟩,fun M hM=>run_of [(17,.b true),(19,.e (strX p0::(Val.mk p1 p2 p3 p4 p5 p6).cells)),(24,.p (boolX false))] [] (pf3 hlt hg (hb M hM)) (lo':=[]) (by kernel_rfl)⟩
 |true=>
  cases j with
  |zero=>
   exact .inr ⟨⟨[(1,.ptr 0 0 0),(14,.sl false 7 (ay f)),(15,nat (ay f).length),(16,nat (0+1))],[.var [num k,num i,num s,strX t,.sl false 6 l,.sl false 7 (ay f)],.var (strX p0::(Val.mk p1 p2 p3 p4 p5 p6).cells)]⟩,by kernel_rfl,fun M hM=>run_of [(17,.b true),(19,.e (strX p0::(Val.mk p1 p2 p3 p4 p5 p6).cells)),(24,.p (boolX true)),(28,.b false),(43,.b false),(56,.i (Int.ofNat (0+1)))] [] (pf6 hlt hg (hb M hM) Nj Nj (next_nat (j:=0) (by omega))) (lo':=[]) (by kernel_rfl)⟩
  |succ j=>
   have hj':j<f.length:=by omega
   have hq:=gY hj'
   generalize f[j]=q at hq
   obtain ⟨q0,q1,q2,q3,q4,q5,q6⟩:=q
   cases h1:(p0.toList==q0.toList) with
   |true=>
    exact .inl ⟨⟨[(2,num 7)],[.var [num k,num i,num s,strX t,.sl false 6 l,.sl false 7 (ay f)],.var (strX p0::(Val.mk p1 p2 p3 p4 p5 p6).cells)]⟩,⟨7,by decide,_,rfl⟩,fun M hM=>run_of [(17,.b true),(19,.e (strX p0::(Val.mk p1 p2 p3 p4 p5 p6).cells)),(24,.p (boolX true)),(28,.b true),(35,.i (Int.ofNat j)),(36,.e (strX q0::(Val.mk q1 q2 q3 q4 q5 q6).cells)),(39,.b true)] [] (pf7 hlt hg (hb M hM) (yY (j:=j)) (sN (j:=j) (by omega)) hq h1) (lo':=[]) (by kernel_rfl)⟩
   |false=>
    cases h2:Op.bytesLess p0.toList q0.toList with
    |true=>
     exact .inl ⟨⟨[(2,num 24)],[.var [num k,num i,num s,strX t,.sl false 6 l,.sl false 7 (ay f)],.var (strX p0::(Val.mk p1 p2 p3 p4 p5 p6).cells)]⟩,⟨24,by decide,_,rfl⟩,fun M hM=>run_of [(17,.b true),(19,.e (strX p0::(Val.mk p1 p2 p3 p4 p5 p6).cells)),(24,.p (boolX true)),(28,.b true),(35,.i (Int.ofNat j)),(36,.e (strX q0::(Val.mk q1 q2 q3 q4 q5 q6).cells)),(39,.b false),(43,.b true),(50,.i (Int.ofNat j)),(51,.e (strX q0::(Val.mk q1 q2 q3 q4 q5 q6).cells)),(54,.b true)] [] (zml hlt hg (hb M hM) (yY (j:=j)) (sN (j:=j) (by omega)) hq h1 (yY (j:=j)) (sN (j:=j) (by omega)) hq h2) (lo':=[]) (by kernel_rfl)⟩
    |false=>
     exact .inr ⟨⟨[(1,.ptr 0 0 0),(14,.sl false 7 (ay f)),(15,nat (ay f).length),(16,nat ((j+1)+1))],[.var [num k,num i,num s,strX t,.sl false 6 l,.sl false 7 (ay f)],.var (strX p0::(Val.mk p1 p2 p3 p4 p5 p6).cells)]⟩,by kernel_rfl,fun M hM=>run_of [(17,.b true),(19,.e (strX p0::(Val.mk p1 p2 p3 p4 p5 p6).cells)),(24,.p (boolX true)),(28,.b true),(35,.i (Int.ofNat j)),(36,.e (strX q0::(Val.mk q1 q2 q3 q4 q5 q6).cells)),(39,.b false),(43,.b true),(50,.i (Int.ofNat j)),(51,.e (strX q0::(Val.mk q1 q2 q3 q4 q5 q6).cells)),(54,.b false),(56,.i (Int.ofNat ((j+1)+1)))] [] (ziI hlt hg (hb M hM) (yY (j:=j)) (sN (j:=j) (by omega)) hq h1 (yY (j:=j)) (sN (j:=j) (by omega)) hq h2 (next_nat (j:=(j+1)) (by omega))) (lo':=[]) (by kernel_rfl)⟩
theorem zck (v:Val)(hv:v.ok):kR 60003 131 [.agg v.cells]:=by
 obtain ⟨k,i,s,t,l,f⟩:=v
 unfold Val.ok at hv
 simp only [Val.size] at hv
 have hf:=gU f
 have hn:=aZ f
 obtain ⟨c,cr,hc⟩:=pU (Int.ofNat (ay f).length) 64 9 (by decide)
 have:=scan (B:=60002) (b:=loopAt 131 0) (H:=fun j=>reH k i s t (aj l) (ay f) (ay f).length j) (τ:=reH k i s t (aj l) (ay f) (ay f).length 0) (n:=(ay f).length) (e:=.exit 0) (fin:=⟨[(1,.ptr 0 0 0),(14,.sl false 7 (ay f)),(15,nat (ay f).length),(16,nat (ay f).length),(17,boolX false)],[.var [num k,num i,num s,strX t,.sl false 6 (aj l),.sl false 7 (ay f)]]⟩) (fun r=>∃c:Int,(0≤c∧c≤100)∧∃bx,r=⟨[(2,num c)],bx⟩) (by kernel_rfl)
  (fun j hj=>UN k i s t (aj l) f j (by omega) (by omega))
  (fun M _=>run_of [(17,.b false)] [] (pf1 (aJ (Nat.lt_irrefl (ay f).length))) (lo':=[]) (by kernel_rfl)) (by simp)
 apply bY
 cases h:(!(c==0)) with
 |true=>exact ⟨c,cr,fun N hN=>pure_of [(9,.p (num c)),(11,.b true)] [] (pf2 (hc N (by omega)) h) (x:=num c) (bx:=[]) (by kernel_rfl) rfl⟩
 |false=>
  rcases this with ⟨r,⟨d,dr,bx,rfl⟩,hr⟩|hr
  ·exact ⟨d,dr,fun N hN=>pure_of [(9,.p (num c)),(11,.b false)] [(.ret,⟨[(2,num d)],bx⟩)] (pf3 (hc N (by omega)) h (hr N (by omega) (by omega))) (x:=num d) (bx:=[]) (by kernel_rfl) rfl⟩
  ·exact ⟨0,by decide,fun N hN=>pure_of [(9,.p (num c)),(11,.b false)] [(.exit 0,⟨[(1,.ptr 0 0 0),(14,.sl false 7 (ay f)),(15,nat (ay f).length),(16,nat (ay f).length),(17,boolX false)],[.var [num k,num i,num s,strX t,.sl false 6 (aj l),.sl false 7 (ay f)]]⟩)] (pf3 (hc N (by omega)) h (hr N (by omega) (by omega))) (x:=num 0) (bx:=[]) (by kernel_rfl) rfl⟩
end Go.Proofs.YtjbndifenhihhaaGreatDoor
namespace Go.Proofs.YtjbndifenhihhaaGreatDoor
open Go.Em
set_option maxRecDepth 100000
def qK:Val→List Val
 |.mk k _ _ _ l f=>if k=8∨k=10 then l else if k=9 then f.map (·.2) else []
def paH (f acc:List (List X))(n j:Nat):St:=⟨[(3,.bs 0 0 j),(16,.sl false 7 f),(17,nat n),(18,nat j)],[.row 6 acc]⟩
def zmm (f acc:List (List X))(n j:Nat)(x y:List X):St:=⟨[(3,.bs 2 0 (j+1)),(16,.sl false 7 f),(17,nat n),(18,nat (j+1))],[.dead,.var x,.row 6 (acc++[y])]⟩
theorem UZ (f acc:List (List X))(n j:Nat)(x y:List X):canon 0 (zmm f acc n j x y)=some (paH f (acc++[y]) n (j+1)):=by kernel_rfl
theorem QA (N:Nat)(v:Val)(hv:v.ok)(hN:60002≤N):Gam.pureD (callF tab ext N) 188 [.agg v.cells]=some (.sl false 6 (aj (qK v))):=by
 obtain ⟨M,rfl⟩:∃M,N=M+1:=⟨N-1,by omega⟩
 obtain ⟨k,i,s,t,l,f⟩:=v
 unfold Val.ok at hv
 simp only [Val.size] at hv
 have hf:=gU f
 have hn:=aZ f
 simp only [qK]
 cases h1:(k==8) with
 |true=>
  have:k=8:=by simpa using h1
  rw [if_pos (Or.inl this)]
  exact pure_of [(9,.b true)] [] (pf1 h1) (x:=.sl false 6 (aj l)) (bx:=[]) (by kernel_rfl) rfl
 |false=>
  have n8:k≠8:=by simpa using h1
  cases h2:(k==10) with
  |true=>
   have:k=10:=by simpa using h2
   rw [if_pos (Or.inr this)]
   exact pure_of [(9,.b false),(10,.b true)] [] (pf2 h1 h2) (x:=.sl false 6 (aj l)) (bx:=[]) (by kernel_rfl) rfl
  |false=>
   have n10:k≠10:=by simpa using h2
   rw [if_neg (by rintro (h|h);exact n8 h;exact n10 h)]
   cases h3:(k==9) with
   |false=>
    have n9:k≠9:=by simpa using h3
    rw [if_neg n9]
    exact pure_of [(9,.b false),(10,.b false),(14,.b false)] [] (pf3 h1 h2 h3) (x:=.sl true 6 []) (bx:=[]) (by kernel_rfl) rfl
   |true=>
    have:k=9:=by simpa using h3
    rw [if_pos this]
    have hloop:run (callF tab ext M) 0 M (.loop (loopAt 188 0)) ⟨[(3,.bs 1 0 0),(16,.sl false 7 (ay f)),(17,nat (ay f).length),(18,nat 0)],[.var (Val.mk k i s t l f).cells,.row 6 []]⟩=some (.exit 1,⟨[(3,.bs 0 0 (ay f).length),(16,.sl false 7 (ay f)),(17,nat (ay f).length),(18,nat (ay f).length),(19,boolX false)],[.row 6 (aj (f.map (·.2)))]⟩):=by
     refine dR (σ:=fun j=>paH (ay f) ((aj (f.map (·.2))).take j) (ay f).length j) (k:=(ay f).length) (by kernel_rfl) (fun j hj=>?_) ?_ (by simp) (by omega)
     ·have hj':j<f.length:=by omega
      have hg:=gY hj'
      have hg2:(aj (f.map (·.2)))[j]?=some f[j].2.cells:=by rw [kM];simp [hj']
      have ht:=fM hg2
      have hlen:j=((aj (f.map (·.2))).take j).length:=by rw [List.length_take,aO,List.length_map];omega
      generalize f[j]=p at hg ht
      obtain ⟨p0,p1,p2,p3,p4,p5,p6⟩:=p
      refine ⟨zmm (ay f) ((aj (f.map (·.2))).take j) (ay f).length j (strX p0::(Val.mk p1 p2 p3 p4 p5 p6).cells) (Val.mk p1 p2 p3 p4 p5 p6).cells,run_of [(19,.b true),(20,.e (strX p0::(Val.mk p1 p2 p3 p4 p5 p6).cells)),(26,.app),(27,.i (Int.ofNat (j+1)))] []
       (pf4 (aI (j:=j) (k:=(ay f).length) (by omega)) hg (fZ (acc:=(aj (f.map (·.2))).take j) j 0 88 hlen (by omega) (by omega)) (next_nat (j:=j) (by omega))) (lo':=[]) (by kernel_rfl),?_⟩
      rw [UZ]
      rw [←ht]
     ·have ht:(aj (f.map (·.2))).take (ay f).length=aj (f.map (·.2)):=List.take_of_length_le (by rw [aO,List.length_map];omega)
      rw [ht]
      exact run_of [(19,.b false)] [] (pf1 (aJ (Nat.lt_irrefl (ay f).length))) (lo':=[]) (by kernel_rfl)
    have hd:(X.bs 0 0 (ay f).length).data [.row 6 (aj (f.map (·.2)))] false=some (.sl false 6 (aj (f.map (·.2)))):=by
     have hl:(aj (f.map (·.2))).length=(ay f).length:=by rw [aO,List.length_map,hn]
     simp only [X.data,rowOf,List.getElem?_cons_zero,Nat.zero_add,hl,Nat.le_refl,if_true,Option.map_some,List.drop_zero]
     rw [List.take_of_length_le (by omega)]
    exact pure_of [(9,.b false),(10,.b false),(14,.b true)] [(.exit 1,⟨[(3,.bs 0 0 (ay f).length),(16,.sl false 7 (ay f)),(17,nat (ay f).length),(18,nat (ay f).length),(19,boolX false)],[.row 6 (aj (f.map (·.2)))]⟩)]
     (pf4 h1 h2 h3 hloop) (bx:=[.row 6 (aj (f.map (·.2)))]) (by kernel_rfl) hd
def Qs:C→List (C×C)
 |.seq a b|.cond _ a b=>Qs a++Qs b
 |.block _ b|.loop b=>Qs b
 |.rf _ _ _ a b=>(a,b)::(Qs a++Qs b)
 |_=>[]
noncomputable def zfS (f:Nat):C×C:=match tab f with
 |some fd=>(Qs fd.body).getD 0 (.skip,.skip)
 |none=>(.skip,.skip)
noncomputable def recC (st:LoopState)(p:Option Ex):Bx:=.loop st p [(2,.ptr 1 0 0),(3,.ptr 2 0 0),(4,.ptr 3 0 0)] [11,12] (zfS 26).1 (zfS 26).2
def qI:List X:=[.v .nilFunc,.fn 119 [],.fn 121 [],.fn 122 [],.fn 124 [],.fn 127 [],.fn 128 [],.fn 129 [],.fn 130 [],.fn 131 [],.fn 133 []]
noncomputable def goC (n:Nat):List Bx:=[recC .ready none,.var [num 0],.var qI,.var [nat n]]
noncomputable def WS (c:Int)(n:Nat):List Bx:=[recC .done (some .ret),.var [num c],.var qI,.var [nat n]]
def Round (v:Val)(lev:Int)(n:Nat):Prop:=
 (∃c:Int,(0≤c∧c≤100)∧∀N,60010≤N→callF tab ext N .yl [.yl 0,num lev,.agg v.cells] (goC n)=some (boolX false,WS c (n+1)))∨
 (n≤4096∧∀N,60010≤N→callF tab ext N .yl [.yl 0,num lev,.agg v.cells] (goC n)=some (boolX true,goC (n+1)))
theorem dW {v:Val}{lev:Int}{n:Nat}(h:(∃c:Int,(0≤c∧c≤100)∧∀N,60009≤N→callF tab ext (N+1) .yl [.yl 0,num lev,.agg v.cells] (goC n)=some (boolX false,WS c (n+1)))∨
 (n≤4096∧∀N,60009≤N→callF tab ext (N+1) .yl [.yl 0,num lev,.agg v.cells] (goC n)=some (boolX true,goC (n+1)))):Round v lev n:=by
 rcases h with ⟨c,cr,h⟩|⟨hn,h⟩
 ·refine .inl ⟨c,cr,fun N hN=>?_⟩
  obtain ⟨M,rfl⟩:∃M,N=M+1:=⟨N-1,by omega⟩
  exact h M (by omega)
 ·refine .inr ⟨hn,fun N hN=>?_⟩
  obtain ⟨M,rfl⟩:∃M,N=M+1:=⟨N-1,by omega⟩
  exact h M (by omega)
theorem jZ (v:Val)(N:Nat)(hN:60009≤N):Gam.pureD (callF tab ext N) 27 [.agg v.cells]=some (boolX (iw v)):=by
 obtain ⟨M,rfl⟩:∃M,N=M+1:=⟨N-1,by omega⟩
 exact N7 M v
theorem iY {n:Nat}(h:decide (4096<Int.ofNat (n+1))=false):n≤4096:=by
 have:=of_decide_eq_false h
 simp only [Int.ofNat_eq_natCast] at this
 omega
theorem zgK (i s:Int)(t:ByteArray)(l:List Val)(f:List (ByteArray×Val))(lev:Int)(n:Nat)(hn:n<4294967296):Round (Val.mk 1 i s t l f) lev n:=by
 obtain ⟨b,hb⟩:=zju i s t l f
 obtain ⟨c,cr,hc⟩:=zcs (Val.mk 1 i s t l f)
 apply dW
 cases h1:decide (4096<Int.ofNat (n+1)) with
 |true=>
  exact .inl ⟨9,by decide,fun N hN=>aG [(14,.i (Int.ofNat (n+1))),(17,.b true)] (pf2 (next_nat (j:=n) hn) h1) (by kernel_rfl)⟩
 |false=>
  cases h2:decide (8<lev) with
  |true=>
   exact .inl ⟨23,by decide,fun N hN=>aG [(14,.i (Int.ofNat (n+1))),(17,.b false),(20,.b true)] (pf3 (next_nat (j:=n) hn) h1 h2) (by kernel_rfl)⟩
  |false=>
   have hz:=jZ (Val.mk 1 i s t l f)
   generalize iw (Val.mk 1 i s t l f)=z at hz
   cases z with
   |true=>
    exact .inl ⟨19,by decide,fun N hN=>aG [(14,.i (Int.ofNat (n+1))),(17,.b false),(20,.b false),(23,.p (boolX true))] (pf4 (next_nat (j:=n) hn) h1 h2 (hz N hN)) (by kernel_rfl)⟩
   |false=>
    cases b with
    |true=>
     cases h3:(!(c==0)) with
     |true=>
      exact .inl ⟨c,cr,fun N hN=>aG [(14,.i (Int.ofNat (n+1))),(17,.b false),(20,.b false),(23,.p (boolX false)),(35,.p (boolX true)),(42,.p (num c)),(44,.b true)] (pf7 (next_nat (j:=n) hn) h1 h2 (hz N hN) (hb N (by omega)) (hc N (by omega)) h3) (by kernel_rfl)⟩
     |false=>
      exact .inr ⟨iY h1,fun N hN=>aG [(14,.i (Int.ofNat (n+1))),(17,.b false),(20,.b false),(23,.p (boolX false)),(35,.p (boolX true)),(42,.p (num c)),(44,.b false)] (pf7 (next_nat (j:=n) hn) h1 h2 (hz N hN) (hb N (by omega)) (hc N (by omega)) h3) (by kernel_rfl)⟩
    |false=>
     exact .inl ⟨3,by decide,fun N hN=>aG [(14,.i (Int.ofNat (n+1))),(17,.b false),(20,.b false),(23,.p (boolX false)),(35,.p (boolX false))] (pf5 (next_nat (j:=n) hn) h1 h2 (hz N hN) (hb N (by omega))) (by kernel_rfl)⟩
theorem zgJ (i s:Int)(t:ByteArray)(l:List Val)(f:List (ByteArray×Val))(lev:Int)(n:Nat)(hn:n<4294967296):Round (Val.mk 2 i s t l f) lev n:=by
 obtain ⟨b,hb⟩:=zjt i s t l f
 obtain ⟨c,cr,hc⟩:=zcr (Val.mk 2 i s t l f)
 apply dW
 cases h1:decide (4096<Int.ofNat (n+1)) with
 |true=>
  exact .inl ⟨9,by decide,fun N hN=>aG [(14,.i (Int.ofNat (n+1))),(17,.b true)] (pf2 (next_nat (j:=n) hn) h1) (by kernel_rfl)⟩
 |false=>
  cases h2:decide (8<lev) with
  |true=>
   exact .inl ⟨23,by decide,fun N hN=>aG [(14,.i (Int.ofNat (n+1))),(17,.b false),(20,.b true)] (pf3 (next_nat (j:=n) hn) h1 h2) (by kernel_rfl)⟩
  |false=>
   have hz:=jZ (Val.mk 2 i s t l f)
   generalize iw (Val.mk 2 i s t l f)=z at hz
   cases z with
   |true=>
    exact .inl ⟨19,by decide,fun N hN=>aG [(14,.i (Int.ofNat (n+1))),(17,.b false),(20,.b false),(23,.p (boolX true))] (pf4 (next_nat (j:=n) hn) h1 h2 (hz N hN)) (by kernel_rfl)⟩
   |false=>
    cases b with
    |true=>
     cases h3:(!(c==0)) with
     |true=>
      exact .inl ⟨c,cr,fun N hN=>aG [(14,.i (Int.ofNat (n+1))),(17,.b false),(20,.b false),(23,.p (boolX false)),(35,.p (boolX true)),(42,.p (num c)),(44,.b true)] (pf7 (next_nat (j:=n) hn) h1 h2 (hz N hN) (hb N (by omega)) (hc N (by omega)) h3) (by kernel_rfl)⟩
     |false=>
      exact .inr ⟨iY h1,fun N hN=>aG [(14,.i (Int.ofNat (n+1))),(17,.b false),(20,.b false),(23,.p (boolX false)),(35,.p (boolX true)),(42,.p (num c)),(44,.b false)] (pf7 (next_nat (j:=n) hn) h1 h2 (hz N hN) (hb N (by omega)) (hc N (by omega)) h3) (by kernel_rfl)⟩
    |false=>
     exact .inl ⟨3,by decide,fun N hN=>aG [(14,.i (Int.ofNat (n+1))),(17,.b false),(20,.b false),(23,.p (boolX false)),(35,.p (boolX false))] (pf5 (next_nat (j:=n) hn) h1 h2 (hz N hN) (hb N (by omega))) (by kernel_rfl)⟩
theorem zgI (i s:Int)(t:ByteArray)(l:List Val)(f:List (ByteArray×Val))(lev:Int)(n:Nat)(hn:n<4294967296):Round (Val.mk 3 i s t l f) lev n:=by
 obtain ⟨b,hb⟩:=zjs i s t l f
 obtain ⟨c,cr,hc⟩:=zcq (Val.mk 3 i s t l f)
 apply dW
 cases h1:decide (4096<Int.ofNat (n+1)) with
 |true=>
  exact .inl ⟨9,by decide,fun N hN=>aG [(14,.i (Int.ofNat (n+1))),(17,.b true)] (pf2 (next_nat (j:=n) hn) h1) (by kernel_rfl)⟩
 |false=>
  cases h2:decide (8<lev) with
  |true=>
   exact .inl ⟨23,by decide,fun N hN=>aG [(14,.i (Int.ofNat (n+1))),(17,.b false),(20,.b true)] (pf3 (next_nat (j:=n) hn) h1 h2) (by kernel_rfl)⟩
  |false=>
   have hz:=jZ (Val.mk 3 i s t l f)
   generalize iw (Val.mk 3 i s t l f)=z at hz
   cases z with
   |true=>
    exact .inl ⟨19,by decide,fun N hN=>aG [(14,.i (Int.ofNat (n+1))),(17,.b false),(20,.b false),(23,.p (boolX true))] (pf4 (next_nat (j:=n) hn) h1 h2 (hz N hN)) (by kernel_rfl)⟩
   |false=>
    cases b with
    |true=>
     cases h3:(!(c==0)) with
     |true=>
      exact .inl ⟨c,cr,fun N hN=>aG [(14,.i (Int.ofNat (n+1))),(17,.b false),(20,.b false),(23,.p (boolX false)),(35,.p (boolX true)),(42,.p (num c)),(44,.b true)] (pf7 (next_nat (j:=n) hn) h1 h2 (hz N hN) (hb N (by omega)) (hc N (by omega)) h3) (by kernel_rfl)⟩
     |false=>
      exact .inr ⟨iY h1,fun N hN=>aG [(14,.i (Int.ofNat (n+1))),(17,.b false),(20,.b false),(23,.p (boolX false)),(35,.p (boolX true)),(42,.p (num c)),(44,.b false)] (pf7 (next_nat (j:=n) hn) h1 h2 (hz N hN) (hb N (by omega)) (hc N (by omega)) h3) (by kernel_rfl)⟩
    |false=>
     exact .inl ⟨3,by decide,fun N hN=>aG [(14,.i (Int.ofNat (n+1))),(17,.b false),(20,.b false),(23,.p (boolX false)),(35,.p (boolX false))] (pf5 (next_nat (j:=n) hn) h1 h2 (hz N hN) (hb N (by omega))) (by kernel_rfl)⟩
theorem zgH (i s:Int)(t:ByteArray)(l:List Val)(f:List (ByteArray×Val))(lev:Int)(n:Nat)(hn:n<4294967296):Round (Val.mk 4 i s t l f) lev n:=by
 obtain ⟨b,hb⟩:=zjr i s t l f
 obtain ⟨c,cr,hc⟩:=zcp (Val.mk 4 i s t l f)
 apply dW
 cases h1:decide (4096<Int.ofNat (n+1)) with
 |true=>
  exact .inl ⟨9,by decide,fun N hN=>aG [(14,.i (Int.ofNat (n+1))),(17,.b true)] (pf2 (next_nat (j:=n) hn) h1) (by kernel_rfl)⟩
 |false=>
  cases h2:decide (8<lev) with
  |true=>
   exact .inl ⟨23,by decide,fun N hN=>aG [(14,.i (Int.ofNat (n+1))),(17,.b false),(20,.b true)] (pf3 (next_nat (j:=n) hn) h1 h2) (by kernel_rfl)⟩
  |false=>
   have hz:=jZ (Val.mk 4 i s t l f)
   generalize iw (Val.mk 4 i s t l f)=z at hz
   cases z with
   |true=>
    exact .inl ⟨19,by decide,fun N hN=>aG [(14,.i (Int.ofNat (n+1))),(17,.b false),(20,.b false),(23,.p (boolX true))] (pf4 (next_nat (j:=n) hn) h1 h2 (hz N hN)) (by kernel_rfl)⟩
   |false=>
    cases b with
    |true=>
     cases h3:(!(c==0)) with
     |true=>
      exact .inl ⟨c,cr,fun N hN=>aG [(14,.i (Int.ofNat (n+1))),(17,.b false),(20,.b false),(23,.p (boolX false)),(35,.p (boolX true)),(42,.p (num c)),(44,.b true)] (pf7 (next_nat (j:=n) hn) h1 h2 (hz N hN) (hb N (by omega)) (hc N (by omega)) h3) (by kernel_rfl)⟩
     |false=>
      exact .inr ⟨iY h1,fun N hN=>aG [(14,.i (Int.ofNat (n+1))),(17,.b false),(20,.b false),(23,.p (boolX false)),(35,.p (boolX true)),(42,.p (num c)),(44,.b false)] (pf7 (next_nat (j:=n) hn) h1 h2 (hz N hN) (hb N (by omega)) (hc N (by omega)) h3) (by kernel_rfl)⟩
    |false=>
     exact .inl ⟨3,by decide,fun N hN=>aG [(14,.i (Int.ofNat (n+1))),(17,.b false),(20,.b false),(23,.p (boolX false)),(35,.p (boolX false))] (pf5 (next_nat (j:=n) hn) h1 h2 (hz N hN) (hb N (by omega))) (by kernel_rfl)⟩
theorem zgG (i s:Int)(t:ByteArray)(l:List Val)(f:List (ByteArray×Val))(lev:Int)(n:Nat)(hn:n<4294967296):Round (Val.mk 5 i s t l f) lev n:=by
 obtain ⟨b,hb⟩:=zjq i s t l f
 obtain ⟨c,cr,hc⟩:=zco (Val.mk 5 i s t l f)
 apply dW
 cases h1:decide (4096<Int.ofNat (n+1)) with
 |true=>
  exact .inl ⟨9,by decide,fun N hN=>aG [(14,.i (Int.ofNat (n+1))),(17,.b true)] (pf2 (next_nat (j:=n) hn) h1) (by kernel_rfl)⟩
 |false=>
  cases h2:decide (8<lev) with
  |true=>
   exact .inl ⟨23,by decide,fun N hN=>aG [(14,.i (Int.ofNat (n+1))),(17,.b false),(20,.b true)] (pf3 (next_nat (j:=n) hn) h1 h2) (by kernel_rfl)⟩
  |false=>
   have hz:=jZ (Val.mk 5 i s t l f)
   generalize iw (Val.mk 5 i s t l f)=z at hz
   cases z with
   |true=>
    exact .inl ⟨19,by decide,fun N hN=>aG [(14,.i (Int.ofNat (n+1))),(17,.b false),(20,.b false),(23,.p (boolX true))] (pf4 (next_nat (j:=n) hn) h1 h2 (hz N hN)) (by kernel_rfl)⟩
   |false=>
    cases b with
    |true=>
     cases h3:(!(c==0)) with
     |true=>
      exact .inl ⟨c,cr,fun N hN=>aG [(14,.i (Int.ofNat (n+1))),(17,.b false),(20,.b false),(23,.p (boolX false)),(35,.p (boolX true)),(42,.p (num c)),(44,.b true)] (pf7 (next_nat (j:=n) hn) h1 h2 (hz N hN) (hb N (by omega)) (hc N (by omega)) h3) (by kernel_rfl)⟩
     |false=>
      exact .inr ⟨iY h1,fun N hN=>aG [(14,.i (Int.ofNat (n+1))),(17,.b false),(20,.b false),(23,.p (boolX false)),(35,.p (boolX true)),(42,.p (num c)),(44,.b false)] (pf7 (next_nat (j:=n) hn) h1 h2 (hz N hN) (hb N (by omega)) (hc N (by omega)) h3) (by kernel_rfl)⟩
    |false=>
     exact .inl ⟨3,by decide,fun N hN=>aG [(14,.i (Int.ofNat (n+1))),(17,.b false),(20,.b false),(23,.p (boolX false)),(35,.p (boolX false))] (pf5 (next_nat (j:=n) hn) h1 h2 (hz N hN) (hb N (by omega))) (by kernel_rfl)⟩
theorem zgF (i s:Int)(t:ByteArray)(l:List Val)(f:List (ByteArray×Val))(lev:Int)(n:Nat)(hn:n<4294967296):Round (Val.mk 6 i s t l f) lev n:=by
 obtain ⟨b,hb⟩:=zjo i s t l f
 obtain ⟨c,cr,hc⟩:=zcn (Val.mk 6 i s t l f)
 apply dW
 cases h1:decide (4096<Int.ofNat (n+1)) with
 |true=>
  exact .inl ⟨9,by decide,fun N hN=>aG [(14,.i (Int.ofNat (n+1))),(17,.b true)] (pf2 (next_nat (j:=n) hn) h1) (by kernel_rfl)⟩
 |false=>
  cases h2:decide (8<lev) with
  |true=>
   exact .inl ⟨23,by decide,fun N hN=>aG [(14,.i (Int.ofNat (n+1))),(17,.b false),(20,.b true)] (pf3 (next_nat (j:=n) hn) h1 h2) (by kernel_rfl)⟩
  |false=>
   have hz:=jZ (Val.mk 6 i s t l f)
   generalize iw (Val.mk 6 i s t l f)=z at hz
   cases z with
   |true=>
    exact .inl ⟨19,by decide,fun N hN=>aG [(14,.i (Int.ofNat (n+1))),(17,.b false),(20,.b false),(23,.p (boolX true))] (pf4 (next_nat (j:=n) hn) h1 h2 (hz N hN)) (by kernel_rfl)⟩
   |false=>
    cases b with
    |true=>
     cases h3:(!(c==0)) with
     |true=>
      exact .inl ⟨c,cr,fun N hN=>aG [(14,.i (Int.ofNat (n+1))),(17,.b false),(20,.b false),(23,.p (boolX false)),(35,.p (boolX true)),(42,.p (num c)),(44,.b true)] (pf7 (next_nat (j:=n) hn) h1 h2 (hz N hN) (hb N (by omega)) (hc N (by omega)) h3) (by kernel_rfl)⟩
     |false=>
      exact .inr ⟨iY h1,fun N hN=>aG [(14,.i (Int.ofNat (n+1))),(17,.b false),(20,.b false),(23,.p (boolX false)),(35,.p (boolX true)),(42,.p (num c)),(44,.b false)] (pf7 (next_nat (j:=n) hn) h1 h2 (hz N hN) (hb N (by omega)) (hc N (by omega)) h3) (by kernel_rfl)⟩
    |false=>
     exact .inl ⟨3,by decide,fun N hN=>aG [(14,.i (Int.ofNat (n+1))),(17,.b false),(20,.b false),(23,.p (boolX false)),(35,.p (boolX false))] (pf5 (next_nat (j:=n) hn) h1 h2 (hz N hN) (hb N (by omega))) (by kernel_rfl)⟩
theorem zgE (i s:Int)(t:ByteArray)(l:List Val)(f:List (ByteArray×Val))(lev:Int)(n:Nat)(hn:n<4294967296):Round (Val.mk 7 i s t l f) lev n:=by
 obtain ⟨b,hb⟩:=zjn i s t l f
 obtain ⟨c,cr,hc⟩:=zcm (Val.mk 7 i s t l f)
 apply dW
 cases h1:decide (4096<Int.ofNat (n+1)) with
 |true=>
  exact .inl ⟨9,by decide,fun N hN=>aG [(14,.i (Int.ofNat (n+1))),(17,.b true)] (pf2 (next_nat (j:=n) hn) h1) (by kernel_rfl)⟩
 |false=>
  cases h2:decide (8<lev) with
  |true=>
   exact .inl ⟨23,by decide,fun N hN=>aG [(14,.i (Int.ofNat (n+1))),(17,.b false),(20,.b true)] (pf3 (next_nat (j:=n) hn) h1 h2) (by kernel_rfl)⟩
  |false=>
   have hz:=jZ (Val.mk 7 i s t l f)
   generalize iw (Val.mk 7 i s t l f)=z at hz
   cases z with
   |true=>
    exact .inl ⟨19,by decide,fun N hN=>aG [(14,.i (Int.ofNat (n+1))),(17,.b false),(20,.b false),(23,.p (boolX true))] (pf4 (next_nat (j:=n) hn) h1 h2 (hz N hN)) (by kernel_rfl)⟩
   |false=>
    cases b with
    |true=>
     cases h3:(!(c==0)) with
     |true=>
      exact .inl ⟨c,cr,fun N hN=>aG [(14,.i (Int.ofNat (n+1))),(17,.b false),(20,.b false),(23,.p (boolX false)),(35,.p (boolX true)),(42,.p (num c)),(44,.b true)] (pf7 (next_nat (j:=n) hn) h1 h2 (hz N hN) (hb N (by omega)) (hc N (by omega)) h3) (by kernel_rfl)⟩
     |false=>
      exact .inr ⟨iY h1,fun N hN=>aG [(14,.i (Int.ofNat (n+1))),(17,.b false),(20,.b false),(23,.p (boolX false)),(35,.p (boolX true)),(42,.p (num c)),(44,.b false)] (pf7 (next_nat (j:=n) hn) h1 h2 (hz N hN) (hb N (by omega)) (hc N (by omega)) h3) (by kernel_rfl)⟩
    |false=>
     exact .inl ⟨3,by decide,fun N hN=>aG [(14,.i (Int.ofNat (n+1))),(17,.b false),(20,.b false),(23,.p (boolX false)),(35,.p (boolX false))] (pf5 (next_nat (j:=n) hn) h1 h2 (hz N hN) (hb N (by omega))) (by kernel_rfl)⟩
theorem zgD (i s:Int)(t:ByteArray)(l:List Val)(f:List (ByteArray×Val))(lev:Int)(n:Nat)(hn:n<4294967296):Round (Val.mk 8 i s t l f) lev n:=by
 obtain ⟨b,hb⟩:=zjm i s t l f
 obtain ⟨c,cr,hc⟩:=zcl (Val.mk 8 i s t l f)
 apply dW
 cases h1:decide (4096<Int.ofNat (n+1)) with
 |true=>
  exact .inl ⟨9,by decide,fun N hN=>aG [(14,.i (Int.ofNat (n+1))),(17,.b true)] (pf2 (next_nat (j:=n) hn) h1) (by kernel_rfl)⟩
 |false=>
  cases h2:decide (8<lev) with
  |true=>
   exact .inl ⟨23,by decide,fun N hN=>aG [(14,.i (Int.ofNat (n+1))),(17,.b false),(20,.b true)] (pf3 (next_nat (j:=n) hn) h1 h2) (by kernel_rfl)⟩
  |false=>
   have hz:=jZ (Val.mk 8 i s t l f)
   generalize iw (Val.mk 8 i s t l f)=z at hz
   cases z with
   |true=>
    exact .inl ⟨19,by decide,fun N hN=>aG [(14,.i (Int.ofNat (n+1))),(17,.b false),(20,.b false),(23,.p (boolX true))] (pf4 (next_nat (j:=n) hn) h1 h2 (hz N hN)) (by kernel_rfl)⟩
   |false=>
    cases b with
    |true=>
     cases h3:(!(c==0)) with
     |true=>
      exact .inl ⟨c,cr,fun N hN=>aG [(14,.i (Int.ofNat (n+1))),(17,.b false),(20,.b false),(23,.p (boolX false)),(35,.p (boolX true)),(42,.p (num c)),(44,.b true)] (pf7 (next_nat (j:=n) hn) h1 h2 (hz N hN) (hb N (by omega)) (hc N (by omega)) h3) (by kernel_rfl)⟩
     |false=>
      exact .inr ⟨iY h1,fun N hN=>aG [(14,.i (Int.ofNat (n+1))),(17,.b false),(20,.b false),(23,.p (boolX false)),(35,.p (boolX true)),(42,.p (num c)),(44,.b false)] (pf7 (next_nat (j:=n) hn) h1 h2 (hz N hN) (hb N (by omega)) (hc N (by omega)) h3) (by kernel_rfl)⟩
    |false=>
     exact .inl ⟨3,by decide,fun N hN=>aG [(14,.i (Int.ofNat (n+1))),(17,.b false),(20,.b false),(23,.p (boolX false)),(35,.p (boolX false))] (pf5 (next_nat (j:=n) hn) h1 h2 (hz N hN) (hb N (by omega))) (by kernel_rfl)⟩
theorem zgC (i s:Int)(t:ByteArray)(l:List Val)(f:List (ByteArray×Val))(lev:Int)(n:Nat)(hn:n<4294967296)(hv:(Val.mk 9 i s t l f).ok):Round (Val.mk 9 i s t l f) lev n:=by
 obtain ⟨b,hb⟩:=zjl i s t l f
 obtain ⟨c,cr,hc⟩:=zck (Val.mk 9 i s t l f) hv
 apply dW
 cases h1:decide (4096<Int.ofNat (n+1)) with
 |true=>
  exact .inl ⟨9,by decide,fun N hN=>aG [(14,.i (Int.ofNat (n+1))),(17,.b true)] (pf2 (next_nat (j:=n) hn) h1) (by kernel_rfl)⟩
 |false=>
  cases h2:decide (8<lev) with
  |true=>
   exact .inl ⟨23,by decide,fun N hN=>aG [(14,.i (Int.ofNat (n+1))),(17,.b false),(20,.b true)] (pf3 (next_nat (j:=n) hn) h1 h2) (by kernel_rfl)⟩
  |false=>
   have hz:=jZ (Val.mk 9 i s t l f)
   generalize iw (Val.mk 9 i s t l f)=z at hz
   cases z with
   |true=>
    exact .inl ⟨19,by decide,fun N hN=>aG [(14,.i (Int.ofNat (n+1))),(17,.b false),(20,.b false),(23,.p (boolX true))] (pf4 (next_nat (j:=n) hn) h1 h2 (hz N hN)) (by kernel_rfl)⟩
   |false=>
    cases b with
    |true=>
     cases h3:(!(c==0)) with
     |true=>
      exact .inl ⟨c,cr,fun N hN=>aG [(14,.i (Int.ofNat (n+1))),(17,.b false),(20,.b false),(23,.p (boolX false)),(35,.p (boolX true)),(42,.p (num c)),(44,.b true)] (pf7 (next_nat (j:=n) hn) h1 h2 (hz N hN) (hb N (by omega)) (hc N (by omega)) h3) (by kernel_rfl)⟩
     |false=>
      exact .inr ⟨iY h1,fun N hN=>aG [(14,.i (Int.ofNat (n+1))),(17,.b false),(20,.b false),(23,.p (boolX false)),(35,.p (boolX true)),(42,.p (num c)),(44,.b false)] (pf7 (next_nat (j:=n) hn) h1 h2 (hz N hN) (hb N (by omega)) (hc N (by omega)) h3) (by kernel_rfl)⟩
    |false=>
     exact .inl ⟨3,by decide,fun N hN=>aG [(14,.i (Int.ofNat (n+1))),(17,.b false),(20,.b false),(23,.p (boolX false)),(35,.p (boolX false))] (pf5 (next_nat (j:=n) hn) h1 h2 (hz N hN) (hb N (by omega))) (by kernel_rfl)⟩
theorem zcv (i s:Int)(t:ByteArray)(l:List Val)(f:List (ByteArray×Val))(lev:Int)(n:Nat)(hn:n<4294967296):Round (Val.mk 10 i s t l f) lev n:=by
 obtain ⟨b,hb⟩:=zf9 i s t l f
 obtain ⟨c,cr,hc⟩:=zcj (Val.mk 10 i s t l f)
 apply dW
 cases h1:decide (4096<Int.ofNat (n+1)) with
 |true=>
  exact .inl ⟨9,by decide,fun N hN=>aG [(14,.i (Int.ofNat (n+1))),(17,.b true)] (pf2 (next_nat (j:=n) hn) h1) (by kernel_rfl)⟩
 |false=>
  cases h2:decide (8<lev) with
  |true=>
   exact .inl ⟨23,by decide,fun N hN=>aG [(14,.i (Int.ofNat (n+1))),(17,.b false),(20,.b true)] (pf3 (next_nat (j:=n) hn) h1 h2) (by kernel_rfl)⟩
  |false=>
   have hz:=jZ (Val.mk 10 i s t l f)
   generalize iw (Val.mk 10 i s t l f)=z at hz
   cases z with
   |true=>
    exact .inl ⟨19,by decide,fun N hN=>aG [(14,.i (Int.ofNat (n+1))),(17,.b false),(20,.b false),(23,.p (boolX true))] (pf4 (next_nat (j:=n) hn) h1 h2 (hz N hN)) (by kernel_rfl)⟩
   |false=>
    cases b with
    |true=>
     cases h3:(!(c==0)) with
     |true=>
      exact .inl ⟨c,cr,fun N hN=>aG [(14,.i (Int.ofNat (n+1))),(17,.b false),(20,.b false),(23,.p (boolX false)),(35,.p (boolX true)),(42,.p (num c)),(44,.b true)] (pf7 (next_nat (j:=n) hn) h1 h2 (hz N hN) (hb N (by omega)) (hc N (by omega)) h3) (by kernel_rfl)⟩
     |false=>
      exact .inr ⟨iY h1,fun N hN=>aG [(14,.i (Int.ofNat (n+1))),(17,.b false),(20,.b false),(23,.p (boolX false)),(35,.p (boolX true)),(42,.p (num c)),(44,.b false)] (pf7 (next_nat (j:=n) hn) h1 h2 (hz N hN) (hb N (by omega)) (hc N (by omega)) h3) (by kernel_rfl)⟩
    |false=>
     exact .inl ⟨3,by decide,fun N hN=>aG [(14,.i (Int.ofNat (n+1))),(17,.b false),(20,.b false),(23,.p (boolX false)),(35,.p (boolX false))] (pf5 (next_nat (j:=n) hn) h1 h2 (hz N hN) (hb N (by omega))) (by kernel_rfl)⟩
theorem JR (v:Val)(hv:v.ok)(lev:Int)(n:Nat)(hn:n<4294967296):Round v lev n:=by
 obtain ⟨k,i,s,t,l,f⟩:=v
 by_cases h:1≤k∧k≤10
 ·have:k=1∨k=2∨k=3∨k=4∨k=5∨k=6∨k=7∨k=8∨k=9∨k=10:=by omega
  rcases this with rfl|rfl|rfl|rfl|rfl|rfl|rfl|rfl|rfl|rfl
  ·exact zgK i s t l f lev n hn
  ·exact zgJ i s t l f lev n hn
  ·exact zgI i s t l f lev n hn
  ·exact zgH i s t l f lev n hn
  ·exact zgG i s t l f lev n hn
  ·exact zgF i s t l f lev n hn
  ·exact zgE i s t l f lev n hn
  ·exact zgD i s t l f lev n hn
  ·exact zgC i s t l f lev n hn hv
  ·exact zcv i s t l f lev n hn
 ·apply dW
  cases h1:decide (4096<Int.ofNat (n+1)) with
  |true=>
   exact .inl ⟨9,by decide,fun N hN=>aG [(14,.i (Int.ofNat (n+1))),(17,.b true)] (pf2 (next_nat (j:=n) hn) h1) (by kernel_rfl)⟩
  |false=>
   cases h2:decide (8<lev) with
   |true=>
    exact .inl ⟨23,by decide,fun N hN=>aG [(14,.i (Int.ofNat (n+1))),(17,.b false),(20,.b true)] (pf3 (next_nat (j:=n) hn) h1 h2) (by kernel_rfl)⟩
   |false=>
    have hz:=jZ (Val.mk k i s t l f)
    generalize iw (Val.mk k i s t l f)=z at hz
    cases z with
    |true=>
     exact .inl ⟨19,by decide,fun N hN=>aG [(14,.i (Int.ofNat (n+1))),(17,.b false),(20,.b false),(23,.p (boolX true))] (pf4 (next_nat (j:=n) hn) h1 h2 (hz N hN)) (by kernel_rfl)⟩
    |false=>
     cases h3:decide (k<1) with
     |true=>
      exact .inl ⟨11,by decide,fun N hN=>aG [(14,.i (Int.ofNat (n+1))),(17,.b false),(20,.b false),(23,.p (boolX false)),(27,.b true)] (pf5 (next_nat (j:=n) hn) h1 h2 (hz N hN) h3) (by kernel_rfl)⟩
     |false=>
      cases h4:decide (10<k) with
      |true=>
       exact .inl ⟨11,by decide,fun N hN=>aG [(14,.i (Int.ofNat (n+1))),(17,.b false),(20,.b false),(23,.p (boolX false)),(27,.b false),(31,.b true)] (pf6 (next_nat (j:=n) hn) h1 h2 (hz N hN) h3 h4) (by kernel_rfl)⟩
      |false=>
       have e1:=of_decide_eq_false h3
       have e2:=of_decide_eq_false h4
       exact absurd ⟨by omega,by omega⟩ h
end Go.Proofs.YtjbndifenhihhaaGreatDoor
namespace Go.Proofs.YtjbndifenhihhaaGreatDoor
open Go.Em
set_option maxRecDepth 100000
def Visit (v:Val)(lev n:Nat):Prop:=
 (∃(c:Int) (m:Nat),(0≤c∧c≤100)∧∀N,60020+v.size≤N→callF tab ext N (.fn 135) [.agg v.cells,nat lev,.yl 0] (goC n)=some (boolX false,WS c m))∨
 (∃m:Nat,m≤4097∧∀N,60020+v.size≤N→callF tab ext N (.fn 135) [.agg v.cells,nat lev,.yl 0] (goC n)=some (boolX true,goC m))
section
variable (ps:List (List X)) (lev len j n m:Nat) (c:Int) (u:List X)
noncomputable def viH:St:=⟨[(1,nat lev),(2,.yl 0),(15,.sl false 6 ps),(16,nat len),(17,nat j)],goC n⟩
noncomputable def ziE:St:=⟨[(1,nat lev),(2,.yl 0),(15,.sl false 6 ps),(16,nat len),(17,nat j)],goC n++[.var u]⟩
noncomputable def viE:St:=⟨[(1,nat lev),(2,.yl 0),(15,.sl false 6 ps),(16,nat len),(17,nat j),(18,boolX false)],goC n⟩
theorem kY:canon 4 (viH ps lev len j n)=some (viH ps lev len j n):=by kernel_rfl
theorem rG:canon 4 (ziE ps lev len j n u)=some (viH ps lev len j n):=by kernel_rfl
end
theorem BG {B:Nat}(ps:List Val)(lev:Nat)(zmw:lev≤100000)(hl:ps.length≤60000)(hv:∀u,u∈ps→60020+u.size≤B∧∀n,n≤4097→Visit u (lev+1) n):∀d j n,j+d=ps.length→n≤4097→
  (∃(c:Int) (m:Nat) (u:List X),(0≤c∧c≤100)∧∀M F,B≤M→d<F→iter 4 (run (callF tab ext M) 4 M (loopAt 135 0)) F (viH (aj ps) lev (aj ps).length j n)=some (.ret,⟨[(6,boolX false)],WS c m++[.var u]⟩))∨
  (∃m:Nat,m≤4097∧∀M F,B≤M→d<F→iter 4 (run (callF tab ext M) 4 M (loopAt 135 0)) F (viH (aj ps) lev (aj ps).length j n)=some (.exit 0,viE (aj ps) lev (aj ps).length (aj ps).length m))
 |0,j,n,hj,hn=>by
  have hc:=aO ps
  have hj':j=(aj ps).length:=by omega
  subst hj'
  right
  refine ⟨n,hn,fun M F _ hF=>?_⟩
  obtain ⟨F',rfl⟩:∃F',F=F'+1:=⟨F-1,by omega⟩
  exact bC (kY ..) (run_of [(18,.b false)] [] (pf1 (aJ (Nat.lt_irrefl (aj ps).length))) (lo':=[]) (by kernel_rfl)) (by simp)
 |d+1,j,n,hj,hn=>by
  have hc:=aO ps
  have hj':j<ps.length:=by omega
  have hg:=gX hj'
  obtain ⟨hB,hu⟩:=hv _ (List.getElem_mem hj')
  have hu:=hu n hn
  generalize ps[j]=u at hg hB hu
  obtain ⟨u1,u2,u3,u4,u5,u6⟩:=u
  have hlt:=aI (j:=j) (k:=(aj ps).length) (by omega)
  have hnx:=next_nat (j:=lev) (by omega)
  rcases hu with ⟨c,m,cr,h⟩|⟨m,hm,h⟩
  ·left
   refine ⟨c,m,(Val.mk u1 u2 u3 u4 u5 u6).cells,cr,fun M F hM hF=>?_⟩
   obtain ⟨F',rfl⟩:∃F',F=F'+1:=⟨F-1,by omega⟩
   exact bC (kY ..) (run_of [(18,.b true),(19,.e (Val.mk u1 u2 u3 u4 u5 u6).cells),(23,.i (Int.ofNat (lev+1))),(25,.r (boolX false) (WS c m))] [] (pf4 hlt hg hnx (h M (by omega))) (lo':=[]) (by kernel_rfl)) (by simp)
  ·have hs:∀M,B≤M→run (callF tab ext M) 4 M (loopAt 135 0) (viH (aj ps) lev (aj ps).length j n)=some (.norm,ziE (aj ps) lev (aj ps).length (j+1) m (Val.mk u1 u2 u3 u4 u5 u6).cells):=fun M hM=>
    run_of [(18,.b true),(19,.e (Val.mk u1 u2 u3 u4 u5 u6).cells),(23,.i (Int.ofNat (lev+1))),(25,.r (boolX true) (goC m)),(27,.i (Int.ofNat (j+1)))] [] (pf5 hlt hg hnx (h M (by omega)) (next_nat (j:=j) (by omega))) (lo':=[]) (by kernel_rfl)
   rcases BG ps lev zmw hl hv d (j+1) m (by omega) hm with ⟨c,m',x,cr,h'⟩|⟨m',hm',h'⟩
   ·left
    refine ⟨c,m',x,cr,fun M F hM hF=>?_⟩
    obtain ⟨F',rfl⟩:∃F',F=F'+1:=⟨F-1,by omega⟩
    rw [(dG (kY ..) (hs M hM) rfl).trans (iR (rG ..) (kY ..))]
    exact h' M F' hM (by omega)
   ·right
    refine ⟨m',hm',fun M F hM hF=>?_⟩
    obtain ⟨F',rfl⟩:∃F',F=F'+1:=⟨F-1,by omega⟩
    rw [(dG (kY ..) (hs M hM) rfl).trans (iR (rG ..) (kY ..))]
    exact h' M F' hM (by omega)
theorem J7 (v:Val):∀u,u∈qK v→u.size<v.size:=by
 obtain ⟨k,i,s,t,l,f⟩:=v
 intro u hu
 simp only [qK] at hu
 simp only [Val.size]
 split at hu
 ·have:=rV hu;omega
 ·split at hu
  ·obtain ⟨p,hp,rfl⟩:=List.mem_map.1 hu
   have:=rW hp;omega
  ·cases hu
theorem Ew (v:Val):(qK v).length<v.size:=by
 obtain ⟨k,i,s,t,l,f⟩:=v
 simp only [qK,Val.size]
 have:=lg l
 have:=gU f
 split
 ·omega
 ·split
  ·rw [List.length_map];omega
  ·simp
theorem yC:∀(sz:Nat) (v:Val),v.size≤sz→v.ok→∀(lev n:Nat),lev+v.size≤100000→n≤4097→Visit v lev n
 |0,.mk ..,h,_,_,_,_,_=>by simp [Val.size] at h
 |sz+1,v,h,hv,lev,n,zmw,hn=>by
  have hr:=JR v hv (Int.ofNat lev) n (by omega)
  have hp:∀M,60019+v.size≤M→Gam.pureD (callF tab ext M) 188 [.agg v.cells]=some (.sl false 6 (aj (qK v))):=fun M hM=>QA M v hv (by omega)
  have hlen:=Ew v
  unfold Val.ok at hv
  have hloop:∀n,n≤4097→_:=fun n hn=>BG (B:=60019+v.size) (qK v) lev (by omega) (by omega) (fun u hu=>by
   have:=J7 v u hu
   exact ⟨by omega,fun n hn=>yC sz u (by omega) (by unfold Val.ok;omega) (lev+1) n (by omega) hn⟩) (qK v).length 0 n (by omega) hn
  generalize qK v=ps at hp hlen hloop
  obtain ⟨k,i,s,t,l,f⟩:=v
  rcases hr with ⟨c,cr,h⟩|⟨hn',h⟩
  ·refine .inl ⟨c,n+1,cr,fun N hN=>?_⟩
   obtain ⟨M,rfl⟩:∃M,N=M+1:=⟨N-1,by omega⟩
   exact aB [(12,.r (boolX false) (WS c (n+1)))] [] (pf1 (h M (by omega))) (by kernel_rfl)
  ·rcases hloop (n+1) (by omega) with ⟨c,m,u,cr,h'⟩|⟨m,hm,h'⟩
   ·refine .inl ⟨c,m,cr,fun N hN=>?_⟩
    obtain ⟨M,rfl⟩:∃M,N=M+1:=⟨N-1,by omega⟩
    have hl:run (callF tab ext M) 4 M (.loop (loopAt 135 0)) (ziE (aj ps) lev (aj ps).length 0 (n+1) (Val.mk k i s t l f).cells)=some (.ret,⟨[(6,boolX false)],WS c m++[.var u]⟩):=by
     simp only [run]
     rw [iR (rG ..) (kY ..)]
     exact h' M M (by omega) (by omega)
    exact aB [(12,.r (boolX true) (goC (n+1))),(15,.p (.sl false 6 (aj ps)))] [(.ret,⟨[(6,boolX false)],WS c m++[.var u]⟩)] (pf3 (h M (by omega)) (hp M (by omega)) hl) (by kernel_rfl)
   ·refine .inr ⟨m,hm,fun N hN=>?_⟩
    obtain ⟨M,rfl⟩:∃M,N=M+1:=⟨N-1,by omega⟩
    have hl:run (callF tab ext M) 4 M (.loop (loopAt 135 0)) (ziE (aj ps) lev (aj ps).length 0 (n+1) (Val.mk k i s t l f).cells)=some (.exit 0,viE (aj ps) lev (aj ps).length (aj ps).length m):=by
     simp only [run]
     rw [iR (rG ..) (kY ..)]
     exact h' M M (by omega) (by omega)
    exact aB [(12,.r (boolX true) (goC (n+1))),(15,.p (.sl false 6 (aj ps)))] [(.exit 0,viE (aj ps) lev (aj ps).length (aj ps).length m)] (pf3 (h M (by omega)) (hp M (by omega)) hl) (by kernel_rfl)
noncomputable def zjE (v:List X):St:=⟨[(2,.ptr 1 0 0),(3,.ptr 2 0 0),(4,.ptr 3 0 0),(10,.fn 134 [.dp v])],[.var v,.var [num 0],.var qI,.var [num 0]]⟩
noncomputable def YI (v:List X)(c:Int)(m:Nat):St:=⟨(zjE v).tm,[.var v,.var [num c],.var qI,.var [nat m],.dead]⟩
theorem PL (v:Val)(hv:v.ok):kR (60025+v.size) 26 [.agg v.cells]:=by
 have hok:=hv
 unfold Val.ok at hok
 have zfY:=yC v.size v (Nat.le_refl _) hv 1 0 (by omega) (by omega)
 obtain ⟨k,i,s,t,l,f⟩:=v
 generalize hsz:(Val.mk k i s t l f).size=sz at zfY hok
 have hpre:∀N,3≤N→Gam.pureD (callF tab ext N) 69 [.agg (Val.mk k i s t l f).cells]=some (.fn 134 [.dp (Val.mk k i s t l f).cells]):=fun N hN=>by
  obtain ⟨M,rfl⟩:∃M,N=M+1:=⟨N-1,by omega⟩
  exact pure_of [] [] pf0 (x:=.fn 134 [.dp (Val.mk k i s t l f).cells]) (bx:=[]) (by kernel_rfl) rfl
 have zmu:∀N,3≤N→Gam.pureD (callF tab ext N) 68 []=some (.agg qI):=fun N hN=>by
  obtain ⟨M,rfl⟩:∃M,N=M+1:=⟨N-1,by omega⟩
  exact pure_of [] [] pf0 (x:=.agg qI) (bx:=[]) (by kernel_rfl) rfl
 unfold Visit at zfY
 rw [hsz] at zfY
 rcases zfY with ⟨c,m,cr,h⟩|⟨m,_,h⟩
 ·refine ⟨c,cr,fun N hN=>?_⟩
  obtain ⟨M,rfl⟩:∃M,N=M+2:=⟨N-2,by omega⟩
  have h5:callF tab ext (M+1) (.fn 134) [.yl 0,.dp (Val.mk k i s t l f).cells] (goC 0)=some (.tup [],WS c m):=
   aB [(5,.r (boolX false) (WS c m))] [] (pf1 (h M (by omega))) (by kernel_rfl)
  have hrf:run (callF tab ext (M+1)) 0 (M+1) (.rf (.t 10) [11,12] [2,3,4] (zfS 26).1 (zfS 26).2) (zjE (Val.mk k i s t l f).cells)=some (.ret,YI (Val.mk k i s t l f).cells c m):=
   YH (g:=134) (caps:=[.dp (Val.mk k i s t l f).cells]) (y:=.tup []) (outb:=WS c m)
    (q:=(.tup [],[.var (Val.mk k i s t l f).cells,.var [num c],.var qI,.var [nat m],recC .done (some .ret)],[4,1,2,3])) h5 (by kernel_rfl) (by kernel_rfl) (by kernel_rfl)
  exact pure_of [(8,.p (.agg qI)),(10,.p (.fn 134 [.dp (Val.mk k i s t l f).cells]))] [(.ret,YI (Val.mk k i s t l f).cells c m)] (pf3 (zmu (M+1) (by omega)) (hpre (M+1) (by omega)) hrf) (x:=num c) (bx:=[]) (by kernel_rfl) rfl
 ·refine ⟨0,by decide,fun N hN=>?_⟩
  obtain ⟨M,rfl⟩:∃M,N=M+2:=⟨N-2,by omega⟩
  have h5:callF tab ext (M+1) (.fn 134) [.yl 0,.dp (Val.mk k i s t l f).cells] (goC 0)=some (.tup [],goC m):=
   aB [(5,.r (boolX true) (goC m))] [] (pf1 (h M (by omega))) (by kernel_rfl)
  have hrf:run (callF tab ext (M+1)) 0 (M+1) (.rf (.t 10) [11,12] [2,3,4] (zfS 26).1 (zfS 26).2) (zjE (Val.mk k i s t l f).cells)=some (.norm,YI (Val.mk k i s t l f).cells 0 m):=
   YH (g:=134) (caps:=[.dp (Val.mk k i s t l f).cells]) (y:=.tup []) (outb:=goC m)
    (q:=(.tup [],[.var (Val.mk k i s t l f).cells,.var [num 0],.var qI,.var [nat m],recC .ready none],[4,1,2,3])) h5 (by kernel_rfl) (by kernel_rfl) (by kernel_rfl)
  exact pure_of [(8,.p (.agg qI)),(10,.p (.fn 134 [.dp (Val.mk k i s t l f).cells]))] [(.norm,YI (Val.mk k i s t l f).cells 0 m)] (pf3 (zmu (M+1) (by omega)) (hpre (M+1) (by omega)) hrf) (x:=num 0) (bx:=[]) (by kernel_rfl) rfl
end Go.Proofs.YtjbndifenhihhaaGreatDoor
namespace Go.Proofs.YtjbndifenhihhaaGreatDoor
open Go.Em
set_option maxRecDepth 100000
section
variable (m:List X) (o:List (List X)) (n j:Nat)
def mcH:St:=⟨[(1,.ptr 0 0 0),(27,.sl false 1 o),(28,nat n),(29,nat j)],[.var m]⟩
def mcE:St:=⟨[(1,.ptr 0 0 0),(27,.sl false 1 o),(28,nat n),(29,nat j),(30,boolX false)],[.var m]⟩
end
end Go.Proofs.YtjbndifenhihhaaGreatDoor
namespace Go.Proofs.YtjbndifenhihhaaGreatDoor
open Go.Em
set_option maxRecDepth 100000
end Go.Proofs.YtjbndifenhihhaaGreatDoor
namespace Go.Proofs.YtjbndifenhihhaaGreatDoor
open Go.Em
set_option maxRecDepth 100000
end Go.Proofs.YtjbndifenhihhaaGreatDoor
namespace Go.Proofs.YtjbndifenhihhaaGreatDoor
open Go.Em
set_option maxRecDepth 100000
end Go.Proofs.YtjbndifenhihhaaGreatDoor
namespace Go.Proofs.YtjbndifenhihhaaGreatDoor
open Go.Em
set_option maxRecDepth 100000
end Go.Proofs.YtjbndifenhihhaaGreatDoor
namespace Go.Proofs.YtjbndifenhihhaaGreatDoor
open Go.Em
set_option maxRecDepth 100000
end Go.Proofs.YtjbndifenhihhaaGreatDoor
namespace Go.Proofs.YtjbndifenhihhaaGreatDoor
open Go.Em
set_option maxRecDepth 100000
structure Stt.small (s:Stt):Prop where
 slots:s.slots.length≤100
 slot:∀x,x∈s.slots→x.ok∧x.items.length≤100∧x.vals.length≤100
theorem Stt.small.ok {s:Stt}(h:s.small):s.ok:=⟨by have:=h.slots;omega,fun x hx=>(h.slot x hx).1⟩
end Go.Proofs.YtjbndifenhihhaaGreatDoor
