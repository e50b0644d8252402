/- A loop that looks for the first round at which something holds. -/
import Derived.Test.YtjbndifenhihhaaGreatDoorP13
import Derived.Test.YtjbndifenhihhaaGreatDoorP14
namespace Go.Proofs.YtjbndifenhihhaaGreatDoor
open Go.Em
set_option maxRecDepth 100000
theorem zch {nIn:Nat}{b:C}{H:Nat→St}{e:Ex}{fin τ:St}{n B:Nat}(P:Nat→Bool)(r υ:Nat→St)(h0:canon nIn τ=some (H 0))
  (hT:∀j,j<n→P j=true→∀M,B≤M→run (callF tab ext M) nIn M b (H j)=some (.ret,r j)) (hF:∀j,j<n→P j=false→canon nIn (υ j)=some (H (j+1))∧∀M,B≤M→run (callF tab ext M) nIn M b (H j)=some (.norm,υ j))
  (hend:∀M,B≤M→run (callF tab ext M) nIn M b (H n)=some (e,fin)) (hne:e≠.norm):
  (∃j,j<n∧P j=true∧(∀i,i<j→P i=false)∧∀M,B≤M→n<M→run (callF tab ext M) nIn M (.loop b) τ=some (.ret,r j))∨((∀j,j<n→P j=false)∧∀M,B≤M→n<M→run (callF tab ext M) nIn M (.loop b) τ=some (e,fin)):=by
 have key:∀d j,j+d=n→(∀i,i<j→P i=false)→(∃k,k<n∧P k=true∧(∀i,i<k→P i=false)∧∀M F ω,B≤M→d<F→canon nIn ω=some (H j)→iter nIn (run (callF tab ext M) nIn M b) F ω=some (.ret,r k))∨((∀j,j<n→P j=false)∧∀M F ω,B≤M→d<F→canon nIn ω=some (H j)→iter nIn (run (callF tab ext M) nIn M b) F ω=some (e,fin)):=by
  intro d
  induction d with
  |zero=>
   intro j hj hall
   have hjn:j=n:=by omega
   subst hjn
   refine .inr ⟨hall,fun M F ω hM hF' hc=>?_⟩
   obtain ⟨F',rfl⟩:∃F',F=F'+1:=⟨F-1,by omega⟩
   exact bC hc (hend M hM) hne
  |succ d ih=>
   intro j hj hall
   cases hP:P j with
   |true=>
    refine .inl ⟨j,by omega,hP,hall,fun M F ω hM hF' hc=>?_⟩
    obtain ⟨F',rfl⟩:∃F',F=F'+1:=⟨F-1,by omega⟩
    exact bC hc (hT j (by omega) hP M hM) (by simp)
   |false=>
    obtain ⟨hυ,hs⟩:=hF j (by omega) hP
    rcases ih (j+1) (by omega) (fun i hi=>by
     rcases Nat.lt_or_ge i j with h|h
     ·exact hall i h
     ·rw [show i=j by omega];exact hP) with ⟨k,hk,hPk,hlt,h'⟩|⟨ha,h'⟩
    ·refine .inl ⟨k,hk,hPk,hlt,fun M F ω hM hF' hc=>?_⟩
     obtain ⟨F',rfl⟩:∃F',F=F'+1:=⟨F-1,by omega⟩
     exact dG hc (hs M hM) (h' M F' _ hM (by omega) hυ)
    ·refine .inr ⟨ha,fun M F ω hM hF' hc=>?_⟩
     obtain ⟨F',rfl⟩:∃F',F=F'+1:=⟨F-1,by omega⟩
     exact dG hc (hs M hM) (h' M F' _ hM (by omega) hυ)
 simp only [run]
 rcases key n 0 (by omega) (fun i hi=>by omega) with ⟨k,h1,h2,h3,h⟩|⟨ha,h⟩
 ·exact .inl ⟨k,h1,h2,h3,fun M hM hn=>h M M τ hM hn h0⟩
 ·exact .inr ⟨ha,fun M hM hn=>h M M τ hM hn h0⟩
end Go.Proofs.YtjbndifenhihhaaGreatDoor
namespace Go.Proofs.YtjbndifenhihhaaGreatDoor
open Go.Em
set_option maxRecDepth 100000
end Go.Proofs.YtjbndifenhihhaaGreatDoor
namespace Go.Proofs.YtjbndifenhihhaaGreatDoor
open Go.Em
set_option maxRecDepth 100000
set_option linter.unusedSimpArgs false
end Go.Proofs.YtjbndifenhihhaaGreatDoor
namespace Go.Proofs.YtjbndifenhihhaaGreatDoor
open Go.Em
set_option maxRecDepth 100000
end Go.Proofs.YtjbndifenhihhaaGreatDoor
namespace Go.Proofs.YtjbndifenhihhaaGreatDoor
open Go.Em
set_option maxRecDepth 100000
end Go.Proofs.YtjbndifenhihhaaGreatDoor
namespace Go.Proofs.YtjbndifenhihhaaGreatDoor
open Go.Em
set_option maxRecDepth 100000
section
variable {ce cc:Int} {z:Bool} {sp:Prop}
end
end Go.Proofs.YtjbndifenhihhaaGreatDoor
namespace Go.Proofs.YtjbndifenhihhaaGreatDoor
open Go.Em
set_option maxRecDepth 100000
end Go.Proofs.YtjbndifenhihhaaGreatDoor
namespace Go.Proofs.YtjbndifenhihhaaGreatDoor
open Go.Em
set_option maxRecDepth 100000
end Go.Proofs.YtjbndifenhihhaaGreatDoor
namespace Go.Proofs.YtjbndifenhihhaaGreatDoor
open Go.Em
set_option maxRecDepth 100000
end Go.Proofs.YtjbndifenhihhaaGreatDoor
namespace Go.Proofs.YtjbndifenhihhaaGreatDoor
open Go.Em
set_option maxRecDepth 100000
end Go.Proofs.YtjbndifenhihhaaGreatDoor
namespace Go.Proofs.YtjbndifenhihhaaGreatDoor
open Go.Em
set_option maxRecDepth 100000
theorem iC (a b:Nat):(if Int.ofNat b<Int.ofNat a then Int.ofNat b else Int.ofNat a)=Int.ofNat (min a b):=by
 simp only [Int.ofNat_eq_natCast];split<;>omega
theorem FH {j:Nat}(h:j<4294967296):Go.IntKind.i64.wrap (Int.ofNat (j+1)-1)=Int.ofNat j:=by
 rw [IntKind.wrap_i64];simp only [Int.ofNat_eq_natCast];omega
theorem lH (a b:Nat):0≤min a b∧min a b≤a:=⟨Nat.zero_le _,Nat.min_le_left _ _⟩
def fB (m:Nat)(t:ByteArray):ByteArray:=t.extract 0 (min t.size m)
def aU:Nat→Val→Val
 |0,.mk k i s t _ _=>.mk k i s (fB 40 t) [] []
 |n+1,.mk k i s t l f=>.mk k i s (fB 40 t) ((l.take 6).map (aU n)) ((f.take 6).map fun p=>(fB 40 p.1,aU n p.2))
section
variable (lv k i s:Int) (t:ByteArray) (l f acc iG:List (List X)) (j m:Nat) (x y:List X)
def svH:St:=⟨[(1,num lv),(2,.ptr 0 0 0),(4,.ptr 1 0 0),(5,.bs 2 0 j),(6,.sl true 7 []),(7,nat j)],[.var [num k,num i,num s,strX t,.sl false 6 l,.sl false 7 f],.var Pz,.row 6 acc]⟩
def svN:St:=⟨[(1,num lv),(2,.ptr 0 0 0),(4,.ptr 1 0 0),(5,.bs 3 0 (j+1)),(6,.sl true 7 []),(7,nat (j+1))],[.var [num k,num i,num s,strX t,.sl false 6 l,.sl false 7 f],.var Pz,.dead,.row 6 (acc++[x])]⟩
def svE:St:=⟨[(1,num lv),(2,.ptr 0 0 0),(4,.ptr 1 0 0),(5,.bs 2 0 j),(6,.sl true 7 []),(7,nat j),(29,boolX false)],[.var [num k,num i,num s,strX t,.sl false 6 l,.sl false 7 f],.var Pz,.row 6 acc]⟩
theorem Nv:canon 0 (svH lv k i s t l f acc j)=some (svH lv k i s t l f acc j):=by kernel_rfl
theorem TN:canon 0 (svN lv k i s t l f acc j x)=some (svH lv k i s t l f (acc++[x]) (j+1)):=by kernel_rfl
def sfH:St:=⟨[(1,num lv),(2,.ptr 0 0 0),(4,.ptr 1 0 0),(5,.bs 2 0 m),(6,.bs 3 0 j),(8,nat j)],[.var [num k,num i,num s,strX t,.sl false 6 l,.sl false 7 f],.var Pz,.row 6 acc,.row 7 iG]⟩
def sfN:St:=⟨[(1,num lv),(2,.ptr 0 0 0),(4,.ptr 1 0 0),(5,.bs 2 0 m),(6,.bs 4 0 (j+1)),(8,nat (j+1))],[.var [num k,num i,num s,strX t,.sl false 6 l,.sl false 7 f],.var Pz,.row 6 acc,.dead,.row 7 (iG++[x])]⟩
def sfE:St:=⟨[(1,num lv),(2,.ptr 0 0 0),(4,.ptr 1 0 0),(5,.bs 2 0 m),(6,.bs 3 0 j),(8,nat j),(55,boolX false)],[.var [num k,num i,num s,strX t,.sl false 6 l,.sl false 7 f],.var Pz,.row 6 acc,.row 7 iG]⟩
theorem ND:canon 0 (sfH lv k i s t l f acc iG j m)=some (sfH lv k i s t l f acc iG j m):=by kernel_rfl
theorem UF:canon 0 (sfN lv k i s t l f acc iG j m x)=some (sfH lv k i s t l f acc (iG++[x]) (j+1) m):=by kernel_rfl
end
theorem ig {α β:Type}(g:α→β){l:List α}{k j:Nat}(h:j<(l.take k).length):((l.take k).take (j+1)).map g=((l.take k).take j).map g++[g (l[j]'(by rw [List.length_take] at h;omega))]:=by
 rw [List.take_succ_eq_append_getElem h,List.map_append]
 simp
theorem za7 (M:Nat)(k i s:Int)(t:ByteArray)(L F a b:List (List X))(m q n:Nat)(hm:a.length=m)(hq:b.length=q)
  (h1:run (callF tab ext M) 0 M (.loop (loopAt 64 0)) (svH (Int.ofNat (n+1)) k i s (fB 40 t) L F [] 0)=some (.exit 0,svE (Int.ofNat (n+1)) k i s (fB 40 t) L F a m))
  (h2:run (callF tab ext M) 0 M (.loop (loopAt 64 1)) (sfH (Int.ofNat (n+1)) k i s (fB 40 t) L F a [] 0 m)=some (.exit 2,sfE (Int.ofNat (n+1)) k i s (fB 40 t) L F a b q m)):
  Gam.pureD (callF tab ext (M+1)) 64 [.agg [num k,num i,num s,strX t,.sl false 6 L,.sl false 7 F],nat (n+1)]=some (.agg [num k,num i,num s,strX (fB 40 t),.sl false 6 a,.sl false 7 b]):=by
 have hd:(X.agg [num k,num i,num s,strX (fB 40 t),.bs 0 0 m,.bs 1 0 q]).data [.row 6 a,.row 7 b] false=some (.agg [num k,num i,num s,strX (fB 40 t),.sl false 6 a,.sl false 7 b]):=by
  subst hm hq
  simp [X.data,fG,rowOf,num,strX]
 exact pure_of [(14,.i (Int.ofNat (min t.size 40))),(15,.cut)] [(.exit 0,svE (Int.ofNat (n+1)) k i s (fB 40 t) L F a m),(.exit 2,sfE (Int.ofNat (n+1)) k i s (fB 40 t) L F a b q m)] (pf4 (iC t.size 40) (lH t.size 40) h1 h2)
  (x:=.agg [num k,num i,num s,strX (fB 40 t),.bs 0 0 m,.bs 1 0 q]) (bx:=[.row 6 a,.row 7 b]) (by kernel_rfl) hd
theorem Ar (l:List Val)(v:Val):aj (l++[v])=aj l++[v.cells]:=by simp [kM]
theorem MQ (l:List (ByteArray×Val))(t:ByteArray)(v:Val):ay (l++[(t,v)])=ay l++[strX t::v.cells]:=by simp [uq]
theorem IJ (n:Nat):decide (Int.ofNat (n+1+1)>1)=true:=by
 rw [decide_eq_true_eq];simp only [Int.ofNat_eq_natCast];omega
theorem kD {j m:Nat}(h:j<m):decide (Int.ofNat j<Int.ofNat m)=true:=aI h
theorem jf:∀(n:Nat) (v:Val) (N:Nat),n<1000→10+n≤N→Gam.pureD (callF tab ext N) 64 [.agg v.cells,nat (n+1)]=some (.agg (aU n v).cells)
 |0,.mk k i s t l f,N,_,hN=>by
  obtain ⟨M,rfl⟩:∃M,N=M+1:=⟨N-1,by omega⟩
  refine za7 M k i s t (aj l) (ay f) [] [] 0 0 0 rfl rfl ?_ ?_
  ·refine dR (σ:=fun j=>svH (Int.ofNat 1) k i s (fB 40 t) (aj l) (ay f) [] j) (k:=0) (Nv ..) (fun j hj=>by omega) ?_ (by simp) (by omega)
   cases h1:decide (Int.ofNat 0<Int.ofNat (aj l).length) with
   |true=>exact run_of [(21,.b true)] [] (pf1 h1) (lo':=[]) (by kernel_rfl)
   |false=>exact run_of [(21,.b false)] [] (pf1 h1) (lo':=[]) (by kernel_rfl)
  ·refine dR (σ:=fun j=>sfH (Int.ofNat 1) k i s (fB 40 t) (aj l) (ay f) [] [] j 0) (k:=0) (ND ..) (fun j hj=>by omega) ?_ (by simp) (by omega)
   cases h1:decide (Int.ofNat 0<Int.ofNat (ay f).length) with
   |true=>exact run_of [(47,.b true)] [] (pf1 h1) (lo':=[]) (by kernel_rfl)
   |false=>exact run_of [(47,.b false)] [] (pf1 h1) (lo':=[]) (by kernel_rfl)
 |n+1,.mk k i s t l f,N,hn,hN=>by
  obtain ⟨M,rfl⟩:∃M,N=M+1:=⟨N-1,by omega⟩
  have el:=aO l
  have ef:=aZ f
  have e1:(aU (n+1) (.mk k i s t l f)).cells=[num k,num i,num s,strX (fB 40 t),.sl false 6 (aj ((l.take 6).map (aU n))),.sl false 7 (ay ((f.take 6).map fun p=>(fB 40 p.1,aU n p.2)))]:=rfl
  rw [e1]
  have hd:=FH (j:=n+1) (by omega)
  refine za7 M k i s t (aj l) (ay f) _ _ (l.take 6).length (f.take 6).length (n+1) (by rw [aO,List.length_map]) (by rw [aZ,List.length_map]) ?_ ?_
  ·refine dR (σ:=fun j=>svH (Int.ofNat (n+2)) k i s (fB 40 t) (aj l) (ay f) (aj (((l.take 6).take j).map (aU n))) j) (k:=(l.take 6).length) (Nv ..) (fun j hj=>?_) ?_ (by simp) (by rw [List.length_take];omega)
   ·have hj1:j<l.length:=by rw [List.length_take] at hj;omega
    have hj2:j<6:=by rw [List.length_take] at hj;omega
    have hg:=gX hj1
    have hc:=jf n l[j] M (by omega) (by omega)
    have hlen:(aj (((l.take 6).take j).map (aU n))).length=j:=by rw [aO,List.length_map,List.length_take,List.length_take];omega
    rw [ig (aU n) hj,Ar]
    generalize l[j]=v at hg hc
    generalize aU n v=w at hc
    generalize ((l.take 6).take j).map (aU n)=acc at hlen
    obtain ⟨a1,a2,a3,a4,a5,a6⟩:=v
    obtain ⟨b1,b2,b3,b4,b5,b6⟩:=w
    exact ⟨_,run_of (σ':=svN (Int.ofNat (n+2)) k i s (fB 40 t) (aj l) (ay f) (aj acc) j (Val.mk b1 b2 b3 b4 b5 b6).cells) [(21,.b true),(24,.b true),(28,.b true),(36,.e (Val.mk a1 a2 a3 a4 a5 a6).cells),(39,.i (Int.ofNat (n+1))),(40,.p (.agg (Val.mk b1 b2 b3 b4 b5 b6).cells)),(42,.app),(31,.i (Int.ofNat (j+1)))] []
     (pf8 (aI (j:=j) (k:=(aj l).length) (by omega)) (kD hj2) (IJ n) hg hd hc (fZ (acc:=aj acc) j 2 88 hlen.symm (by omega) (by omega)) (next_nat (j:=j) (by omega))) (lo':=[]) (by kernel_rfl),TN ..⟩
   ·have e2:(l.take 6).take (l.take 6).length=l.take 6:=List.take_length
    rw [e2]
    by_cases h6:(l.take 6).length<l.length
    ·have h7:(l.take 6).length=6:=by rw [List.length_take] at h6 ⊢;omega
     exact run_of [(21,.b true),(24,.b false)] [] (pf2 (aI (j:=(l.take 6).length) (k:=(aj l).length) (by omega)) (aJ (j:=(l.take 6).length) (k:=6) (by omega))) (lo':=[]) (by kernel_rfl)
    ·exact run_of [(21,.b false)] [] (pf1 (aJ (j:=(l.take 6).length) (k:=(aj l).length) (by omega))) (lo':=[]) (by kernel_rfl)
  ·generalize aj ((l.take 6).map (aU n))=aL
   generalize (l.take 6).length=m
   refine dR (σ:=fun j=>sfH (Int.ofNat (n+2)) k i s (fB 40 t) (aj l) (ay f) aL (ay (((f.take 6).take j).map fun p=>(fB 40 p.1,aU n p.2))) j m) (k:=(f.take 6).length) (ND ..) (fun j hj=>?_) ?_ (by simp) (by rw [List.length_take];omega)
   ·have hj1:j<f.length:=by rw [List.length_take] at hj;omega
    have hj2:j<6:=by rw [List.length_take] at hj;omega
    have hg:=gY hj1
    have hc:=jf n f[j].2 M (by omega) (by omega)
    have hlen:(ay (((f.take 6).take j).map fun p=>(fB 40 p.1,aU n p.2))).length=j:=by rw [aZ,List.length_map,List.length_take,List.length_take];omega
    rw [ig (fun p:ByteArray×Val=>(fB 40 p.1,aU n p.2)) hj,MQ]
    generalize f[j]=v at hg hc
    obtain ⟨vt,v⟩:=v
    dsimp only at hg hc ⊢
    generalize aU n v=w at hc
    generalize ((f.take 6).take j).map (fun p:ByteArray×Val=>(fB 40 p.1,aU n p.2))=acc at hlen
    obtain ⟨a1,a2,a3,a4,a5,a6⟩:=v
    obtain ⟨b1,b2,b3,b4,b5,b6⟩:=w
    exact ⟨_,run_of (σ':=sfN (Int.ofNat (n+2)) k i s (fB 40 t) (aj l) (ay f) aL (ay acc) j m (strX (fB 40 vt)::(Val.mk b1 b2 b3 b4 b5 b6).cells)) [(47,.b true),(50,.b true),(54,.b true),(62,.e (strX vt::(Val.mk a1 a2 a3 a4 a5 a6).cells)),(68,.e (strX vt::(Val.mk a1 a2 a3 a4 a5 a6).cells)),(72,.i (Int.ofNat (min vt.size 40))),(73,.cut),(77,.e (strX vt::(Val.mk a1 a2 a3 a4 a5 a6).cells)),(81,.i (Int.ofNat (n+1))),(82,.p (.agg (Val.mk b1 b2 b3 b4 b5 b6).cells)),(85,.app),(57,.i (Int.ofNat (j+1)))] []
     (ziI (aI (j:=j) (k:=(ay f).length) (by omega)) (kD hj2) (IJ n) hg hg (iC vt.size 40) (lH vt.size 40) hg hd hc (fZ (acc:=ay acc) j 3 104 hlen.symm (by omega) (by omega)) (next_nat (j:=j) (by omega))) (lo':=[]) (by kernel_rfl),UF ..⟩
   ·have e2:(f.take 6).take (f.take 6).length=f.take 6:=List.take_length
    rw [e2]
    by_cases h6:(f.take 6).length<f.length
    ·have h7:(f.take 6).length=6:=by rw [List.length_take] at h6 ⊢;omega
     exact run_of [(47,.b true),(50,.b false)] [] (pf2 (aI (j:=(f.take 6).length) (k:=(ay f).length) (by omega)) (aJ (j:=(f.take 6).length) (k:=6) (by omega))) (lo':=[]) (by kernel_rfl)
    ·exact run_of [(47,.b false)] [] (pf1 (aJ (j:=(f.take 6).length) (k:=(ay f).length) (by omega))) (lo':=[]) (by kernel_rfl)
end Go.Proofs.YtjbndifenhihhaaGreatDoor
namespace Go.Proofs.YtjbndifenhihhaaGreatDoor
open Go.Em
set_option maxRecDepth 100000
def FM (x:Int):Int:=if 0>x then 0 else x
def RD (x:Int):Int:=if 1099511627776<x then 1099511627776 else x
def zas (p:List Int):List Int:=p.take (min (aF p).length 6)
theorem vK (p:List Int):aF (zas p)=(aF p).take (min (aF p).length 6):=by simp [zas,aF]
theorem Ae (p:List Int):(zas p).length≤6:=by simp only [zas,List.length_take];omega
theorem FK (p:List (List X)):dD (([]:List (List X)).length+(List.drop 0 (List.take (min p.length 6) p)).length) 8=true:=by
 refine jW ?_ ?_<;>simp only [List.length_nil,List.drop_zero,List.length_take]<;>omega
def dM (m:Msg):Msg:=⟨⟨m.st.e,zas m.st.p⟩,RD (FM m.zhh),zas m.orig,aU 4 m.body⟩
theorem GV (m:Msg)(N:Nat)(hN:20≤N):Gam.pureD (callF tab ext N) 65 [.agg m.cells]=some (.agg (dM m).cells):=by
 obtain ⟨M,rfl⟩:∃M,N=M+1:=⟨N-1,by omega⟩
 have hc:=jf 4 m.body M (by omega) (by omega)
 have e:(dM m).cells=num m.st.e::.sl false 1 ((aF m.st.p).take (min (aF m.st.p).length 6))::num (RD (FM m.zhh))::.sl false 1 ((aF m.orig).take (min (aF m.orig).length 6))::(aU 4 m.body).cells:=by
  rw [←vK,←vK];rfl
 rw [e]
 generalize aU 4 m.body=w at hc
 obtain ⟨⟨e0,p⟩,ms,o,⟨a1,a2,a3,a4,a5,a6⟩⟩:=m
 obtain ⟨b1,b2,b3,b4,b5,b6⟩:=w
 exact pure_of [(11,.i (Int.ofNat (min (aF p).length 6))),(12,.cut),(13,.fresh),(22,.i (Int.ofNat (min (aF o).length 6))),(23,.cut),(24,.fresh),(28,.p (.agg (Val.mk b1 b2 b3 b4 b5 b6).cells)),(31,.i (FM ms)),(32,.i (RD (FM ms)))] []
  (pf9 (iC (aF p).length 6) (lH (aF p).length 6) (FK (aF p)) (iC (aF o).length 6) (lH (aF o).length 6) (FK (aF o)) hc (rfl:FM ms=FM ms) (rfl:RD (FM ms)=RD (FM ms)))
  (x:=.agg (num e0::.sl false 1 ((aF p).take (min (aF p).length 6))::num (RD (FM ms))::.sl false 1 ((aF o).take (min (aF o).length 6))::(Val.mk b1 b2 b3 b4 b5 b6).cells)) (bx:=[]) (by kernel_rfl) rfl
structure Inp where
 kind:Int
 time:Int
 st:Stp
 m:Msg
 x:Int
 b1:Bool
 b2:Bool
 body:Val
def Inp.cells (i:Inp):List X:=num i.kind::num i.time::num i.st.e::.sl false 1 (aF i.st.p)::num i.m.st.e::.sl false 1 (aF i.m.st.p)::num i.m.zhh::.sl false 1 (aF i.m.orig)::(i.m.body.cells++num i.x::boolX i.b1::boolX i.b2::i.body.cells)
def gV (i:Inp):Inp:={i with st:=⟨i.st.e,zas i.st.p⟩,m:=dM i.m,body:=aU 4 i.body}
theorem Uz (i:Inp)(N:Nat)(hN:30≤N):Gam.pureD (callF tab ext N) 22 [.agg i.cells]=some (.agg (gV i).cells):=by
 obtain ⟨M,rfl⟩:∃M,N=M+1:=⟨N-1,by omega⟩
 have hc:=jf 4 i.body M (by omega) (by omega)
 have hm:=GV i.m M (by omega)
 have e:(gV i).cells=num i.kind::num i.time::num i.st.e::.sl false 1 ((aF i.st.p).take (min (aF i.st.p).length 6))::num (dM i.m).st.e::.sl false 1 (aF (dM i.m).st.p)::num (dM i.m).zhh::.sl false 1 (aF (dM i.m).orig)::((dM i.m).body.cells++num i.x::boolX i.b1::boolX i.b2::(aU 4 i.body).cells):=by
  rw [←vK];rfl
 rw [e]
 generalize aU 4 i.body=w at hc
 generalize dM i.m=q at hm
 obtain ⟨kd,tm,⟨se,sp⟩,⟨⟨e0,p⟩,ms,o,⟨a1,a2,a3,a4,a5,a6⟩⟩,x,y1,y2,⟨c1,c2,c3,c4,c5,c6⟩⟩:=i
 obtain ⟨b1,b2,b3,b4,b5,b6⟩:=w
 obtain ⟨⟨d1,d2⟩,d3,d4,⟨d5,d6,d7,d8,d9,d0⟩⟩:=q
 exact pure_of [(5,.p (.agg (Msg.mk ⟨d1,d2⟩ d3 d4 (Val.mk d5 d6 d7 d8 d9 d0)).cells)),(8,.p (.agg (Val.mk b1 b2 b3 b4 b5 b6).cells)),(19,.i (Int.ofNat (min (aF sp).length 6))),(20,.cut),(21,.fresh)] []
  (pf5 hm hc (iC (aF sp).length 6) (lH (aF sp).length 6) (FK (aF sp)))
  (x:=.agg (num kd::num tm::num se::.sl false 1 ((aF sp).take (min (aF sp).length 6))::num d1::.sl false 1 (aF d2)::num d3::.sl false 1 (aF d4)::((Val.mk d5 d6 d7 d8 d9 d0).cells++num x::boolX y1::boolX y2::(Val.mk b1 b2 b3 b4 b5 b6).cells))) (bx:=[]) (by kernel_rfl) rfl
def lX (x:Slt):Slt:=⟨aU 2 x.key,x.n,x.t,(x.items.take 4).map dM,(x.vals.take 4).map (aU 3)⟩
def shortS (s:Stt):Stt:=⟨s.n,s.t,(s.slots.take 6).map lX⟩
section
variable (a b:Int) (l acc:List (List X)) (j:Nat) (k i s n t:Int) (tx:ByteArray) (vl vf its vs:List (List X)) (k' i' s':Int) (tx':ByteArray) (vl' vf' qg vs':List (List X)) (z z2:Nat) (x:List X)
def ssH:St:=⟨[(1,.ptr 0 0 0),(2,.ptr 1 0 0),(3,.bs 2 0 j),(4,nat j)],[.var [num a,num b,.sl false 10 l],.var kX,.row 10 acc]⟩
def siH:St:=⟨[(1,.ptr 0 0 0),(2,.ptr 1 0 0),(3,.bs 2 0 j),(4,nat j),(5,.ptr 3 0 0),(6,.ptr 4 0 0),(7,nat z)],[.var [num a,num b,.sl false 10 l],.var kX,.row 10 acc,.var (lW k i s tx vl vf n t its vs),.var [num k',num i',num s',strX tx',.sl false 6 vl',.sl false 7 vf',num n,num t,.bs 5 0 z,.sl true 6 []],.row 10 qg]⟩
def siN:St:=⟨[(1,.ptr 0 0 0),(2,.ptr 1 0 0),(3,.bs 2 0 j),(4,nat j),(5,.ptr 3 0 0),(6,.ptr 4 0 0),(7,nat (z+1))],[.var [num a,num b,.sl false 10 l],.var kX,.row 10 acc,.var (lW k i s tx vl vf n t its vs),.var [num k',num i',num s',strX tx',.sl false 6 vl',.sl false 7 vf',num n,num t,.bs 6 0 (z+1),.sl true 6 []],.dead,.row 10 (qg++[x])]⟩
def siE:St:=⟨[(1,.ptr 0 0 0),(2,.ptr 1 0 0),(3,.bs 2 0 j),(4,nat j),(5,.ptr 3 0 0),(6,.ptr 4 0 0),(7,nat z),(41,boolX false)],[.var [num a,num b,.sl false 10 l],.var kX,.row 10 acc,.var (lW k i s tx vl vf n t its vs),.var [num k',num i',num s',strX tx',.sl false 6 vl',.sl false 7 vf',num n,num t,.bs 5 0 z,.sl true 6 []],.row 10 qg]⟩
theorem YD:canon 0 (siH a b l acc j k i s n t tx vl vf its vs k' i' s' tx' vl' vf' qg z)=some (siH a b l acc j k i s n t tx vl vf its vs k' i' s' tx' vl' vf' qg z):=by kernel_rfl
theorem Uy:canon 0 (siN a b l acc j k i s n t tx vl vf its vs k' i' s' tx' vl' vf' qg z x)=some (siH a b l acc j k i s n t tx vl vf its vs k' i' s' tx' vl' vf' (qg++[x]) (z+1)):=by kernel_rfl
def swH:St:=⟨[(1,.ptr 0 0 0),(2,.ptr 1 0 0),(3,.bs 2 0 j),(4,nat j),(5,.ptr 3 0 0),(6,.ptr 4 0 0),(8,nat z)],[.var [num a,num b,.sl false 10 l],.var kX,.row 10 acc,.var (lW k i s tx vl vf n t its vs),.var [num k',num i',num s',strX tx',.sl false 6 vl',.sl false 7 vf',num n,num t,.bs 5 0 z2,.bs 6 0 z],.row 10 qg,.row 6 vs']⟩
def swN:St:=⟨[(1,.ptr 0 0 0),(2,.ptr 1 0 0),(3,.bs 2 0 j),(4,nat j),(5,.ptr 3 0 0),(6,.ptr 4 0 0),(8,nat (z+1))],[.var [num a,num b,.sl false 10 l],.var kX,.row 10 acc,.var (lW k i s tx vl vf n t its vs),.var [num k',num i',num s',strX tx',.sl false 6 vl',.sl false 7 vf',num n,num t,.bs 5 0 z2,.bs 7 0 (z+1)],.row 10 qg,.dead,.row 6 (vs'++[x])]⟩
def swE:St:=⟨[(1,.ptr 0 0 0),(2,.ptr 1 0 0),(3,.bs 2 0 j),(4,nat j),(5,.ptr 3 0 0),(6,.ptr 4 0 0),(8,nat z),(63,boolX false)],[.var [num a,num b,.sl false 10 l],.var kX,.row 10 acc,.var (lW k i s tx vl vf n t its vs),.var [num k',num i',num s',strX tx',.sl false 6 vl',.sl false 7 vf',num n,num t,.bs 5 0 z2,.bs 6 0 z],.row 10 qg,.row 6 vs']⟩
theorem Yq:canon 0 (swH a b l acc j k i s n t tx vl vf its vs k' i' s' tx' vl' vf' qg vs' z z2)=some (swH a b l acc j k i s n t tx vl vf its vs k' i' s' tx' vl' vf' qg vs' z z2):=by kernel_rfl
theorem TM:canon 0 (swN a b l acc j k i s n t tx vl vf its vs k' i' s' tx' vl' vf' qg vs' z z2 x)=some (swH a b l acc j k i s n t tx vl vf its vs k' i' s' tx' vl' vf' qg (vs'++[x]) (z+1) z2):=by kernel_rfl
end
theorem QI (l:List Msg)(m:Msg):aX (l++[m])=aX l++[m.cells]:=by simp [aX]
theorem PX (l:List Slt)(m:Slt):bf (l++[m])=bf l++[m.cells]:=by simp [bf]
theorem zce (M:Nat)(hM:40≤M)(a b:Int)(l acc:List (List X))(j:Nat)(k i s n t:Int)(tx:ByteArray)(vl vf vs:List (List X))(k' i' s':Int)(tx':ByteArray)(vl' vf':List (List X))(ms:List Msg):
  run (callF tab ext M) 0 M (.loop (loopAt 21 1)) (siH a b l acc j k i s n t tx vl vf (aX ms) vs k' i' s' tx' vl' vf' [] 0)=some (.exit 2,siE a b l acc j k i s n t tx vl vf (aX ms) vs k' i' s' tx' vl' vf' (aX ((ms.take 4).map dM)) (ms.take 4).length):=by
 have el:=jg ms
 refine dR (σ:=fun z=>siH a b l acc j k i s n t tx vl vf (aX ms) vs k' i' s' tx' vl' vf' (aX (((ms.take 4).take z).map dM)) z) (k:=(ms.take 4).length) (YD ..) (fun z hz=>?_) ?_ (by simp) (by rw [List.length_take];omega)
 ·have hj1:z<ms.length:=by rw [List.length_take] at hz;omega
  have hj2:z<4:=by rw [List.length_take] at hz;omega
  have hg:=zl hj1
  have hc:=GV ms[z] M (by omega)
  have hlen:(aX (((ms.take 4).take z).map dM)).length=z:=by rw [jg,List.length_map,List.length_take,List.length_take];omega
  rw [ig dM hz,QI]
  generalize ms[z]=v at hg hc
  generalize dM v=w at hc
  generalize aX (((ms.take 4).take z).map dM)=qg at hlen
  obtain ⟨⟨a1,a2⟩,a3,a4,⟨a5,a6,a7,a8,a9,a0⟩⟩:=v
  obtain ⟨⟨b1,b2⟩,b3,b4,⟨b5,b6,b7,b8,b9,b0⟩⟩:=w
  exact ⟨_,run_of (σ':=siN a b l acc j k i s n t tx vl vf (aX ms) vs k' i' s' tx' vl' vf' qg z (Msg.mk ⟨b1,b2⟩ b3 b4 (Val.mk b5 b6 b7 b8 b9 b0)).cells) [(37,.b true),(40,.b true),(49,.e (Msg.mk ⟨a1,a2⟩ a3 a4 (Val.mk a5 a6 a7 a8 a9 a0)).cells),(51,.p (.agg (Msg.mk ⟨b1,b2⟩ b3 b4 (Val.mk b5 b6 b7 b8 b9 b0)).cells)),(53,.app),(43,.i (Int.ofNat (z+1)))] []
   (pf6 (aI (j:=z) (k:=(aX ms).length) (by omega)) (kD hj2) hg hc (fZ (acc:=qg) z 5 152 hlen.symm (by omega) (by omega)) (next_nat (j:=z) (by omega))) (lo':=[]) (by kernel_rfl),Uy ..⟩
 ·rw [List.take_length]
  by_cases h6:(ms.take 4).length<ms.length
  ·have h7:(ms.take 4).length=4:=by rw [List.length_take] at h6 ⊢;omega
   exact run_of [(37,.b true),(40,.b false)] [] (pf2 (aI (j:=(ms.take 4).length) (k:=(aX ms).length) (by omega)) (aJ (j:=(ms.take 4).length) (k:=4) (by omega))) (lo':=[]) (by kernel_rfl)
  ·exact run_of [(37,.b false)] [] (pf1 (aJ (j:=(ms.take 4).length) (k:=(aX ms).length) (by omega))) (lo':=[]) (by kernel_rfl)
theorem zb3 (M:Nat)(hM:40≤M)(a b:Int)(l acc:List (List X))(j:Nat)(k i s n t:Int)(tx:ByteArray)(vl vf its:List (List X))(k' i' s':Int)(tx':ByteArray)(vl' vf' qg:List (List X))(z2:Nat)(ms:List Val):
  run (callF tab ext M) 0 M (.loop (loopAt 21 2)) (swH a b l acc j k i s n t tx vl vf its (aj ms) k' i' s' tx' vl' vf' qg [] 0 z2)=some (.exit 4,swE a b l acc j k i s n t tx vl vf its (aj ms) k' i' s' tx' vl' vf' qg (aj ((ms.take 4).map (aU 3))) (ms.take 4).length z2):=by
 have el:=aO ms
 refine dR (σ:=fun z=>swH a b l acc j k i s n t tx vl vf its (aj ms) k' i' s' tx' vl' vf' qg (aj (((ms.take 4).take z).map (aU 3))) z z2) (k:=(ms.take 4).length) (Yq ..) (fun z hz=>?_) ?_ (by simp) (by rw [List.length_take];omega)
 ·have hj1:z<ms.length:=by rw [List.length_take] at hz;omega
  have hj2:z<4:=by rw [List.length_take] at hz;omega
  have hg:=gX hj1
  have hc:=jf 3 ms[z] M (by omega) (by omega)
  have hlen:(aj (((ms.take 4).take z).map (aU 3))).length=z:=by rw [aO,List.length_map,List.length_take,List.length_take];omega
  rw [ig (aU 3) hz,Ar]
  generalize ms[z]=v at hg hc
  generalize aU 3 v=w at hc
  generalize aj (((ms.take 4).take z).map (aU 3))=vs' at hlen
  obtain ⟨a5,a6,a7,a8,a9,a0⟩:=v
  obtain ⟨b5,b6,b7,b8,b9,b0⟩:=w
  exact ⟨_,run_of (σ':=swN a b l acc j k i s n t tx vl vf its (aj ms) k' i' s' tx' vl' vf' qg vs' z z2 (Val.mk b5 b6 b7 b8 b9 b0).cells) [(59,.b true),(62,.b true),(71,.e (Val.mk a5 a6 a7 a8 a9 a0).cells),(73,.p (.agg (Val.mk b5 b6 b7 b8 b9 b0).cells)),(75,.app),(65,.i (Int.ofNat (z+1)))] []
   (pf6 (aI (j:=z) (k:=(aj ms).length) (by omega)) (kD hj2) hg hc (fZ (acc:=vs') z 6 88 hlen.symm (by omega) (by omega)) (next_nat (j:=z) (by omega))) (lo':=[]) (by kernel_rfl),TM ..⟩
 ·rw [List.take_length]
  by_cases h6:(ms.take 4).length<ms.length
  ·have h7:(ms.take 4).length=4:=by rw [List.length_take] at h6 ⊢;omega
   exact run_of [(59,.b true),(62,.b false)] [] (pf2 (aI (j:=(ms.take 4).length) (k:=(aj ms).length) (by omega)) (aJ (j:=(ms.take 4).length) (k:=4) (by omega))) (lo':=[]) (by kernel_rfl)
  ·exact run_of [(59,.b false)] [] (pf1 (aJ (j:=(ms.take 4).length) (k:=(aj ms).length) (by omega))) (lo':=[]) (by kernel_rfl)
section
variable (a b:Int) (l acc:List (List X)) (j:Nat) (k i s n t:Int) (tx:ByteArray) (vl vf its vs:List (List X)) (k' i' s':Int) (tx':ByteArray) (vl' vf' qg vs':List (List X)) (z z2:Nat) (x:List X)
def ssN:St:=⟨[(1,.ptr 0 0 0),(2,.ptr 1 0 0),(3,.bs 7 0 (j+1)),(4,nat (j+1))],[.var [num a,num b,.sl false 10 l],.var kX,.dead,.var (lW k i s tx vl vf n t its vs),.var (lW k' i' s' tx' vl' vf' n t (qg.take z) (vs'.take z2)),.dead,.dead,.row 10 (acc++[lW k' i' s' tx' vl' vf' n t (qg.take z) (vs'.take z2)])]⟩
theorem Ub:canon 0 (ssN a b l acc j k i s n t tx vl vf its vs k' i' s' tx' vl' vf' qg vs' z z2)=some (ssH a b l (acc++[lW k' i' s' tx' vl' vf' n t (qg.take z) (vs'.take z2)]) (j+1)):=by kernel_rfl
end
theorem zb7 (M:Nat)(hM:50≤M)(a b:Int)(ss:List Slt){τ:St}(hτ:canon 0 τ=some (ssH a b (bf ss) [] 0)):
  run (callF tab ext M) 0 M (.loop (loopAt 21 0)) τ=some (.exit 0,⟨[(1,.ptr 0 0 0),(2,.ptr 1 0 0),(3,.bs 2 0 (ss.take 6).length),(4,nat (ss.take 6).length),(17,boolX false)],[.var [num a,num b,.sl false 10 (bf ss)],.var kX,.row 10 (bf ((ss.take 6).map lX))]⟩):=by
 have el:=je ss
 refine dR (σ:=fun z=>ssH a b (bf ss) (bf (((ss.take 6).take z).map lX)) z) (k:=(ss.take 6).length) hτ (fun z hz=>?_) ?_ (by simp) (by rw [List.length_take];omega)
 ·have hj1:z<ss.length:=by rw [List.length_take] at hz;omega
  have hj2:z<6:=by rw [List.length_take] at hz;omega
  have hg:=yG hj1
  have hc:=jf 2 ss[z].key M (by omega) (by omega)
  have hlen:(bf (((ss.take 6).take z).map lX)).length=z:=by rw [je,List.length_map,List.length_take,List.length_take];omega
  have hi:=fun vl vf k i s tx n t vs k' i' s' tx' vl' vf'=>zce M (by omega) a b (bf ss) (bf (((ss.take 6).take z).map lX)) z k i s n t tx vl vf vs k' i' s' tx' vl' vf' ss[z].items
  have hv:=fun vl vf k i s tx n t its k' i' s' tx' vl' vf' qg z2=>zb3 M (by omega) a b (bf ss) (bf (((ss.take 6).take z).map lX)) z k i s n t tx vl vf its k' i' s' tx' vl' vf' qg z2 ss[z].vals
  rw [ig lX hz,PX]
  generalize ss[z]=v at hg hc hi hv
  obtain ⟨⟨a1,a2,a3,a4,a5,a6⟩,a7,a8,ms,vs⟩:=v
  have e:(lX ⟨.mk a1 a2 a3 a4 a5 a6,a7,a8,ms,vs⟩).cells=(Slt.mk (aU 2 (.mk a1 a2 a3 a4 a5 a6)) a7 a8 ((ms.take 4).map dM) ((vs.take 4).map (aU 3))).cells:=rfl
  rw [e]
  dsimp only at hc hi hv
  generalize aU 2 (.mk a1 a2 a3 a4 a5 a6)=w at hc
  obtain ⟨b1,b2,b3,b4,b5,b6⟩:=w
  have l1:(aX ((ms.take 4).map dM)).length=(ms.take 4).length:=by rw [jg,List.length_map]
  have l2:(aj ((vs.take 4).map (aU 3))).length=(vs.take 4).length:=by rw [aO,List.length_map]
  have hi':=hi (aj a5) (ay a6) a1 a2 a3 a4 a7 a8 (aj vs) b1 b2 b3 b4 (aj b5) (ay b6)
  have hv':=hv (aj a5) (ay a6) a1 a2 a3 a4 a7 a8 (aX ms) b1 b2 b3 b4 (aj b5) (ay b6) (aX ((ms.take 4).map dM)) (ms.take 4).length
  generalize bf (((ss.take 6).take z).map lX)=acc at hlen hi' hv'
  have e1:(Slt.mk (.mk b1 b2 b3 b4 b5 b6) a7 a8 ((ms.take 4).map dM) ((vs.take 4).map (aU 3))).cells=lW b1 b2 b3 b4 (aj b5) (ay b6) a7 a8 ((aX ((ms.take 4).map dM)).take (ms.take 4).length) ((aj ((vs.take 4).map (aU 3))).take (vs.take 4).length):=by
   rw [List.take_of_length_le (Nat.le_of_eq l1),List.take_of_length_le (Nat.le_of_eq l2)];rfl
  rw [e1]
  generalize aX ((ms.take 4).map dM)=qg at l1 hi' hv'
  generalize aj ((vs.take 4).map (aU 3))=vs' at l2 hv'
  generalize (ms.take 4).length=z1 at l1 hi' hv'
  generalize (vs.take 4).length=z2 at l2 hv'
  exact ⟨_,run_of (σ':=ssN a b (bf ss) acc z a1 a2 a3 a7 a8 a4 (aj a5) (ay a6) (aX ms) (aj vs) b1 b2 b3 b4 (aj b5) (ay b6) qg vs' z1 z2)
   [(13,.b true),(16,.b true),(23,.e (lW a1 a2 a3 a4 (aj a5) (ay a6) a7 a8 (aX ms) (aj vs))),(27,.p (.agg (Val.mk b1 b2 b3 b4 b5 b6).cells)),(80,.app),(19,.i (Int.ofNat (z+1)))]
   [(.exit 2,siE a b (bf ss) acc z a1 a2 a3 a7 a8 a4 (aj a5) (ay a6) (aX ms) (aj vs) b1 b2 b3 b4 (aj b5) (ay b6) qg z1),(.exit 4,swE a b (bf ss) acc z a1 a2 a3 a7 a8 a4 (aj a5) (ay a6) (aX ms) (aj vs) b1 b2 b3 b4 (aj b5) (ay b6) qg vs' z2 z1)]
   (zgY (aI (j:=z) (k:=(bf ss).length) (by omega)) (kD hj2) hg hc hi' hv' (show 0+z1≤qg.length by omega) (show 0+z2≤vs'.length by omega) (fZ (acc:=acc) z 2 152 hlen.symm (by omega) (by omega)) (next_nat (j:=z) (by omega))) (lo':=[]) (by kernel_rfl),Ub ..⟩
 ·rw [List.take_length]
  by_cases h6:(ss.take 6).length<ss.length
  ·have h7:(ss.take 6).length=6:=by rw [List.length_take] at h6 ⊢;omega
   exact run_of [(13,.b true),(16,.b false)] [] (pf2 (aI (j:=(ss.take 6).length) (k:=(bf ss).length) (by omega)) (aJ (j:=(ss.take 6).length) (k:=6) (by omega))) (lo':=[]) (by kernel_rfl)
  ·exact run_of [(13,.b false)] [] (pf1 (aJ (j:=(ss.take 6).length) (k:=(bf ss).length) (by omega))) (lo':=[]) (by kernel_rfl)
theorem JI (s:Stt)(N:Nat)(hN:60≤N):Gam.pureD (callF tab ext N) 21 [.agg s.cells]=some (.agg (shortS s).cells):=by
 obtain ⟨M,rfl⟩:∃M,N=M+1:=⟨N-1,by omega⟩
 obtain ⟨a,b,ss⟩:=s
 have hl:=zb7 M (by omega) a b ss (τ:=⟨[(1,.ptr 0 0 0),(2,.ptr 1 0 0),(3,.bs 2 0 0),(4,num 0)],[.var [num a,num b,.sl false 10 (bf ss)],.var kX,.row 10 []]⟩) (by kernel_rfl)
 have l1:(bf ((ss.take 6).map lX)).length=(ss.take 6).length:=by rw [je,List.length_map]
 have e:(shortS ⟨a,b,ss⟩).cells=[num a,num b,.sl false 10 (bf ((ss.take 6).map lX))]:=rfl
 rw [e]
 generalize bf ((ss.take 6).map lX)=acc at l1 hl
 generalize (ss.take 6).length=z at l1 hl
 have hd:(X.agg [num a,num b,.bs 0 0 z]).data [.row 10 acc] false=some (.agg [num a,num b,.sl false 10 acc]):=by
  subst l1;simp [X.data,fG,rowOf,num]
 exact pure_of [] [(.exit 0,⟨[(1,.ptr 0 0 0),(2,.ptr 1 0 0),(3,.bs 2 0 z),(4,nat z),(17,boolX false)],[.var [num a,num b,.sl false 10 (bf ss)],.var kX,.row 10 acc]⟩)] (pf1 hl) (x:=.agg [num a,num b,.bs 0 0 z]) (bx:=[.row 10 acc]) (by kernel_rfl) hd
mutual
theorem qN:∀(n:Nat) (v:Val),(aU n v).size≤13^n*2-1
 |0,.mk .. =>by simp [aU,Val.size,wS,wU]
 |n+1,.mk k i s t l f=>by
  have h1:∀l:List Val,wS (l.map (aU n))≤l.length*(13^n*2):=fun l=>by
   induction l with
   |nil=>simp [wS]
   |cons v l ih=>
    have:=qN n v
    have hp:0<13^n:=Nat.pow_pos (by omega)
    simp only [List.map_cons,wS,List.length_cons,Nat.add_mul];omega
  have h2:∀l:List (ByteArray×Val),wU (l.map fun p=>(fB 40 p.1,aU n p.2))≤l.length*(13^n*2):=fun l=>by
   induction l with
   |nil=>simp [wU]
   |cons v l ih=>
    have:=qN n v.2
    have hp:0<13^n:=Nat.pow_pos (by omega)
    simp only [List.map_cons,wU,List.length_cons,Nat.add_mul];omega
  have g1:=h1 (l.take 6)
  have g2:=h2 (f.take 6)
  have e1:(l.take 6).length*(13^n*2)≤6*(13^n*2):=Nat.mul_le_mul_right _ (by rw [List.length_take];omega)
  have e2:(f.take 6).length*(13^n*2)≤6*(13^n*2):=Nat.mul_le_mul_right _ (by rw [List.length_take];omega)
  have hp:0<13^n:=Nat.pow_pos (by omega)
  simp only [aU,Val.size]
  rw [Nat.pow_succ]
  omega
end
theorem xR {n:Nat}(v:Val)(h:n≤4):(aU n v).ok:=by
 have h1:=qN n v
 have h2:13^n≤13^4:=Nat.pow_le_pow_right (by omega) h
 unfold Val.ok
 have h3:13^4=28561:=rfl
 omega
theorem yK (m:Msg):(dM m).ok:=⟨⟨by have:=Ae m.st.p;show (zas m.st.p).length≤60000;omega⟩,by have:=Ae m.orig;show (zas m.orig).length≤60000;omega,xR _ (by omega)⟩
theorem vZ (s:Stt):(shortS s).small:=by
 refine ⟨?_,fun x hx=>?_⟩
 ·show ((s.slots.take 6).map lX).length≤100
  rw [List.length_map,List.length_take];omega
 ·obtain ⟨y,hy,rfl⟩:=List.mem_map.1 hx
  have h1:((y.items.take 4).map dM).length≤4:=by rw [List.length_map,List.length_take];omega
  have h2:((y.vals.take 4).map (aU 3)).length≤4:=by rw [List.length_map,List.length_take];omega
  refine ⟨⟨xR _ (by omega),?_,fun m hm=>?_,?_,fun v hv=>?_⟩,?_,?_⟩
  ·show ((y.items.take 4).map dM).length≤60000;omega
  ·obtain ⟨m',_,rfl⟩:=List.mem_map.1 hm;exact yK m'
  ·show ((y.vals.take 4).map (aU 3)).length≤60000;omega
  ·obtain ⟨v',_,rfl⟩:=List.mem_map.1 hv;exact xR v' (by omega)
  ·show ((y.items.take 4).map dM).length≤100;omega
  ·show ((y.vals.take 4).map (aU 3)).length≤100;omega
end Go.Proofs.YtjbndifenhihhaaGreatDoor
namespace Go.Proofs.YtjbndifenhihhaaGreatDoor
open Go.Em
set_option maxRecDepth 100000
theorem iD {nIn:Nat}{b:C}{B:Nat}{H:Nat→List (List X)→St}{k:Nat}{e:Ex}{E:List (List X)→St}{τ:St}(Q:List X→Prop)(hτ:canon nIn τ=some (H 0 []))
  (hstep:∀j acc,j<k→acc.length=j→∃x υ,Q x∧canon nIn υ=some (H (j+1) (acc++[x]))∧∀M,B≤M→run (callF tab ext M) nIn M b (H j acc)=some (.norm,υ))
  (hend:∀acc,acc.length=k→∀M,B≤M→run (callF tab ext M) nIn M b (H k acc)=some (e,E acc)) (hne:e≠.norm):
  ∃acc:List (List X),acc.length=k∧(∀x,x∈acc→Q x)∧∀M,B≤M→k<M→run (callF tab ext M) nIn M (.loop b) τ=some (e,E acc):=by
 have key:∀d j acc,j+d=k→acc.length=j→(∀x,x∈acc→Q x)→∃fin:List (List X),fin.length=k∧(∀x,x∈fin→Q x)∧∀M F υ,B≤M→d<F→canon nIn υ=some (H j acc)→iter nIn (run (callF tab ext M) nIn M b) F υ=some (e,E fin):=by
  intro d
  induction d with
  |zero=>
   intro j acc hj hacc hq
   have hjk:j=k:=by omega
   subst hjk
   refine ⟨acc,hacc,hq,fun M F υ hM hF hc=>?_⟩
   obtain ⟨F',rfl⟩:∃F',F=F'+1:=⟨F-1,by omega⟩
   exact bC hc (hend acc hacc M hM) hne
  |succ d ih=>
   intro j acc hj hacc hq
   obtain ⟨x,υ,hx,hc,hs⟩:=hstep j acc (by omega) hacc
   obtain ⟨fin,hf,hfq,h⟩:=ih (j+1) (acc++[x]) (by omega) (by simp [hacc]) (fun y hy=>by
    rcases List.mem_append.1 hy with hy|hy
    ·exact hq y hy
    ·rw [List.mem_singleton] at hy;subst hy;exact hx)
   refine ⟨fin,hf,hfq,fun M F ω hM hF hω=>?_⟩
   obtain ⟨F',rfl⟩:∃F',F=F'+1:=⟨F-1,by omega⟩
   exact dG hω (hs M hM) (h M F' υ hM (by omega) hc)
 obtain ⟨fin,hf,hfq,h⟩:=key k 0 [] (by omega) rfl (fun x hx=>by cases hx)
 exact ⟨fin,hf,hfq,fun M hM hk=>by simp only [run];exact h M M τ hM hk hτ⟩
def kOf (n len K:Nat):Nat:=if n=0 then 0 else min len K
theorem tK (n len K:Nat):kOf n len K≤len∧kOf n len K≤K:=by unfold kOf;split<;>omega
def isVal (c:List X):Prop:=∃v:Val,c=v.cells
def EO:Nat→List X→Prop
 |0,c=>∃o i t vs es,c=[num o,num i,strX t,.sl false 6 vs,.sl false 5 es]∧∀x,x∈vs→isVal x
 |n+1,c=>∃o i t vs es,c=[num o,num i,strX t,.sl false 6 vs,.sl false 5 es]∧(∀x,x∈vs→isVal x)∧∀x,x∈es→EO n x
theorem QT:∀{n:Nat} {c:List X},EO n c→EO 0 c
 |0,_,h=>h
 |_+1,_,⟨o,i,t,vs,es,h1,h2,_⟩=>⟨o,i,t,vs,es,h1,h2⟩
def XD:List X:=[num 0,num 0,noText,.sl true 6 [],.sl true 5 []]
def jE (o i:Int)(t:ByteArray)(vs es:List (List X)):List X:=[num o,num i,strX t,.sl false 6 vs,.sl false 5 es]
def sE:Nat→List X→Prop
 |0,_=>False
 |h+1,x=>∃o i t vs es,x=jE o i t vs es∧t.size≤60∧vs.length≤2∧(∀v,v∈vs→∃w:Val,v=(aU 1 w).cells)∧es.length≤4∧∀e,e∈es→sE h e
theorem iV (n:Nat)(t:ByteArray):(fB n t).size≤n:=by
 unfold fB
 rw [ByteArray.size_extract]
 omega
section
variable (n:Nat) (o i:Int) (t:ByteArray) (l f:List (List X)) (acc:List (List X)) (j:Nat) (x:List X)
def xvH:St:=⟨[(1,num (Int.ofNat (n+1))),(2,.ptr 0 0 0),(4,.ptr 1 0 0),(5,.bs 2 0 j),(6,nat j)],[.var (jE o i t l f),.var XD,.row 6 acc]⟩
def xvN:St:=⟨[(1,num (Int.ofNat (n+1))),(2,.ptr 0 0 0),(4,.ptr 1 0 0),(5,.bs 3 0 (j+1)),(6,nat (j+1))],[.var (jE o i t l f),.var XD,.dead,.row 6 (acc++[x])]⟩
def xvE:St:=⟨[(1,num (Int.ofNat (n+1))),(2,.ptr 0 0 0),(4,.ptr 1 0 0),(5,.bs 2 0 j),(6,nat j),(25,boolX false)],[.var (jE o i t l f),.var XD,.row 6 acc]⟩
theorem XJ:canon 0 (xvN n o i t l f acc j x)=some (xvH n o i t l f (acc++[x]) (j+1)):=by kernel_rfl
end
theorem Ti (n:Nat)(o i:Int)(t:ByteArray)(l f:List (List X))(hl:∀x,x∈l→isVal x){τ:St}(hτ:canon 0 τ=some (xvH n o i t l f [] 0)):∃acc,acc.length=min l.length 2∧(∀x,x∈acc→(fun x=>∃w:Val,x=(aU 1 w).cells) x)∧∀M,40≤M→run (callF tab ext M) 0 M (.loop (loopAt 114 0)) τ=some (.exit 0,xvE n o i t l f acc (min l.length 2)):=by
 have hK:min l.length 2≤2:=by exact Nat.min_le_right _ _
 have key:∃acc:List (List X),acc.length=min l.length 2∧(∀x,x∈acc→(fun x=>∃w:Val,x=(aU 1 w).cells) x)∧∀M,40≤M→min l.length 2<M→run (callF tab ext M) 0 M (.loop (loopAt 114 0)) τ=some (.exit 0,xvE n o i t l f acc (min l.length 2)):=?_
 ·obtain ⟨acc,h1,hq,h2⟩:=key
  exact ⟨acc,h1,hq,fun M hM=>h2 M hM (by omega)⟩
 refine iD (nIn:=0) (b:=loopAt 114 0) (B:=40) (H:=fun j acc=>xvH n o i t l f acc j) (k:=min l.length 2) (e:=.exit 0) (E:=fun acc=>xvE n o i t l f acc (min l.length 2)) (fun x=>∃w:Val,x=(aU 1 w).cells) hτ (fun j acc hj hacc=>?_) (fun acc hacc M hM=>?_) (by simp)
 ·have hj1:j<l.length:=by omega
  have hj2:j<2:=by omega
  obtain ⟨v,hv⟩:=hl _ (List.getElem_mem hj1)
  have hg:l[j]?=some v.cells:=by rw [List.getElem?_eq_getElem hj1,hv]
  have hc:=jf 1 v
  generalize hw:aU 1 v=w at hc
  obtain ⟨a1,a2,a3,a4,a5,a6⟩:=v
  obtain ⟨b1,b2,b3,b4,b5,b6⟩:=w
  exact ⟨(Val.mk b1 b2 b3 b4 b5 b6).cells,xvN n o i t l f acc j ((Val.mk b1 b2 b3 b4 b5 b6).cells),⟨_,by rw [hw]⟩,XJ ..,fun M hM=>run_of [(21,.b true),(24,.b true),(32,.e (Val.mk a1 a2 a3 a4 a5 a6).cells),(34,.p (.agg (Val.mk b1 b2 b3 b4 b5 b6).cells)),(36,.app),(27,.i (Int.ofNat (j+1)))] [] (pf6 (aI (j:=j) (k:=l.length) hj1) (kD hj2) hg (hc M (by omega) (by omega)) (fZ (acc:=acc) j 2 88 hacc.symm (by omega) (by omega)) (next_nat (j:=j) (by omega))) (lo':=[]) (by kernel_rfl)⟩
 ·generalize hq:min l.length 2=q
  by_cases h6:q<l.length
  ·exact run_of [(21,.b true),(24,.b false)] [] (pf2 (aI (j:=q) (k:=l.length) h6) (aJ (j:=q) (k:=2) (by omega))) (lo':=[]) (by kernel_rfl)
  ·exact run_of [(21,.b false)] [] (pf1 (aJ (j:=q) (k:=l.length) h6)) (lo':=[]) (by kernel_rfl)
section
variable (n:Nat) (o i:Int) (t:ByteArray) (l f acc0:List (List X)) (m:Nat) (acc:List (List X)) (j:Nat) (x:List X)
def xaH:St:=⟨[(1,num (Int.ofNat (n+1))),(2,.ptr 0 0 0),(4,.ptr 1 0 0),(5,.bs 2 0 m),(7,.bs 3 0 j),(8,nat j)],[.var (jE o i t l f),.var XD,.row 6 acc0,.row 5 acc]⟩
def xaN:St:=⟨[(1,num (Int.ofNat (n+1))),(2,.ptr 0 0 0),(4,.ptr 1 0 0),(5,.bs 2 0 m),(7,.bs 4 0 (j+1)),(8,nat (j+1))],[.var (jE o i t l f),.var XD,.row 6 acc0,.dead,.row 5 (acc++[x])]⟩
def xaE:St:=⟨[(1,num (Int.ofNat (n+1))),(2,.ptr 0 0 0),(4,.ptr 1 0 0),(5,.bs 2 0 m),(7,.bs 3 0 j),(8,nat j),(49,boolX false)],[.var (jE o i t l f),.var XD,.row 6 acc0,.row 5 acc]⟩
theorem XK:canon 0 (xaN n o i t l f acc0 m acc j x)=some (xaH n o i t l f acc0 m (acc++[x]) (j+1)):=by kernel_rfl
end
theorem Tm (n:Nat)(o i:Int)(t:ByteArray)(l f acc0:List (List X))(m:Nat)(hn:n<1000)(hf:∀m,n=m+1→∀x,x∈f→∃o i t vs es o' i' t' vs' es',x=jE o i t vs es∧sE n (jE o' i' t' vs' es')∧∀N,50+n≤N→Gam.pureD (callF tab ext N) 114 [.agg (jE o i t vs es),nat (m+1)]=some (.agg (jE o' i' t' vs' es'))){τ:St}(hτ:canon 0 τ=some (xaH n o i t l f acc0 m [] 0)):∃acc,acc.length=kOf n f.length 4∧(∀x,x∈acc→(sE n) x)∧∀M,(50+n)≤M→run (callF tab ext M) 0 M (.loop (loopAt 114 1)) τ=some (.exit 2,xaE n o i t l f acc0 m acc (kOf n f.length 4)):=by
 have hkk:kOf n f.length 4≤f.length∧kOf n f.length 4≤4:=tK ..
 have hK:kOf n f.length 4≤4:=by omega
 have key:∃acc:List (List X),acc.length=kOf n f.length 4∧(∀x,x∈acc→(sE n) x)∧∀M,(50+n)≤M→kOf n f.length 4<M→run (callF tab ext M) 0 M (.loop (loopAt 114 1)) τ=some (.exit 2,xaE n o i t l f acc0 m acc (kOf n f.length 4)):=?_
 ·obtain ⟨acc,h1,hq,h2⟩:=key
  exact ⟨acc,h1,hq,fun M hM=>h2 M hM (by omega)⟩
 refine iD (nIn:=0) (b:=loopAt 114 1) (B:=(50+n)) (H:=fun j acc=>xaH n o i t l f acc0 m acc j) (k:=kOf n f.length 4) (e:=.exit 2) (E:=fun acc=>xaE n o i t l f acc0 m acc (kOf n f.length 4)) (sE n) hτ (fun j acc hj hacc=>?_) (fun acc hacc M hM=>?_) (by simp)
 ·have hj1:j<f.length:=by omega
  have hj2:j<4:=by omega
  obtain ⟨n,rfl⟩:∃m,n=m+1:=by
   cases n with
   |zero=>simp [kOf] at hj
   |succ m=>exact ⟨m,rfl⟩
  obtain ⟨o1,i1,t1,v1,e1,o2,i2,t2,v2,e2,hv,hs,hc⟩:=hf n rfl _ (List.getElem_mem hj1)
  have hg:f[j]?=some (jE o1 i1 t1 v1 e1):=by rw [List.getElem?_eq_getElem hj1,hv]
  exact ⟨(jE o2 i2 t2 v2 e2),xaN (n+1) o i t l f acc0 m acc j ((jE o2 i2 t2 v2 e2)),hs,XK ..,fun M hM=>run_of [(41,.b true),(44,.b true),(48,.b true),(56,.e (jE o1 i1 t1 v1 e1)),(59,.i (Int.ofNat (n+1))),(60,.p (.agg (jE o2 i2 t2 v2 e2))),(62,.app),(51,.i (Int.ofNat (j+1)))] [] (pf8 (aI (j:=j) (k:=f.length) hj1) (kD hj2) (IJ n) hg (FH (j:=n+1) (by omega)) (hc M (by omega)) (fZ (acc:=acc) j 3 80 hacc.symm (by omega) (by omega)) (next_nat (j:=j) (by omega))) (lo':=[]) (by kernel_rfl)⟩
 ·cases n with
  |zero=>
   have e0:kOf 0 f.length 4=0:=rfl
   rw [e0]
   cases h1:decide (Int.ofNat 0<Int.ofNat f.length) with
   |true=>exact run_of [(41,.b true)] [] (pf1 h1) (lo':=[]) (by kernel_rfl)
   |false=>exact run_of [(41,.b false)] [] (pf1 h1) (lo':=[]) (by kernel_rfl)
  |succ n=>
   have e1:kOf (n+1) f.length 4=min f.length 4:=rfl
   rw [e1]
   generalize hq:min f.length 4=q
   by_cases h6:q<f.length
   ·exact run_of [(41,.b true),(44,.b false)] [] (pf2 (aI (j:=q) (k:=f.length) h6) (aJ (j:=q) (k:=4) (by omega))) (lo':=[]) (by kernel_rfl)
   ·exact run_of [(41,.b false)] [] (pf1 (aJ (j:=q) (k:=f.length) h6)) (lo':=[]) (by kernel_rfl)
theorem UA:∀(n:Nat) (c:List X),n<1000→EO n c→∃o i t vs es o' i' t' vs' es',c=jE o i t vs es∧sE (n+1) (jE o' i' t' vs' es')∧∀N,50+(n+1)≤N→Gam.pureD (callF tab ext N) 114 [.agg (jE o i t vs es),nat (n+1)]=some (.agg (jE o' i' t' vs' es')):=by
 intro n
 induction n with
 |zero=>
  rintro c hn ⟨o,i,t,l,f,rfl,hl⟩
  obtain ⟨acc,h1,p1,h2⟩:=Ti 0 o i (fB 60 t) l f hl (τ:=⟨[(1,num (Int.ofNat (0+1))),(2,.ptr 0 0 0),(4,.ptr 1 0 0),(5,.bs 2 0 0),(6,nat 0)],[.var (jE o i (fB 60 t) l f),.var XD,.row 6 []]⟩) (by kernel_rfl)
  have q1:min l.length 2≤2:=Nat.min_le_right _ _
  generalize min l.length 2=m at h1 h2 q1
  obtain ⟨iG,h3,p2,h4⟩:=Tm 0 o i (fB 60 t) l f acc m (by omega) (fun m hm=>by omega) (τ:=⟨[(1,num (Int.ofNat (0+1))),(2,.ptr 0 0 0),(4,.ptr 1 0 0),(5,.bs 2 0 m),(7,.bs 3 0 0),(8,nat 0)],[.var (jE o i (fB 60 t) l f),.var XD,.row 6 acc,.row 5 []]⟩) (by kernel_rfl)
  have q2:=(tK 0 f.length 4).2
  generalize kOf 0 f.length 4=q at h3 h4 q2
  refine ⟨o,i,t,l,f,o,i,fB 60 t,acc,iG,rfl,⟨o,i,fB 60 t,acc,iG,rfl,iV 60 t,by omega,p1,by omega,p2⟩,fun N hN=>?_⟩
  obtain ⟨M,rfl⟩:∃M,N=M+1:=⟨N-1,by omega⟩
  have hd:(X.agg [num o,num i,strX (fB 60 t),.bs 0 0 m,.bs 1 0 q]).data [.row 6 acc,.row 5 iG] false=some (.agg (jE o i (fB 60 t) acc iG)):=by
   subst h1 h3;simp [X.data,fG,rowOf,num,strX,jE]
  exact pure_of [(14,.i (Int.ofNat (min t.size 60))),(15,.cut)] [(.exit 0,xvE 0 o i (fB 60 t) l f acc m),(.exit 2,xaE 0 o i (fB 60 t) l f acc m iG q)] (pf4 (iC t.size 60) (lH t.size 60) (h2 M (by omega)) (h4 M (by omega)))
   (x:=.agg [num o,num i,strX (fB 60 t),.bs 0 0 m,.bs 1 0 q]) (bx:=[.row 6 acc,.row 5 iG]) (by kernel_rfl) hd
 |succ n ih=>
  rintro c hn ⟨o,i,t,l,f,rfl,hl,hf⟩
  obtain ⟨acc,h1,p1,h2⟩:=Ti (n+1) o i (fB 60 t) l f hl (τ:=⟨[(1,num (Int.ofNat (n+1+1))),(2,.ptr 0 0 0),(4,.ptr 1 0 0),(5,.bs 2 0 0),(6,nat 0)],[.var (jE o i (fB 60 t) l f),.var XD,.row 6 []]⟩) (by kernel_rfl)
  have q1:min l.length 2≤2:=Nat.min_le_right _ _
  generalize min l.length 2=m at h1 h2 q1
  obtain ⟨iG,h3,p2,h4⟩:=Tm (n+1) o i (fB 60 t) l f acc m (by omega) (fun m hm x hx=>by
   obtain rfl:n=m:=by omega
   exact ih x (by omega) (hf x hx)) (τ:=⟨[(1,num (Int.ofNat (n+1+1))),(2,.ptr 0 0 0),(4,.ptr 1 0 0),(5,.bs 2 0 m),(7,.bs 3 0 0),(8,nat 0)],[.var (jE o i (fB 60 t) l f),.var XD,.row 6 acc,.row 5 []]⟩) (by kernel_rfl)
  have q2:=(tK (n+1) f.length 4).2
  generalize kOf (n+1) f.length 4=q at h3 h4 q2
  refine ⟨o,i,t,l,f,o,i,fB 60 t,acc,iG,rfl,⟨o,i,fB 60 t,acc,iG,rfl,iV 60 t,by omega,p1,by omega,p2⟩,fun N hN=>?_⟩
  obtain ⟨M,rfl⟩:∃M,N=M+1:=⟨N-1,by omega⟩
  have hd:(X.agg [num o,num i,strX (fB 60 t),.bs 0 0 m,.bs 1 0 q]).data [.row 6 acc,.row 5 iG] false=some (.agg (jE o i (fB 60 t) acc iG)):=by
   subst h1 h3;simp [X.data,fG,rowOf,num,strX,jE]
  exact pure_of [(14,.i (Int.ofNat (min t.size 60))),(15,.cut)] [(.exit 0,xvE (n+1) o i (fB 60 t) l f acc m),(.exit 2,xaE (n+1) o i (fB 60 t) l f acc m iG q)] (pf4 (iC t.size 60) (lH t.size 60) (h2 M (by omega)) (h4 M (by omega)))
   (x:=.agg [num o,num i,strX (fB 60 t),.bs 0 0 m,.bs 1 0 q]) (bx:=[.row 6 acc,.row 5 iG]) (by kernel_rfl) hd
def qL (c:List X):Prop:=∃t e,c=strX t::e∧EO 3 e
def zF (c:List X):Prop:=∃s o i t vs es,c=[strX s,num o,num i,strX t,.sl false 6 vs,.sl false 5 es]∧s.size≤60∧sE 4 (jE o i t vs es)
def G9 (s:ByteArray)(o i:Int)(t:ByteArray)(vs es:List (List X)):List X:=[strX s,num o,num i,strX t,.sl false 6 vs,.sl false 5 es]
section
variable (l:List (List X)) (acc:List (List X)) (j:Nat) (x:List X)
def ruH:St:=⟨[(1,.ptr 0 0 0),(2,.ptr 1 0 0),(3,.ptr 2 0 0),(4,nat j)],[.var [.sl false 6 l],.var [.sl true 6 []],.var [.bs 3 0 j],.row 6 acc]⟩
def ruN:St:=⟨[(1,.ptr 0 0 0),(2,.ptr 1 0 0),(3,.ptr 2 0 0),(4,nat (j+1))],[.var [.sl false 6 l],.var [.sl true 6 []],.var [.bs 4 0 (j+1)],.dead,.row 6 (acc++[x])]⟩
def ruE:St:=⟨[(1,.ptr 0 0 0),(2,.ptr 1 0 0),(3,.ptr 2 0 0),(4,nat j),(13,boolX false)],[.var [.sl false 6 l],.var [.sl true 6 []],.var [.bs 3 0 j],.row 6 acc]⟩
theorem YG:canon 0 (ruN l acc j x)=some (ruH l (acc++[x]) (j+1)):=by kernel_rfl
end
theorem zct (l:List (List X))(hl:∀x,x∈l→qL x){τ:St}(hτ:canon 0 τ=some (ruH l [] 0)):∃acc,acc.length=min l.length 8∧(∀x,x∈acc→(zF) x)∧∀M,100≤M→run (callF tab ext M) 0 M (.loop (loopAt 62 0)) τ=some (.exit 0,ruE l acc (min l.length 8)):=by
 have hK:min l.length 8≤8:=by exact Nat.min_le_right _ _
 have key:∃acc:List (List X),acc.length=min l.length 8∧(∀x,x∈acc→(zF) x)∧∀M,100≤M→min l.length 8<M→run (callF tab ext M) 0 M (.loop (loopAt 62 0)) τ=some (.exit 0,ruE l acc (min l.length 8)):=?_
 ·obtain ⟨acc,h1,hq,h2⟩:=key
  exact ⟨acc,h1,hq,fun M hM=>h2 M hM (by omega)⟩
 refine iD (nIn:=0) (b:=loopAt 62 0) (B:=100) (H:=fun j acc=>ruH l acc j) (k:=min l.length 8) (e:=.exit 0) (E:=fun acc=>ruE l acc (min l.length 8)) (zF) hτ (fun j acc hj hacc=>?_) (fun acc hacc M hM=>?_) (by simp)
 ·have hj1:j<l.length:=by omega
  have hj2:j<8:=by omega
  obtain ⟨s,e,hv,he⟩:=hl _ (List.getElem_mem hj1)
  obtain ⟨o1,i1,t1,v1,e1,o2,i2,t2,v2,e2,rfl,hs,hc⟩:=UA 3 e (by omega) he
  have hg:l[j]?=some (G9 s o1 i1 t1 v1 e1):=by rw [List.getElem?_eq_getElem hj1,hv];rfl
  exact ⟨(G9 (fB 60 s) o2 i2 t2 v2 e2),ruN l acc j ((G9 (fB 60 s) o2 i2 t2 v2 e2)),⟨fB 60 s,o2,i2,t2,v2,e2,rfl,iV 60 s,hs⟩,YG ..,fun M hM=>run_of [(9,.b true),(12,.b true),(21,.e (G9 s o1 i1 t1 v1 e1)),(27,.e (G9 s o1 i1 t1 v1 e1)),(31,.i (Int.ofNat (min s.size 60))),(32,.cut),(36,.e (G9 s o1 i1 t1 v1 e1)),(39,.p (.agg (jE o2 i2 t2 v2 e2))),(42,.app),(15,.i (Int.ofNat (j+1)))] [] (zgY (aI (j:=j) (k:=l.length) hj1) (kD hj2) hg hg (iC s.size 60) (lH s.size 60) hg (hc M (by omega)) (fZ (acc:=acc) j 3 96 hacc.symm (by omega) (by omega)) (next_nat (j:=j) (by omega))) (lo':=[]) (by kernel_rfl)⟩
 ·generalize hq:min l.length 8=q
  by_cases h6:q<l.length
  ·exact run_of [(9,.b true),(12,.b false)] [] (pf2 (aI (j:=q) (k:=l.length) h6) (aJ (j:=q) (k:=8) (by omega))) (lo':=[]) (by kernel_rfl)
  ·exact run_of [(9,.b false)] [] (pf1 (aJ (j:=q) (k:=l.length) h6)) (lo':=[]) (by kernel_rfl)
theorem yI (l:List (List X))(hl:∀x,x∈l→qL x):∃l',l'.length≤8∧(∀x,x∈l'→zF x)∧∀N,110≤N→Gam.pureD (callF tab ext N) 62 [.agg [.sl false 6 l]]=some (.agg [.sl false 6 l']):=by
 obtain ⟨acc,h1,hq,h2⟩:=zct l hl (τ:=⟨[(1,.ptr 0 0 0),(2,.ptr 1 0 0),(3,.ptr 2 0 0),(4,nat 0)],[.var [.sl false 6 l],.var [.sl true 6 []],.var [.bs 3 0 0],.row 6 []]⟩) (by kernel_rfl)
 have hk:min l.length 8≤8:=Nat.min_le_right _ _
 generalize min l.length 8=m at h1 h2 hk
 refine ⟨acc,by omega,hq,fun N hN=>?_⟩
 obtain ⟨M,rfl⟩:∃M,N=M+1:=⟨N-1,by omega⟩
 have hd:(X.agg [.bs 0 0 m]).data [.row 6 acc] false=some (.agg [.sl false 6 acc]):=by
  subst h1;simp [X.data,fG,rowOf]
 exact pure_of [] [(.exit 0,ruE l acc m)] (pf1 (h2 M (by omega))) (x:=.agg [.bs 0 0 m]) (bx:=[.row 6 acc]) (by kernel_rfl) hd
end Go.Proofs.YtjbndifenhihhaaGreatDoor
