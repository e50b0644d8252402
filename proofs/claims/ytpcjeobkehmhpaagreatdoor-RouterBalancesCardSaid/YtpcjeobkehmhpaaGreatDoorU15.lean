/-.-/
import Derived.Test.YtpcjeobkehmhpaaGreatDoorU14
set_option linter.unusedSimpArgs false
set_option linter.unusedVariables false
namespace Go.Proofs.YtpcjeobkehmhpaaGreatDoor
open Go.Em
set_option maxRecDepth 100000
variable {τ:St}
theorem jh (a b:Nat):(if Int.ofNat b<Int.ofNat a then Int.ofNat b else Int.ofNat a)=Int.ofNat (min a b):=by simp only [qaq];split<;>omega
theorem JU {j:Nat}(h:j<4294967296):Go.IntKind.i64.wrap (Int.ofNat (j+1)-1)=Int.ofNat j:=by rw [IntKind.wrap_i64];simp only [qaq];omega
theorem mM (a b:Nat):0<=min a b/\min a b<=a:=⟨Nat.zero_le _,Nat.min_le_left _ _⟩
def gK (m:Nat)(t:qaZ):qaZ:=t.extract 0 (min t.size m)
def aV:Nat->Val->Val
 |0,.mk k i s t _ _=>.mk k i s (gK 40 t) [] []
 |n+1,.mk k i s t l f=>.mk k i s (gK 40 t) ((l.take 6).map (aV n)) ((f.take 6).map fun p=>(gK 40 p.1,aV n p.2))
section
variable (lv k i s:Int) (t:qaZ) (l f acc jq:qaY) (j m:Nat) (x y:List X)
def svH:St:=⟨[(1,num lv),(2,.ptr 0 0 0),(4,.ptr 1 0 0),(5,.bs 2 0 j),(6,.sl true 7 []),(7,nat j)],[.var [num k,num i,num s,aC t,.sl false 6 l,.sl false 7 f],.var zV,.row 6 acc]⟩
def svN:St:=⟨[(1,num lv),(2,.ptr 0 0 0),(4,.ptr 1 0 0),(5,.bs 3 0 (j+1)),(6,.sl true 7 []),(7,nat (j+1))],[.var [num k,num i,num s,aC t,.sl false 6 l,.sl false 7 f],.var zV,.dead,.row 6 (acc++[x])]⟩
def svE:St:=⟨[(1,num lv),(2,.ptr 0 0 0),(4,.ptr 1 0 0),(5,.bs 2 0 j),(6,.sl true 7 []),(7,nat j),(29,ak false)],[.var [num k,num i,num s,aC t,.sl false 6 l,.sl false 7 f],.var zV,.row 6 acc]⟩
theorem Rx:canon 0 (svH lv k i s t l f acc j)=some (svH lv k i s t l f acc j):=by kernel_rfl
theorem XO:canon 0 (svN lv k i s t l f acc j x)=some (svH lv k i s t l f (acc++[x]) (j+1)):=by kernel_rfl
def sfH:St:=⟨[(1,num lv),(2,.ptr 0 0 0),(4,.ptr 1 0 0),(5,.bs 2 0 m),(6,.bs 3 0 j),(8,nat j)],[.var [num k,num i,num s,aC t,.sl false 6 l,.sl false 7 f],.var zV,.row 6 acc,.row 7 jq]⟩
def sfN:St:=⟨[(1,num lv),(2,.ptr 0 0 0),(4,.ptr 1 0 0),(5,.bs 2 0 m),(6,.bs 4 0 (j+1)),(8,nat (j+1))],[.var [num k,num i,num s,aC t,.sl false 6 l,.sl false 7 f],.var zV,.row 6 acc,.dead,.row 7 (jq++[x])]⟩
def sfE:St:=⟨[(1,num lv),(2,.ptr 0 0 0),(4,.ptr 1 0 0),(5,.bs 2 0 m),(6,.bs 3 0 j),(8,nat j),(55,ak false)],[.var [num k,num i,num s,aC t,.sl false 6 l,.sl false 7 f],.var zV,.row 6 acc,.row 7 jq]⟩
theorem RF:canon 0 (sfH lv k i s t l f acc jq j m)=some (sfH lv k i s t l f acc jq j m):=by kernel_rfl
theorem YA:canon 0 (sfN lv k i s t l f acc jq j m x)=some (sfH lv k i s t l f acc (jq++[x]) (j+1) m):=by kernel_rfl
end
theorem iZ {α β:Type}(g:α->β){l:List α}{k j:Nat}(h:j<(l.take k).length):((l.take k).take (j+1)).map g=((l.take k).take j).map g++[g (l[j]'(by rw [qaf] at h;omega))]:=by rw [qaV h,List.map_append];simp
theorem zfJ (M:Nat)(k i s:Int)(t:qaZ)(L F a b:qaY)(m q n:Nat)(hm:a.length=m)(hq:b.length=q)
  (h1:run (ah tab ext M) 0 M (.loop (aH 41 0)) (svH (Int.ofNat (n+1)) k i s (gK 40 t) L F [] 0)=some (.exit 0,svE (Int.ofNat (n+1)) k i s (gK 40 t) L F a m))
  (h2:run (ah tab ext M) 0 M (.loop (aH 41 1)) (sfH (Int.ofNat (n+1)) k i s (gK 40 t) L F a [] 0 m)=some (.exit 2,sfE (Int.ofNat (n+1)) k i s (gK 40 t) L F a b q m)):
  Gam.aF (ah tab ext (M+1)) 41 [.agg [num k,num i,num s,aC t,.sl false 6 L,.sl false 7 F],nat (n+1)]=some (.agg [num k,num i,num s,aC (gK 40 t),.sl false 6 a,.sl false 7 b]):=by
 have hd:(X.agg [num k,num i,num s,aC (gK 40 t),.bs 0 0 m,.bs 1 0 q]).data [.row 6 a,.row 7 b] false=some (.agg [num k,num i,num s,aC (gK 40 t),.sl false 6 a,.sl false 7 b]):=by subst hm hq;simp [X.data,dZ,rowOf,num,aC]
 exact eH [(14,.i (Int.ofNat (min t.size 40))),(15,.cut)] [(.exit 0,svE (Int.ofNat (n+1)) k i s (gK 40 t) L F a m),(.exit 2,sfE (Int.ofNat (n+1)) k i s (gK 40 t) L F a b q m)] (pf4 (jh t.size 40) (mM t.size 40) h1 h2)
  (x:=.agg [num k,num i,num s,aC (gK 40 t),.bs 0 0 m,.bs 1 0 q]) (bx:=[.row 6 a,.row 7 b]) (by kernel_rfl) hd
theorem D6 (l:List Val)(v:Val):au (l++[v])=au l++[v.cells]:=by simp [jW]
theorem QO (l:List (qaZ×Val))(t:qaZ)(v:Val):aA (l++[(t,v)])=aA l++[aC t::v.cells]:=by simp [rO]
theorem MS (n:Nat):decide (Int.ofNat (n+1+1)>1)=true:=by rw [qaF];simp only [qaq];omega
theorem lG {j m:Nat}(h:j<m):decide (Int.ofNat j<Int.ofNat m)=true:=aN h
theorem jS:∀(n:Nat) (v:Val) (N:Nat),n<1000->10+n<=N->Gam.aF (ah tab ext N) 41 [.agg v.cells,nat (n+1)]=some (.agg (aV n v).cells)
 |0,.mk k i s t l f,N,_,hN=>by
  obtain ⟨M,rfl⟩:∃M,N=M+1:=⟨N-1,by omega⟩;refine zfJ M k i s t (au l) (aA f) [] [] 0 0 0 rfl rfl ?_ ?_
  ·refine bJ (σ:=fun j=>svH (Int.ofNat 1) k i s (gK 40 t) (au l) (aA f) [] j) (k:=0) (Rx ..) (fun j hj=>by omega) ?_ (by simp) (by omega);cases h1:decide (Int.ofNat 0<Int.ofNat (au l).length) with
   |true=>exact ruA [(21,.b true)] (pf1 h1)
   |false=>exact ruA [(21,.b false)] (pf1 h1)
  refine bJ (σ:=fun j=>sfH (Int.ofNat 1) k i s (gK 40 t) (au l) (aA f) [] [] j 0) (k:=0) (RF ..) (fun j hj=>by omega) ?_ (by simp) (by omega);cases h1:decide (Int.ofNat 0<Int.ofNat (aA f).length) with
  |true=>exact ruA [(47,.b true)] (pf1 h1)
  |false=>exact ruA [(47,.b false)] (pf1 h1)
 |n+1,.mk k i s t l f,N,hn,hN=>by
  obtain ⟨M,rfl⟩:∃M,N=M+1:=⟨N-1,by omega⟩;have el:=aS l;have ef:=bg f;have e1:(aV (n+1) (.mk k i s t l f)).cells=[num k,num i,num s,aC (gK 40 t),.sl false 6 (au ((l.take 6).map (aV n))),.sl false 7 (aA ((f.take 6).map fun p=>(gK 40 p.1,aV n p.2)))]:=rfl;rw [e1];have hd:=JU (j:=n+1) (by omega);refine zfJ M k i s t (au l) (aA f) _ _ (l.take 6).length (f.take 6).length (n+1) (by rw [aS,qat]) (by rw [bg,qat]) ?_ ?_
  ·refine bJ (σ:=fun j=>svH (Int.ofNat (n+2)) k i s (gK 40 t) (au l) (aA f) (au (((l.take 6).take j).map (aV n))) j) (k:=(l.take 6).length) (Rx ..) (fun j hj=>?_) ?_ (by simp) (by rw [qaf];omega)
   ·have hj1:j<l.length:=by rw [qaf] at hj;omega
    have hj2:j<6:=by rw [qaf] at hj;omega
    have hg:=fV hj1;have hc:=jS n l[j] M (by omega) (by omega);have hlen:(au (((l.take 6).take j).map (aV n))).length=j:=by rw [aS,qat,qaf,qaf];omega
    rw [iZ (aV n) hj,D6];generalize l[j]=v at hg hc;generalize aV n v=w at hc;generalize ((l.take 6).take j).map (aV n)=acc at hlen;obtain ⟨a1,a2,a3,a4,a5,a6⟩:=v;obtain ⟨b1,b2,b3,b4,b5,b6⟩:=w;exact ⟨_,nP (σ':=svN (Int.ofNat (n+2)) k i s (gK 40 t) (au l) (aA f) (au acc) j (Val.mk b1 b2 b3 b4 b5 b6).cells) [(21,.b true),(24,.b true),(28,.b true),(36,.e (Val.mk a1 a2 a3 a4 a5 a6).cells),(39,.i (Int.ofNat (n+1))),(40,.p (.agg (Val.mk b1 b2 b3 b4 b5 b6).cells)),(42,.app),(31,.i (Int.ofNat (j+1)))] []
     (pf8 (aN (j:=j) (k:=(au l).length) (by omega)) (lG hj2) (MS n) hg hd hc (fJ (acc:=au acc) j 2 88 hlen.symm (by omega) (by omega)) (aB (j:=j) (by omega))) (lo':=[]) (by kernel_rfl),XO ..⟩
   have e2:(l.take 6).take (l.take 6).length=l.take 6:=List.take_length;rw [e2];by_cases h6:(l.take 6).length<l.length
   ·have h7:(l.take 6).length=6:=by rw [qaf] at h6 ⊢;omega
    exact ruA [(21,.b true),(24,.b false)] (pf2 (aN (j:=(l.take 6).length) (k:=(au l).length) (by omega)) (aO (j:=(l.take 6).length) (k:=6) (by omega)))
   exact ruA [(21,.b false)] (pf1 (aO (j:=(l.take 6).length) (k:=(au l).length) (by omega)))
  generalize au ((l.take 6).map (aV n))=aL;generalize (l.take 6).length=m;refine bJ (σ:=fun j=>sfH (Int.ofNat (n+2)) k i s (gK 40 t) (au l) (aA f) aL (aA (((f.take 6).take j).map fun p=>(gK 40 p.1,aV n p.2))) j m) (k:=(f.take 6).length) (RF ..) (fun j hj=>?_) ?_ (by simp) (by rw [qaf];omega)
  ·have hj1:j<f.length:=by rw [qaf] at hj;omega
   have hj2:j<6:=by rw [qaf] at hj;omega
   have hg:=iD hj1;have hc:=jS n f[j].2 M (by omega) (by omega);have hlen:(aA (((f.take 6).take j).map fun p=>(gK 40 p.1,aV n p.2))).length=j:=by rw [bg,qat,qaf,qaf];omega
   rw [iZ (fun p:qaZ×Val=>(gK 40 p.1,aV n p.2)) hj,QO];generalize f[j]=v at hg hc;obtain ⟨vt,v⟩:=v;dsimp only at hg hc ⊢;generalize aV n v=w at hc;generalize ((f.take 6).take j).map (fun p:qaZ×Val=>(gK 40 p.1,aV n p.2))=acc at hlen;obtain ⟨a1,a2,a3,a4,a5,a6⟩:=v;obtain ⟨b1,b2,b3,b4,b5,b6⟩:=w;exact ⟨_,nP (σ':=sfN (Int.ofNat (n+2)) k i s (gK 40 t) (au l) (aA f) aL (aA acc) j m (aC (gK 40 vt)::(Val.mk b1 b2 b3 b4 b5 b6).cells)) [(47,.b true),(50,.b true),(54,.b true),(62,.e (aC vt::(Val.mk a1 a2 a3 a4 a5 a6).cells)),(68,.e (aC vt::(Val.mk a1 a2 a3 a4 a5 a6).cells)),(72,.i (Int.ofNat (min vt.size 40))),(73,.cut),(77,.e (aC vt::(Val.mk a1 a2 a3 a4 a5 a6).cells)),(81,.i (Int.ofNat (n+1))),(82,.p (.agg (Val.mk b1 b2 b3 b4 b5 b6).cells)),(85,.app),(57,.i (Int.ofNat (j+1)))] []
    (zoJ (aN (j:=j) (k:=(aA f).length) (by omega)) (lG hj2) (MS n) hg hg (jh vt.size 40) (mM vt.size 40) hg hd hc (fJ (acc:=aA acc) j 3 104 hlen.symm (by omega) (by omega)) (aB (j:=j) (by omega))) (lo':=[]) (by kernel_rfl),YA ..⟩
  have e2:(f.take 6).take (f.take 6).length=f.take 6:=List.take_length;rw [e2];by_cases h6:(f.take 6).length<f.length
  ·have h7:(f.take 6).length=6:=by rw [qaf] at h6 ⊢;omega
   exact ruA [(47,.b true),(50,.b false)] (pf2 (aN (j:=(f.take 6).length) (k:=(aA f).length) (by omega)) (aO (j:=(f.take 6).length) (k:=6) (by omega)))
  exact ruA [(47,.b false)] (pf1 (aO (j:=(f.take 6).length) (k:=(aA f).length) (by omega)))
def zO (x:Int):Int:=if 0>x then 0 else x
def JX (x:Int):Int:=if 1099511627776<x then 1099511627776 else x
def zb2 (p:List Int):List Int:=p.take (min (aI p).length 6)
theorem yF (p:List Int):aI (zb2 p)=(aI p).take (min (aI p).length 6):=by simp [zb2,aI]
theorem uH (p:List Int):(zb2 p).length<=6:=by grind[zb2]
theorem JW (p:qaY):dD (([]:qaY).length+(List.drop 0 (List.take (min p.length 6) p)).length) 8=true:=by grind[jc]
def eP (m:Msg):Msg:=⟨⟨m.st.e,zb2 m.st.p⟩,JX (zO m.nC),zb2 m.orig,aV 4 m.body⟩
theorem Ll (m:Msg)(N:Nat)(hN:20<=N):Gam.aF (ah tab ext N) 42 [.agg m.cells]=some (.agg (eP m).cells):=by
 obtain ⟨M,rfl⟩:∃M,N=M+1:=⟨N-1,by omega⟩;have hc:=jS 4 m.body M (by omega) (by omega);have e:(eP m).cells=num m.st.e::.sl false 1 ((aI m.st.p).take (min (aI m.st.p).length 6))::num (JX (zO m.nC))::.sl false 1 ((aI m.orig).take (min (aI m.orig).length 6))::(aV 4 m.body).cells:=by rw [<-yF,<-yF];rfl
 rw [e];generalize aV 4 m.body=w at hc;obtain ⟨⟨e0,p⟩,ms,o,⟨a1,a2,a3,a4,a5,a6⟩⟩:=m;obtain ⟨b1,b2,b3,b4,b5,b6⟩:=w;exact puA [(11,.i (Int.ofNat (min (aI p).length 6))),(12,.cut),(13,.fresh),(22,.i (Int.ofNat (min (aI o).length 6))),(23,.cut),(24,.fresh),(28,.p (.agg (Val.mk b1 b2 b3 b4 b5 b6).cells)),(31,.i (zO ms)),(32,.i (JX (zO ms)))] (pf9 (jh (aI p).length 6) (mM (aI p).length 6) (JW (aI p)) (jh (aI o).length 6) (mM (aI o).length 6) (JW (aI o)) hc (rfl:zO ms=zO ms) (rfl:JX (zO ms)=JX (zO ms))) (.agg (num e0::.sl false 1 ((aI p).take (min (aI p).length 6))::num (JX (zO ms))::.sl false 1 ((aI o).take (min (aI o).length 6))::(Val.mk b1 b2 b3 b4 b5 b6).cells))
structure Inp where
 kind:Int
 time:Int
 st:Stp
 m:Msg
 x:Int
 b1:Bool
 b2:Bool
 body:Val
def Inp.cells (i:Inp):List X:=num i.kind::num i.time::num i.st.e::.sl false 1 (aI i.st.p)::num i.m.st.e::.sl false 1 (aI i.m.st.p)::num i.m.nC::.sl false 1 (aI i.m.orig)::(i.m.body.cells++num i.x::ak i.b1::ak i.b2::i.body.cells)
def bG (i:Inp):Inp:={i with st:=⟨i.st.e,zb2 i.st.p⟩,m:=eP i.m,body:=aV 4 i.body}
theorem Yr (i:Inp)(N:Nat)(hN:30<=N):Gam.aF (ah tab ext N) 16 [.agg i.cells]=some (.agg (bG i).cells):=by
 obtain ⟨M,rfl⟩:∃M,N=M+1:=⟨N-1,by omega⟩;have hc:=jS 4 i.body M (by omega) (by omega);have hm:=Ll i.m M (by omega);have e:(bG i).cells=num i.kind::num i.time::num i.st.e::.sl false 1 ((aI i.st.p).take (min (aI i.st.p).length 6))::num (eP i.m).st.e::.sl false 1 (aI (eP i.m).st.p)::num (eP i.m).nC::.sl false 1 (aI (eP i.m).orig)::((eP i.m).body.cells++num i.x::ak i.b1::ak i.b2::(aV 4 i.body).cells):=by rw [<-yF];rfl
 rw [e];generalize aV 4 i.body=w at hc;generalize eP i.m=q at hm;obtain ⟨kd,tm,⟨se,sp⟩,⟨⟨e0,p⟩,ms,o,⟨a1,a2,a3,a4,a5,a6⟩⟩,x,y1,y2,⟨c1,c2,c3,c4,c5,c6⟩⟩:=i;obtain ⟨b1,b2,b3,b4,b5,b6⟩:=w;obtain ⟨⟨d1,d2⟩,d3,d4,⟨d5,d6,d7,d8,d9,d0⟩⟩:=q;exact puA [(5,.p (.agg (Msg.mk ⟨d1,d2⟩ d3 d4 (Val.mk d5 d6 d7 d8 d9 d0)).cells)),(8,.p (.agg (Val.mk b1 b2 b3 b4 b5 b6).cells)),(19,.i (Int.ofNat (min (aI sp).length 6))),(20,.cut),(21,.fresh)] (pf5 hm hc (jh (aI sp).length 6) (mM (aI sp).length 6) (JW (aI sp))) (.agg (num kd::num tm::num se::.sl false 1 ((aI sp).take (min (aI sp).length 6))::num d1::.sl false 1 (aI d2)::num d3::.sl false 1 (aI d4)::((Val.mk d5 d6 d7 d8 d9 d0).cells++num x::ak y1::ak y2::(Val.mk b1 b2 b3 b4 b5 b6).cells)))
def nM (x:Slt):Slt:=⟨aV 2 x.key,x.n,x.t,(x.items.take 4).map eP,(x.vals.take 4).map (aV 3)⟩
def shortS (s:Stt):Stt:=⟨s.n,s.t,(s.slots.take 6).map nM⟩
section
variable (a b:Int) (l acc:qaY) (j:Nat) (k i s n t:Int) (tx:qaZ) (vl vf its vs:qaY) (k' i' s':Int) (tx':qaZ) (vl' vf' sH vs':qaY) (z z2:Nat) (x:List X)
def ssH:St:=⟨[(1,.ptr 0 0 0),(2,.ptr 1 0 0),(3,.bs 2 0 j),(4,nat j)],[.var [num a,num b,.sl false 10 l],.var lY,.row 10 acc]⟩
def siH:St:=⟨[(1,.ptr 0 0 0),(2,.ptr 1 0 0),(3,.bs 2 0 j),(4,nat j),(5,.ptr 3 0 0),(6,.ptr 4 0 0),(7,nat z)],[.var [num a,num b,.sl false 10 l],.var lY,.row 10 acc,.var (nI k i s tx vl vf n t its vs),.var [num k',num i',num s',aC tx',.sl false 6 vl',.sl false 7 vf',num n,num t,.bs 5 0 z,.sl true 6 []],.row 10 sH]⟩
def siN:St:=⟨[(1,.ptr 0 0 0),(2,.ptr 1 0 0),(3,.bs 2 0 j),(4,nat j),(5,.ptr 3 0 0),(6,.ptr 4 0 0),(7,nat (z+1))],[.var [num a,num b,.sl false 10 l],.var lY,.row 10 acc,.var (nI k i s tx vl vf n t its vs),.var [num k',num i',num s',aC tx',.sl false 6 vl',.sl false 7 vf',num n,num t,.bs 6 0 (z+1),.sl true 6 []],.dead,.row 10 (sH++[x])]⟩
def siE:St:=⟨[(1,.ptr 0 0 0),(2,.ptr 1 0 0),(3,.bs 2 0 j),(4,nat j),(5,.ptr 3 0 0),(6,.ptr 4 0 0),(7,nat z),(41,ak false)],[.var [num a,num b,.sl false 10 l],.var lY,.row 10 acc,.var (nI k i s tx vl vf n t its vs),.var [num k',num i',num s',aC tx',.sl false 6 vl',.sl false 7 vf',num n,num t,.bs 5 0 z,.sl true 6 []],.row 10 sH]⟩
theorem zcV:canon 0 (siH a b l acc j k i s n t tx vl vf its vs k' i' s' tx' vl' vf' sH z)=some (siH a b l acc j k i s n t tx vl vf its vs k' i' s' tx' vl' vf' sH z):=by kernel_rfl
theorem Yq:canon 0 (siN a b l acc j k i s n t tx vl vf its vs k' i' s' tx' vl' vf' sH z x)=some (siH a b l acc j k i s n t tx vl vf its vs k' i' s' tx' vl' vf' (sH++[x]) (z+1)):=by kernel_rfl
def swH:St:=⟨[(1,.ptr 0 0 0),(2,.ptr 1 0 0),(3,.bs 2 0 j),(4,nat j),(5,.ptr 3 0 0),(6,.ptr 4 0 0),(8,nat z)],[.var [num a,num b,.sl false 10 l],.var lY,.row 10 acc,.var (nI k i s tx vl vf n t its vs),.var [num k',num i',num s',aC tx',.sl false 6 vl',.sl false 7 vf',num n,num t,.bs 5 0 z2,.bs 6 0 z],.row 10 sH,.row 6 vs']⟩
def swN:St:=⟨[(1,.ptr 0 0 0),(2,.ptr 1 0 0),(3,.bs 2 0 j),(4,nat j),(5,.ptr 3 0 0),(6,.ptr 4 0 0),(8,nat (z+1))],[.var [num a,num b,.sl false 10 l],.var lY,.row 10 acc,.var (nI k i s tx vl vf n t its vs),.var [num k',num i',num s',aC tx',.sl false 6 vl',.sl false 7 vf',num n,num t,.bs 5 0 z2,.bs 7 0 (z+1)],.row 10 sH,.dead,.row 6 (vs'++[x])]⟩
def swE:St:=⟨[(1,.ptr 0 0 0),(2,.ptr 1 0 0),(3,.bs 2 0 j),(4,nat j),(5,.ptr 3 0 0),(6,.ptr 4 0 0),(8,nat z),(63,ak false)],[.var [num a,num b,.sl false 10 l],.var lY,.row 10 acc,.var (nI k i s tx vl vf n t its vs),.var [num k',num i',num s',aC tx',.sl false 6 vl',.sl false 7 vf',num n,num t,.bs 5 0 z2,.bs 6 0 z],.row 10 sH,.row 6 vs']⟩
theorem zcH:canon 0 (swH a b l acc j k i s n t tx vl vf its vs k' i' s' tx' vl' vf' sH vs' z z2)=some (swH a b l acc j k i s n t tx vl vf its vs k' i' s' tx' vl' vf' sH vs' z z2):=by kernel_rfl
theorem XM:canon 0 (swN a b l acc j k i s n t tx vl vf its vs k' i' s' tx' vl' vf' sH vs' z z2 x)=some (swH a b l acc j k i s n t tx vl vf its vs k' i' s' tx' vl' vf' sH (vs'++[x]) (z+1) z2):=by kernel_rfl
end
theorem Vs (l:List Msg)(m:Msg):aP (l++[m])=aP l++[m.cells]:=by simp [aP]
theorem Ux (l:List Slt)(m:Slt):bf (l++[m])=bf l++[m.cells]:=by simp [bf]
theorem zhe (M:Nat)(hM:40<=M)(a b:Int)(l acc:qaY)(j:Nat)(k i s n t:Int)(tx:qaZ)(vl vf vs:qaY)(k' i' s':Int)(tx':qaZ)(vl' vf':qaY)(ms:List Msg):
  run (ah tab ext M) 0 M (.loop (aH 15 1)) (siH a b l acc j k i s n t tx vl vf (aP ms) vs k' i' s' tx' vl' vf' [] 0)=some (.exit 2,siE a b l acc j k i s n t tx vl vf (aP ms) vs k' i' s' tx' vl' vf' (aP ((ms.take 4).map eP)) (ms.take 4).length):=by
 have el:=gW ms;refine bJ (σ:=fun z=>siH a b l acc j k i s n t tx vl vf (aP ms) vs k' i' s' tx' vl' vf' (aP (((ms.take 4).take z).map eP)) z) (k:=(ms.take 4).length) (zcV ..) (fun z hz=>?_) ?_ (by simp) (by grind)
 ·have hj1:z<ms.length:=by rw [qaf] at hz;omega
  have hj2:z<4:=by rw [qaf] at hz;omega
  have hg:=vU hj1;have hc:=Ll ms[z] M (by omega);have hlen:(aP (((ms.take 4).take z).map eP)).length=z:=by rw [gW,qat,qaf,qaf];omega
  rw [iZ eP hz,Vs];generalize ms[z]=v at hg hc;generalize eP v=w at hc;generalize aP (((ms.take 4).take z).map eP)=sH at hlen;obtain ⟨⟨a1,a2⟩,a3,a4,⟨a5,a6,a7,a8,a9,a0⟩⟩:=v;obtain ⟨⟨b1,b2⟩,b3,b4,⟨b5,b6,b7,b8,b9,b0⟩⟩:=w;exact ⟨_,nP (σ':=siN a b l acc j k i s n t tx vl vf (aP ms) vs k' i' s' tx' vl' vf' sH z (Msg.mk ⟨b1,b2⟩ b3 b4 (Val.mk b5 b6 b7 b8 b9 b0)).cells) [(37,.b true),(40,.b true),(49,.e (Msg.mk ⟨a1,a2⟩ a3 a4 (Val.mk a5 a6 a7 a8 a9 a0)).cells),(51,.p (.agg (Msg.mk ⟨b1,b2⟩ b3 b4 (Val.mk b5 b6 b7 b8 b9 b0)).cells)),(53,.app),(43,.i (Int.ofNat (z+1)))] []
   (pf6 (aN (j:=z) (k:=(aP ms).length) (by omega)) (lG hj2) hg hc (fJ (acc:=sH) z 5 152 hlen.symm (by omega) (by omega)) (aB (j:=z) (by omega))) (lo':=[]) (by kernel_rfl),Yq ..⟩
 rw [List.take_length];by_cases h6:(ms.take 4).length<ms.length
 ·have h7:(ms.take 4).length=4:=by rw [qaf] at h6 ⊢;omega
  exact ruA [(37,.b true),(40,.b false)] (pf2 (aN (j:=(ms.take 4).length) (k:=(aP ms).length) (by omega)) (aO (j:=(ms.take 4).length) (k:=4) (by omega)))
 exact ruA [(37,.b false)] (pf1 (aO (j:=(ms.take 4).length) (k:=(aP ms).length) (by omega)))
theorem zg1 (M:Nat)(hM:40<=M)(a b:Int)(l acc:qaY)(j:Nat)(k i s n t:Int)(tx:qaZ)(vl vf its:qaY)(k' i' s':Int)(tx':qaZ)(vl' vf' sH:qaY)(z2:Nat)(ms:List Val):
  run (ah tab ext M) 0 M (.loop (aH 15 2)) (swH a b l acc j k i s n t tx vl vf its (au ms) k' i' s' tx' vl' vf' sH [] 0 z2)=some (.exit 4,swE a b l acc j k i s n t tx vl vf its (au ms) k' i' s' tx' vl' vf' sH (au ((ms.take 4).map (aV 3))) (ms.take 4).length z2):=by
 have el:=aS ms;refine bJ (σ:=fun z=>swH a b l acc j k i s n t tx vl vf its (au ms) k' i' s' tx' vl' vf' sH (au (((ms.take 4).take z).map (aV 3))) z z2) (k:=(ms.take 4).length) (zcH ..) (fun z hz=>?_) ?_ (by simp) (by grind)
 ·have hj1:z<ms.length:=by rw [qaf] at hz;omega
  have hj2:z<4:=by rw [qaf] at hz;omega
  have hg:=fV hj1;have hc:=jS 3 ms[z] M (by omega) (by omega);have hlen:(au (((ms.take 4).take z).map (aV 3))).length=z:=by rw [aS,qat,qaf,qaf];omega
  rw [iZ (aV 3) hz,D6];generalize ms[z]=v at hg hc;generalize aV 3 v=w at hc;generalize au (((ms.take 4).take z).map (aV 3))=vs' at hlen;obtain ⟨a5,a6,a7,a8,a9,a0⟩:=v;obtain ⟨b5,b6,b7,b8,b9,b0⟩:=w;exact ⟨_,nP (σ':=swN a b l acc j k i s n t tx vl vf its (au ms) k' i' s' tx' vl' vf' sH vs' z z2 (Val.mk b5 b6 b7 b8 b9 b0).cells) [(59,.b true),(62,.b true),(71,.e (Val.mk a5 a6 a7 a8 a9 a0).cells),(73,.p (.agg (Val.mk b5 b6 b7 b8 b9 b0).cells)),(75,.app),(65,.i (Int.ofNat (z+1)))] []
   (pf6 (aN (j:=z) (k:=(au ms).length) (by omega)) (lG hj2) hg hc (fJ (acc:=vs') z 6 88 hlen.symm (by omega) (by omega)) (aB (j:=z) (by omega))) (lo':=[]) (by kernel_rfl),XM ..⟩
 rw [List.take_length];by_cases h6:(ms.take 4).length<ms.length
 ·have h7:(ms.take 4).length=4:=by rw [qaf] at h6 ⊢;omega
  exact ruA [(59,.b true),(62,.b false)] (pf2 (aN (j:=(ms.take 4).length) (k:=(au ms).length) (by omega)) (aO (j:=(ms.take 4).length) (k:=4) (by omega)))
 exact ruA [(59,.b false)] (pf1 (aO (j:=(ms.take 4).length) (k:=(au ms).length) (by omega)))
section
variable (a b:Int) (l acc:qaY) (j:Nat) (k i s n t:Int) (tx:qaZ) (vl vf its vs:qaY) (k' i' s':Int) (tx':qaZ) (vl' vf' sH vs':qaY) (z z2:Nat) (x:List X)
def ssN:St:=⟨[(1,.ptr 0 0 0),(2,.ptr 1 0 0),(3,.bs 7 0 (j+1)),(4,nat (j+1))],[.var [num a,num b,.sl false 10 l],.var lY,.dead,.var (nI k i s tx vl vf n t its vs),.var (nI k' i' s' tx' vl' vf' n t (sH.take z) (vs'.take z2)),.dead,.dead,.row 10 (acc++[nI k' i' s' tx' vl' vf' n t (sH.take z) (vs'.take z2)])]⟩
theorem X5:canon 0 (ssN a b l acc j k i s n t tx vl vf its vs k' i' s' tx' vl' vf' sH vs' z z2)=some (ssH a b l (acc++[nI k' i' s' tx' vl' vf' n t (sH.take z) (vs'.take z2)]) (j+1)):=by kernel_rfl
end
theorem zg6 (M:Nat)(hM:50<=M)(a b:Int)(ss:List Slt)(hτ:canon 0 τ=some (ssH a b (bf ss) [] 0)):
  run (ah tab ext M) 0 M (.loop (aH 15 0)) τ=some (.exit 0,⟨[(1,.ptr 0 0 0),(2,.ptr 1 0 0),(3,.bs 2 0 (ss.take 6).length),(4,nat (ss.take 6).length),(17,ak false)],[.var [num a,num b,.sl false 10 (bf ss)],.var lY,.row 10 (bf ((ss.take 6).map nM))]⟩):=by
 have el:=jR ss;refine bJ (σ:=fun z=>ssH a b (bf ss) (bf (((ss.take 6).take z).map nM)) z) (k:=(ss.take 6).length) hτ (fun z hz=>?_) ?_ (by simp) (by grind)
 ·have hj1:z<ss.length:=by rw [qaf] at hz;omega
  have hj2:z<6:=by rw [qaf] at hz;omega
  have hg:=AU hj1;have hc:=jS 2 ss[z].key M (by omega) (by omega);have hlen:(bf (((ss.take 6).take z).map nM)).length=z:=by rw [jR,qat,qaf,qaf];omega
  have hi:=fun vl vf k i s tx n t vs k' i' s' tx' vl' vf'=>zhe M (by omega) a b (bf ss) (bf (((ss.take 6).take z).map nM)) z k i s n t tx vl vf vs k' i' s' tx' vl' vf' ss[z].items;have hv:=fun vl vf k i s tx n t its k' i' s' tx' vl' vf' sH z2=>zg1 M (by omega) a b (bf ss) (bf (((ss.take 6).take z).map nM)) z k i s n t tx vl vf its k' i' s' tx' vl' vf' sH z2 ss[z].vals;rw [iZ nM hz,Ux];generalize ss[z]=v at hg hc hi hv;obtain ⟨⟨a1,a2,a3,a4,a5,a6⟩,a7,a8,ms,vs⟩:=v;have e:(nM ⟨.mk a1 a2 a3 a4 a5 a6,a7,a8,ms,vs⟩).cells=(Slt.mk (aV 2 (.mk a1 a2 a3 a4 a5 a6)) a7 a8 ((ms.take 4).map eP) ((vs.take 4).map (aV 3))).cells:=rfl;rw [e];dsimp only at hc hi hv;generalize aV 2 (.mk a1 a2 a3 a4 a5 a6)=w at hc;obtain ⟨b1,b2,b3,b4,b5,b6⟩:=w;have l1:(aP ((ms.take 4).map eP)).length=(ms.take 4).length:=by rw [gW,qat]
  have l2:(au ((vs.take 4).map (aV 3))).length=(vs.take 4).length:=by rw [aS,qat]
  have hi':=hi (au a5) (aA a6) a1 a2 a3 a4 a7 a8 (au vs) b1 b2 b3 b4 (au b5) (aA b6);have hv':=hv (au a5) (aA a6) a1 a2 a3 a4 a7 a8 (aP ms) b1 b2 b3 b4 (au b5) (aA b6) (aP ((ms.take 4).map eP)) (ms.take 4).length;generalize bf (((ss.take 6).take z).map nM)=acc at hlen hi' hv';have e1:(Slt.mk (.mk b1 b2 b3 b4 b5 b6) a7 a8 ((ms.take 4).map eP) ((vs.take 4).map (aV 3))).cells=nI b1 b2 b3 b4 (au b5) (aA b6) a7 a8 ((aP ((ms.take 4).map eP)).take (ms.take 4).length) ((au ((vs.take 4).map (aV 3))).take (vs.take 4).length):=by rw [List.take_of_length_le (Nat.le_of_eq l1),List.take_of_length_le (Nat.le_of_eq l2)];rfl
  rw [e1];generalize aP ((ms.take 4).map eP)=sH at l1 hi' hv';generalize au ((vs.take 4).map (aV 3))=vs' at l2 hv';generalize (ms.take 4).length=z1 at l1 hi' hv';generalize (vs.take 4).length=z2 at l2 hv';exact ⟨_,nP (σ':=ssN a b (bf ss) acc z a1 a2 a3 a7 a8 a4 (au a5) (aA a6) (aP ms) (au vs) b1 b2 b3 b4 (au b5) (aA b6) sH vs' z1 z2)
   [(13,.b true),(16,.b true),(23,.e (nI a1 a2 a3 a4 (au a5) (aA a6) a7 a8 (aP ms) (au vs))),(27,.p (.agg (Val.mk b1 b2 b3 b4 b5 b6).cells)),(80,.app),(19,.i (Int.ofNat (z+1)))]
   [(.exit 2,siE a b (bf ss) acc z a1 a2 a3 a7 a8 a4 (au a5) (aA a6) (aP ms) (au vs) b1 b2 b3 b4 (au b5) (aA b6) sH z1),(.exit 4,swE a b (bf ss) acc z a1 a2 a3 a7 a8 a4 (au a5) (aA a6) (aP ms) (au vs) b1 b2 b3 b4 (au b5) (aA b6) sH vs' z2 z1)]
   (zmZ (aN (j:=z) (k:=(bf ss).length) (by omega)) (lG hj2) hg hc hi' hv' (show 0+z1<=sH.length by omega) (show 0+z2<=vs'.length by omega) (fJ (acc:=acc) z 2 152 hlen.symm (by omega) (by omega)) (aB (j:=z) (by omega))) (lo':=[]) (by kernel_rfl),X5 ..⟩
 rw [List.take_length];by_cases h6:(ss.take 6).length<ss.length
 ·have h7:(ss.take 6).length=6:=by rw [qaf] at h6 ⊢;omega
  exact ruA [(13,.b true),(16,.b false)] (pf2 (aN (j:=(ss.take 6).length) (k:=(bf ss).length) (by omega)) (aO (j:=(ss.take 6).length) (k:=6) (by omega)))
 exact ruA [(13,.b false)] (pf1 (aO (j:=(ss.take 6).length) (k:=(bf ss).length) (by omega)))
theorem Ot (s:Stt)(N:Nat)(hN:60<=N):Gam.aF (ah tab ext N) 15 [.agg s.cells]=some (.agg (shortS s).cells):=by
 obtain ⟨M,rfl⟩:∃M,N=M+1:=⟨N-1,by omega⟩;obtain ⟨a,b,ss⟩:=s;have hl:=zg6 M (by omega) a b ss (τ:=⟨[(1,.ptr 0 0 0),(2,.ptr 1 0 0),(3,.bs 2 0 0),(4,num 0)],[.var [num a,num b,.sl false 10 (bf ss)],.var lY,.row 10 []]⟩) (by kernel_rfl);have l1:(bf ((ss.take 6).map nM)).length=(ss.take 6).length:=by rw [jR,qat]
 have e:(shortS ⟨a,b,ss⟩).cells=[num a,num b,.sl false 10 (bf ((ss.take 6).map nM))]:=rfl;rw [e];generalize bf ((ss.take 6).map nM)=acc at l1 hl;generalize (ss.take 6).length=z at l1 hl;have hd:(X.agg [num a,num b,.bs 0 0 z]).data [.row 10 acc] false=some (.agg [num a,num b,.sl false 10 acc]):=by subst l1;simp [X.data,dZ,rowOf,num]
 exact eH [] [(.exit 0,⟨[(1,.ptr 0 0 0),(2,.ptr 1 0 0),(3,.bs 2 0 z),(4,nat z),(17,ak false)],[.var [num a,num b,.sl false 10 (bf ss)],.var lY,.row 10 acc]⟩)] (pf1 hl) (x:=.agg [num a,num b,.bs 0 0 z]) (bx:=[.row 10 acc]) (by kernel_rfl) hd
mutual
theorem ug:∀(n:Nat) (v:Val),(aV n v).size<=13^n*2-1
 |0,.mk .. =>by grind[aV,Val.size,sU,sV]
 |n+1,.mk k i s t l f=>by
  have h1:∀l:List Val,sU (l.map (aV n))<=l.length*(13^n*2):=fun l=>by
   induction l with
   |nil=>simp [sU]
   |cons v l ih=>have:=ug n v<;>grind[sU,Nat.add_mul]
  have h2:∀l:List (qaZ×Val),sV (l.map fun p=>(gK 40 p.1,aV n p.2))<=l.length*(13^n*2):=fun l=>by
   induction l with
   |nil=>simp [sV]
   |cons v l ih=>have:=ug n v.2<;>grind[sV,Nat.add_mul]
  have g1:=h1 (l.take 6);have g2:=h2 (f.take 6);have e1:(l.take 6).length*(13^n*2)<=6*(13^n*2):=qaG _ (by grind);have e2:(f.take 6).length*(13^n*2)<=6*(13^n*2):=qaG _ (by rw [qaf];omega)<;>grind[aV,Val.size]
end
theorem zZ {n:Nat}(v:Val)(h:n<=4):(aV n v).ok:=by
 have h1:=ug n v;have h2:13^n<=13^4:=Nat.pow_le_pow_right (by omega) h;unfold Val.ok
 grind
theorem A8 (m:Msg):(eP m).ok:=⟨⟨by have:=uH m.st.p;show (zb2 m.st.p).length<=60000;omega⟩,by have:=uH m.orig;show (zb2 m.orig).length<=60000;omega,zZ _ (by omega)⟩
theorem qF (s:Stt):(shortS s).small:=by
 refine ⟨?_,fun x hx=>?_⟩;·show ((s.slots.take 6).map nM).length<=100<;>grind
 obtain ⟨y,hy,rfl⟩:=qal.1 hx;have h1:((y.items.take 4).map eP).length<=4:=by rw [qat,qaf];omega
 have h2:((y.vals.take 4).map (aV 3)).length<=4:=by rw [qat,qaf];omega
 refine ⟨⟨zZ _ (by omega),?_,fun m hm=>?_,?_,fun v hv=>?_⟩,?_,?_⟩;·show ((y.items.take 4).map eP).length<=60000;omega
 ·obtain ⟨m',_,rfl⟩:=qal.1 hm<;>simp_all[A8]
 ·show ((y.vals.take 4).map (aV 3)).length<=60000;omega
 ·obtain ⟨v',_,rfl⟩:=qal.1 hv<;>simp_all[zZ]
 ·show ((y.items.take 4).map eP).length<=100;omega
 show ((y.vals.take 4).map (aV 3)).length<=100;omega
theorem jk {nIn:Nat}{b:C}{B:Nat}{H:Nat->qaY->St}{k:Nat}{e:Ex}{E:qaY->St}(Q:List X->Prop)(hτ:canon nIn τ=some (H 0 []))
  (hstep:∀j acc,j<k->acc.length=j->∃x υ,Q x/\canon nIn υ=some (H (j+1) (acc++[x]))/\∀M,B<=M->run (ah tab ext M) nIn M b (H j acc)=some (.norm,υ))
  (hend:∀acc,acc.length=k->∀M,B<=M->run (ah tab ext M) nIn M b (H k acc)=some (e,E acc)) (hne:e≠.norm):
  ∃acc:qaY,acc.length=k/\(∀x,x∈acc->Q x)/\∀M,B<=M->k<M->run (ah tab ext M) nIn M (.loop b) τ=some (e,E acc):=by
 have key:∀d j acc,j+d=k->acc.length=j->(∀x,x∈acc->Q x)->∃fin:qaY,fin.length=k/\(∀x,x∈fin->Q x)/\∀M F υ,B<=M->d<F->canon nIn υ=some (H j acc)->iter nIn (run (ah tab ext M) nIn M b) F υ=some (e,E fin):=by
  intro d;induction d with
  |zero=>
   intro j acc hj hacc hq;have hjk:j=k:=by omega
   subst hjk;refine ⟨acc,hacc,hq,fun M F υ hM hF hc=>?_⟩;obtain ⟨F',rfl⟩:∃F',F=F'+1:=⟨F-1,by omega⟩
   grind[bK]
  |succ d ih=>intro j acc hj hacc hq;obtain ⟨x,υ,hx,hc,hs⟩:=hstep j acc (by omega) hacc;obtain ⟨fin,hf,hfq,h⟩:=ih (j+1) (acc++[x]) (by omega) (by grind) (fun y hy=>by grind);refine ⟨fin,hf,hfq,fun M F ω hM hF hω=>?_⟩;obtain ⟨F',rfl⟩:∃F',F=F'+1:=⟨F-1,by omega⟩<;>simp_all[dV]
 obtain ⟨fin,hf,hfq,h⟩:=key k 0 [] (by omega) rfl (fun x hx=>by grind)
 grind[run]
def kOf (n len K:Nat):Nat:=if n=0 then 0 else min len K
theorem wC (n len K:Nat):kOf n len K<=len/\kOf n len K<=K:=by grind[kOf]
def isVal (c:List X):Prop:=∃v:Val,c=v.cells
def Jq:Nat->List X->Prop
 |0,c=>∃o i t vs es,c=[num o,num i,aC t,.sl false 6 vs,.sl false 5 es]/\∀x,x∈vs->isVal x
 |n+1,c=>∃o i t vs es,c=[num o,num i,aC t,.sl false 6 vs,.sl false 5 es]/\(∀x,x∈vs->isVal x)/\∀x,x∈es->Jq n x
theorem VF:∀{n:Nat} {c:List X},Jq n c->Jq 0 c
 |0,_,h=>h
 |_+1,_,⟨o,i,t,vs,es,h1,h2,_⟩=>⟨o,i,t,vs,es,h1,h2⟩
def zbR:List X:=[num 0,num 0,bD,.sl true 6 [],.sl true 5 []]
def jH (o i:Int)(t:qaZ)(vs es:qaY):List X:=[num o,num i,aC t,.sl false 6 vs,.sl false 5 es]
def sE:Nat->List X->Prop
 |0,_=>False
 |h+1,x=>∃o i t vs es,x=jH o i t vs es/\t.size<=60/\vs.length<=2/\(∀v,v∈vs->∃w:Val,v=(aV 1 w).cells)/\es.length<=4/\∀e,e∈es->sE h e
theorem jJ (n:Nat)(t:qaZ):(gK n t).size<=n:=by grind[gK,ByteArray.size_extract]
section
variable (n:Nat) (o i:Int) (t:qaZ) (l f:qaY) (acc:qaY) (j:Nat) (x:List X)
def xvH:St:=⟨[(1,num (Int.ofNat (n+1))),(2,.ptr 0 0 0),(4,.ptr 1 0 0),(5,.bs 2 0 j),(6,nat j)],[.var (jH o i t l f),.var zbR,.row 6 acc]⟩
def xvN:St:=⟨[(1,num (Int.ofNat (n+1))),(2,.ptr 0 0 0),(4,.ptr 1 0 0),(5,.bs 3 0 (j+1)),(6,nat (j+1))],[.var (jH o i t l f),.var zbR,.dead,.row 6 (acc++[x])]⟩
def xvE:St:=⟨[(1,num (Int.ofNat (n+1))),(2,.ptr 0 0 0),(4,.ptr 1 0 0),(5,.bs 2 0 j),(6,nat j),(25,ak false)],[.var (jH o i t l f),.var zbR,.row 6 acc]⟩
theorem zb4:canon 0 (xvN n o i t l f acc j x)=some (xvH n o i t l f (acc++[x]) (j+1)):=by kernel_rfl
end
theorem Xp (n:Nat)(o i:Int)(t:qaZ)(l f:qaY)(hl:∀x,x∈l->isVal x)(hτ:canon 0 τ=some (xvH n o i t l f [] 0)):∃acc,acc.length=min l.length 2/\(∀x,x∈acc->(fun x=>∃w:Val,x=(aV 1 w).cells) x)/\∀M,40<=M->run (ah tab ext M) 0 M (.loop (aH 72 0)) τ=some (.exit 0,xvE n o i t l f acc (min l.length 2)):=by
 have hK:min l.length 2<=2:=by exact Nat.min_le_right _ _
 have key:∃acc:qaY,acc.length=min l.length 2/\(∀x,x∈acc->(fun x=>∃w:Val,x=(aV 1 w).cells) x)/\∀M,40<=M->min l.length 2<M->run (ah tab ext M) 0 M (.loop (aH 72 0)) τ=some (.exit 0,xvE n o i t l f acc (min l.length 2)):=?_
 ·grind
 refine jk (nIn:=0) (b:=aH 72 0) (B:=40) (H:=fun j acc=>xvH n o i t l f acc j) (k:=min l.length 2) (e:=.exit 0) (E:=fun acc=>xvE n o i t l f acc (min l.length 2)) (fun x=>∃w:Val,x=(aV 1 w).cells) hτ (fun j acc hj hacc=>?_) (fun acc hacc M hM=>?_) (by simp)
 ·have hj1:j<l.length:=by omega
  have hj2:j<2:=by omega
  obtain ⟨v,hv⟩:=hl _ (qah hj1);have hg:l[j]?=some v.cells:=by rw [qad hj1,hv]
  have hc:=jS 1 v;generalize hw:aV 1 v=w at hc;obtain ⟨a1,a2,a3,a4,a5,a6⟩:=v;obtain ⟨b1,b2,b3,b4,b5,b6⟩:=w;exact ⟨(Val.mk b1 b2 b3 b4 b5 b6).cells,xvN n o i t l f acc j ((Val.mk b1 b2 b3 b4 b5 b6).cells),⟨_,by rw [hw]⟩,zb4 ..,fun M hM=>ruA [(21,.b true),(24,.b true),(32,.e (Val.mk a1 a2 a3 a4 a5 a6).cells),(34,.p (.agg (Val.mk b1 b2 b3 b4 b5 b6).cells)),(36,.app),(27,.i (Int.ofNat (j+1)))] (pf6 (aN (j:=j) (k:=l.length) hj1) (lG hj2) hg (hc M (by omega) (by omega)) (fJ (acc:=acc) j 2 88 hacc.symm (by omega) (by omega)) (aB (j:=j) (by omega)))⟩
 generalize hq:min l.length 2=q;by_cases h6:q<l.length;·exact ruA [(21,.b true),(24,.b false)] (pf2 (aN (j:=q) (k:=l.length) h6) (aO (j:=q) (k:=2) (by omega)))
 exact ruA [(21,.b false)] (pf1 (aO (j:=q) (k:=l.length) h6))
section
variable (n:Nat) (o i:Int) (t:qaZ) (l f acc0:qaY) (m:Nat) (acc:qaY) (j:Nat) (x:List X)
def xaH:St:=⟨[(1,num (Int.ofNat (n+1))),(2,.ptr 0 0 0),(4,.ptr 1 0 0),(5,.bs 2 0 m),(7,.bs 3 0 j),(8,nat j)],[.var (jH o i t l f),.var zbR,.row 6 acc0,.row 5 acc]⟩
def xaN:St:=⟨[(1,num (Int.ofNat (n+1))),(2,.ptr 0 0 0),(4,.ptr 1 0 0),(5,.bs 2 0 m),(7,.bs 4 0 (j+1)),(8,nat (j+1))],[.var (jH o i t l f),.var zbR,.row 6 acc0,.dead,.row 5 (acc++[x])]⟩
def xaE:St:=⟨[(1,num (Int.ofNat (n+1))),(2,.ptr 0 0 0),(4,.ptr 1 0 0),(5,.bs 2 0 m),(7,.bs 3 0 j),(8,nat j),(49,ak false)],[.var (jH o i t l f),.var zbR,.row 6 acc0,.row 5 acc]⟩
theorem zb6:canon 0 (xaN n o i t l f acc0 m acc j x)=some (xaH n o i t l f acc0 m (acc++[x]) (j+1)):=by kernel_rfl
end
theorem Xq (n:Nat)(o i:Int)(t:qaZ)(l f acc0:qaY)(m:Nat)(hn:n<1000)(hf:∀m,n=m+1->∀x,x∈f->∃o i t vs es o' i' t' vs' es',x=jH o i t vs es/\sE n (jH o' i' t' vs' es')/\∀N,50+n<=N->Gam.aF (ah tab ext N) 72 [.agg (jH o i t vs es),nat (m+1)]=some (.agg (jH o' i' t' vs' es')))(hτ:canon 0 τ=some (xaH n o i t l f acc0 m [] 0)):∃acc,acc.length=kOf n f.length 4/\(∀x,x∈acc->(sE n) x)/\∀M,(50+n)<=M->run (ah tab ext M) 0 M (.loop (aH 72 1)) τ=some (.exit 2,xaE n o i t l f acc0 m acc (kOf n f.length 4)):=by
 have hkk:kOf n f.length 4<=f.length/\kOf n f.length 4<=4:=wC ..;have hK:kOf n f.length 4<=4:=by omega
 have key:∃acc:qaY,acc.length=kOf n f.length 4/\(∀x,x∈acc->(sE n) x)/\∀M,(50+n)<=M->kOf n f.length 4<M->run (ah tab ext M) 0 M (.loop (aH 72 1)) τ=some (.exit 2,xaE n o i t l f acc0 m acc (kOf n f.length 4)):=?_
 ·grind
 refine jk (nIn:=0) (b:=aH 72 1) (B:=(50+n)) (H:=fun j acc=>xaH n o i t l f acc0 m acc j) (k:=kOf n f.length 4) (e:=.exit 2) (E:=fun acc=>xaE n o i t l f acc0 m acc (kOf n f.length 4)) (sE n) hτ (fun j acc hj hacc=>?_) (fun acc hacc M hM=>?_) (by simp)
 ·have hj1:j<f.length:=by omega
  have hj2:j<4:=by omega
  obtain ⟨n,rfl⟩:∃m,n=m+1:=by
   cases n with
   |zero=>grind[kOf]
   |succ m=>grind
  obtain ⟨o1,i1,t1,v1,e1,o2,i2,t2,v2,e2,hv,hs,hc⟩:=hf n rfl _ (qah hj1);have hg:f[j]?=some (jH o1 i1 t1 v1 e1):=by rw [qad hj1,hv]
  exact ⟨(jH o2 i2 t2 v2 e2),xaN (n+1) o i t l f acc0 m acc j ((jH o2 i2 t2 v2 e2)),hs,zb6 ..,fun M hM=>ruA [(41,.b true),(44,.b true),(48,.b true),(56,.e (jH o1 i1 t1 v1 e1)),(59,.i (Int.ofNat (n+1))),(60,.p (.agg (jH o2 i2 t2 v2 e2))),(62,.app),(51,.i (Int.ofNat (j+1)))] (pf8 (aN (j:=j) (k:=f.length) hj1) (lG hj2) (MS n) hg (JU (j:=n+1) (by omega)) (hc M (by omega)) (fJ (acc:=acc) j 3 80 hacc.symm (by omega) (by omega)) (aB (j:=j) (by omega)))⟩
 cases n with
 |zero=>
  have e0:kOf 0 f.length 4=0:=rfl;rw [e0];cases h1:decide (Int.ofNat 0<Int.ofNat f.length) with
  |true=>exact ruA [(41,.b true)] (pf1 h1)
  |false=>exact ruA [(41,.b false)] (pf1 h1)
 |succ n=>
  have e1:kOf (n+1) f.length 4=min f.length 4:=rfl;rw [e1];generalize hq:min f.length 4=q;by_cases h6:q<f.length;·exact ruA [(41,.b true),(44,.b false)] (pf2 (aN (j:=q) (k:=f.length) h6) (aO (j:=q) (k:=4) (by omega)))
  exact ruA [(41,.b false)] (pf1 (aO (j:=q) (k:=f.length) h6))
theorem Yt:∀(n:Nat) (c:List X),n<1000->Jq n c->∃o i t vs es o' i' t' vs' es',c=jH o i t vs es/\sE (n+1) (jH o' i' t' vs' es')/\∀N,50+(n+1)<=N->Gam.aF (ah tab ext N) 72 [.agg (jH o i t vs es),nat (n+1)]=some (.agg (jH o' i' t' vs' es')):=by
 intro n;induction n with
 |zero=>
  rintro c hn ⟨o,i,t,l,f,rfl,hl⟩
  obtain ⟨acc,h1,p1,h2⟩:=Xp 0 o i (gK 60 t) l f hl (τ:=⟨[(1,num (Int.ofNat (0+1))),(2,.ptr 0 0 0),(4,.ptr 1 0 0),(5,.bs 2 0 0),(6,nat 0)],[.var (jH o i (gK 60 t) l f),.var zbR,.row 6 []]⟩) (by kernel_rfl);have q1:min l.length 2<=2:=Nat.min_le_right _ _;generalize min l.length 2=m at h1 h2 q1;obtain ⟨jq,h3,p2,h4⟩:=Xq 0 o i (gK 60 t) l f acc m (by omega) (fun m hm=>by omega) (τ:=⟨[(1,num (Int.ofNat (0+1))),(2,.ptr 0 0 0),(4,.ptr 1 0 0),(5,.bs 2 0 m),(7,.bs 3 0 0),(8,nat 0)],[.var (jH o i (gK 60 t) l f),.var zbR,.row 6 acc,.row 5 []]⟩) (by kernel_rfl);have q2:=(wC 0 f.length 4).2;generalize kOf 0 f.length 4=q at h3 h4 q2;refine ⟨o,i,t,l,f,o,i,gK 60 t,acc,jq,rfl,⟨o,i,gK 60 t,acc,jq,rfl,jJ 60 t,by omega,p1,by omega,p2⟩,fun N hN=>?_⟩;obtain ⟨M,rfl⟩:∃M,N=M+1:=⟨N-1,by omega⟩;have hd:(X.agg [num o,num i,aC (gK 60 t),.bs 0 0 m,.bs 1 0 q]).data [.row 6 acc,.row 5 jq] false=some (.agg (jH o i (gK 60 t) acc jq)):=by subst h1 h3;simp [X.data,dZ,rowOf,num,aC,jH]
  exact eH [(14,.i (Int.ofNat (min t.size 60))),(15,.cut)] [(.exit 0,xvE 0 o i (gK 60 t) l f acc m),(.exit 2,xaE 0 o i (gK 60 t) l f acc m jq q)] (pf4 (jh t.size 60) (mM t.size 60) (h2 M (by omega)) (h4 M (by omega)))
   (x:=.agg [num o,num i,aC (gK 60 t),.bs 0 0 m,.bs 1 0 q]) (bx:=[.row 6 acc,.row 5 jq]) (by kernel_rfl) hd
 |succ n ih=>
  rintro c hn ⟨o,i,t,l,f,rfl,hl,hf⟩
  obtain ⟨acc,h1,p1,h2⟩:=Xp (n+1) o i (gK 60 t) l f hl (τ:=⟨[(1,num (Int.ofNat (n+1+1))),(2,.ptr 0 0 0),(4,.ptr 1 0 0),(5,.bs 2 0 0),(6,nat 0)],[.var (jH o i (gK 60 t) l f),.var zbR,.row 6 []]⟩) (by kernel_rfl);have q1:min l.length 2<=2:=Nat.min_le_right _ _;generalize min l.length 2=m at h1 h2 q1;obtain ⟨jq,h3,p2,h4⟩:=Xq (n+1) o i (gK 60 t) l f acc m (by omega) (fun m hm x hx=>by grind) (τ:=⟨[(1,num (Int.ofNat (n+1+1))),(2,.ptr 0 0 0),(4,.ptr 1 0 0),(5,.bs 2 0 m),(7,.bs 3 0 0),(8,nat 0)],[.var (jH o i (gK 60 t) l f),.var zbR,.row 6 acc,.row 5 []]⟩) (by kernel_rfl);have q2:=(wC (n+1) f.length 4).2;generalize kOf (n+1) f.length 4=q at h3 h4 q2;refine ⟨o,i,t,l,f,o,i,gK 60 t,acc,jq,rfl,⟨o,i,gK 60 t,acc,jq,rfl,jJ 60 t,by omega,p1,by omega,p2⟩,fun N hN=>?_⟩;obtain ⟨M,rfl⟩:∃M,N=M+1:=⟨N-1,by omega⟩;have hd:(X.agg [num o,num i,aC (gK 60 t),.bs 0 0 m,.bs 1 0 q]).data [.row 6 acc,.row 5 jq] false=some (.agg (jH o i (gK 60 t) acc jq)):=by subst h1 h3;simp [X.data,dZ,rowOf,num,aC,jH]
  exact eH [(14,.i (Int.ofNat (min t.size 60))),(15,.cut)] [(.exit 0,xvE (n+1) o i (gK 60 t) l f acc m),(.exit 2,xaE (n+1) o i (gK 60 t) l f acc m jq q)] (pf4 (jh t.size 60) (mM t.size 60) (h2 M (by omega)) (h4 M (by omega)))
   (x:=.agg [num o,num i,aC (gK 60 t),.bs 0 0 m,.bs 1 0 q]) (bx:=[.row 6 acc,.row 5 jq]) (by kernel_rfl) hd
def tY (c:List X):Prop:=∃t e,c=aC t::e/\Jq 3 e
def wE (c:List X):Prop:=∃s o i t vs es,c=[aC s,num o,num i,aC t,.sl false 6 vs,.sl false 5 es]/\s.size<=60/\sE 4 (jH o i t vs es)
def fM (s:qaZ)(o i:Int)(t:qaZ)(vs es:qaY):List X:=[aC s,num o,num i,aC t,.sl false 6 vs,.sl false 5 es]
section
variable (l:qaY) (acc:qaY) (j:Nat) (x:List X)
def ruH:St:=⟨[(1,.ptr 0 0 0),(2,.ptr 1 0 0),(3,.ptr 2 0 0),(4,nat j)],[.var [.sl false 6 l],.var [.sl true 6 []],.var [.bs 3 0 j],.row 6 acc]⟩
def ruN:St:=⟨[(1,.ptr 0 0 0),(2,.ptr 1 0 0),(3,.ptr 2 0 0),(4,nat (j+1))],[.var [.sl false 6 l],.var [.sl true 6 []],.var [.bs 4 0 (j+1)],.dead,.row 6 (acc++[x])]⟩
def ruE:St:=⟨[(1,.ptr 0 0 0),(2,.ptr 1 0 0),(3,.ptr 2 0 0),(4,nat j),(13,ak false)],[.var [.sl false 6 l],.var [.sl true 6 []],.var [.bs 3 0 j],.row 6 acc]⟩
theorem zc1:canon 0 (ruN l acc j x)=some (ruH l (acc++[x]) (j+1)):=by kernel_rfl
end
theorem zht (l:qaY)(hl:∀x,x∈l->tY x)(hτ:canon 0 τ=some (ruH l [] 0)):∃acc,acc.length=min l.length 8/\(∀x,x∈acc->(wE) x)/\∀M,100<=M->run (ah tab ext M) 0 M (.loop (aH 39 0)) τ=some (.exit 0,ruE l acc (min l.length 8)):=by
 have hK:min l.length 8<=8:=by exact Nat.min_le_right _ _
 have key:∃acc:qaY,acc.length=min l.length 8/\(∀x,x∈acc->(wE) x)/\∀M,100<=M->min l.length 8<M->run (ah tab ext M) 0 M (.loop (aH 39 0)) τ=some (.exit 0,ruE l acc (min l.length 8)):=?_
 ·grind
 refine jk (nIn:=0) (b:=aH 39 0) (B:=100) (H:=fun j acc=>ruH l acc j) (k:=min l.length 8) (e:=.exit 0) (E:=fun acc=>ruE l acc (min l.length 8)) (wE) hτ (fun j acc hj hacc=>?_) (fun acc hacc M hM=>?_) (by simp)
 ·have hj1:j<l.length:=by omega
  have hj2:j<8:=by omega
  obtain ⟨s,e,hv,he⟩:=hl _ (qah hj1);obtain ⟨o1,i1,t1,v1,e1,o2,i2,t2,v2,e2,rfl,hs,hc⟩:=Yt 3 e (by omega) he;have hg:l[j]?=some (fM s o1 i1 t1 v1 e1):=by rw [qad hj1,hv];rfl
  exact ⟨(fM (gK 60 s) o2 i2 t2 v2 e2),ruN l acc j ((fM (gK 60 s) o2 i2 t2 v2 e2)),⟨gK 60 s,o2,i2,t2,v2,e2,rfl,jJ 60 s,hs⟩,zc1 ..,fun M hM=>ruA [(9,.b true),(12,.b true),(21,.e (fM s o1 i1 t1 v1 e1)),(27,.e (fM s o1 i1 t1 v1 e1)),(31,.i (Int.ofNat (min s.size 60))),(32,.cut),(36,.e (fM s o1 i1 t1 v1 e1)),(39,.p (.agg (jH o2 i2 t2 v2 e2))),(42,.app),(15,.i (Int.ofNat (j+1)))] (zmZ (aN (j:=j) (k:=l.length) hj1) (lG hj2) hg hg (jh s.size 60) (mM s.size 60) hg (hc M (by omega)) (fJ (acc:=acc) j 3 96 hacc.symm (by omega) (by omega)) (aB (j:=j) (by omega)))⟩
 generalize hq:min l.length 8=q;by_cases h6:q<l.length;·exact ruA [(9,.b true),(12,.b false)] (pf2 (aN (j:=q) (k:=l.length) h6) (aO (j:=q) (k:=8) (by omega)))
 exact ruA [(9,.b false)] (pf1 (aO (j:=q) (k:=l.length) h6))
theorem AY (l:qaY)(hl:∀x,x∈l->tY x):∃l',l'.length<=8/\(∀x,x∈l'->wE x)/\∀N,110<=N->Gam.aF (ah tab ext N) 39 [.agg [.sl false 6 l]]=some (.agg [.sl false 6 l']):=by
 obtain ⟨acc,h1,hq,h2⟩:=zht l hl (τ:=⟨[(1,.ptr 0 0 0),(2,.ptr 1 0 0),(3,.ptr 2 0 0),(4,nat 0)],[.var [.sl false 6 l],.var [.sl true 6 []],.var [.bs 3 0 0],.row 6 []]⟩) (by kernel_rfl);have hk:min l.length 8<=8:=Nat.min_le_right _ _;generalize min l.length 8=m at h1 h2 hk;refine ⟨acc,by omega,hq,fun N hN=>?_⟩;obtain ⟨M,rfl⟩:∃M,N=M+1:=⟨N-1,by omega⟩;have hd:(X.agg [.bs 0 0 m]).data [.row 6 acc] false=some (.agg [.sl false 6 acc]):=by subst h1;simp [X.data,dZ,rowOf]
 exact eH [] [(.exit 0,ruE l acc m)] (pf1 (h2 M (by omega))) (x:=.agg [.bs 0 0 m]) (bx:=[.row 6 acc]) (by kernel_rfl) hd
end Go.Proofs.YtpcjeobkehmhpaaGreatDoor
