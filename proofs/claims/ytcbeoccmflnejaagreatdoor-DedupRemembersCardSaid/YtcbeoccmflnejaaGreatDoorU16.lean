/-.-/
import Derived.Test.YtcbeoccmflnejaaGreatDoorU15
set_option linter.all false
namespace Go.Proofs.YtcbeoccmflnejaaGreatDoor
open Go.Em
set_option maxRecDepth 100000
variable {τ:St}
def UC (l:List Msg):Prop:=(∀m,m∈l->Gz m=0)/\l.Pairwise fun o m=>D6 o.st m.st≠0
def JV (ss:List Slt):Prop:=ss.Pairwise fun a b=>cu b.key a.key=1
structure StG (s:Stt):Prop where
 num:Yw s.n s.t=0
 key:∀x,x∈s.slots->(zo x.key=0\/dw x.key=true)/\Yw x.n x.t=0
 ord:JV s.slots
 items:UC (dB s.slots)
theorem fV (a b:Nat):(if Int.ofNat b<Int.ofNat a then Int.ofNat b else Int.ofNat a)=Int.ofNat (min a b):=by grind
theorem DL {j:Nat}(h:j<4294967296):Go.IntKind.i64.wrap (Int.ofNat (j+1)-1)=Int.ofNat j:=by grind[IntKind.wrap_i64]
theorem jH (a b:Nat):0<=min a b/\min a b<=a:=by grind
def dQ (m:Nat)(t:qaX):qaX:=t.extract 0 (min t.size m)
def aS:Nat->Val->Val
 |0,.mk k i s t _ _=>.mk k i s (dQ 40 t) [] []
 |n+1,.mk k i s t l f=>.mk k i s (dQ 40 t) ((l.take 6).map (aS n)) ((f.take 6).map fun p=>(dQ 40 p.1,aS n p.2))
section
variable (lv k i s:Int) (t:qaX) (l f acc gB:qaW) (j m:Nat) (x y:List X)
def svH:St:=⟨[(1,num lv),(2,.ptr 0 0 0),(4,.ptr 1 0 0),(5,.bs 2 0 j),(6,.sl true 7 []),(7,nat j)],[.var [num k,num i,num s,strX t,.sl false 6 l,.sl false 7 f],.var G5,.row 6 acc]⟩
def svN:St:=⟨[(1,num lv),(2,.ptr 0 0 0),(4,.ptr 1 0 0),(5,.bs 3 0 (j+1)),(6,.sl true 7 []),(7,nat (j+1))],[.var [num k,num i,num s,strX t,.sl false 6 l,.sl false 7 f],.var G5,.dead,.row 6 (acc++[x])]⟩
def svE:St:=⟨[(1,num lv),(2,.ptr 0 0 0),(4,.ptr 1 0 0),(5,.bs 2 0 j),(6,.sl true 7 []),(7,nat j),(29,boolX false)],[.var [num k,num i,num s,strX t,.sl false 6 l,.sl false 7 f],.var G5,.row 6 acc]⟩
theorem J7:canon 0 (svH lv k i s t l f acc j)=some (svH lv k i s t l f acc j):=by kernel_rfl
theorem PG:canon 0 (svN lv k i s t l f acc j x)=some (svH lv k i s t l f (acc++[x]) (j+1)):=by kernel_rfl
def sfH:St:=⟨[(1,num lv),(2,.ptr 0 0 0),(4,.ptr 1 0 0),(5,.bs 2 0 m),(6,.bs 3 0 j),(8,nat j)],[.var [num k,num i,num s,strX t,.sl false 6 l,.sl false 7 f],.var G5,.row 6 acc,.row 7 gB]⟩
def sfN:St:=⟨[(1,num lv),(2,.ptr 0 0 0),(4,.ptr 1 0 0),(5,.bs 2 0 m),(6,.bs 4 0 (j+1)),(8,nat (j+1))],[.var [num k,num i,num s,strX t,.sl false 6 l,.sl false 7 f],.var G5,.row 6 acc,.dead,.row 7 (gB++[x])]⟩
def sfE:St:=⟨[(1,num lv),(2,.ptr 0 0 0),(4,.ptr 1 0 0),(5,.bs 2 0 m),(6,.bs 3 0 j),(8,nat j),(55,boolX false)],[.var [num k,num i,num s,strX t,.sl false 6 l,.sl false 7 f],.var G5,.row 6 acc,.row 7 gB]⟩
theorem Kt:canon 0 (sfH lv k i s t l f acc gB j m)=some (sfH lv k i s t l f acc gB j m):=by kernel_rfl
theorem Qq:canon 0 (sfN lv k i s t l f acc gB j m x)=some (sfH lv k i s t l f acc (gB++[x]) (j+1) m):=by kernel_rfl
end
theorem fM {α β:Type}(g:α->β){l:List α}{k j:Nat}(h:j<(l.take k).length):((l.take k).take (j+1)).map g=((l.take k).take j).map g++[g (l[j]'(by grind))]:=by grind[qaV]
theorem Zn (M:Nat)(k i s:Int)(t:qaX)(L F a b:qaW)(m q n:Nat)(hm:a.length=m)(hq:b.length=q)
  (h1:run (callF tab ext M) 0 M (.loop (loopAt 59 0)) (svH (Int.ofNat (n+1)) k i s (dQ 40 t) L F [] 0)=some (.exit 0,svE (Int.ofNat (n+1)) k i s (dQ 40 t) L F a m))
  (h2:run (callF tab ext M) 0 M (.loop (loopAt 59 1)) (sfH (Int.ofNat (n+1)) k i s (dQ 40 t) L F a [] 0 m)=some (.exit 2,sfE (Int.ofNat (n+1)) k i s (dQ 40 t) L F a b q m)):
  Gam.pureD (callF tab ext (M+1)) 59 [.agg [num k,num i,num s,strX t,.sl false 6 L,.sl false 7 F],nat (n+1)]=some (.agg [num k,num i,num s,strX (dQ 40 t),.sl false 6 a,.sl false 7 b]):=by
 have f:(X.agg [num k,num i,num s,strX (dQ 40 t),.bs 0 0 m,.bs 1 0 q]).data [.row 6 a,.row 7 b] false=some (.agg [num k,num i,num s,strX (dQ 40 t),.sl false 6 a,.sl false 7 b]):=by subst hm hq;simp [X.data,dataL,rowOf,num,strX]
 exact pure_of [(14,.i (Int.ofNat (min t.size 40))),(15,.cut)] [(.exit 0,svE (Int.ofNat (n+1)) k i s (dQ 40 t) L F a m),(.exit 2,sfE (Int.ofNat (n+1)) k i s (dQ 40 t) L F a b q m)] (pf4 (fV t.size 40) (jH t.size 40) h1 h2)
  (x:=.agg [num k,num i,num s,strX (dQ 40 t),.bs 0 0 m,.bs 1 0 q]) (bx:=[.row 6 a,.row 7 b]) (by kernel_rfl) f
theorem yO (l:List Val)(v:Val):ah (l++[v])=ah l++[v.cells]:=by simp [fA]
theorem JI (l:List (qaX×Val))(t:qaX)(v:Val):aj (l++[(t,v)])=aj l++[strX t::v.cells]:=by simp [kL]
theorem FW (n:Nat):decide (Int.ofNat (n+1+1)>1)=true:=by grind
theorem je {j m:Nat}(h:j<m):decide (Int.ofNat j<Int.ofNat m)=true:=aI h
theorem iD:∀(n:Nat) (v:Val) (N:Nat),n<1000->10+n<=N->Gam.pureD (callF tab ext N) 59 [.agg v.cells,nat (n+1)]=some (.agg (aS n v).cells)
 |0,.mk k i s t l f,N,_,hN=>by
  obtain ⟨M,rfl⟩:=pR_ N;refine Zn M k i s t (ah l) (aj f) [] [] 0 0 0 rfl rfl ?_ ?_
  ·refine loop_for (σ:=fun j=>svH (Int.ofNat 1) k i s (dQ 40 t) (ah l) (aj f) [] j) (k:=0) (J7 ..) (fun j hj=>by omega) ?_ (by simp) (by omega);cases h1:decide (Int.ofNat 0<Int.ofNat (ah l).length) with
   |true=>exact ruA [(21,.b true)] (pf1 h1)
   |false=>exact ruA [(21,.b false)] (pf1 h1)
  refine loop_for (σ:=fun j=>sfH (Int.ofNat 1) k i s (dQ 40 t) (ah l) (aj f) [] [] j 0) (k:=0) (Kt ..) (fun j hj=>by omega) ?_ (by simp) (by omega);cases h1:decide (Int.ofNat 0<Int.ofNat (aj f).length) with
  |true=>exact ruA [(47,.b true)] (pf1 h1)
  |false=>exact ruA [(47,.b false)] (pf1 h1)
 |n+1,.mk k i s t l f,N,hn,hN=>by
  obtain ⟨M,rfl⟩:=pR_ N;have el:=aK l;have ef:=aT f;have e1:(aS (n+1) (.mk k i s t l f)).cells=[num k,num i,num s,strX (dQ 40 t),.sl false 6 (ah ((l.take 6).map (aS n))),.sl false 7 (aj ((f.take 6).map fun p=>(dQ 40 p.1,aS n p.2)))]:=rfl;rw [e1];have hd:=DL (j:=n+1) (by omega);refine Zn M k i s t (ah l) (aj f) _ _ (l.take 6).length (f.take 6).length (n+1) (by grind[aK]) (by grind[aT]) ?_ ?_
  ·refine loop_for (σ:=fun j=>svH (Int.ofNat (n+2)) k i s (dQ 40 t) (ah l) (aj f) (ah (((l.take 6).take j).map (aS n))) j) (k:=(l.take 6).length) (J7 ..) (fun j hj=>?_) ?_ (by simp) (by grind)
   ·have hj1:j<l.length:=by rw [qag] at hj;omega
    have hj2:j<6:=by rw [qag] at hj;omega
    have hg:=dN hj1;have hc:=iD n l[j] M (by omega) (by omega);have hlen:(ah (((l.take 6).take j).map (aS n))).length=j:=by rw [aK,qaB,qag,qag];omega
    rw [fM (aS n) hj,yO];generalize l[j]=v at hg hc;generalize aS n v=w at hc;generalize ((l.take 6).take j).map (aS n)=acc at hlen;obtain ⟨a1,a2,a3,a4,a5,a6⟩:=v;obtain ⟨b1,b2,b3,b4,b5,b6⟩:=w;exact ⟨_,run_of (σ':=svN (Int.ofNat (n+2)) k i s (dQ 40 t) (ah l) (aj f) (ah acc) j (Val.mk b1 b2 b3 b4 b5 b6).cells) [(21,.b true),(24,.b true),(28,.b true),(36,.e (Val.mk a1 a2 a3 a4 a5 a6).cells),(39,.i (Int.ofNat (n+1))),(40,.p (.agg (Val.mk b1 b2 b3 b4 b5 b6).cells)),(42,.app),(31,.i (Int.ofNat (j+1)))] []
     (pf8 (aI (j:=j) (k:=(ah l).length) (by omega)) (je hj2) (FW n) hg hd hc (aU (acc:=ah acc) j 2 88 hlen.symm (by omega) (by omega)) (ay (j:=j) (by omega))) (lo':=[]) (by kernel_rfl),PG ..⟩
   have e2:(l.take 6).take (l.take 6).length=l.take 6:=List.take_length;rw [e2];by_cases h6:(l.take 6).length<l.length
   ·have h7:(l.take 6).length=6:=by rw [qag] at h6 ⊢;omega
    exact ruA [(21,.b true),(24,.b false)] (pf2 (aI (j:=(l.take 6).length) (k:=(ah l).length) (by omega)) (aG (j:=(l.take 6).length) (k:=6) (by omega)))
   exact ruA [(21,.b false)] (pf1 (aG (j:=(l.take 6).length) (k:=(ah l).length) (by omega)))
  generalize ah ((l.take 6).map (aS n))=aL;generalize (l.take 6).length=m;refine loop_for (σ:=fun j=>sfH (Int.ofNat (n+2)) k i s (dQ 40 t) (ah l) (aj f) aL (aj (((f.take 6).take j).map fun p=>(dQ 40 p.1,aS n p.2))) j m) (k:=(f.take 6).length) (Kt ..) (fun j hj=>?_) ?_ (by simp) (by grind)
  ·have hj1:j<f.length:=by rw [qag] at hj;omega
   have hj2:j<6:=by rw [qag] at hj;omega
   have hg:=eG hj1;have hc:=iD n f[j].2 M (by omega) (by omega);have hlen:(aj (((f.take 6).take j).map fun p=>(dQ 40 p.1,aS n p.2))).length=j:=by rw [aT,qaB,qag,qag];omega
   rw [fM (fun p:qaX×Val=>(dQ 40 p.1,aS n p.2)) hj,JI];generalize f[j]=v at hg hc;obtain ⟨vt,v⟩:=v;dsimp only at hg hc ⊢;generalize aS n v=w at hc;generalize ((f.take 6).take j).map (fun p:qaX×Val=>(dQ 40 p.1,aS n p.2))=acc at hlen;obtain ⟨a1,a2,a3,a4,a5,a6⟩:=v;obtain ⟨b1,b2,b3,b4,b5,b6⟩:=w;exact ⟨_,run_of (σ':=sfN (Int.ofNat (n+2)) k i s (dQ 40 t) (ah l) (aj f) aL (aj acc) j m (strX (dQ 40 vt)::(Val.mk b1 b2 b3 b4 b5 b6).cells)) [(47,.b true),(50,.b true),(54,.b true),(62,.e (strX vt::(Val.mk a1 a2 a3 a4 a5 a6).cells)),(68,.e (strX vt::(Val.mk a1 a2 a3 a4 a5 a6).cells)),(72,.i (Int.ofNat (min vt.size 40))),(73,.cut),(77,.e (strX vt::(Val.mk a1 a2 a3 a4 a5 a6).cells)),(81,.i (Int.ofNat (n+1))),(82,.p (.agg (Val.mk b1 b2 b3 b4 b5 b6).cells)),(85,.app),(57,.i (Int.ofNat (j+1)))] []
    (pf12 (aI (j:=j) (k:=(aj f).length) (by omega)) (je hj2) (FW n) hg hg (fV vt.size 40) (jH vt.size 40) hg hd hc (aU (acc:=aj acc) j 3 104 hlen.symm (by omega) (by omega)) (ay (j:=j) (by omega))) (lo':=[]) (by kernel_rfl),Qq ..⟩
  have e2:(f.take 6).take (f.take 6).length=f.take 6:=List.take_length;rw [e2];by_cases h6:(f.take 6).length<f.length
  ·have h7:(f.take 6).length=6:=by rw [qag] at h6 ⊢;omega
   exact ruA [(47,.b true),(50,.b false)] (pf2 (aI (j:=(f.take 6).length) (k:=(aj f).length) (by omega)) (aG (j:=(f.take 6).length) (k:=6) (by omega)))
  exact ruA [(47,.b false)] (pf1 (aG (j:=(f.take 6).length) (k:=(aj f).length) (by omega)))
def DU (x:Int):Int:=if 0>x then 0 else x
def OE (x:Int):Int:=if 1099511627776<x then 1099511627776 else x
def Yp (p:List Int):List Int:=p.take (min (aC p).length 6)
theorem sZ (p:List Int):aC (Yp p)=(aC p).take (min (aC p).length 6):=by simp [Yp,aC]
theorem yj (p:List Int):(Yp p).length<=6:=by grind[Yp]
theorem DT (p:qaW):roomOk (([]:qaW).length+(List.drop 0 (List.take (min p.length 6) p)).length) 8=true:=by grind[fP]
def dH (m:Msg):Msg:=⟨⟨m.st.e,Yp m.st.p⟩,OE (DU m.y8),Yp m.orig,aS 4 m.body⟩
theorem EN (m:Msg)(N:Nat)(hN:20<=N):Gam.pureD (callF tab ext N) 60 [.agg m.cells]=some (.agg (dH m).cells):=by
 obtain ⟨M,rfl⟩:=pR_ N;have u:=iD 4 m.body M (by omega) (by omega);have e:(dH m).cells=num m.st.e::.sl false 1 ((aC m.st.p).take (min (aC m.st.p).length 6))::num (OE (DU m.y8))::.sl false 1 ((aC m.orig).take (min (aC m.orig).length 6))::(aS 4 m.body).cells:=by rw [<-sZ,<-sZ];rfl
 rw [e];generalize aS 4 m.body=w at u;obtain ⟨⟨y,p⟩,a,o,⟨A,B,E,F,H,J⟩⟩:=m;obtain ⟨f,h,j,l,n,q⟩:=w;exact puA [(11,.i (Int.ofNat (min (aC p).length 6))),(12,.cut),(13,.fresh),(22,.i (Int.ofNat (min (aC o).length 6))),(23,.cut),(24,.fresh),(28,.p (.agg (Val.mk f h j l n q).cells)),(31,.i (DU a)),(32,.i (OE (DU a)))] (pf9 (fV (aC p).length 6) (jH (aC p).length 6) (DT (aC p)) (fV (aC o).length 6) (jH (aC o).length 6) (DT (aC o)) u (rfl:DU a=DU a) (rfl:OE (DU a)=OE (DU a))) (.agg (num y::.sl false 1 ((aC p).take (min (aC p).length 6))::num (OE (DU a))::.sl false 1 ((aC o).take (min (aC o).length 6))::(Val.mk f h j l n q).cells))
structure Inp where
 kind:Int
 time:Int
 st:Stp
 m:Msg
 x:Int
 b1:Bool
 b2:Bool
 body:Val
def Inp.cells (i:Inp):List X:=num i.kind::num i.time::num i.st.e::.sl false 1 (aC i.st.p)::num i.m.st.e::.sl false 1 (aC i.m.st.p)::num i.m.y8::.sl false 1 (aC i.m.orig)::(i.m.body.cells++num i.x::boolX i.b1::boolX i.b2::i.body.cells)
def fO (i:Inp):Inp:={i with st:=⟨i.st.e,Yp i.st.p⟩,m:=dH i.m,body:=aS 4 i.body}
theorem Qm (i:Inp)(N:Nat)(hN:30<=N):Gam.pureD (callF tab ext N) 21 [.agg i.cells]=some (.agg (fO i).cells):=by
 obtain ⟨M,rfl⟩:=pR_ N;have L:=iD 4 i.body M (by omega) (by omega);have O:=EN i.m M (by omega);have e:(fO i).cells=num i.kind::num i.time::num i.st.e::.sl false 1 ((aC i.st.p).take (min (aC i.st.p).length 6))::num (dH i.m).st.e::.sl false 1 (aC (dH i.m).st.p)::num (dH i.m).y8::.sl false 1 (aC (dH i.m).orig)::((dH i.m).body.cells++num i.x::boolX i.b1::boolX i.b2::(aS 4 i.body).cells):=by rw [<-sZ];rfl
 rw [e];generalize aS 4 i.body=w at L;generalize dH i.m=q at O;obtain ⟨P,tm,⟨Q,a⟩,⟨⟨e0,p⟩,ms,o,⟨V,W,Y,Z,a5,a6⟩⟩,x,S,U,⟨c1,c2,c3,c4,c5,c6⟩⟩:=i;obtain ⟨b1,b2,f,h,j,l⟩:=w;obtain ⟨⟨u,y⟩,A,B,⟨E,F,d7,H,J,n⟩⟩:=q;exact puA [(5,.p (.agg (Msg.mk ⟨u,y⟩ A B (Val.mk E F d7 H J n)).cells)),(8,.p (.agg (Val.mk b1 b2 f h j l).cells)),(19,.i (Int.ofNat (min (aC a).length 6))),(20,.cut),(21,.fresh)] (pf5 O L (fV (aC a).length 6) (jH (aC a).length 6) (DT (aC a))) (.agg (num P::num tm::num Q::.sl false 1 ((aC a).take (min (aC a).length 6))::num u::.sl false 1 (aC y)::num A::.sl false 1 (aC B)::((Val.mk E F d7 H J n).cells++num x::boolX S::boolX U::(Val.mk b1 b2 f h j l).cells)))
def jC (x:Slt):Slt:=⟨aS 2 x.key,x.n,x.t,(x.items.take 4).map dH,(x.vals.take 4).map (aS 3)⟩
def shortS (s:Stt):Stt:=⟨s.n,s.t,(s.slots.take 6).map jC⟩
section
variable (a b:Int) (l acc:qaW) (j:Nat) (k i s n t:Int) (tx:qaX) (vl vf its vs:qaW) (k' i' s':Int) (tx':qaX) (vl' vf' nI vs':qaW) (z z2:Nat) (x:List X)
def ssH:St:=⟨[(1,.ptr 0 0 0),(2,.ptr 1 0 0),(3,.bs 2 0 j),(4,nat j)],[.var [num a,num b,.sl false 10 l],.var jB,.row 10 acc]⟩
def siH:St:=⟨[(1,.ptr 0 0 0),(2,.ptr 1 0 0),(3,.bs 2 0 j),(4,nat j),(5,.ptr 3 0 0),(6,.ptr 4 0 0),(7,nat z)],[.var [num a,num b,.sl false 10 l],.var jB,.row 10 acc,.var (aJ k i s tx vl vf n t its vs),.var [num k',num i',num s',strX tx',.sl false 6 vl',.sl false 7 vf',num n,num t,.bs 5 0 z,.sl true 6 []],.row 10 nI]⟩
def siN:St:=⟨[(1,.ptr 0 0 0),(2,.ptr 1 0 0),(3,.bs 2 0 j),(4,nat j),(5,.ptr 3 0 0),(6,.ptr 4 0 0),(7,nat (z+1))],[.var [num a,num b,.sl false 10 l],.var jB,.row 10 acc,.var (aJ k i s tx vl vf n t its vs),.var [num k',num i',num s',strX tx',.sl false 6 vl',.sl false 7 vf',num n,num t,.bs 6 0 (z+1),.sl true 6 []],.dead,.row 10 (nI++[x])]⟩
def siE:St:=⟨[(1,.ptr 0 0 0),(2,.ptr 1 0 0),(3,.bs 2 0 j),(4,nat j),(5,.ptr 3 0 0),(6,.ptr 4 0 0),(7,nat z),(41,boolX false)],[.var [num a,num b,.sl false 10 l],.var jB,.row 10 acc,.var (aJ k i s tx vl vf n t its vs),.var [num k',num i',num s',strX tx',.sl false 6 vl',.sl false 7 vf',num n,num t,.bs 5 0 z,.sl true 6 []],.row 10 nI]⟩
theorem VK:canon 0 (siH a b l acc j k i s n t tx vl vf its vs k' i' s' tx' vl' vf' nI z)=some (siH a b l acc j k i s n t tx vl vf its vs k' i' s' tx' vl' vf' nI z):=by kernel_rfl
theorem Ql:canon 0 (siN a b l acc j k i s n t tx vl vf its vs k' i' s' tx' vl' vf' nI z x)=some (siH a b l acc j k i s n t tx vl vf its vs k' i' s' tx' vl' vf' (nI++[x]) (z+1)):=by kernel_rfl
def swH:St:=⟨[(1,.ptr 0 0 0),(2,.ptr 1 0 0),(3,.bs 2 0 j),(4,nat j),(5,.ptr 3 0 0),(6,.ptr 4 0 0),(8,nat z)],[.var [num a,num b,.sl false 10 l],.var jB,.row 10 acc,.var (aJ k i s tx vl vf n t its vs),.var [num k',num i',num s',strX tx',.sl false 6 vl',.sl false 7 vf',num n,num t,.bs 5 0 z2,.bs 6 0 z],.row 10 nI,.row 6 vs']⟩
def swN:St:=⟨[(1,.ptr 0 0 0),(2,.ptr 1 0 0),(3,.bs 2 0 j),(4,nat j),(5,.ptr 3 0 0),(6,.ptr 4 0 0),(8,nat (z+1))],[.var [num a,num b,.sl false 10 l],.var jB,.row 10 acc,.var (aJ k i s tx vl vf n t its vs),.var [num k',num i',num s',strX tx',.sl false 6 vl',.sl false 7 vf',num n,num t,.bs 5 0 z2,.bs 7 0 (z+1)],.row 10 nI,.dead,.row 6 (vs'++[x])]⟩
def swE:St:=⟨[(1,.ptr 0 0 0),(2,.ptr 1 0 0),(3,.bs 2 0 j),(4,nat j),(5,.ptr 3 0 0),(6,.ptr 4 0 0),(8,nat z),(63,boolX false)],[.var [num a,num b,.sl false 10 l],.var jB,.row 10 acc,.var (aJ k i s tx vl vf n t its vs),.var [num k',num i',num s',strX tx',.sl false 6 vl',.sl false 7 vf',num n,num t,.bs 5 0 z2,.bs 6 0 z],.row 10 nI,.row 6 vs']⟩
theorem VA:canon 0 (swH a b l acc j k i s n t tx vl vf its vs k' i' s' tx' vl' vf' nI vs' z z2)=some (swH a b l acc j k i s n t tx vl vf its vs k' i' s' tx' vl' vf' nI vs' z z2):=by kernel_rfl
theorem PE:canon 0 (swN a b l acc j k i s n t tx vl vf its vs k' i' s' tx' vl' vf' nI vs' z z2 x)=some (swH a b l acc j k i s n t tx vl vf its vs k' i' s' tx' vl' vf' nI (vs'++[x]) (z+1) z2):=by kernel_rfl
end
theorem NW (l:List Msg)(m:Msg):aA (l++[m])=aA l++[m.cells]:=by simp [aA]
theorem MQ (l:List Slt)(m:Slt):ak (l++[m])=ak l++[m.cells]:=by simp [ak]
theorem zaM (M:Nat)(hM:40<=M)(a b:Int)(l acc:qaW)(j:Nat)(k i s n t:Int)(tx:qaX)(vl vf vs:qaW)(k' i' s':Int)(tx':qaX)(vl' vf':qaW)(ms:List Msg):
  run (callF tab ext M) 0 M (.loop (loopAt 20 1)) (siH a b l acc j k i s n t tx vl vf (aA ms) vs k' i' s' tx' vl' vf' [] 0)=some (.exit 2,siE a b l acc j k i s n t tx vl vf (aA ms) vs k' i' s' tx' vl' vf' (aA ((ms.take 4).map dH)) (ms.take 4).length):=by
 have el:=bF ms;refine loop_for (σ:=fun z=>siH a b l acc j k i s n t tx vl vf (aA ms) vs k' i' s' tx' vl' vf' (aA (((ms.take 4).take z).map dH)) z) (k:=(ms.take 4).length) (VK ..) (fun z hz=>?_) ?_ (by simp) (by grind)
 ·have m:z<ms.length:=by rw [qag] at hz;omega
  have q:z<4:=by rw [qag] at hz;omega
  have O:=kD m;have h:=EN ms[z] M (by omega);have f:(aA (((ms.take 4).take z).map dH)).length=z:=by rw [bF,qaB,qag,qag];omega
  rw [fM dH hz,NW];generalize ms[z]=v at O h;generalize dH v=w at h;generalize aA (((ms.take 4).take z).map dH)=nI at f;obtain ⟨⟨Q,S⟩,U,V,⟨W,Y,Z,a8,a9,P⟩⟩:=v;obtain ⟨⟨y,A⟩,B,E,⟨F,H,J,L,N,u⟩⟩:=w;exact ⟨_,run_of (σ':=siN a b l acc j k i s n t tx vl vf (aA ms) vs k' i' s' tx' vl' vf' nI z (Msg.mk ⟨y,A⟩ B E (Val.mk F H J L N u)).cells) [(37,.b true),(40,.b true),(49,.e (Msg.mk ⟨Q,S⟩ U V (Val.mk W Y Z a8 a9 P)).cells),(51,.p (.agg (Msg.mk ⟨y,A⟩ B E (Val.mk F H J L N u)).cells)),(53,.app),(43,.i (Int.ofNat (z+1)))] []
   (pf6 (aI (j:=z) (k:=(aA ms).length) (by omega)) (je q) O h (aU (acc:=nI) z 5 152 f.symm (by omega) (by omega)) (ay (j:=z) (by omega))) (lo':=[]) (by kernel_rfl),Ql ..⟩
 rw [List.take_length];by_cases h6:(ms.take 4).length<ms.length
 ·have h7:(ms.take 4).length=4:=by rw [qag] at h6 ⊢;omega
  exact ruA [(37,.b true),(40,.b false)] (pf2 (aI (j:=(ms.take 4).length) (k:=(aA ms).length) (by omega)) (aG (j:=(ms.take 4).length) (k:=4) (by omega)))
 exact ruA [(37,.b false)] (pf1 (aG (j:=(ms.take 4).length) (k:=(aA ms).length) (by omega)))
theorem zax (M:Nat)(hM:40<=M)(a b:Int)(l acc:qaW)(j:Nat)(k i s n t:Int)(tx:qaX)(vl vf its:qaW)(k' i' s':Int)(tx':qaX)(vl' vf' nI:qaW)(z2:Nat)(ms:List Val):
  run (callF tab ext M) 0 M (.loop (loopAt 20 2)) (swH a b l acc j k i s n t tx vl vf its (ah ms) k' i' s' tx' vl' vf' nI [] 0 z2)=some (.exit 4,swE a b l acc j k i s n t tx vl vf its (ah ms) k' i' s' tx' vl' vf' nI (ah ((ms.take 4).map (aS 3))) (ms.take 4).length z2):=by
 have el:=aK ms;refine loop_for (σ:=fun z=>swH a b l acc j k i s n t tx vl vf its (ah ms) k' i' s' tx' vl' vf' nI (ah (((ms.take 4).take z).map (aS 3))) z z2) (k:=(ms.take 4).length) (VA ..) (fun z hz=>?_) ?_ (by simp) (by grind)
 ·have m:z<ms.length:=by rw [qag] at hz;omega
  have q:z<4:=by rw [qag] at hz;omega
  have H:=dN m;have h:=iD 3 ms[z] M (by omega) (by omega);have f:(ah (((ms.take 4).take z).map (aS 3))).length=z:=by rw [aK,qaB,qag,qag];omega
  rw [fM (aS 3) hz,yO];generalize ms[z]=v at H h;generalize aS 3 v=w at h;generalize ah (((ms.take 4).take z).map (aS 3))=vs' at f;obtain ⟨L,N,O,P,Q,J⟩:=v;obtain ⟨y,A,B,E,F,u⟩:=w;exact ⟨_,run_of (σ':=swN a b l acc j k i s n t tx vl vf its (ah ms) k' i' s' tx' vl' vf' nI vs' z z2 (Val.mk y A B E F u).cells) [(59,.b true),(62,.b true),(71,.e (Val.mk L N O P Q J).cells),(73,.p (.agg (Val.mk y A B E F u).cells)),(75,.app),(65,.i (Int.ofNat (z+1)))] []
   (pf6 (aI (j:=z) (k:=(ah ms).length) (by omega)) (je q) H h (aU (acc:=vs') z 6 88 f.symm (by omega) (by omega)) (ay (j:=z) (by omega))) (lo':=[]) (by kernel_rfl),PE ..⟩
 rw [List.take_length];by_cases S:(ms.take 4).length<ms.length
 ·have U:(ms.take 4).length=4:=by rw [qag] at S ⊢;omega
  exact ruA [(59,.b true),(62,.b false)] (pf2 (aI (j:=(ms.take 4).length) (k:=(ah ms).length) (by omega)) (aG (j:=(ms.take 4).length) (k:=4) (by omega)))
 exact ruA [(59,.b false)] (pf1 (aG (j:=(ms.take 4).length) (k:=(ah ms).length) (by omega)))
section
variable (a b:Int) (l acc:qaW) (j:Nat) (k i s n t:Int) (tx:qaX) (vl vf its vs:qaW) (k' i' s':Int) (tx':qaX) (vl' vf' nI vs':qaW) (z z2:Nat) (x:List X)
def ssN:St:=⟨[(1,.ptr 0 0 0),(2,.ptr 1 0 0),(3,.bs 7 0 (j+1)),(4,nat (j+1))],[.var [num a,num b,.sl false 10 l],.var jB,.dead,.var (aJ k i s tx vl vf n t its vs),.var (aJ k' i' s' tx' vl' vf' n t (nI.take z) (vs'.take z2)),.dead,.dead,.row 10 (acc++[aJ k' i' s' tx' vl' vf' n t (nI.take z) (vs'.take z2)])]⟩
theorem PV:canon 0 (ssN a b l acc j k i s n t tx vl vf its vs k' i' s' tx' vl' vf' nI vs' z z2)=some (ssH a b l (acc++[aJ k' i' s' tx' vl' vf' n t (nI.take z) (vs'.take z2)]) (j+1)):=by kernel_rfl
end
theorem zaC (M:Nat)(hM:50<=M)(a b:Int)(ss:List Slt)(hτ:canon 0 τ=some (ssH a b (ak ss) [] 0)):
  run (callF tab ext M) 0 M (.loop (loopAt 20 0)) τ=some (.exit 0,⟨[(1,.ptr 0 0 0),(2,.ptr 1 0 0),(3,.bs 2 0 (ss.take 6).length),(4,nat (ss.take 6).length),(17,boolX false)],[.var [num a,num b,.sl false 10 (ak ss)],.var jB,.row 10 (ak ((ss.take 6).map jC))]⟩):=by
 have el:=aN ss;refine loop_for (σ:=fun z=>ssH a b (ak ss) (ak (((ss.take 6).take z).map jC)) z) (k:=(ss.take 6).length) hτ (fun z hz=>?_) ?_ (by simp) (by grind)
 ·have pa:z<ss.length:=by rw [qag] at hz;omega
  have pb:z<6:=by rw [qag] at hz;omega
  have hg:=aW pa;have hc:=iD 2 ss[z].key M (by omega) (by omega);have S:(ak (((ss.take 6).take z).map jC)).length=z:=by rw [aN,qaB,qag,qag];omega
  have hi:=fun vl vf k i s tx n t h k' i' s' U W V=>zaM M (by omega) a b (ak ss) (ak (((ss.take 6).take z).map jC)) z k i s n t tx vl vf h k' i' s' U W V ss[z].items;have hv:=fun vl vf k i s tx n t pc k' i' s' U W V Y Z=>zax M (by omega) a b (ak ss) (ak (((ss.take 6).take z).map jC)) z k i s n t tx vl vf pc k' i' s' U W V Y Z ss[z].vals;rw [fM jC hz,MQ];generalize ss[z]=v at hg hc hi hv;obtain ⟨⟨u,y,A,B,E,F⟩,m,q,f,h⟩:=v;have e:(jC ⟨.mk u y A B E F,m,q,f,h⟩).cells=(Slt.mk (aS 2 (.mk u y A B E F)) m q ((f.take 4).map dH) ((h.take 4).map (aS 3))).cells:=rfl;rw [e];dsimp only at hc hi hv;generalize aS 2 (.mk u y A B E F)=w at hc;obtain ⟨J,L,N,O,P,Q⟩:=w;have l1:(aA ((f.take 4).map dH)).length=(f.take 4).length:=by rw [bF,qaB]
  have l2:(ah ((h.take 4).map (aS 3))).length=(h.take 4).length:=by rw [aK,qaB]
  have H:=hi (ah E) (aj F) u y A B m q (ah h) J L N O (ah P) (aj Q);have l:=hv (ah E) (aj F) u y A B m q (aA f) J L N O (ah P) (aj Q) (aA ((f.take 4).map dH)) (f.take 4).length;generalize ak (((ss.take 6).take z).map jC)=acc at S H l;have e1:(Slt.mk (.mk J L N O P Q) m q ((f.take 4).map dH) ((h.take 4).map (aS 3))).cells=aJ J L N O (ah P) (aj Q) m q ((aA ((f.take 4).map dH)).take (f.take 4).length) ((ah ((h.take 4).map (aS 3))).take (h.take 4).length):=by rw [List.take_of_length_le (Nat.le_of_eq l1),List.take_of_length_le (Nat.le_of_eq l2)];rfl
  rw [e1];generalize aA ((f.take 4).map dH)=Y at l1 H l;generalize ah ((h.take 4).map (aS 3))=vs' at l2 l;generalize (f.take 4).length=z1 at l1 H l;generalize (h.take 4).length=Z at l2 l;exact ⟨_,run_of (σ':=ssN a b (ak ss) acc z u y A m q B (ah E) (aj F) (aA f) (ah h) J L N O (ah P) (aj Q) Y vs' z1 Z)
   [(13,.b true),(16,.b true),(23,.e (aJ u y A B (ah E) (aj F) m q (aA f) (ah h))),(27,.p (.agg (Val.mk J L N O P Q).cells)),(80,.app),(19,.i (Int.ofNat (z+1)))]
   [(.exit 2,siE a b (ak ss) acc z u y A m q B (ah E) (aj F) (aA f) (ah h) J L N O (ah P) (aj Q) Y z1),(.exit 4,swE a b (ak ss) acc z u y A m q B (ah E) (aj F) (aA f) (ah h) J L N O (ah P) (aj Q) Y vs' Z z1)]
   (pf10 (aI (j:=z) (k:=(ak ss).length) (by omega)) (je pb) hg hc H l (show 0+z1<=Y.length by omega) (show 0+Z<=vs'.length by omega) (aU (acc:=acc) z 2 152 S.symm (by omega) (by omega)) (ay (j:=z) (by omega))) (lo':=[]) (by kernel_rfl),PV ..⟩
 rw [List.take_length];by_cases h6:(ss.take 6).length<ss.length
 ·have h7:(ss.take 6).length=6:=by rw [qag] at h6 ⊢;omega
  exact ruA [(13,.b true),(16,.b false)] (pf2 (aI (j:=(ss.take 6).length) (k:=(ak ss).length) (by omega)) (aG (j:=(ss.take 6).length) (k:=6) (by omega)))
 exact ruA [(13,.b false)] (pf1 (aG (j:=(ss.take 6).length) (k:=(ak ss).length) (by omega)))
theorem Hr (s:Stt)(N:Nat)(hN:60<=N):Gam.pureD (callF tab ext N) 20 [.agg s.cells]=some (.agg (shortS s).cells):=by
 obtain ⟨M,rfl⟩:=pR_ N;obtain ⟨a,b,f⟩:=s;have h:=zaC M (by omega) a b f (τ:=⟨[(1,.ptr 0 0 0),(2,.ptr 1 0 0),(3,.bs 2 0 0),(4,num 0)],[.var [num a,num b,.sl false 10 (ak f)],.var jB,.row 10 []]⟩) (by kernel_rfl);have j:(ak ((f.take 6).map jC)).length=(f.take 6).length:=by rw [aN,qaB]
 have e:(shortS ⟨a,b,f⟩).cells=[num a,num b,.sl false 10 (ak ((f.take 6).map jC))]:=rfl;rw [e];generalize ak ((f.take 6).map jC)=acc at j h;generalize (f.take 6).length=z at j h;have l:(X.agg [num a,num b,.bs 0 0 z]).data [.row 10 acc] false=some (.agg [num a,num b,.sl false 10 acc]):=by subst j;simp [X.data,dataL,rowOf,num]
 exact pure_of [] [(.exit 0,⟨[(1,.ptr 0 0 0),(2,.ptr 1 0 0),(3,.bs 2 0 z),(4,nat z),(17,boolX false)],[.var [num a,num b,.sl false 10 (ak f)],.var jB,.row 10 acc]⟩)] (pf1 h) (x:=.agg [num a,num b,.bs 0 0 z]) (bx:=[.row 10 acc]) (by kernel_rfl) l
mutual
theorem oh:∀(n:Nat) (v:Val),(aS n v).size<=13^n*2-1
 |0,.mk .. =>by grind[aS,Val.size,nZ,pJ]
 |n+1,.mk k i s t l f=>by
  have h1:∀l:List Val,nZ (l.map (aS n))<=l.length*(13^n*2):=fun l=>by
   induction l with
   |nil=>simp [nZ]
   |cons v l ih=>have:=oh n v<;>grind[nZ,Nat.add_mul]
  have h2:∀l:List (qaX×Val),pJ (l.map fun p=>(dQ 40 p.1,aS n p.2))<=l.length*(13^n*2):=fun l=>by
   induction l with
   |nil=>simp [pJ]
   |cons v l ih=>have:=oh n v.2<;>grind[pJ,Nat.add_mul]
  have g1:=h1 (l.take 6);have g2:=h2 (f.take 6);have e1:(l.take 6).length*(13^n*2)<=6*(13^n*2):=qaJ _ (by grind);have e2:(f.take 6).length*(13^n*2)<=6*(13^n*2):=qaJ _ (by rw [qag];omega)<;>grind[aS,Val.size]
end
theorem uV {n:Nat}(v:Val)(h:n<=4):(aS n v).ok:=by
 have a:=oh n v;have f:13^n<=13^4:=Nat.pow_le_pow_right (by omega) h;unfold Val.ok
 grind
theorem pK (m:Msg):(dH m).ok:=⟨⟨by have:=yj m.st.p;show (Yp m.st.p).length<=60000;omega⟩,by have:=yj m.orig;show (Yp m.orig).length<=60000;omega,uV _ (by omega)⟩
theorem lG (s:Stt):(shortS s).small:=by
 refine ⟨?_,fun x h=>?_⟩;·show ((s.slots.take 6).map jC).length<=100<;>grind
 obtain ⟨y,n,rfl⟩:=qam.1 h;have j:((y.items.take 4).map dH).length<=4:=by rw [qaB,qag];omega
 have l:((y.vals.take 4).map (aS 3)).length<=4:=by rw [qaB,qag];omega
 refine ⟨⟨uV _ (by omega),?_,fun m a=>?_,?_,fun v f=>?_⟩,?_,?_⟩;·show ((y.items.take 4).map dH).length<=60000;omega
 ·obtain ⟨q,_,rfl⟩:=qam.1 a<;>simp_all[pK]
 ·show ((y.vals.take 4).map (aS 3)).length<=60000;omega
 ·obtain ⟨u,_,rfl⟩:=qam.1 f<;>simp_all[uV]
 ·show ((y.items.take 4).map dH).length<=100;omega
 show ((y.vals.take 4).map (aS 3)).length<=100;omega
theorem fZ {nIn:Nat}{b:C}{B:Nat}{H:Nat->qaW->St}{k:Nat}{e:Ex}{E:qaW->St}(Q:List X->Prop)(hτ:canon nIn τ=some (H 0 []))
  (hstep:∀j acc,j<k->acc.length=j->∃x υ,Q x/\canon nIn υ=some (H (j+1) (acc++[x]))/\∀M,B<=M->run (callF tab ext M) nIn M b (H j acc)=some (.norm,υ))
  (hend:∀acc,acc.length=k->∀M,B<=M->run (callF tab ext M) nIn M b (H k acc)=some (e,E acc)) (hne:e≠.norm):
  ∃acc:qaW,acc.length=k/\(∀x,x∈acc->Q x)/\∀M,B<=M->k<M->run (callF tab ext M) nIn M (.loop b) τ=some (e,E acc):=by
 have m:∀d j acc,j+d=k->acc.length=j->(∀x,x∈acc->Q x)->∃fin:qaW,fin.length=k/\(∀x,x∈fin->Q x)/\∀M F υ,B<=M->d<F->canon nIn υ=some (H j acc)->iter nIn (run (callF tab ext M) nIn M b) F υ=some (e,E fin):=by
  intro d;induction d with
  |zero=>
   intro j acc J a q;have l:j=k:=by omega
   subst l;refine ⟨acc,a,q,fun M F υ w u A=>?_⟩;obtain ⟨F',rfl⟩:∃F',F=F'+1:=⟨F-1,by omega⟩
   grind[iter_end]
  |succ d ih=>intro j acc J a q;obtain ⟨x,υ,L,A,N⟩:=hstep j acc (by omega) a;obtain ⟨fin,n,f,h⟩:=ih (j+1) (acc++[x]) (by omega) (by grind) (fun y O=>by grind);refine ⟨fin,n,f,fun M F ω w u P=>?_⟩;obtain ⟨F',rfl⟩:∃F',F=F'+1:=⟨F-1,by omega⟩<;>simp_all[iter_step]
 obtain ⟨fin,n,f,h⟩:=m k 0 [] (by omega) rfl (fun x L=>by grind)
 grind[run]
def kOf (n len K:Nat):Nat:=if n=0 then 0 else min len K
theorem qg (n len K:Nat):kOf n len K<=len/\kOf n len K<=K:=by grind[kOf]
def isVal (c:List X):Prop:=∃v:Val,c=v.cells
def CX:Nat->List X->Prop
 |0,c=>∃o i t vs es,c=[num o,num i,strX t,.sl false 6 vs,.sl false 5 es]/\∀x,x∈vs->isVal x
 |n+1,c=>∃o i t vs es,c=[num o,num i,strX t,.sl false 6 vs,.sl false 5 es]/\(∀x,x∈vs->isVal x)/\∀x,x∈es->CX n x
theorem N8:∀{n:Nat} {c:List X},CX n c->CX 0 c
 |0,_,h=>h
 |_+1,_,⟨o,i,t,vs,es,h1,h2,_⟩=>⟨o,i,t,vs,es,h1,h2⟩
def UE:List X:=[num 0,num 0,noText,.sl true 6 [],.sl true 5 []]
def gu (o i:Int)(t:qaX)(vs es:qaW):List X:=[num o,num i,strX t,.sl false 6 vs,.sl false 5 es]
def sE:Nat->List X->Prop
 |0,_=>False
 |h+1,x=>∃o i t vs es,x=gu o i t vs es/\t.size<=60/\vs.length<=2/\(∀v,v∈vs->∃w:Val,v=(aS 1 w).cells)/\es.length<=4/\∀e,e∈es->sE h e
theorem iq (n:Nat)(t:qaX):(dQ n t).size<=n:=by grind[dQ,ByteArray.size_extract]
section
variable (n:Nat) (o i:Int) (t:qaX) (l f:qaW) (acc:qaW) (j:Nat) (x:List X)
def xvH:St:=⟨[(1,num (Int.ofNat (n+1))),(2,.ptr 0 0 0),(4,.ptr 1 0 0),(5,.bs 2 0 j),(6,nat j)],[.var (gu o i t l f),.var UE,.row 6 acc]⟩
def xvN:St:=⟨[(1,num (Int.ofNat (n+1))),(2,.ptr 0 0 0),(4,.ptr 1 0 0),(5,.bs 3 0 (j+1)),(6,nat (j+1))],[.var (gu o i t l f),.var UE,.dead,.row 6 (acc++[x])]⟩
def xvE:St:=⟨[(1,num (Int.ofNat (n+1))),(2,.ptr 0 0 0),(4,.ptr 1 0 0),(5,.bs 2 0 j),(6,nat j),(25,boolX false)],[.var (gu o i t l f),.var UE,.row 6 acc]⟩
theorem UN:canon 0 (xvN n o i t l f acc j x)=some (xvH n o i t l f (acc++[x]) (j+1)):=by kernel_rfl
end
theorem O6 (n:Nat)(o i:Int)(t:qaX)(l f:qaW)(hl:∀x,x∈l->isVal x)(hτ:canon 0 τ=some (xvH n o i t l f [] 0)):∃acc,acc.length=min l.length 2/\(∀x,x∈acc->(fun x=>∃w:Val,x=(aS 1 w).cells) x)/\∀M,40<=M->run (callF tab ext M) 0 M (.loop (loopAt 98 0)) τ=some (.exit 0,xvE n o i t l f acc (min l.length 2)):=by
 have hK:min l.length 2<=2:=by exact Nat.min_le_right _ _
 have pa:∃acc:qaW,acc.length=min l.length 2/\(∀x,x∈acc->(fun x=>∃w:Val,x=(aS 1 w).cells) x)/\∀M,40<=M->min l.length 2<M->run (callF tab ext M) 0 M (.loop (loopAt 98 0)) τ=some (.exit 0,xvE n o i t l f acc (min l.length 2)):=?_
 ·grind
 refine fZ (nIn:=0) (b:=loopAt 98 0) (B:=40) (H:=fun j acc=>xvH n o i t l f acc j) (k:=min l.length 2) (e:=.exit 0) (E:=fun acc=>xvE n o i t l f acc (min l.length 2)) (fun x=>∃w:Val,x=(aS 1 w).cells) hτ (fun j acc hj a=>?_) (fun acc a M Y=>?_) (by simp)
 ·have h:j<l.length:=by omega
  have L:j<2:=by omega
  obtain ⟨v,hv⟩:=hl _ (qae h);have Z:l[j]?=some v.cells:=by rw [qad h,hv]
  have O:=iD 1 v;generalize hw:aS 1 v=w at O;obtain ⟨P,Q,S,U,V,W⟩:=v;obtain ⟨m,u,y,A,F,J⟩:=w;exact ⟨(Val.mk m u y A F J).cells,xvN n o i t l f acc j ((Val.mk m u y A F J).cells),⟨_,by rw [hw]⟩,UN ..,fun M Y=>ruA [(21,.b true),(24,.b true),(32,.e (Val.mk P Q S U V W).cells),(34,.p (.agg (Val.mk m u y A F J).cells)),(36,.app),(27,.i (Int.ofNat (j+1)))] (pf6 (aI (j:=j) (k:=l.length) h) (je L) Z (O M (by omega) (by omega)) (aU (acc:=acc) j 2 88 a.symm (by omega) (by omega)) (ay (j:=j) (by omega)))⟩
 generalize hq:min l.length 2=q;by_cases N:q<l.length;·exact ruA [(21,.b true),(24,.b false)] (pf2 (aI (j:=q) (k:=l.length) N) (aG (j:=q) (k:=2) (by omega)))
 exact ruA [(21,.b false)] (pf1 (aG (j:=q) (k:=l.length) N))
section
variable (n:Nat) (o i:Int) (t:qaX) (l f acc0:qaW) (m:Nat) (acc:qaW) (j:Nat) (x:List X)
def xaH:St:=⟨[(1,num (Int.ofNat (n+1))),(2,.ptr 0 0 0),(4,.ptr 1 0 0),(5,.bs 2 0 m),(7,.bs 3 0 j),(8,nat j)],[.var (gu o i t l f),.var UE,.row 6 acc0,.row 5 acc]⟩
def xaN:St:=⟨[(1,num (Int.ofNat (n+1))),(2,.ptr 0 0 0),(4,.ptr 1 0 0),(5,.bs 2 0 m),(7,.bs 4 0 (j+1)),(8,nat (j+1))],[.var (gu o i t l f),.var UE,.row 6 acc0,.dead,.row 5 (acc++[x])]⟩
def xaE:St:=⟨[(1,num (Int.ofNat (n+1))),(2,.ptr 0 0 0),(4,.ptr 1 0 0),(5,.bs 2 0 m),(7,.bs 3 0 j),(8,nat j),(49,boolX false)],[.var (gu o i t l f),.var UE,.row 6 acc0,.row 5 acc]⟩
theorem UU:canon 0 (xaN n o i t l f acc0 m acc j x)=some (xaH n o i t l f acc0 m (acc++[x]) (j+1)):=by kernel_rfl
end
theorem O7 (n:Nat)(o i:Int)(t:qaX)(l f acc0:qaW)(m:Nat)(hn:n<1000)(hf:∀m,n=m+1->∀x,x∈f->∃o i t vs es o' i' t' vs' es',x=gu o i t vs es/\sE n (gu o' i' t' vs' es')/\∀N,50+n<=N->Gam.pureD (callF tab ext N) 98 [.agg (gu o i t vs es),nat (m+1)]=some (.agg (gu o' i' t' vs' es')))(hτ:canon 0 τ=some (xaH n o i t l f acc0 m [] 0)):∃acc,acc.length=kOf n f.length 4/\(∀x,x∈acc->(sE n) x)/\∀M,(50+n)<=M->run (callF tab ext M) 0 M (.loop (loopAt 98 1)) τ=some (.exit 2,xaE n o i t l f acc0 m acc (kOf n f.length 4)):=by
 have pa:kOf n f.length 4<=f.length/\kOf n f.length 4<=4:=qg ..;have hK:kOf n f.length 4<=4:=by omega
 have pb:∃acc:qaW,acc.length=kOf n f.length 4/\(∀x,x∈acc->(sE n) x)/\∀M,(50+n)<=M->kOf n f.length 4<M->run (callF tab ext M) 0 M (.loop (loopAt 98 1)) τ=some (.exit 2,xaE n o i t l f acc0 m acc (kOf n f.length 4)):=?_
 ·grind
 refine fZ (nIn:=0) (b:=loopAt 98 1) (B:=(50+n)) (H:=fun j acc=>xaH n o i t l f acc0 m acc j) (k:=kOf n f.length 4) (e:=.exit 2) (E:=fun acc=>xaE n o i t l f acc0 m acc (kOf n f.length 4)) (sE n) hτ (fun j acc hj a=>?_) (fun acc a M Y=>?_) (by simp)
 ·have h:j<f.length:=by omega
  have y:j<4:=by omega
  obtain ⟨n,rfl⟩:∃m,n=m+1:=by
   cases n with
   |zero=>grind[kOf]
   |succ m=>grind
  obtain ⟨S,Q,U,V,u,F,A,J,L,w,hv,hs,Z⟩:=hf n rfl _ (qae h);have hg:f[j]?=some (gu S Q U V u):=by rw [qad h,hv]
  exact ⟨(gu F A J L w),xaN (n+1) o i t l f acc0 m acc j ((gu F A J L w)),hs,UU ..,fun M Y=>ruA [(41,.b true),(44,.b true),(48,.b true),(56,.e (gu S Q U V u)),(59,.i (Int.ofNat (n+1))),(60,.p (.agg (gu F A J L w))),(62,.app),(51,.i (Int.ofNat (j+1)))] (pf8 (aI (j:=j) (k:=f.length) h) (je y) (FW n) hg (DL (j:=n+1) (by omega)) (Z M (by omega)) (aU (acc:=acc) j 3 80 a.symm (by omega) (by omega)) (ay (j:=j) (by omega)))⟩
 cases n with
 |zero=>
  have W:kOf 0 f.length 4=0:=rfl;rw [W];cases O:decide (Int.ofNat 0<Int.ofNat f.length) with
  |true=>exact ruA [(41,.b true)] (pf1 O)
  |false=>exact ruA [(41,.b false)] (pf1 O)
 |succ n=>
  have u:kOf (n+1) f.length 4=min f.length 4:=rfl;rw [u];generalize hq:min f.length 4=q;by_cases P:q<f.length;·exact ruA [(41,.b true),(44,.b false)] (pf2 (aI (j:=q) (k:=f.length) P) (aG (j:=q) (k:=4) (by omega)))
  exact ruA [(41,.b false)] (pf1 (aG (j:=q) (k:=f.length) P))
theorem Qn:∀(n:Nat) (c:List X),n<1000->CX n c->∃o i t vs es o' i' t' vs' es',c=gu o i t vs es/\sE (n+1) (gu o' i' t' vs' es')/\∀N,50+(n+1)<=N->Gam.pureD (callF tab ext N) 98 [.agg (gu o i t vs es),nat (n+1)]=some (.agg (gu o' i' t' vs' es')):=by
 intro n;induction n with
 |zero=>
  rintro c hn ⟨o,i,t,l,f,rfl,B⟩
  obtain ⟨a,j,E,u⟩:=O6 0 o i (dQ 60 t) l f B (τ:=⟨[(1,num (Int.ofNat (0+1))),(2,.ptr 0 0 0),(4,.ptr 1 0 0),(5,.bs 2 0 0),(6,nat 0)],[.var (gu o i (dQ 60 t) l f),.var UE,.row 6 []]⟩) (by kernel_rfl);have H:min l.length 2<=2:=Nat.min_le_right _ _;generalize min l.length 2=m at j u H;obtain ⟨h,w,F,y⟩:=O7 0 o i (dQ 60 t) l f a m (by omega) (fun m O=>by omega) (τ:=⟨[(1,num (Int.ofNat (0+1))),(2,.ptr 0 0 0),(4,.ptr 1 0 0),(5,.bs 2 0 m),(7,.bs 3 0 0),(8,nat 0)],[.var (gu o i (dQ 60 t) l f),.var UE,.row 6 a,.row 5 []]⟩) (by kernel_rfl);have J:=(qg 0 f.length 4).2;generalize kOf 0 f.length 4=q at w y J;refine ⟨o,i,t,l,f,o,i,dQ 60 t,a,h,rfl,⟨o,i,dQ 60 t,a,h,rfl,iq 60 t,by omega,E,by omega,F⟩,fun N L=>?_⟩;obtain ⟨M,rfl⟩:=pR_ N;have A:(X.agg [num o,num i,strX (dQ 60 t),.bs 0 0 m,.bs 1 0 q]).data [.row 6 a,.row 5 h] false=some (.agg (gu o i (dQ 60 t) a h)):=by subst j w;simp [X.data,dataL,rowOf,num,strX,gu]
  exact pure_of [(14,.i (Int.ofNat (min t.size 60))),(15,.cut)] [(.exit 0,xvE 0 o i (dQ 60 t) l f a m),(.exit 2,xaE 0 o i (dQ 60 t) l f a m h q)] (pf4 (fV t.size 60) (jH t.size 60) (u M (by omega)) (y M (by omega)))
   (x:=.agg [num o,num i,strX (dQ 60 t),.bs 0 0 m,.bs 1 0 q]) (bx:=[.row 6 a,.row 5 h]) (by kernel_rfl) A
 |succ n ih=>
  rintro c hn ⟨o,i,t,l,f,rfl,B,P⟩
  obtain ⟨a,j,E,u⟩:=O6 (n+1) o i (dQ 60 t) l f B (τ:=⟨[(1,num (Int.ofNat (n+1+1))),(2,.ptr 0 0 0),(4,.ptr 1 0 0),(5,.bs 2 0 0),(6,nat 0)],[.var (gu o i (dQ 60 t) l f),.var UE,.row 6 []]⟩) (by kernel_rfl);have H:min l.length 2<=2:=Nat.min_le_right _ _;generalize min l.length 2=m at j u H;obtain ⟨h,w,F,y⟩:=O7 (n+1) o i (dQ 60 t) l f a m (by omega) (fun m O x Q=>by grind) (τ:=⟨[(1,num (Int.ofNat (n+1+1))),(2,.ptr 0 0 0),(4,.ptr 1 0 0),(5,.bs 2 0 m),(7,.bs 3 0 0),(8,nat 0)],[.var (gu o i (dQ 60 t) l f),.var UE,.row 6 a,.row 5 []]⟩) (by kernel_rfl);have J:=(qg (n+1) f.length 4).2;generalize kOf (n+1) f.length 4=q at w y J;refine ⟨o,i,t,l,f,o,i,dQ 60 t,a,h,rfl,⟨o,i,dQ 60 t,a,h,rfl,iq 60 t,by omega,E,by omega,F⟩,fun N L=>?_⟩;obtain ⟨M,rfl⟩:=pR_ N;have A:(X.agg [num o,num i,strX (dQ 60 t),.bs 0 0 m,.bs 1 0 q]).data [.row 6 a,.row 5 h] false=some (.agg (gu o i (dQ 60 t) a h)):=by subst j w;simp [X.data,dataL,rowOf,num,strX,gu]
  exact pure_of [(14,.i (Int.ofNat (min t.size 60))),(15,.cut)] [(.exit 0,xvE (n+1) o i (dQ 60 t) l f a m),(.exit 2,xaE (n+1) o i (dQ 60 t) l f a m h q)] (pf4 (fV t.size 60) (jH t.size 60) (u M (by omega)) (y M (by omega)))
   (x:=.agg [num o,num i,strX (dQ 60 t),.bs 0 0 m,.bs 1 0 q]) (bx:=[.row 6 a,.row 5 h]) (by kernel_rfl) A
def nY (c:List X):Prop:=∃t e,c=strX t::e/\CX 3 e
def xA (c:List X):Prop:=∃s o i t vs es,c=[strX s,num o,num i,strX t,.sl false 6 vs,.sl false 5 es]/\s.size<=60/\sE 4 (gu o i t vs es)
def yZ (s:qaX)(o i:Int)(t:qaX)(vs es:qaW):List X:=[strX s,num o,num i,strX t,.sl false 6 vs,.sl false 5 es]
section
variable (l:qaW) (acc:qaW) (j:Nat) (x:List X)
def ruH:St:=⟨[(1,.ptr 0 0 0),(2,.ptr 1 0 0),(3,.ptr 2 0 0),(4,nat j)],[.var [.sl false 6 l],.var [.sl true 6 []],.var [.bs 3 0 j],.row 6 acc]⟩
def ruN:St:=⟨[(1,.ptr 0 0 0),(2,.ptr 1 0 0),(3,.ptr 2 0 0),(4,nat (j+1))],[.var [.sl false 6 l],.var [.sl true 6 []],.var [.bs 4 0 (j+1)],.dead,.row 6 (acc++[x])]⟩
def ruE:St:=⟨[(1,.ptr 0 0 0),(2,.ptr 1 0 0),(3,.ptr 2 0 0),(4,nat j),(13,boolX false)],[.var [.sl false 6 l],.var [.sl true 6 []],.var [.bs 3 0 j],.row 6 acc]⟩
theorem VR:canon 0 (ruN l acc j x)=some (ruH l (acc++[x]) (j+1)):=by kernel_rfl
end
theorem za1 (l:qaW)(hl:∀x,x∈l->nY x)(hτ:canon 0 τ=some (ruH l [] 0)):∃acc,acc.length=min l.length 8/\(∀x,x∈acc->(xA) x)/\∀M,100<=M->run (callF tab ext M) 0 M (.loop (loopAt 57 0)) τ=some (.exit 0,ruE l acc (min l.length 8)):=by
 have Z:min l.length 8<=8:=by exact Nat.min_le_right _ _
 have Y:∃acc:qaW,acc.length=min l.length 8/\(∀x,x∈acc->(xA) x)/\∀M,100<=M->min l.length 8<M->run (callF tab ext M) 0 M (.loop (loopAt 57 0)) τ=some (.exit 0,ruE l acc (min l.length 8)):=?_
 ·grind
 refine fZ (nIn:=0) (b:=loopAt 57 0) (B:=100) (H:=fun j acc=>ruH l acc j) (k:=min l.length 8) (e:=.exit 0) (E:=fun acc=>ruE l acc (min l.length 8)) (xA) hτ (fun j acc hj a=>?_) (fun acc a M Q=>?_) (by simp)
 ·have f:j<l.length:=by omega
  have O:j<8:=by omega
  obtain ⟨s,e,W,U⟩:=hl _ (qae f);obtain ⟨w,n,A,J,h,y,u,F,L,m,rfl,V,S⟩:=Qn 3 e (by omega) U;have N:l[j]?=some (yZ s w n A J h):=by rw [qad f,W];rfl
  exact ⟨(yZ (dQ 60 s) y u F L m),ruN l acc j ((yZ (dQ 60 s) y u F L m)),⟨dQ 60 s,y,u,F,L,m,rfl,iq 60 s,V⟩,VR ..,fun M Q=>ruA [(9,.b true),(12,.b true),(21,.e (yZ s w n A J h)),(27,.e (yZ s w n A J h)),(31,.i (Int.ofNat (min s.size 60))),(32,.cut),(36,.e (yZ s w n A J h)),(39,.p (.agg (gu y u F L m))),(42,.app),(15,.i (Int.ofNat (j+1)))] (pf10 (aI (j:=j) (k:=l.length) f) (je O) N N (fV s.size 60) (jH s.size 60) N (S M (by omega)) (aU (acc:=acc) j 3 96 a.symm (by omega) (by omega)) (ay (j:=j) (by omega)))⟩
 generalize hq:min l.length 8=q;by_cases P:q<l.length;·exact ruA [(9,.b true),(12,.b false)] (pf2 (aI (j:=q) (k:=l.length) P) (aG (j:=q) (k:=8) (by omega)))
 exact ruA [(9,.b false)] (pf1 (aG (j:=q) (k:=l.length) P))
theorem wu (l:qaW)(hl:∀x,x∈l->nY x):∃l',l'.length<=8/\(∀x,x∈l'->xA x)/\∀N,110<=N->Gam.pureD (callF tab ext N) 57 [.agg [.sl false 6 l]]=some (.agg [.sl false 6 l']):=by
 obtain ⟨a,f,q,h⟩:=za1 l hl (τ:=⟨[(1,.ptr 0 0 0),(2,.ptr 1 0 0),(3,.ptr 2 0 0),(4,nat 0)],[.var [.sl false 6 l],.var [.sl true 6 []],.var [.bs 3 0 0],.row 6 []]⟩) (by kernel_rfl);have n:min l.length 8<=8:=Nat.min_le_right _ _;generalize min l.length 8=m at f h n;refine ⟨a,by omega,q,fun N u=>?_⟩;obtain ⟨M,rfl⟩:=pR_ N;have j:(X.agg [.bs 0 0 m]).data [.row 6 a] false=some (.agg [.sl false 6 a]):=by subst f;simp [X.data,dataL,rowOf]
 exact pure_of [] [(.exit 0,ruE l a m)] (pf1 (h M (by omega))) (x:=.agg [.bs 0 0 m]) (bx:=[.row 6 a]) (by kernel_rfl) j
end Go.Proofs.YtcbeoccmflnejaaGreatDoor
