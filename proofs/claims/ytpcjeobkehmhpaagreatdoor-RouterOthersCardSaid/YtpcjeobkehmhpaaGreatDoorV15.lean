/-.-/
import Derived.Test.YtpcjeobkehmhpaaGreatDoorV13
import Derived.Test.YtpcjeobkehmhpaaGreatDoorV14
set_option linter.all false
namespace Go.Proofs.YtpcjeobkehmhpaaGreatDoor
open Go.Em
set_option maxRecDepth 100000
variable {e:Ex}{nIn:Nat}{τ:St}
section
variable (m:List X) (o:qaX) (n j:Nat)
def mcH:St:=⟨[(1,.ptr 0 0 0),(27,.sl false 1 o),(28,nat n),(29,nat j)],[.var m]⟩
def mcE:St:=⟨[(1,.ptr 0 0 0),(27,.sl false 1 o),(28,nat n),(29,nat j),(30,aj false)],[.var m]⟩
end
structure Stt.small (s:Stt):Prop where
 slots:s.slots.length<=100
 slot:∀x,x∈s.slots->x.ok/\x.items.length<=100/\x.vals.length<=100
theorem Stt.small.ok {s:Stt}(h:s.small):s.ok:=⟨by have:=h.slots;omega,fun x a=>(h.slot x a).1⟩
theorem zhL {b:C}{H:Nat->St}{fin:St}{n B:Nat}(P:Nat->Bool)(r υ:Nat->St)(h0:canon nIn τ=some (H 0))
  (hT:∀j,j<n->P j=true->∀M,B<=M->run (ah tab ext M) nIn M b (H j)=some (.ret,r j)) (hF:∀j,j<n->P j=false->canon nIn (υ j)=some (H (j+1))/\∀M,B<=M->run (ah tab ext M) nIn M b (H j)=some (.norm,υ j))
  (hend:∀M,B<=M->run (ah tab ext M) nIn M b (H n)=some (e,fin)) (hne:e≠.norm):
  (∃j,j<n/\P j=true/\(∀i,i<j->P i=false)/\∀M,B<=M->n<M->run (ah tab ext M) nIn M (.loop b) τ=some (.ret,r j))\/((∀j,j<n->P j=false)/\∀M,B<=M->n<M->run (ah tab ext M) nIn M (.loop b) τ=some (e,fin)):=by
 have L:∀d j,j+d=n->(∀i,i<j->P i=false)->(∃k,k<n/\P k=true/\(∀i,i<k->P i=false)/\∀M F ω,B<=M->d<F->canon nIn ω=some (H j)->iter nIn (run (ah tab ext M) nIn M b) F ω=some (.ret,r k))\/((∀j,j<n->P j=false)/\∀M F ω,B<=M->d<F->canon nIn ω=some (H j)->iter nIn (run (ah tab ext M) nIn M b) F ω=some (e,fin)):=by
  intro d;induction d with
  |zero=>
   intro j V a;have N:j=n:=by omega
   subst N;refine .inr ⟨a,fun M F ω f l m=>?_⟩;obtain ⟨F',rfl⟩:∃F',F=F'+1:=⟨F-1,by omega⟩;exact bK m (hend M f) hne
  |succ d ih=>
   intro j V a;cases q:P j with
   |true=>refine .inl ⟨j,by omega,q,a,fun M F ω f l m=>?_⟩;obtain ⟨F',rfl⟩:∃F',F=F'+1:=⟨F-1,by omega⟩;exact bK m (hT j (by omega) q M f) (by simp)
   |false=>
    obtain ⟨Q,O⟩:=hF j (by omega) q;rcases ih (j+1) (by omega) (fun i W=>by
     rcases Nat.lt_or_ge i j with h|h;·exact a i h
     rw [show i=j by omega];exact q) with ⟨k,S,y,A,E⟩|⟨u,E⟩
    ·refine .inl ⟨k,S,y,A,fun M F ω f l m=>?_⟩;obtain ⟨F',rfl⟩:∃F',F=F'+1:=⟨F-1,by omega⟩;exact dY m (O M f) (E M F' _ f (by omega) Q)
    refine .inr ⟨u,fun M F ω f l m=>?_⟩;obtain ⟨F',rfl⟩:∃F',F=F'+1:=⟨F-1,by omega⟩;exact dY m (O M f) (E M F' _ f (by omega) Q)
 simp only [run];rcases L n 0 (by omega) (fun i W=>by omega) with ⟨k,Z,U,Y,h⟩|⟨u,h⟩;·exact .inl ⟨k,Z,U,Y,fun M f J=>h M M τ f J h0⟩
 exact .inr ⟨u,fun M f J=>h M M τ f J h0⟩
set_option linter.unusedSimpArgs false
section
variable {ce cc:Int} {z:Bool} {sp:Prop}
end
section
variable (l items acc:qaX) (n j k m i:Nat) (x:List X)
end
theorem jo (a b:Nat):(if Int.ofNat b<Int.ofNat a then Int.ofNat b else Int.ofNat a)=Int.ofNat (min a b):=by grind
theorem JI {j:Nat}(h:j<4294967296):Go.IntKind.i64.wrap (Int.ofNat (j+1)-1)=Int.ofNat j:=by grind[IntKind.wrap_i64]
theorem ng (a b:Nat):0<=min a b/\min a b<=a:=by grind
def gV (m:Nat)(t:qaY):qaY:=t.extract 0 (min t.size m)
def aV:Nat->Val->Val
 |0,.mk k i s t _ _=>.mk k i s (gV 40 t) [] []
 |n+1,.mk k i s t l f=>.mk k i s (gV 40 t) ((l.take 6).map (aV n)) ((f.take 6).map fun p=>(gV 40 p.1,aV n p.2))
section
variable (lv k i s:Int) (t:qaY) (l f acc jA:qaX) (j m:Nat) (x y:List X)
def svH:St:=⟨[(1,num lv),(2,.ptr 0 0 0),(4,.ptr 1 0 0),(5,.bs 2 0 j),(6,.sl true 7 []),(7,nat j)],[.var [num k,num i,num s,aF t,.sl false 6 l,.sl false 7 f],.var zY,.row 6 acc]⟩
def svN:St:=⟨[(1,num lv),(2,.ptr 0 0 0),(4,.ptr 1 0 0),(5,.bs 3 0 (j+1)),(6,.sl true 7 []),(7,nat (j+1))],[.var [num k,num i,num s,aF t,.sl false 6 l,.sl false 7 f],.var zY,.dead,.row 6 (acc++[x])]⟩
def svE:St:=⟨[(1,num lv),(2,.ptr 0 0 0),(4,.ptr 1 0 0),(5,.bs 2 0 j),(6,.sl true 7 []),(7,nat j),(29,aj false)],[.var [num k,num i,num s,aF t,.sl false 6 l,.sl false 7 f],.var zY,.row 6 acc]⟩
theorem Rz:canon 0 (svH lv k i s t l f acc j)=some (svH lv k i s t l f acc j):=by kernel_rfl
theorem XZ:canon 0 (svN lv k i s t l f acc j x)=some (svH lv k i s t l f (acc++[x]) (j+1)):=by kernel_rfl
def sfH:St:=⟨[(1,num lv),(2,.ptr 0 0 0),(4,.ptr 1 0 0),(5,.bs 2 0 m),(6,.bs 3 0 j),(8,nat j)],[.var [num k,num i,num s,aF t,.sl false 6 l,.sl false 7 f],.var zY,.row 6 acc,.row 7 jA]⟩
def sfN:St:=⟨[(1,num lv),(2,.ptr 0 0 0),(4,.ptr 1 0 0),(5,.bs 2 0 m),(6,.bs 4 0 (j+1)),(8,nat (j+1))],[.var [num k,num i,num s,aF t,.sl false 6 l,.sl false 7 f],.var zY,.row 6 acc,.dead,.row 7 (jA++[x])]⟩
def sfE:St:=⟨[(1,num lv),(2,.ptr 0 0 0),(4,.ptr 1 0 0),(5,.bs 2 0 m),(6,.bs 3 0 j),(8,nat j),(55,aj false)],[.var [num k,num i,num s,aF t,.sl false 6 l,.sl false 7 f],.var zY,.row 6 acc,.row 7 jA]⟩
theorem RG:canon 0 (sfH lv k i s t l f acc jA j m)=some (sfH lv k i s t l f acc jA j m):=by kernel_rfl
theorem YJ:canon 0 (sfN lv k i s t l f acc jA j m x)=some (sfH lv k i s t l f acc (jA++[x]) (j+1) m):=by kernel_rfl
end
theorem jh {α β:Type}(g:α->β){l:List α}{k j:Nat}(h:j<(l.take k).length):((l.take k).take (j+1)).map g=((l.take k).take j).map g++[g (l[j]'(by grind))]:=by grind[qaW]
theorem zf9 (M:Nat)(k i s:Int)(t:qaY)(L F a b:qaX)(m q n:Nat)(hm:a.length=m)(hq:b.length=q)
  (h1:run (ah tab ext M) 0 M (.loop (aH 41 0)) (svH (Int.ofNat (n+1)) k i s (gV 40 t) L F [] 0)=some (.exit 0,svE (Int.ofNat (n+1)) k i s (gV 40 t) L F a m))
  (h2:run (ah tab ext M) 0 M (.loop (aH 41 1)) (sfH (Int.ofNat (n+1)) k i s (gV 40 t) L F a [] 0 m)=some (.exit 2,sfE (Int.ofNat (n+1)) k i s (gV 40 t) L F a b q m)):
  Gam.aC (ah tab ext (M+1)) 41 [.agg [num k,num i,num s,aF t,.sl false 6 L,.sl false 7 F],nat (n+1)]=some (.agg [num k,num i,num s,aF (gV 40 t),.sl false 6 a,.sl false 7 b]):=by
 have f:(X.agg [num k,num i,num s,aF (gV 40 t),.bs 0 0 m,.bs 1 0 q]).data [.row 6 a,.row 7 b] false=some (.agg [num k,num i,num s,aF (gV 40 t),.sl false 6 a,.sl false 7 b]):=by subst hm hq;simp [X.data,eG,rowOf,num,aF]
 exact eU [(14,.i (Int.ofNat (min t.size 40))),(15,.cut)] [(.exit 0,svE (Int.ofNat (n+1)) k i s (gV 40 t) L F a m),(.exit 2,sfE (Int.ofNat (n+1)) k i s (gV 40 t) L F a b q m)] (pf4 (jo t.size 40) (ng t.size 40) h1 h2)
  (x:=.agg [num k,num i,num s,aF (gV 40 t),.bs 0 0 m,.bs 1 0 q]) (bx:=[.row 6 a,.row 7 b]) (by kernel_rfl) f
theorem Ed (l:List Val)(v:Val):au (l++[v])=au l++[v.cells]:=by simp [kD]
theorem QT (l:List (qaY×Val))(t:qaY)(v:Val):aA (l++[(t,v)])=aA l++[aF t::v.cells]:=by simp [rX]
theorem MW (n:Nat):decide (Int.ofNat (n+1+1)>1)=true:=by grind
theorem lM {j m:Nat}(h:j<m):decide (Int.ofNat j<Int.ofNat m)=true:=aK h
theorem jX:∀(n:Nat) (v:Val) (N:Nat),n<1000->10+n<=N->Gam.aC (ah tab ext N) 41 [.agg v.cells,nat (n+1)]=some (.agg (aV n v).cells)
 |0,.mk k i s t l f,N,_,hN=>by
  obtain ⟨M,rfl⟩:=pR_ N;refine zf9 M k i s t (au l) (aA f) [] [] 0 0 0 rfl rfl ?_ ?_
  ·refine bF (σ:=fun j=>svH (Int.ofNat 1) k i s (gV 40 t) (au l) (aA f) [] j) (k:=0) (Rz ..) (fun j hj=>by omega) ?_ (by simp) (by omega);cases h1:decide (Int.ofNat 0<Int.ofNat (au l).length) with
   |true=>exact ruA [(21,.b true)] (pf1 h1)
   |false=>exact ruA [(21,.b false)] (pf1 h1)
  refine bF (σ:=fun j=>sfH (Int.ofNat 1) k i s (gV 40 t) (au l) (aA f) [] [] j 0) (k:=0) (RG ..) (fun j hj=>by omega) ?_ (by simp) (by omega);cases h1:decide (Int.ofNat 0<Int.ofNat (aA f).length) with
  |true=>exact ruA [(47,.b true)] (pf1 h1)
  |false=>exact ruA [(47,.b false)] (pf1 h1)
 |n+1,.mk k i s t l f,N,hn,hN=>by
  obtain ⟨M,rfl⟩:=pR_ N;have el:=aS l;have ef:=bg f;have e1:(aV (n+1) (.mk k i s t l f)).cells=[num k,num i,num s,aF (gV 40 t),.sl false 6 (au ((l.take 6).map (aV n))),.sl false 7 (aA ((f.take 6).map fun p=>(gV 40 p.1,aV n p.2)))]:=rfl;rw [e1];have hd:=JI (j:=n+1) (by omega);refine zf9 M k i s t (au l) (aA f) _ _ (l.take 6).length (f.take 6).length (n+1) (by grind[aS]) (by grind[bg]) ?_ ?_
  ·refine bF (σ:=fun j=>svH (Int.ofNat (n+2)) k i s (gV 40 t) (au l) (aA f) (au (((l.take 6).take j).map (aV n))) j) (k:=(l.take 6).length) (Rz ..) (fun j hj=>?_) ?_ (by simp) (by grind)
   ·have hj1:j<l.length:=by rw [qah] at hj;omega
    have hj2:j<6:=by rw [qah] at hj;omega
    have hg:=gB hj1;have hc:=jX n l[j] M (by omega) (by omega);have hlen:(au (((l.take 6).take j).map (aV n))).length=j:=by rw [aS,qaD,qah,qah];omega
    rw [jh (aV n) hj,Ed];generalize l[j]=v at hg hc;generalize aV n v=w at hc;generalize ((l.take 6).take j).map (aV n)=acc at hlen;obtain ⟨a1,a2,a3,a4,a5,a6⟩:=v;obtain ⟨b1,b2,b3,b4,b5,b6⟩:=w;exact ⟨_,nU (σ':=svN (Int.ofNat (n+2)) k i s (gV 40 t) (au l) (aA f) (au acc) j (Val.mk b1 b2 b3 b4 b5 b6).cells) [(21,.b true),(24,.b true),(28,.b true),(36,.e (Val.mk a1 a2 a3 a4 a5 a6).cells),(39,.i (Int.ofNat (n+1))),(40,.p (.agg (Val.mk b1 b2 b3 b4 b5 b6).cells)),(42,.app),(31,.i (Int.ofNat (j+1)))] []
     (pf8 (aK (j:=j) (k:=(au l).length) (by omega)) (lM hj2) (MW n) hg hd hc (dO (acc:=au acc) j 2 88 hlen.symm (by omega) (by omega)) (aB (j:=j) (by omega))) (lo':=[]) (by kernel_rfl),XZ ..⟩
   have e2:(l.take 6).take (l.take 6).length=l.take 6:=List.take_length;rw [e2];by_cases h6:(l.take 6).length<l.length
   ·have h7:(l.take 6).length=6:=by rw [qah] at h6 ⊢;omega
    exact ruA [(21,.b true),(24,.b false)] (pf2 (aK (j:=(l.take 6).length) (k:=(au l).length) (by omega)) (aN (j:=(l.take 6).length) (k:=6) (by omega)))
   exact ruA [(21,.b false)] (pf1 (aN (j:=(l.take 6).length) (k:=(au l).length) (by omega)))
  generalize au ((l.take 6).map (aV n))=aL;generalize (l.take 6).length=m;refine bF (σ:=fun j=>sfH (Int.ofNat (n+2)) k i s (gV 40 t) (au l) (aA f) aL (aA (((f.take 6).take j).map fun p=>(gV 40 p.1,aV n p.2))) j m) (k:=(f.take 6).length) (RG ..) (fun j hj=>?_) ?_ (by simp) (by grind)
  ·have hj1:j<f.length:=by rw [qah] at hj;omega
   have hj2:j<6:=by rw [qah] at hj;omega
   have hg:=iF hj1;have hc:=jX n f[j].2 M (by omega) (by omega);have hlen:(aA (((f.take 6).take j).map fun p=>(gV 40 p.1,aV n p.2))).length=j:=by rw [bg,qaD,qah,qah];omega
   rw [jh (fun p:qaY×Val=>(gV 40 p.1,aV n p.2)) hj,QT];generalize f[j]=v at hg hc;obtain ⟨vt,v⟩:=v;dsimp only at hg hc ⊢;generalize aV n v=w at hc;generalize ((f.take 6).take j).map (fun p:qaY×Val=>(gV 40 p.1,aV n p.2))=acc at hlen;obtain ⟨a1,a2,a3,a4,a5,a6⟩:=v;obtain ⟨b1,b2,b3,b4,b5,b6⟩:=w;exact ⟨_,nU (σ':=sfN (Int.ofNat (n+2)) k i s (gV 40 t) (au l) (aA f) aL (aA acc) j m (aF (gV 40 vt)::(Val.mk b1 b2 b3 b4 b5 b6).cells)) [(47,.b true),(50,.b true),(54,.b true),(62,.e (aF vt::(Val.mk a1 a2 a3 a4 a5 a6).cells)),(68,.e (aF vt::(Val.mk a1 a2 a3 a4 a5 a6).cells)),(72,.i (Int.ofNat (min vt.size 40))),(73,.cut),(77,.e (aF vt::(Val.mk a1 a2 a3 a4 a5 a6).cells)),(81,.i (Int.ofNat (n+1))),(82,.p (.agg (Val.mk b1 b2 b3 b4 b5 b6).cells)),(85,.app),(57,.i (Int.ofNat (j+1)))] []
    (zpC (aK (j:=j) (k:=(aA f).length) (by omega)) (lM hj2) (MW n) hg hg (jo vt.size 40) (ng vt.size 40) hg hd hc (dO (acc:=aA acc) j 3 104 hlen.symm (by omega) (by omega)) (aB (j:=j) (by omega))) (lo':=[]) (by kernel_rfl),YJ ..⟩
  have e2:(f.take 6).take (f.take 6).length=f.take 6:=List.take_length;rw [e2];by_cases h6:(f.take 6).length<f.length
  ·have h7:(f.take 6).length=6:=by rw [qah] at h6 ⊢;omega
   exact ruA [(47,.b true),(50,.b false)] (pf2 (aK (j:=(f.take 6).length) (k:=(aA f).length) (by omega)) (aN (j:=(f.take 6).length) (k:=6) (by omega)))
  exact ruA [(47,.b false)] (pf1 (aN (j:=(f.take 6).length) (k:=(aA f).length) (by omega)))
def zV (x:Int):Int:=if 0>x then 0 else x
def JL (x:Int):Int:=if 1099511627776<x then 1099511627776 else x
def zck (p:List Int):List Int:=p.take (min (aI p).length 6)
theorem yI (p:List Int):aI (zck p)=(aI p).take (min (aI p).length 6):=by simp [zck,aI]
theorem uO (p:List Int):(zck p).length<=6:=by grind[zck]
theorem JK (p:qaX):dh (([]:qaX).length+(List.drop 0 (List.take (min p.length 6) p)).length) 8=true:=by grind[iL]
def fE (m:Msg):Msg:=⟨⟨m.st.e,zck m.st.p⟩,JL (zV m.qC),zck m.orig,aV 4 m.body⟩
theorem KZ (m:Msg)(N:Nat)(hN:20<=N):Gam.aC (ah tab ext N) 42 [.agg m.cells]=some (.agg (fE m).cells):=by
 obtain ⟨M,rfl⟩:=pR_ N;have n:=jX 4 m.body M (by omega) (by omega);have e:(fE m).cells=num m.st.e::.sl false 1 ((aI m.st.p).take (min (aI m.st.p).length 6))::num (JL (zV m.qC))::.sl false 1 ((aI m.orig).take (min (aI m.orig).length 6))::(aV 4 m.body).cells:=by rw [<-yI,<-yI];rfl
 rw [e];generalize aV 4 m.body=w at n;obtain ⟨⟨y,p⟩,a,o,⟨A,B,F,J,H,E⟩⟩:=m;obtain ⟨j,u,h,q,f,l⟩:=w;exact puA [(11,.i (Int.ofNat (min (aI p).length 6))),(12,.cut),(13,.fresh),(22,.i (Int.ofNat (min (aI o).length 6))),(23,.cut),(24,.fresh),(28,.p (.agg (Val.mk j u h q f l).cells)),(31,.i (zV a)),(32,.i (JL (zV a)))] (pf9 (jo (aI p).length 6) (ng (aI p).length 6) (JK (aI p)) (jo (aI o).length 6) (ng (aI o).length 6) (JK (aI o)) n (rfl:zV a=zV a) (rfl:JL (zV a)=JL (zV a))) (.agg (num y::.sl false 1 ((aI p).take (min (aI p).length 6))::num (JL (zV a))::.sl false 1 ((aI o).take (min (aI o).length 6))::(Val.mk j u h q f l).cells))
structure Inp where
 kind:Int
 time:Int
 st:Stp
 m:Msg
 x:Int
 b1:Bool
 b2:Bool
 body:Val
def Inp.cells (i:Inp):List X:=num i.kind::num i.time::num i.st.e::.sl false 1 (aI i.st.p)::num i.m.st.e::.sl false 1 (aI i.m.st.p)::num i.m.qC::.sl false 1 (aI i.m.orig)::(i.m.body.cells++num i.x::aj i.b1::aj i.b2::i.body.cells)
def bJ (i:Inp):Inp:={i with st:=⟨i.st.e,zck i.st.p⟩,m:=fE i.m,body:=aV 4 i.body}
theorem YB (i:Inp)(N:Nat)(hN:30<=N):Gam.aC (ah tab ext N) 16 [.agg i.cells]=some (.agg (bJ i).cells):=by
 obtain ⟨M,rfl⟩:=pR_ N;have h:=jX 4 i.body M (by omega) (by omega);have l:=KZ i.m M (by omega);have e:(bJ i).cells=num i.kind::num i.time::num i.st.e::.sl false 1 ((aI i.st.p).take (min (aI i.st.p).length 6))::num (fE i.m).st.e::.sl false 1 (aI (fE i.m).st.p)::num (fE i.m).qC::.sl false 1 (aI (fE i.m).orig)::((fE i.m).body.cells++num i.x::aj i.b1::aj i.b2::(aV 4 i.body).cells):=by rw [<-yI];rfl
 rw [e];generalize aV 4 i.body=w at h;generalize fE i.m=q at l;obtain ⟨U,tm,⟨Q,a⟩,⟨⟨e0,p⟩,ms,o,⟨a1,a2,W,a4,Y,a6⟩⟩,x,P,S,⟨c1,Z,c3,c4,V,c6⟩⟩:=i;obtain ⟨b1,b2,f,J,B,E⟩:=w;obtain ⟨⟨n,j⟩,F,y,⟨O,u,d7,L,H,A⟩⟩:=q;exact puA [(5,.p (.agg (Msg.mk ⟨n,j⟩ F y (Val.mk O u d7 L H A)).cells)),(8,.p (.agg (Val.mk b1 b2 f J B E).cells)),(19,.i (Int.ofNat (min (aI a).length 6))),(20,.cut),(21,.fresh)] (pf5 l h (jo (aI a).length 6) (ng (aI a).length 6) (JK (aI a))) (.agg (num U::num tm::num Q::.sl false 1 ((aI a).take (min (aI a).length 6))::num n::.sl false 1 (aI j)::num F::.sl false 1 (aI y)::((Val.mk O u d7 L H A).cells++num x::aj P::aj S::(Val.mk b1 b2 f J B E).cells)))
def nS (x:Slt):Slt:=⟨aV 2 x.key,x.n,x.t,(x.items.take 4).map fE,(x.vals.take 4).map (aV 3)⟩
def shortS (s:Stt):Stt:=⟨s.n,s.t,(s.slots.take 6).map nS⟩
section
variable (a b:Int) (l acc:qaX) (j:Nat) (k i s n t:Int) (tx:qaY) (vl vf its vs:qaX) (k' i' s':Int) (tx':qaY) (vl' vf' sQ vs':qaX) (z z2:Nat) (x:List X)
def ssH:St:=⟨[(1,.ptr 0 0 0),(2,.ptr 1 0 0),(3,.bs 2 0 j),(4,nat j)],[.var [num a,num b,.sl false 10 l],.var mG,.row 10 acc]⟩
def siH:St:=⟨[(1,.ptr 0 0 0),(2,.ptr 1 0 0),(3,.bs 2 0 j),(4,nat j),(5,.ptr 3 0 0),(6,.ptr 4 0 0),(7,nat z)],[.var [num a,num b,.sl false 10 l],.var mG,.row 10 acc,.var (nO k i s tx vl vf n t its vs),.var [num k',num i',num s',aF tx',.sl false 6 vl',.sl false 7 vf',num n,num t,.bs 5 0 z,.sl true 6 []],.row 10 sQ]⟩
def siN:St:=⟨[(1,.ptr 0 0 0),(2,.ptr 1 0 0),(3,.bs 2 0 j),(4,nat j),(5,.ptr 3 0 0),(6,.ptr 4 0 0),(7,nat (z+1))],[.var [num a,num b,.sl false 10 l],.var mG,.row 10 acc,.var (nO k i s tx vl vf n t its vs),.var [num k',num i',num s',aF tx',.sl false 6 vl',.sl false 7 vf',num n,num t,.bs 6 0 (z+1),.sl true 6 []],.dead,.row 10 (sQ++[x])]⟩
def siE:St:=⟨[(1,.ptr 0 0 0),(2,.ptr 1 0 0),(3,.bs 2 0 j),(4,nat j),(5,.ptr 3 0 0),(6,.ptr 4 0 0),(7,nat z),(41,aj false)],[.var [num a,num b,.sl false 10 l],.var mG,.row 10 acc,.var (nO k i s tx vl vf n t its vs),.var [num k',num i',num s',aF tx',.sl false 6 vl',.sl false 7 vf',num n,num t,.bs 5 0 z,.sl true 6 []],.row 10 sQ]⟩
theorem zdf:canon 0 (siH a b l acc j k i s n t tx vl vf its vs k' i' s' tx' vl' vf' sQ z)=some (siH a b l acc j k i s n t tx vl vf its vs k' i' s' tx' vl' vf' sQ z):=by kernel_rfl
theorem YA:canon 0 (siN a b l acc j k i s n t tx vl vf its vs k' i' s' tx' vl' vf' sQ z x)=some (siH a b l acc j k i s n t tx vl vf its vs k' i' s' tx' vl' vf' (sQ++[x]) (z+1)):=by kernel_rfl
def swH:St:=⟨[(1,.ptr 0 0 0),(2,.ptr 1 0 0),(3,.bs 2 0 j),(4,nat j),(5,.ptr 3 0 0),(6,.ptr 4 0 0),(8,nat z)],[.var [num a,num b,.sl false 10 l],.var mG,.row 10 acc,.var (nO k i s tx vl vf n t its vs),.var [num k',num i',num s',aF tx',.sl false 6 vl',.sl false 7 vf',num n,num t,.bs 5 0 z2,.bs 6 0 z],.row 10 sQ,.row 6 vs']⟩
def swN:St:=⟨[(1,.ptr 0 0 0),(2,.ptr 1 0 0),(3,.bs 2 0 j),(4,nat j),(5,.ptr 3 0 0),(6,.ptr 4 0 0),(8,nat (z+1))],[.var [num a,num b,.sl false 10 l],.var mG,.row 10 acc,.var (nO k i s tx vl vf n t its vs),.var [num k',num i',num s',aF tx',.sl false 6 vl',.sl false 7 vf',num n,num t,.bs 5 0 z2,.bs 7 0 (z+1)],.row 10 sQ,.dead,.row 6 (vs'++[x])]⟩
def swE:St:=⟨[(1,.ptr 0 0 0),(2,.ptr 1 0 0),(3,.bs 2 0 j),(4,nat j),(5,.ptr 3 0 0),(6,.ptr 4 0 0),(8,nat z),(63,aj false)],[.var [num a,num b,.sl false 10 l],.var mG,.row 10 acc,.var (nO k i s tx vl vf n t its vs),.var [num k',num i',num s',aF tx',.sl false 6 vl',.sl false 7 vf',num n,num t,.bs 5 0 z2,.bs 6 0 z],.row 10 sQ,.row 6 vs']⟩
theorem zcZ:canon 0 (swH a b l acc j k i s n t tx vl vf its vs k' i' s' tx' vl' vf' sQ vs' z z2)=some (swH a b l acc j k i s n t tx vl vf its vs k' i' s' tx' vl' vf' sQ vs' z z2):=by kernel_rfl
theorem XY:canon 0 (swN a b l acc j k i s n t tx vl vf its vs k' i' s' tx' vl' vf' sQ vs' z z2 x)=some (swH a b l acc j k i s n t tx vl vf its vs k' i' s' tx' vl' vf' sQ (vs'++[x]) (z+1) z2):=by kernel_rfl
end
theorem VG (l:List Msg)(m:Msg):aP (l++[m])=aP l++[m.cells]:=by simp [aP]
theorem UJ (l:List Slt)(m:Slt):aW (l++[m])=aW l++[m.cells]:=by simp [aW]
theorem zhH (M:Nat)(hM:40<=M)(a b:Int)(l acc:qaX)(j:Nat)(k i s n t:Int)(tx:qaY)(vl vf vs:qaX)(k' i' s':Int)(tx':qaY)(vl' vf':qaX)(ms:List Msg):
  run (ah tab ext M) 0 M (.loop (aH 15 1)) (siH a b l acc j k i s n t tx vl vf (aP ms) vs k' i' s' tx' vl' vf' [] 0)=some (.exit 2,siE a b l acc j k i s n t tx vl vf (aP ms) vs k' i' s' tx' vl' vf' (aP ((ms.take 4).map fE)) (ms.take 4).length):=by
 have el:=fO ms;refine bF (σ:=fun z=>siH a b l acc j k i s n t tx vl vf (aP ms) vs k' i' s' tx' vl' vf' (aP (((ms.take 4).take z).map fE)) z) (k:=(ms.take 4).length) (zdf ..) (fun z hz=>?_) ?_ (by simp) (by grind)
 ·have q:z<ms.length:=by rw [qah] at hz;omega
  have h:z<4:=by rw [qah] at hz;omega
  have E:=rD q;have m:=KZ ms[z] M (by omega);have f:(aP (((ms.take 4).take z).map fE)).length=z:=by rw [fO,qaD,qah,qah];omega
  rw [jh fE hz,VG];generalize ms[z]=v at E m;generalize fE v=w at m;generalize aP (((ms.take 4).take z).map fE)=sQ at f;obtain ⟨⟨Q,U⟩,Z,a4,⟨a5,V,a7,P,S,Y⟩⟩:=v;obtain ⟨⟨A,N⟩,y,F,⟨u,B,O,H,L,J⟩⟩:=w;exact ⟨_,nU (σ':=siN a b l acc j k i s n t tx vl vf (aP ms) vs k' i' s' tx' vl' vf' sQ z (Msg.mk ⟨A,N⟩ y F (Val.mk u B O H L J)).cells) [(37,.b true),(40,.b true),(49,.e (Msg.mk ⟨Q,U⟩ Z a4 (Val.mk a5 V a7 P S Y)).cells),(51,.p (.agg (Msg.mk ⟨A,N⟩ y F (Val.mk u B O H L J)).cells)),(53,.app),(43,.i (Int.ofNat (z+1)))] []
   (pf6 (aK (j:=z) (k:=(aP ms).length) (by omega)) (lM h) E m (dO (acc:=sQ) z 5 152 f.symm (by omega) (by omega)) (aB (j:=z) (by omega))) (lo':=[]) (by kernel_rfl),YA ..⟩
 rw [List.take_length];by_cases W:(ms.take 4).length<ms.length
 ·have h7:(ms.take 4).length=4:=by rw [qah] at W ⊢;omega
  exact ruA [(37,.b true),(40,.b false)] (pf2 (aK (j:=(ms.take 4).length) (k:=(aP ms).length) (by omega)) (aN (j:=(ms.take 4).length) (k:=4) (by omega)))
 exact ruA [(37,.b false)] (pf1 (aN (j:=(ms.take 4).length) (k:=(aP ms).length) (by omega)))
theorem zht (M:Nat)(hM:40<=M)(a b:Int)(l acc:qaX)(j:Nat)(k i s n t:Int)(tx:qaY)(vl vf its:qaX)(k' i' s':Int)(tx':qaY)(vl' vf' sQ:qaX)(z2:Nat)(ms:List Val):
  run (ah tab ext M) 0 M (.loop (aH 15 2)) (swH a b l acc j k i s n t tx vl vf its (au ms) k' i' s' tx' vl' vf' sQ [] 0 z2)=some (.exit 4,swE a b l acc j k i s n t tx vl vf its (au ms) k' i' s' tx' vl' vf' sQ (au ((ms.take 4).map (aV 3))) (ms.take 4).length z2):=by
 have el:=aS ms;refine bF (σ:=fun z=>swH a b l acc j k i s n t tx vl vf its (au ms) k' i' s' tx' vl' vf' sQ (au (((ms.take 4).take z).map (aV 3))) z z2) (k:=(ms.take 4).length) (zcZ ..) (fun z hz=>?_) ?_ (by simp) (by grind)
 ·have q:z<ms.length:=by rw [qah] at hz;omega
  have h:z<4:=by rw [qah] at hz;omega
  have y:=gB q;have m:=jX 3 ms[z] M (by omega) (by omega);have f:(au (((ms.take 4).take z).map (aV 3))).length=z:=by rw [aS,qaD,qah,qah];omega
  rw [jh (aV 3) hz,Ed];generalize ms[z]=v at y m;generalize aV 3 v=w at m;generalize au (((ms.take 4).take z).map (aV 3))=vs' at f;obtain ⟨Q,N,S,J,L,P⟩:=v;obtain ⟨u,B,A,E,H,F⟩:=w;exact ⟨_,nU (σ':=swN a b l acc j k i s n t tx vl vf its (au ms) k' i' s' tx' vl' vf' sQ vs' z z2 (Val.mk u B A E H F).cells) [(59,.b true),(62,.b true),(71,.e (Val.mk Q N S J L P).cells),(73,.p (.agg (Val.mk u B A E H F).cells)),(75,.app),(65,.i (Int.ofNat (z+1)))] []
   (pf6 (aK (j:=z) (k:=(au ms).length) (by omega)) (lM h) y m (dO (acc:=vs') z 6 88 f.symm (by omega) (by omega)) (aB (j:=z) (by omega))) (lo':=[]) (by kernel_rfl),XY ..⟩
 rw [List.take_length];by_cases O:(ms.take 4).length<ms.length
 ·have U:(ms.take 4).length=4:=by rw [qah] at O ⊢;omega
  exact ruA [(59,.b true),(62,.b false)] (pf2 (aK (j:=(ms.take 4).length) (k:=(au ms).length) (by omega)) (aN (j:=(ms.take 4).length) (k:=4) (by omega)))
 exact ruA [(59,.b false)] (pf1 (aN (j:=(ms.take 4).length) (k:=(au ms).length) (by omega)))
section
variable (a b:Int) (l acc:qaX) (j:Nat) (k i s n t:Int) (tx:qaY) (vl vf its vs:qaX) (k' i' s':Int) (tx':qaY) (vl' vf' sQ vs':qaX) (z z2:Nat) (x:List X)
def ssN:St:=⟨[(1,.ptr 0 0 0),(2,.ptr 1 0 0),(3,.bs 7 0 (j+1)),(4,nat (j+1))],[.var [num a,num b,.sl false 10 l],.var mG,.dead,.var (nO k i s tx vl vf n t its vs),.var (nO k' i' s' tx' vl' vf' n t (sQ.take z) (vs'.take z2)),.dead,.dead,.row 10 (acc++[nO k' i' s' tx' vl' vf' n t (sQ.take z) (vs'.take z2)])]⟩
theorem Ye:canon 0 (ssN a b l acc j k i s n t tx vl vf its vs k' i' s' tx' vl' vf' sQ vs' z z2)=some (ssH a b l (acc++[nO k' i' s' tx' vl' vf' n t (sQ.take z) (vs'.take z2)]) (j+1)):=by kernel_rfl
end
theorem zhz (M:Nat)(hM:50<=M)(a b:Int)(ss:List Slt)(hτ:canon 0 τ=some (ssH a b (aW ss) [] 0)):
  run (ah tab ext M) 0 M (.loop (aH 15 0)) τ=some (.exit 0,⟨[(1,.ptr 0 0 0),(2,.ptr 1 0 0),(3,.bs 2 0 (ss.take 6).length),(4,nat (ss.take 6).length),(17,aj false)],[.var [num a,num b,.sl false 10 (aW ss)],.var mG,.row 10 (aW ((ss.take 6).map nS))]⟩):=by
 have el:=jW ss;refine bF (σ:=fun z=>ssH a b (aW ss) (aW (((ss.take 6).take z).map nS)) z) (k:=(ss.take 6).length) hτ (fun z hz=>?_) ?_ (by simp) (by grind)
 ·have pb:z<ss.length:=by rw [qah] at hz;omega
  have pc:z<6:=by rw [qah] at hz;omega
  have hg:=A8 pb;have hc:=jX 2 ss[z].key M (by omega) (by omega);have O:(aW (((ss.take 6).take z).map nS)).length=z:=by rw [jW,qaD,qah,qah];omega
  have hi:=fun vl vf k i s tx n t h k' i' s' V U W=>zhH M (by omega) a b (aW ss) (aW (((ss.take 6).take z).map nS)) z k i s n t tx vl vf h k' i' s' V U W ss[z].items;have hv:=fun vl vf k i s tx n t pa k' i' s' V U W Y Z=>zht M (by omega) a b (aW ss) (aW (((ss.take 6).take z).map nS)) z k i s n t tx vl vf pa k' i' s' V U W Y Z ss[z].vals;rw [jh nS hz,UJ];generalize ss[z]=v at hg hc hi hv;obtain ⟨⟨B,E,u,A,y,F⟩,q,m,f,h⟩:=v;have e:(nS ⟨.mk B E u A y F,q,m,f,h⟩).cells=(Slt.mk (aV 2 (.mk B E u A y F)) q m ((f.take 4).map fE) ((h.take 4).map (aV 3))).cells:=rfl;rw [e];dsimp only at hc hi hv;generalize aV 2 (.mk B E u A y F)=w at hc;obtain ⟨L,N,J,S,P,Q⟩:=w;have l1:(aP ((f.take 4).map fE)).length=(f.take 4).length:=by rw [fO,qaD]
  have l2:(au ((h.take 4).map (aV 3))).length=(h.take 4).length:=by rw [aS,qaD]
  have H:=hi (au y) (aA F) B E u A q m (au h) L N J S (au P) (aA Q);have l:=hv (au y) (aA F) B E u A q m (aP f) L N J S (au P) (aA Q) (aP ((f.take 4).map fE)) (f.take 4).length;generalize aW (((ss.take 6).take z).map nS)=acc at O H l;have e1:(Slt.mk (.mk L N J S P Q) q m ((f.take 4).map fE) ((h.take 4).map (aV 3))).cells=nO L N J S (au P) (aA Q) q m ((aP ((f.take 4).map fE)).take (f.take 4).length) ((au ((h.take 4).map (aV 3))).take (h.take 4).length):=by rw [List.take_of_length_le (Nat.le_of_eq l1),List.take_of_length_le (Nat.le_of_eq l2)];rfl
  rw [e1];generalize aP ((f.take 4).map fE)=Y at l1 H l;generalize au ((h.take 4).map (aV 3))=vs' at l2 l;generalize (f.take 4).length=z1 at l1 H l;generalize (h.take 4).length=Z at l2 l;exact ⟨_,nU (σ':=ssN a b (aW ss) acc z B E u q m A (au y) (aA F) (aP f) (au h) L N J S (au P) (aA Q) Y vs' z1 Z)
   [(13,.b true),(16,.b true),(23,.e (nO B E u A (au y) (aA F) q m (aP f) (au h))),(27,.p (.agg (Val.mk L N J S P Q).cells)),(80,.app),(19,.i (Int.ofNat (z+1)))]
   [(.exit 2,siE a b (aW ss) acc z B E u q m A (au y) (aA F) (aP f) (au h) L N J S (au P) (aA Q) Y z1),(.exit 4,swE a b (aW ss) acc z B E u q m A (au y) (aA F) (aP f) (au h) L N J S (au P) (aA Q) Y vs' Z z1)]
   (znC (aK (j:=z) (k:=(aW ss).length) (by omega)) (lM pc) hg hc H l (show 0+z1<=Y.length by omega) (show 0+Z<=vs'.length by omega) (dO (acc:=acc) z 2 152 O.symm (by omega) (by omega)) (aB (j:=z) (by omega))) (lo':=[]) (by kernel_rfl),Ye ..⟩
 rw [List.take_length];by_cases h6:(ss.take 6).length<ss.length
 ·have h7:(ss.take 6).length=6:=by rw [qah] at h6 ⊢;omega
  exact ruA [(13,.b true),(16,.b false)] (pf2 (aK (j:=(ss.take 6).length) (k:=(aW ss).length) (by omega)) (aN (j:=(ss.take 6).length) (k:=6) (by omega)))
 exact ruA [(13,.b false)] (pf1 (aN (j:=(ss.take 6).length) (k:=(aW ss).length) (by omega)))
theorem Ou (s:Stt)(N:Nat)(hN:60<=N):Gam.aC (ah tab ext N) 15 [.agg s.cells]=some (.agg (shortS s).cells):=by
 obtain ⟨M,rfl⟩:=pR_ N;obtain ⟨a,b,f⟩:=s;have j:=zhz M (by omega) a b f (τ:=⟨[(1,.ptr 0 0 0),(2,.ptr 1 0 0),(3,.bs 2 0 0),(4,num 0)],[.var [num a,num b,.sl false 10 (aW f)],.var mG,.row 10 []]⟩) (by kernel_rfl);have h:(aW ((f.take 6).map nS)).length=(f.take 6).length:=by rw [jW,qaD]
 have e:(shortS ⟨a,b,f⟩).cells=[num a,num b,.sl false 10 (aW ((f.take 6).map nS))]:=rfl;rw [e];generalize aW ((f.take 6).map nS)=acc at h j;generalize (f.take 6).length=z at h j;have l:(X.agg [num a,num b,.bs 0 0 z]).data [.row 10 acc] false=some (.agg [num a,num b,.sl false 10 acc]):=by subst h;simp [X.data,eG,rowOf,num]
 exact eU [] [(.exit 0,⟨[(1,.ptr 0 0 0),(2,.ptr 1 0 0),(3,.bs 2 0 z),(4,nat z),(17,aj false)],[.var [num a,num b,.sl false 10 (aW f)],.var mG,.row 10 acc]⟩)] (pf1 j) (x:=.agg [num a,num b,.bs 0 0 z]) (bx:=[.row 10 acc]) (by kernel_rfl) l
mutual
theorem uo:∀(n:Nat) (v:Val),(aV n v).size<=13^n*2-1
 |0,.mk .. =>by grind[aV,Val.size,tC,tH]
 |n+1,.mk k i s t l f=>by
  have h1:∀l:List Val,tC (l.map (aV n))<=l.length*(13^n*2):=fun l=>by
   induction l with
   |nil=>simp [tC]
   |cons v l ih=>have:=uo n v<;>grind[tC,Nat.add_mul]
  have h2:∀l:List (qaY×Val),tH (l.map fun p=>(gV 40 p.1,aV n p.2))<=l.length*(13^n*2):=fun l=>by
   induction l with
   |nil=>simp [tH]
   |cons v l ih=>have:=uo n v.2<;>grind[tH,Nat.add_mul]
  have g1:=h1 (l.take 6);have g2:=h2 (f.take 6);have e1:(l.take 6).length*(13^n*2)<=6*(13^n*2):=qaB _ (by grind);have e2:(f.take 6).length*(13^n*2)<=6*(13^n*2):=qaB _ (by rw [qah];omega)<;>grind[aV,Val.size]
end
theorem Ad {n:Nat}(v:Val)(h:n<=4):(aV n v).ok:=by
 have f:=uo n v;have a:13^n<=13^4:=Nat.pow_le_pow_right (by omega) h;unfold Val.ok
 grind
theorem Bf (m:Msg):(fE m).ok:=⟨⟨by have:=uO m.st.p;show (zck m.st.p).length<=60000;omega⟩,by have:=uO m.orig;show (zck m.orig).length<=60000;omega,Ad _ (by omega)⟩
theorem yV (s:Stt):(shortS s).small:=by
 refine ⟨?_,fun x h=>?_⟩;·show ((s.slots.take 6).map nS).length<=100<;>grind
 obtain ⟨y,j,rfl⟩:=qal.1 h;have u:((y.items.take 4).map fE).length<=4:=by rw [qaD,qah];omega
 have n:((y.vals.take 4).map (aV 3)).length<=4:=by rw [qaD,qah];omega
 refine ⟨⟨Ad _ (by omega),?_,fun m a=>?_,?_,fun v f=>?_⟩,?_,?_⟩;·show ((y.items.take 4).map fE).length<=60000;omega
 ·obtain ⟨q,_,rfl⟩:=qal.1 a<;>simp_all[Bf]
 ·show ((y.vals.take 4).map (aV 3)).length<=60000;omega
 ·obtain ⟨l,_,rfl⟩:=qal.1 f<;>simp_all[Ad]
 ·show ((y.items.take 4).map fE).length<=100;omega
 show ((y.vals.take 4).map (aV 3)).length<=100;omega
theorem jq {b:C}{B:Nat}{H:Nat->qaX->St}{k:Nat}{E:qaX->St}(Q:List X->Prop)(hτ:canon nIn τ=some (H 0 []))
  (hstep:∀j acc,j<k->acc.length=j->∃x υ,Q x/\canon nIn υ=some (H (j+1) (acc++[x]))/\∀M,B<=M->run (ah tab ext M) nIn M b (H j acc)=some (.norm,υ))
  (hend:∀acc,acc.length=k->∀M,B<=M->run (ah tab ext M) nIn M b (H k acc)=some (e,E acc)) (hne:e≠.norm):
  ∃acc:qaX,acc.length=k/\(∀x,x∈acc->Q x)/\∀M,B<=M->k<M->run (ah tab ext M) nIn M (.loop b) τ=some (e,E acc):=by
 have m:∀d j acc,j+d=k->acc.length=j->(∀x,x∈acc->Q x)->∃fin:qaX,fin.length=k/\(∀x,x∈fin->Q x)/\∀M F υ,B<=M->d<F->canon nIn υ=some (H j acc)->iter nIn (run (ah tab ext M) nIn M b) F υ=some (e,E fin):=by
  intro d;induction d with
  |zero=>
   intro j acc J a n;have l:j=k:=by omega
   subst l;refine ⟨acc,a,n,fun M F υ A u L=>?_⟩;obtain ⟨F',rfl⟩:∃F',F=F'+1:=⟨F-1,by omega⟩
   grind[bK]
  |succ d ih=>intro j acc J a n;obtain ⟨x,υ,N,L,O⟩:=hstep j acc (by omega) a;obtain ⟨fin,q,f,h⟩:=ih (j+1) (acc++[x]) (by omega) (by grind) (fun y P=>by grind);refine ⟨fin,q,f,fun M F ω A u S=>?_⟩;obtain ⟨F',rfl⟩:∃F',F=F'+1:=⟨F-1,by omega⟩<;>simp_all[dY]
 obtain ⟨fin,q,f,h⟩:=m k 0 [] (by omega) rfl (fun x N=>by grind)
 grind[run]
def kOf (n len K:Nat):Nat:=if n=0 then 0 else min len K
theorem wH (n len K:Nat):kOf n len K<=len/\kOf n len K<=K:=by grind[kOf]
def isVal (c:List X):Prop:=∃v:Val,c=v.cells
def Ji:Nat->List X->Prop
 |0,c=>∃o i t vs es,c=[num o,num i,aF t,.sl false 6 vs,.sl false 5 es]/\∀x,x∈vs->isVal x
 |n+1,c=>∃o i t vs es,c=[num o,num i,aF t,.sl false 6 vs,.sl false 5 es]/\(∀x,x∈vs->isVal x)/\∀x,x∈es->Ji n x
theorem VR:∀{n:Nat} {c:List X},Ji n c->Ji 0 c
 |0,_,h=>h
 |_+1,_,⟨o,i,t,vs,es,h1,h2,_⟩=>⟨o,i,t,vs,es,h1,h2⟩
def zb9:List X:=[num 0,num 0,bD,.sl true 6 [],.sl true 5 []]
def jw (o i:Int)(t:qaY)(vs es:qaX):List X:=[num o,num i,aF t,.sl false 6 vs,.sl false 5 es]
def sE:Nat->List X->Prop
 |0,_=>False
 |h+1,x=>∃o i t vs es,x=jw o i t vs es/\t.size<=60/\vs.length<=2/\(∀v,v∈vs->∃w:Val,v=(aV 1 w).cells)/\es.length<=4/\∀e,e∈es->sE h e
theorem jP (n:Nat)(t:qaY):(gV n t).size<=n:=by grind[gV,ByteArray.size_extract]
section
variable (n:Nat) (o i:Int) (t:qaY) (l f:qaX) (acc:qaX) (j:Nat) (x:List X)
def xvH:St:=⟨[(1,num (Int.ofNat (n+1))),(2,.ptr 0 0 0),(4,.ptr 1 0 0),(5,.bs 2 0 j),(6,nat j)],[.var (jw o i t l f),.var zb9,.row 6 acc]⟩
def xvN:St:=⟨[(1,num (Int.ofNat (n+1))),(2,.ptr 0 0 0),(4,.ptr 1 0 0),(5,.bs 3 0 (j+1)),(6,nat (j+1))],[.var (jw o i t l f),.var zb9,.dead,.row 6 (acc++[x])]⟩
def xvE:St:=⟨[(1,num (Int.ofNat (n+1))),(2,.ptr 0 0 0),(4,.ptr 1 0 0),(5,.bs 2 0 j),(6,nat j),(25,aj false)],[.var (jw o i t l f),.var zb9,.row 6 acc]⟩
theorem zcm:canon 0 (xvN n o i t l f acc j x)=some (xvH n o i t l f (acc++[x]) (j+1)):=by kernel_rfl
end
theorem Xy (n:Nat)(o i:Int)(t:qaY)(l f:qaX)(hl:∀x,x∈l->isVal x)(hτ:canon 0 τ=some (xvH n o i t l f [] 0)):∃acc,acc.length=min l.length 2/\(∀x,x∈acc->(fun x=>∃w:Val,x=(aV 1 w).cells) x)/\∀M,40<=M->run (ah tab ext M) 0 M (.loop (aH 72 0)) τ=some (.exit 0,xvE n o i t l f acc (min l.length 2)):=by
 have hK:min l.length 2<=2:=by exact Nat.min_le_right _ _
 have pa:∃acc:qaX,acc.length=min l.length 2/\(∀x,x∈acc->(fun x=>∃w:Val,x=(aV 1 w).cells) x)/\∀M,40<=M->min l.length 2<M->run (ah tab ext M) 0 M (.loop (aH 72 0)) τ=some (.exit 0,xvE n o i t l f acc (min l.length 2)):=?_
 ·grind
 refine jq (nIn:=0) (b:=aH 72 0) (B:=40) (H:=fun j acc=>xvH n o i t l f acc j) (k:=min l.length 2) (e:=.exit 0) (E:=fun acc=>xvE n o i t l f acc (min l.length 2)) (fun x=>∃w:Val,x=(aV 1 w).cells) hτ (fun j acc hj a=>?_) (fun acc a M P=>?_) (by simp)
 ·have h:j<l.length:=by omega
  have m:j<2:=by omega
  obtain ⟨v,S⟩:=hl _ (qag h);have W:l[j]?=some v.cells:=by rw [qad h,S]
  have N:=jX 1 v;generalize Z:aV 1 v=w at N;obtain ⟨Q,U,Y,a4,a5,V⟩:=v;obtain ⟨A,L,y,J,u,F⟩:=w;exact ⟨(Val.mk A L y J u F).cells,xvN n o i t l f acc j ((Val.mk A L y J u F).cells),⟨_,by rw [Z]⟩,zcm ..,fun M P=>ruA [(21,.b true),(24,.b true),(32,.e (Val.mk Q U Y a4 a5 V).cells),(34,.p (.agg (Val.mk A L y J u F).cells)),(36,.app),(27,.i (Int.ofNat (j+1)))] (pf6 (aK (j:=j) (k:=l.length) h) (lM m) W (N M (by omega) (by omega)) (dO (acc:=acc) j 2 88 a.symm (by omega) (by omega)) (aB (j:=j) (by omega)))⟩
 generalize hq:min l.length 2=q;by_cases O:q<l.length;·exact ruA [(21,.b true),(24,.b false)] (pf2 (aK (j:=q) (k:=l.length) O) (aN (j:=q) (k:=2) (by omega)))
 exact ruA [(21,.b false)] (pf1 (aN (j:=q) (k:=l.length) O))
section
variable (n:Nat) (o i:Int) (t:qaY) (l f acc0:qaX) (m:Nat) (acc:qaX) (j:Nat) (x:List X)
def xaH:St:=⟨[(1,num (Int.ofNat (n+1))),(2,.ptr 0 0 0),(4,.ptr 1 0 0),(5,.bs 2 0 m),(7,.bs 3 0 j),(8,nat j)],[.var (jw o i t l f),.var zb9,.row 6 acc0,.row 5 acc]⟩
def xaN:St:=⟨[(1,num (Int.ofNat (n+1))),(2,.ptr 0 0 0),(4,.ptr 1 0 0),(5,.bs 2 0 m),(7,.bs 4 0 (j+1)),(8,nat (j+1))],[.var (jw o i t l f),.var zb9,.row 6 acc0,.dead,.row 5 (acc++[x])]⟩
def xaE:St:=⟨[(1,num (Int.ofNat (n+1))),(2,.ptr 0 0 0),(4,.ptr 1 0 0),(5,.bs 2 0 m),(7,.bs 3 0 j),(8,nat j),(49,aj false)],[.var (jw o i t l f),.var zb9,.row 6 acc0,.row 5 acc]⟩
theorem zco:canon 0 (xaN n o i t l f acc0 m acc j x)=some (xaH n o i t l f acc0 m (acc++[x]) (j+1)):=by kernel_rfl
end
theorem Xz (n:Nat)(o i:Int)(t:qaY)(l f acc0:qaX)(m:Nat)(hn:n<1000)(hf:∀m,n=m+1->∀x,x∈f->∃o i t vs es o' i' t' vs' es',x=jw o i t vs es/\sE n (jw o' i' t' vs' es')/\∀N,50+n<=N->Gam.aC (ah tab ext N) 72 [.agg (jw o i t vs es),nat (m+1)]=some (.agg (jw o' i' t' vs' es')))(hτ:canon 0 τ=some (xaH n o i t l f acc0 m [] 0)):∃acc,acc.length=kOf n f.length 4/\(∀x,x∈acc->(sE n) x)/\∀M,(50+n)<=M->run (ah tab ext M) 0 M (.loop (aH 72 1)) τ=some (.exit 2,xaE n o i t l f acc0 m acc (kOf n f.length 4)):=by
 have pa:kOf n f.length 4<=f.length/\kOf n f.length 4<=4:=wH ..;have hK:kOf n f.length 4<=4:=by omega
 have pb:∃acc:qaX,acc.length=kOf n f.length 4/\(∀x,x∈acc->(sE n) x)/\∀M,(50+n)<=M->kOf n f.length 4<M->run (ah tab ext M) 0 M (.loop (aH 72 1)) τ=some (.exit 2,xaE n o i t l f acc0 m acc (kOf n f.length 4)):=?_
 ·grind
 refine jq (nIn:=0) (b:=aH 72 1) (B:=(50+n)) (H:=fun j acc=>xaH n o i t l f acc0 m acc j) (k:=kOf n f.length 4) (e:=.exit 2) (E:=fun acc=>xaE n o i t l f acc0 m acc (kOf n f.length 4)) (sE n) hτ (fun j acc hj a=>?_) (fun acc a M Y=>?_) (by simp)
 ·have h:j<f.length:=by omega
  have y:j<4:=by omega
  obtain ⟨n,rfl⟩:∃m,n=m+1:=by
   cases n with
   |zero=>grind[kOf]
   |succ m=>grind
  obtain ⟨Q,V,P,S,u,J,L,O,A,F,hv,Z,hc⟩:=hf n rfl _ (qag h);have hg:f[j]?=some (jw Q V P S u):=by rw [qad h,hv]
  exact ⟨(jw J L O A F),xaN (n+1) o i t l f acc0 m acc j ((jw J L O A F)),Z,zco ..,fun M Y=>ruA [(41,.b true),(44,.b true),(48,.b true),(56,.e (jw Q V P S u)),(59,.i (Int.ofNat (n+1))),(60,.p (.agg (jw J L O A F))),(62,.app),(51,.i (Int.ofNat (j+1)))] (pf8 (aK (j:=j) (k:=f.length) h) (lM y) (MW n) hg (JI (j:=n+1) (by omega)) (hc M (by omega)) (dO (acc:=acc) j 3 80 a.symm (by omega) (by omega)) (aB (j:=j) (by omega)))⟩
 cases n with
 |zero=>
  have e0:kOf 0 f.length 4=0:=rfl;rw [e0];cases W:decide (Int.ofNat 0<Int.ofNat f.length) with
  |true=>exact ruA [(41,.b true)] (pf1 W)
  |false=>exact ruA [(41,.b false)] (pf1 W)
 |succ n=>
  have u:kOf (n+1) f.length 4=min f.length 4:=rfl;rw [u];generalize hq:min f.length 4=q;by_cases U:q<f.length;·exact ruA [(41,.b true),(44,.b false)] (pf2 (aK (j:=q) (k:=f.length) U) (aN (j:=q) (k:=4) (by omega)))
  exact ruA [(41,.b false)] (pf1 (aN (j:=q) (k:=f.length) U))
theorem YC:∀(n:Nat) (c:List X),n<1000->Ji n c->∃o i t vs es o' i' t' vs' es',c=jw o i t vs es/\sE (n+1) (jw o' i' t' vs' es')/\∀N,50+(n+1)<=N->Gam.aC (ah tab ext N) 72 [.agg (jw o i t vs es),nat (n+1)]=some (.agg (jw o' i' t' vs' es')):=by
 intro n;induction n with
 |zero=>
  rintro c hn ⟨o,i,t,l,f,rfl,J⟩
  obtain ⟨a,A,F,j⟩:=Xy 0 o i (gV 60 t) l f J (τ:=⟨[(1,num (Int.ofNat (0+1))),(2,.ptr 0 0 0),(4,.ptr 1 0 0),(5,.bs 2 0 0),(6,nat 0)],[.var (jw o i (gV 60 t) l f),.var zb9,.row 6 []]⟩) (by kernel_rfl);have B:min l.length 2<=2:=Nat.min_le_right _ _;generalize min l.length 2=m at A j B;obtain ⟨h,y,E,u⟩:=Xz 0 o i (gV 60 t) l f a m (by omega) (fun m P=>by omega) (τ:=⟨[(1,num (Int.ofNat (0+1))),(2,.ptr 0 0 0),(4,.ptr 1 0 0),(5,.bs 2 0 m),(7,.bs 3 0 0),(8,nat 0)],[.var (jw o i (gV 60 t) l f),.var zb9,.row 6 a,.row 5 []]⟩) (by kernel_rfl);have L:=(wH 0 f.length 4).2;generalize kOf 0 f.length 4=q at y u L;refine ⟨o,i,t,l,f,o,i,gV 60 t,a,h,rfl,⟨o,i,gV 60 t,a,h,rfl,jP 60 t,by omega,F,by omega,E⟩,fun N O=>?_⟩;obtain ⟨M,rfl⟩:=pR_ N;have H:(X.agg [num o,num i,aF (gV 60 t),.bs 0 0 m,.bs 1 0 q]).data [.row 6 a,.row 5 h] false=some (.agg (jw o i (gV 60 t) a h)):=by subst A y;simp [X.data,eG,rowOf,num,aF,jw]
  exact eU [(14,.i (Int.ofNat (min t.size 60))),(15,.cut)] [(.exit 0,xvE 0 o i (gV 60 t) l f a m),(.exit 2,xaE 0 o i (gV 60 t) l f a m h q)] (pf4 (jo t.size 60) (ng t.size 60) (j M (by omega)) (u M (by omega)))
   (x:=.agg [num o,num i,aF (gV 60 t),.bs 0 0 m,.bs 1 0 q]) (bx:=[.row 6 a,.row 5 h]) (by kernel_rfl) H
 |succ n ih=>
  rintro c hn ⟨o,i,t,l,f,rfl,J,Q⟩
  obtain ⟨a,A,F,j⟩:=Xy (n+1) o i (gV 60 t) l f J (τ:=⟨[(1,num (Int.ofNat (n+1+1))),(2,.ptr 0 0 0),(4,.ptr 1 0 0),(5,.bs 2 0 0),(6,nat 0)],[.var (jw o i (gV 60 t) l f),.var zb9,.row 6 []]⟩) (by kernel_rfl);have B:min l.length 2<=2:=Nat.min_le_right _ _;generalize min l.length 2=m at A j B;obtain ⟨h,y,E,u⟩:=Xz (n+1) o i (gV 60 t) l f a m (by omega) (fun m P x S=>by grind) (τ:=⟨[(1,num (Int.ofNat (n+1+1))),(2,.ptr 0 0 0),(4,.ptr 1 0 0),(5,.bs 2 0 m),(7,.bs 3 0 0),(8,nat 0)],[.var (jw o i (gV 60 t) l f),.var zb9,.row 6 a,.row 5 []]⟩) (by kernel_rfl);have L:=(wH (n+1) f.length 4).2;generalize kOf (n+1) f.length 4=q at y u L;refine ⟨o,i,t,l,f,o,i,gV 60 t,a,h,rfl,⟨o,i,gV 60 t,a,h,rfl,jP 60 t,by omega,F,by omega,E⟩,fun N O=>?_⟩;obtain ⟨M,rfl⟩:=pR_ N;have H:(X.agg [num o,num i,aF (gV 60 t),.bs 0 0 m,.bs 1 0 q]).data [.row 6 a,.row 5 h] false=some (.agg (jw o i (gV 60 t) a h)):=by subst A y;simp [X.data,eG,rowOf,num,aF,jw]
  exact eU [(14,.i (Int.ofNat (min t.size 60))),(15,.cut)] [(.exit 0,xvE (n+1) o i (gV 60 t) l f a m),(.exit 2,xaE (n+1) o i (gV 60 t) l f a m h q)] (pf4 (jo t.size 60) (ng t.size 60) (j M (by omega)) (u M (by omega)))
   (x:=.agg [num o,num i,aF (gV 60 t),.bs 0 0 m,.bs 1 0 q]) (bx:=[.row 6 a,.row 5 h]) (by kernel_rfl) H
def ug (c:List X):Prop:=∃t e,c=aF t::e/\Ji 3 e
def wI (c:List X):Prop:=∃s o i t vs es,c=[aF s,num o,num i,aF t,.sl false 6 vs,.sl false 5 es]/\s.size<=60/\sE 4 (jw o i t vs es)
def fQ (s:qaY)(o i:Int)(t:qaY)(vs es:qaX):List X:=[aF s,num o,num i,aF t,.sl false 6 vs,.sl false 5 es]
section
variable (l:qaX) (acc:qaX) (j:Nat) (x:List X)
def ruH:St:=⟨[(1,.ptr 0 0 0),(2,.ptr 1 0 0),(3,.ptr 2 0 0),(4,nat j)],[.var [.sl false 6 l],.var [.sl true 6 []],.var [.bs 3 0 j],.row 6 acc]⟩
def ruN:St:=⟨[(1,.ptr 0 0 0),(2,.ptr 1 0 0),(3,.ptr 2 0 0),(4,nat (j+1))],[.var [.sl false 6 l],.var [.sl true 6 []],.var [.bs 4 0 (j+1)],.dead,.row 6 (acc++[x])]⟩
def ruE:St:=⟨[(1,.ptr 0 0 0),(2,.ptr 1 0 0),(3,.ptr 2 0 0),(4,nat j),(13,aj false)],[.var [.sl false 6 l],.var [.sl true 6 []],.var [.bs 3 0 j],.row 6 acc]⟩
theorem zdl:canon 0 (ruN l acc j x)=some (ruH l (acc++[x]) (j+1)):=by kernel_rfl
end
theorem zhX (l:qaX)(hl:∀x,x∈l->ug x)(hτ:canon 0 τ=some (ruH l [] 0)):∃acc,acc.length=min l.length 8/\(∀x,x∈acc->(wI) x)/\∀M,100<=M->run (ah tab ext M) 0 M (.loop (aH 39 0)) τ=some (.exit 0,ruE l acc (min l.length 8)):=by
 have hK:min l.length 8<=8:=by exact Nat.min_le_right _ _
 have Z:∃acc:qaX,acc.length=min l.length 8/\(∀x,x∈acc->(wI) x)/\∀M,100<=M->min l.length 8<M->run (ah tab ext M) 0 M (.loop (aH 39 0)) τ=some (.exit 0,ruE l acc (min l.length 8)):=?_
 ·grind
 refine jq (nIn:=0) (b:=aH 39 0) (B:=100) (H:=fun j acc=>ruH l acc j) (k:=min l.length 8) (e:=.exit 0) (E:=fun acc=>ruE l acc (min l.length 8)) (wI) hτ (fun j acc hj a=>?_) (fun acc a M S=>?_) (by simp)
 ·have f:j<l.length:=by omega
  have O:j<8:=by omega
  obtain ⟨s,e,W,U⟩:=hl _ (qag f);obtain ⟨n,A,m,y,h,J,L,N,u,F,rfl,V,Y⟩:=YC 3 e (by omega) U;have P:l[j]?=some (fQ s n A m y h):=by rw [qad f,W];rfl
  exact ⟨(fQ (gV 60 s) J L N u F),ruN l acc j ((fQ (gV 60 s) J L N u F)),⟨gV 60 s,J,L,N,u,F,rfl,jP 60 s,V⟩,zdl ..,fun M S=>ruA [(9,.b true),(12,.b true),(21,.e (fQ s n A m y h)),(27,.e (fQ s n A m y h)),(31,.i (Int.ofNat (min s.size 60))),(32,.cut),(36,.e (fQ s n A m y h)),(39,.p (.agg (jw J L N u F))),(42,.app),(15,.i (Int.ofNat (j+1)))] (znC (aK (j:=j) (k:=l.length) f) (lM O) P P (jo s.size 60) (ng s.size 60) P (Y M (by omega)) (dO (acc:=acc) j 3 96 a.symm (by omega) (by omega)) (aB (j:=j) (by omega)))⟩
 generalize hq:min l.length 8=q;by_cases Q:q<l.length;·exact ruA [(9,.b true),(12,.b false)] (pf2 (aK (j:=q) (k:=l.length) Q) (aN (j:=q) (k:=8) (by omega)))
 exact ruA [(9,.b false)] (pf1 (aN (j:=q) (k:=l.length) Q))
theorem Bc (l:qaX)(hl:∀x,x∈l->ug x):∃l',l'.length<=8/\(∀x,x∈l'->wI x)/\∀N,110<=N->Gam.aC (ah tab ext N) 39 [.agg [.sl false 6 l]]=some (.agg [.sl false 6 l']):=by
 obtain ⟨a,h,n,f⟩:=zhX l hl (τ:=⟨[(1,.ptr 0 0 0),(2,.ptr 1 0 0),(3,.ptr 2 0 0),(4,nat 0)],[.var [.sl false 6 l],.var [.sl true 6 []],.var [.bs 3 0 0],.row 6 []]⟩) (by kernel_rfl);have j:min l.length 8<=8:=Nat.min_le_right _ _;generalize min l.length 8=m at h f j;refine ⟨a,by omega,n,fun N u=>?_⟩;obtain ⟨M,rfl⟩:=pR_ N;have q:(X.agg [.bs 0 0 m]).data [.row 6 a] false=some (.agg [.sl false 6 a]):=by subst h;simp [X.data,eG,rowOf]
 exact eU [] [(.exit 0,ruE l a m)] (pf1 (f M (by omega))) (x:=.agg [.bs 0 0 m]) (bx:=[.row 6 a]) (by kernel_rfl) q
end Go.Proofs.YtpcjeobkehmhpaaGreatDoor
