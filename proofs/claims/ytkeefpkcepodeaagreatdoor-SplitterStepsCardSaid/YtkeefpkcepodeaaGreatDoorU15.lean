/-.-/
import Derived.Test.YtkeefpkcepodeaaGreatDoorU14
set_option linter.all false
namespace Go.Proofs.YtkeefpkcepodeaaGreatDoor
open Go.Em
set_option maxRecDepth 100000
variable {e:Ex}{nIn:Nat}{τ:St}
section
variable (m:List X) (o:qaV) (n j:Nat)
end
structure Stt.small (s:Stt):Prop where
 slots:s.slots.length<=100
 slot:∀x,x∈s.slots->x.ok/\x.items.length<=100/\x.vals.length<=100
theorem Stt.small.ok {s:Stt}(h:s.small):s.ok:=⟨by have:=h.slots;omega,fun x a=>(h.slot x a).1⟩
theorem zil {b:C}{H:Nat->St}{fin:St}{n B:Nat}(P:Nat->Bool)(r υ:Nat->St)(h0:canon nIn τ=some (H 0))
  (hT:∀j,j<n->P j=true->∀M,B<=M->run (callF tab ext M) nIn M b (H j)=some (.ret,r j)) (hF:∀j,j<n->P j=false->canon nIn (υ j)=some (H (j+1))/\∀M,B<=M->run (callF tab ext M) nIn M b (H j)=some (.norm,υ j))
  (hend:∀M,B<=M->run (callF tab ext M) nIn M b (H n)=some (e,fin)) (hne:e≠.norm):
  (∃j,j<n/\P j=true/\(∀i,i<j->P i=false)/\∀M,B<=M->n<M->run (callF tab ext M) nIn M (.loop b) τ=some (.ret,r j))\/((∀j,j<n->P j=false)/\∀M,B<=M->n<M->run (callF tab ext M) nIn M (.loop b) τ=some (e,fin)):=by
 have L:∀d j,j+d=n->(∀i,i<j->P i=false)->(∃k,k<n/\P k=true/\(∀i,i<k->P i=false)/\∀M F ω,B<=M->d<F->canon nIn ω=some (H j)->iter nIn (run (callF tab ext M) nIn M b) F ω=some (.ret,r k))\/((∀j,j<n->P j=false)/\∀M F ω,B<=M->d<F->canon nIn ω=some (H j)->iter nIn (run (callF tab ext M) nIn M b) F ω=some (e,fin)):=by
  intro d;induction d with
  |zero=>
   intro j W a;have A:j=n:=by omega
   subst A;refine .inr ⟨a,fun M F ω f l m=>?_⟩;obtain ⟨F',rfl⟩:∃F',F=F'+1:=⟨F-1,by omega⟩;exact bF m (hend M f) hne
  |succ d ih=>
   intro j W a;cases q:P j with
   |true=>refine .inl ⟨j,by omega,q,a,fun M F ω f l m=>?_⟩;obtain ⟨F',rfl⟩:∃F',F=F'+1:=⟨F-1,by omega⟩;exact bF m (hT j (by omega) q M f) (by simp)
   |false=>
    obtain ⟨O,N⟩:=hF j (by omega) q;rcases ih (j+1) (by omega) (fun i V=>by
     rcases Nat.lt_or_ge i j with h|h;·exact a i h
     rw [show i=j by omega];exact q) with ⟨k,Y,w,E,u⟩|⟨y,u⟩
    ·refine .inl ⟨k,Y,w,E,fun M F ω f l m=>?_⟩;obtain ⟨F',rfl⟩:∃F',F=F'+1:=⟨F-1,by omega⟩;exact dV m (N M f) (u M F' _ f (by omega) O)
    refine .inr ⟨y,fun M F ω f l m=>?_⟩;obtain ⟨F',rfl⟩:∃F',F=F'+1:=⟨F-1,by omega⟩;exact dV m (N M f) (u M F' _ f (by omega) O)
 simp only [run];rcases L n 0 (by omega) (fun i V=>by omega) with ⟨k,Q,S,U,h⟩|⟨y,h⟩;·exact .inl ⟨k,Q,S,U,fun M f J=>h M M τ f J h0⟩
 exact .inr ⟨y,fun M f J=>h M M τ f J h0⟩
set_option linter.unusedSimpArgs false
section
variable {ce cc:Int} {z:Bool} {sp:Prop}
end
section
variable (l items acc:qaV) (n j k m i:Nat) (x:List X)
end
theorem jg (a b:Nat):(if Int.ofNat b<Int.ofNat a then Int.ofNat b else Int.ofNat a)=Int.ofNat (min a b):=by grind
theorem Ls {j:Nat}(h:j<4294967296):Go.IntKind.i64.wrap (Int.ofNat (j+1)-1)=Int.ofNat j:=by grind[IntKind.wrap_i64]
theorem nR (a b:Nat):0<=min a b/\min a b<=a:=by grind
def gU (m:Nat)(t:qaW):qaW:=t.extract 0 (min t.size m)
def aO:Nat->Val->Val
 |0,.mk k i s t _ _=>.mk k i s (gU 40 t) [] []
 |n+1,.mk k i s t l f=>.mk k i s (gU 40 t) ((l.take 6).map (aO n)) ((f.take 6).map fun p=>(gU 40 p.1,aO n p.2))
section
variable (lv k i s:Int) (t:qaW) (l f acc jk:qaV) (j m:Nat) (x y:List X)
def svH:St:=⟨[(1,num lv),(2,.ptr 0 0 0),(4,.ptr 1 0 0),(5,.bs 2 0 j),(6,.sl true 7 []),(7,nat j)],[.var [num k,num i,num s,strX t,.sl false 6 l,.sl false 7 f],.var CS,.row 6 acc]⟩
def svN:St:=⟨[(1,num lv),(2,.ptr 0 0 0),(4,.ptr 1 0 0),(5,.bs 3 0 (j+1)),(6,.sl true 7 []),(7,nat (j+1))],[.var [num k,num i,num s,strX t,.sl false 6 l,.sl false 7 f],.var CS,.dead,.row 6 (acc++[x])]⟩
def svE:St:=⟨[(1,num lv),(2,.ptr 0 0 0),(4,.ptr 1 0 0),(5,.bs 2 0 j),(6,.sl true 7 []),(7,nat j),(29,boolX false)],[.var [num k,num i,num s,strX t,.sl false 6 l,.sl false 7 f],.var CS,.row 6 acc]⟩
theorem TA:canon 0 (svH lv k i s t l f acc j)=some (svH lv k i s t l f acc j):=by kernel_rfl
theorem YT:canon 0 (svN lv k i s t l f acc j x)=some (svH lv k i s t l f (acc++[x]) (j+1)):=by kernel_rfl
def sfH:St:=⟨[(1,num lv),(2,.ptr 0 0 0),(4,.ptr 1 0 0),(5,.bs 2 0 m),(6,.bs 3 0 j),(8,nat j)],[.var [num k,num i,num s,strX t,.sl false 6 l,.sl false 7 f],.var CS,.row 6 acc,.row 7 jk]⟩
def sfN:St:=⟨[(1,num lv),(2,.ptr 0 0 0),(4,.ptr 1 0 0),(5,.bs 2 0 m),(6,.bs 4 0 (j+1)),(8,nat (j+1))],[.var [num k,num i,num s,strX t,.sl false 6 l,.sl false 7 f],.var CS,.row 6 acc,.dead,.row 7 (jk++[x])]⟩
def sfE:St:=⟨[(1,num lv),(2,.ptr 0 0 0),(4,.ptr 1 0 0),(5,.bs 2 0 m),(6,.bs 3 0 j),(8,nat j),(55,boolX false)],[.var [num k,num i,num s,strX t,.sl false 6 l,.sl false 7 f],.var CS,.row 6 acc,.row 7 jk]⟩
theorem TI:canon 0 (sfH lv k i s t l f acc jk j m)=some (sfH lv k i s t l f acc jk j m):=by kernel_rfl
theorem ZF:canon 0 (sfN lv k i s t l f acc jk j m x)=some (sfH lv k i s t l f acc (jk++[x]) (j+1) m):=by kernel_rfl
end
theorem jc {α β:Type}(g:α->β){l:List α}{k j:Nat}(h:j<(l.take k).length):((l.take k).take (j+1)).map g=((l.take k).take j).map g++[g (l[j]'(by grind))]:=by grind[qaU]
theorem zgH (M:Nat)(k i s:Int)(t:qaW)(L F a b:qaV)(m q n:Nat)(hm:a.length=m)(hq:b.length=q)
  (h1:run (callF tab ext M) 0 M (.loop (loopAt 43 0)) (svH (Int.ofNat (n+1)) k i s (gU 40 t) L F [] 0)=some (.exit 0,svE (Int.ofNat (n+1)) k i s (gU 40 t) L F a m))
  (h2:run (callF tab ext M) 0 M (.loop (loopAt 43 1)) (sfH (Int.ofNat (n+1)) k i s (gU 40 t) L F a [] 0 m)=some (.exit 2,sfE (Int.ofNat (n+1)) k i s (gU 40 t) L F a b q m)):
  Gam.pureD (callF tab ext (M+1)) 43 [.agg [num k,num i,num s,strX t,.sl false 6 L,.sl false 7 F],nat (n+1)]=some (.agg [num k,num i,num s,strX (gU 40 t),.sl false 6 a,.sl false 7 b]):=by
 have f:(X.agg [num k,num i,num s,strX (gU 40 t),.bs 0 0 m,.bs 1 0 q]).data [.row 6 a,.row 7 b] false=some (.agg [num k,num i,num s,strX (gU 40 t),.sl false 6 a,.sl false 7 b]):=by subst hm hq;simp [X.data,dH,rowOf,num,strX]
 exact pure_of [(14,.i (Int.ofNat (min t.size 40))),(15,.cut)] [(.exit 0,svE (Int.ofNat (n+1)) k i s (gU 40 t) L F a m),(.exit 2,sfE (Int.ofNat (n+1)) k i s (gU 40 t) L F a b q m)] (pf4 (jg t.size 40) (nR t.size 40) h1 h2)
  (x:=.agg [num k,num i,num s,strX (gU 40 t),.bs 0 0 m,.bs 1 0 q]) (bx:=[.row 6 a,.row 7 b]) (by kernel_rfl) f
theorem GZ (l:List Val)(v:Val):ah (l++[v])=ah l++[v.cells]:=by simp [dN]
theorem SE (l:List (qaW×Val))(t:qaW)(v:Val):au (l++[(t,v)])=au l++[strX t::v.cells]:=by simp [mJ]
theorem Ou (n:Nat):decide (Int.ofNat (n+1+1)>1)=true:=by grind
theorem lY {j m:Nat}(h:j<m):decide (Int.ofNat j<Int.ofNat m)=true:=aH h
theorem jR:∀(n:Nat) (v:Val) (N:Nat),n<1000->10+n<=N->Gam.pureD (callF tab ext N) 43 [.agg v.cells,nat (n+1)]=some (.agg (aO n v).cells)
 |0,.mk k i s t l f,N,_,hN=>by
  obtain ⟨M,rfl⟩:=pR_ N;refine zgH M k i s t (ah l) (au f) [] [] 0 0 0 rfl rfl ?_ ?_
  ·refine aQ (σ:=fun j=>svH (Int.ofNat 1) k i s (gU 40 t) (ah l) (au f) [] j) (k:=0) (TA ..) (fun j hj=>by omega) ?_ (by simp) (by omega);cases h1:decide (Int.ofNat 0<Int.ofNat (ah l).length) with
   |true=>exact ruA [(21,.b true)] (pf1 h1)
   |false=>exact ruA [(21,.b false)] (pf1 h1)
  refine aQ (σ:=fun j=>sfH (Int.ofNat 1) k i s (gU 40 t) (ah l) (au f) [] [] j 0) (k:=0) (TI ..) (fun j hj=>by omega) ?_ (by simp) (by omega);cases h1:decide (Int.ofNat 0<Int.ofNat (au f).length) with
  |true=>exact ruA [(47,.b true)] (pf1 h1)
  |false=>exact ruA [(47,.b false)] (pf1 h1)
 |n+1,.mk k i s t l f,N,hn,hN=>by
  obtain ⟨M,rfl⟩:=pR_ N;have el:=aF l;have ef:=aT f;have e1:(aO (n+1) (.mk k i s t l f)).cells=[num k,num i,num s,strX (gU 40 t),.sl false 6 (ah ((l.take 6).map (aO n))),.sl false 7 (au ((f.take 6).map fun p=>(gU 40 p.1,aO n p.2)))]:=rfl;rw [e1];have hd:=Ls (j:=n+1) (by omega);refine zgH M k i s t (ah l) (au f) _ _ (l.take 6).length (f.take 6).length (n+1) (by grind[aF]) (by grind[aT]) ?_ ?_
  ·refine aQ (σ:=fun j=>svH (Int.ofNat (n+2)) k i s (gU 40 t) (ah l) (au f) (ah (((l.take 6).take j).map (aO n))) j) (k:=(l.take 6).length) (TA ..) (fun j hj=>?_) ?_ (by simp) (by grind)
   ·have hj1:j<l.length:=by rw [qai] at hj;omega
    have hj2:j<6:=by rw [qai] at hj;omega
    have hg:=dR hj1;have hc:=jR n l[j] M (by omega) (by omega);have hlen:(ah (((l.take 6).take j).map (aO n))).length=j:=by rw [aF,qaB,qai,qai];omega
    rw [jc (aO n) hj,GZ];generalize l[j]=v at hg hc;generalize aO n v=w at hc;generalize ((l.take 6).take j).map (aO n)=acc at hlen;obtain ⟨a1,a2,a3,a4,a5,a6⟩:=v;obtain ⟨b1,b2,b3,b4,b5,b6⟩:=w;exact ⟨_,run_of (σ':=svN (Int.ofNat (n+2)) k i s (gU 40 t) (ah l) (au f) (ah acc) j (Val.mk b1 b2 b3 b4 b5 b6).cells) [(21,.b true),(24,.b true),(28,.b true),(36,.e (Val.mk a1 a2 a3 a4 a5 a6).cells),(39,.i (Int.ofNat (n+1))),(40,.p (.agg (Val.mk b1 b2 b3 b4 b5 b6).cells)),(42,.app),(31,.i (Int.ofNat (j+1)))] []
     (pf8 (aH (j:=j) (k:=(ah l).length) (by omega)) (lY hj2) (Ou n) hg hd hc (dX (acc:=ah acc) j 2 88 hlen.symm (by omega) (by omega)) (ay (j:=j) (by omega))) (lo':=[]) (by kernel_rfl),YT ..⟩
   have e2:(l.take 6).take (l.take 6).length=l.take 6:=List.take_length;rw [e2];by_cases h6:(l.take 6).length<l.length
   ·have h7:(l.take 6).length=6:=by rw [qai] at h6 ⊢;omega
    exact ruA [(21,.b true),(24,.b false)] (pf2 (aH (j:=(l.take 6).length) (k:=(ah l).length) (by omega)) (aG (j:=(l.take 6).length) (k:=6) (by omega)))
   exact ruA [(21,.b false)] (pf1 (aG (j:=(l.take 6).length) (k:=(ah l).length) (by omega)))
  generalize ah ((l.take 6).map (aO n))=aL;generalize (l.take 6).length=m;refine aQ (σ:=fun j=>sfH (Int.ofNat (n+2)) k i s (gU 40 t) (ah l) (au f) aL (au (((f.take 6).take j).map fun p=>(gU 40 p.1,aO n p.2))) j m) (k:=(f.take 6).length) (TI ..) (fun j hj=>?_) ?_ (by simp) (by grind)
  ·have hj1:j<f.length:=by rw [qai] at hj;omega
   have hj2:j<6:=by rw [qai] at hj;omega
   have hg:=iC hj1;have hc:=jR n f[j].2 M (by omega) (by omega);have hlen:(au (((f.take 6).take j).map fun p=>(gU 40 p.1,aO n p.2))).length=j:=by rw [aT,qaB,qai,qai];omega
   rw [jc (fun p:qaW×Val=>(gU 40 p.1,aO n p.2)) hj,SE];generalize f[j]=v at hg hc;obtain ⟨vt,v⟩:=v;dsimp only at hg hc ⊢;generalize aO n v=w at hc;generalize ((f.take 6).take j).map (fun p:qaW×Val=>(gU 40 p.1,aO n p.2))=acc at hlen;obtain ⟨a1,a2,a3,a4,a5,a6⟩:=v;obtain ⟨b1,b2,b3,b4,b5,b6⟩:=w;exact ⟨_,run_of (σ':=sfN (Int.ofNat (n+2)) k i s (gU 40 t) (ah l) (au f) aL (au acc) j m (strX (gU 40 vt)::(Val.mk b1 b2 b3 b4 b5 b6).cells)) [(47,.b true),(50,.b true),(54,.b true),(62,.e (strX vt::(Val.mk a1 a2 a3 a4 a5 a6).cells)),(68,.e (strX vt::(Val.mk a1 a2 a3 a4 a5 a6).cells)),(72,.i (Int.ofNat (min vt.size 40))),(73,.cut),(77,.e (strX vt::(Val.mk a1 a2 a3 a4 a5 a6).cells)),(81,.i (Int.ofNat (n+1))),(82,.p (.agg (Val.mk b1 b2 b3 b4 b5 b6).cells)),(85,.app),(57,.i (Int.ofNat (j+1)))] []
    (zp3 (aH (j:=j) (k:=(au f).length) (by omega)) (lY hj2) (Ou n) hg hg (jg vt.size 40) (nR vt.size 40) hg hd hc (dX (acc:=au acc) j 3 104 hlen.symm (by omega) (by omega)) (ay (j:=j) (by omega))) (lo':=[]) (by kernel_rfl),ZF ..⟩
  have e2:(f.take 6).take (f.take 6).length=f.take 6:=List.take_length;rw [e2];by_cases h6:(f.take 6).length<f.length
  ·have h7:(f.take 6).length=6:=by rw [qai] at h6 ⊢;omega
   exact ruA [(47,.b true),(50,.b false)] (pf2 (aH (j:=(f.take 6).length) (k:=(au f).length) (by omega)) (aG (j:=(f.take 6).length) (k:=6) (by omega)))
  exact ruA [(47,.b false)] (pf1 (aG (j:=(f.take 6).length) (k:=(au f).length) (by omega)))
def Dw (x:Int):Int:=if 0>x then 0 else x
def LD (x:Int):Int:=if 1099511627776<x then 1099511627776 else x
def zcM (p:List Int):List Int:=p.take (min (aB p).length 6)
theorem Bo (p:List Int):aB (zcM p)=(aB p).take (min (aB p).length 6):=by simp [zcM,aB]
theorem xC (p:List Int):(zcM p).length<=6:=by grind[zcM]
theorem LC (p:qaV):cZ (([]:qaV).length+(List.drop 0 (List.take (min p.length 6) p)).length) 8=true:=by grind[jd]
def fE (m:Msg):Msg:=⟨⟨m.st.e,zcM m.st.p⟩,LD (Dw m.vO),zcM m.orig,aO 4 m.body⟩
theorem Np (m:Msg)(N:Nat)(hN:20<=N):Gam.pureD (callF tab ext N) 44 [.agg m.cells]=some (.agg (fE m).cells):=by
 obtain ⟨M,rfl⟩:=pR_ N;have u:=jR 4 m.body M (by omega) (by omega);have e:(fE m).cells=num m.st.e::.sl false 1 ((aB m.st.p).take (min (aB m.st.p).length 6))::num (LD (Dw m.vO))::.sl false 1 ((aB m.orig).take (min (aB m.orig).length 6))::(aO 4 m.body).cells:=by rw [<-Bo,<-Bo];rfl
 rw [e];generalize aO 4 m.body=w at u;obtain ⟨⟨y,p⟩,a,o,⟨A,B,E,F,H,J⟩⟩:=m;obtain ⟨f,h,j,l,n,q⟩:=w;exact puA [(11,.i (Int.ofNat (min (aB p).length 6))),(12,.cut),(13,.fresh),(22,.i (Int.ofNat (min (aB o).length 6))),(23,.cut),(24,.fresh),(28,.p (.agg (Val.mk f h j l n q).cells)),(31,.i (Dw a)),(32,.i (LD (Dw a)))] (pf9 (jg (aB p).length 6) (nR (aB p).length 6) (LC (aB p)) (jg (aB o).length 6) (nR (aB o).length 6) (LC (aB o)) u (rfl:Dw a=Dw a) (rfl:LD (Dw a)=LD (Dw a))) (.agg (num y::.sl false 1 ((aB p).take (min (aB p).length 6))::num (LD (Dw a))::.sl false 1 ((aB o).take (min (aB o).length 6))::(Val.mk f h j l n q).cells))
structure Inp where
 kind:Int
 time:Int
 st:Stp
 m:Msg
 x:Int
 b1:Bool
 b2:Bool
 body:Val
def Inp.cells (i:Inp):List X:=num i.kind::num i.time::num i.st.e::.sl false 1 (aB i.st.p)::num i.m.st.e::.sl false 1 (aB i.m.st.p)::num i.m.vO::.sl false 1 (aB i.m.orig)::(i.m.body.cells++num i.x::boolX i.b1::boolX i.b2::i.body.cells)
def aJ (i:Inp):Inp:={i with st:=⟨i.st.e,zcM i.st.p⟩,m:=fE i.m,body:=aO 4 i.body}
theorem Zw (i:Inp)(N:Nat)(hN:30<=N):Gam.pureD (callF tab ext N) 26 [.agg i.cells]=some (.agg (aJ i).cells):=by
 obtain ⟨M,rfl⟩:=pR_ N;have L:=jR 4 i.body M (by omega) (by omega);have O:=Np i.m M (by omega);have e:(aJ i).cells=num i.kind::num i.time::num i.st.e::.sl false 1 ((aB i.st.p).take (min (aB i.st.p).length 6))::num (fE i.m).st.e::.sl false 1 (aB (fE i.m).st.p)::num (fE i.m).vO::.sl false 1 (aB (fE i.m).orig)::((fE i.m).body.cells++num i.x::boolX i.b1::boolX i.b2::(aO 4 i.body).cells):=by rw [<-Bo];rfl
 rw [e];generalize aO 4 i.body=w at L;generalize fE i.m=q at O;obtain ⟨P,tm,⟨Q,a⟩,⟨⟨e0,p⟩,ms,o,⟨V,W,Y,Z,a5,a6⟩⟩,x,S,U,⟨c1,c2,c3,c4,c5,c6⟩⟩:=i;obtain ⟨b1,b2,f,h,j,l⟩:=w;obtain ⟨⟨u,y⟩,A,B,⟨E,F,d7,H,J,n⟩⟩:=q;exact puA [(5,.p (.agg (Msg.mk ⟨u,y⟩ A B (Val.mk E F d7 H J n)).cells)),(8,.p (.agg (Val.mk b1 b2 f h j l).cells)),(19,.i (Int.ofNat (min (aB a).length 6))),(20,.cut),(21,.fresh)] (pf5 O L (jg (aB a).length 6) (nR (aB a).length 6) (LC (aB a))) (.agg (num P::num tm::num Q::.sl false 1 ((aB a).take (min (aB a).length 6))::num u::.sl false 1 (aB y)::num A::.sl false 1 (aB B)::((Val.mk E F d7 H J n).cells++num x::boolX S::boolX U::(Val.mk b1 b2 f h j l).cells)))
def oG (x:Slt):Slt:=⟨aO 2 x.key,x.n,x.t,(x.items.take 4).map fE,(x.vals.take 4).map (aO 3)⟩
def shortS (s:Stt):Stt:=⟨s.n,s.t,(s.slots.take 6).map oG⟩
section
variable (a b:Int) (l acc:qaV) (j:Nat) (k i s n t:Int) (tx:qaW) (vl vf its vs:qaV) (k' i' s':Int) (tx':qaW) (vl' vf' uT vs':qaV) (z z2:Nat) (x:List X)
def ssH:St:=⟨[(1,.ptr 0 0 0),(2,.ptr 1 0 0),(3,.bs 2 0 j),(4,nat j)],[.var [num a,num b,.sl false 10 l],.var ny,.row 10 acc]⟩
def siH:St:=⟨[(1,.ptr 0 0 0),(2,.ptr 1 0 0),(3,.bs 2 0 j),(4,nat j),(5,.ptr 3 0 0),(6,.ptr 4 0 0),(7,nat z)],[.var [num a,num b,.sl false 10 l],.var ny,.row 10 acc,.var (oC k i s tx vl vf n t its vs),.var [num k',num i',num s',strX tx',.sl false 6 vl',.sl false 7 vf',num n,num t,.bs 5 0 z,.sl true 6 []],.row 10 uT]⟩
def siN:St:=⟨[(1,.ptr 0 0 0),(2,.ptr 1 0 0),(3,.bs 2 0 j),(4,nat j),(5,.ptr 3 0 0),(6,.ptr 4 0 0),(7,nat (z+1))],[.var [num a,num b,.sl false 10 l],.var ny,.row 10 acc,.var (oC k i s tx vl vf n t its vs),.var [num k',num i',num s',strX tx',.sl false 6 vl',.sl false 7 vf',num n,num t,.bs 6 0 (z+1),.sl true 6 []],.dead,.row 10 (uT++[x])]⟩
def siE:St:=⟨[(1,.ptr 0 0 0),(2,.ptr 1 0 0),(3,.bs 2 0 j),(4,nat j),(5,.ptr 3 0 0),(6,.ptr 4 0 0),(7,nat z),(41,boolX false)],[.var [num a,num b,.sl false 10 l],.var ny,.row 10 acc,.var (oC k i s tx vl vf n t its vs),.var [num k',num i',num s',strX tx',.sl false 6 vl',.sl false 7 vf',num n,num t,.bs 5 0 z,.sl true 6 []],.row 10 uT]⟩
theorem zdQ:canon 0 (siH a b l acc j k i s n t tx vl vf its vs k' i' s' tx' vl' vf' uT z)=some (siH a b l acc j k i s n t tx vl vf its vs k' i' s' tx' vl' vf' uT z):=by kernel_rfl
theorem Zv:canon 0 (siN a b l acc j k i s n t tx vl vf its vs k' i' s' tx' vl' vf' uT z x)=some (siH a b l acc j k i s n t tx vl vf its vs k' i' s' tx' vl' vf' (uT++[x]) (z+1)):=by kernel_rfl
def swH:St:=⟨[(1,.ptr 0 0 0),(2,.ptr 1 0 0),(3,.bs 2 0 j),(4,nat j),(5,.ptr 3 0 0),(6,.ptr 4 0 0),(8,nat z)],[.var [num a,num b,.sl false 10 l],.var ny,.row 10 acc,.var (oC k i s tx vl vf n t its vs),.var [num k',num i',num s',strX tx',.sl false 6 vl',.sl false 7 vf',num n,num t,.bs 5 0 z2,.bs 6 0 z],.row 10 uT,.row 6 vs']⟩
def swN:St:=⟨[(1,.ptr 0 0 0),(2,.ptr 1 0 0),(3,.bs 2 0 j),(4,nat j),(5,.ptr 3 0 0),(6,.ptr 4 0 0),(8,nat (z+1))],[.var [num a,num b,.sl false 10 l],.var ny,.row 10 acc,.var (oC k i s tx vl vf n t its vs),.var [num k',num i',num s',strX tx',.sl false 6 vl',.sl false 7 vf',num n,num t,.bs 5 0 z2,.bs 7 0 (z+1)],.row 10 uT,.dead,.row 6 (vs'++[x])]⟩
def swE:St:=⟨[(1,.ptr 0 0 0),(2,.ptr 1 0 0),(3,.bs 2 0 j),(4,nat j),(5,.ptr 3 0 0),(6,.ptr 4 0 0),(8,nat z),(63,boolX false)],[.var [num a,num b,.sl false 10 l],.var ny,.row 10 acc,.var (oC k i s tx vl vf n t its vs),.var [num k',num i',num s',strX tx',.sl false 6 vl',.sl false 7 vf',num n,num t,.bs 5 0 z2,.bs 6 0 z],.row 10 uT,.row 6 vs']⟩
theorem zdw:canon 0 (swH a b l acc j k i s n t tx vl vf its vs k' i' s' tx' vl' vf' uT vs' z z2)=some (swH a b l acc j k i s n t tx vl vf its vs k' i' s' tx' vl' vf' uT vs' z z2):=by kernel_rfl
theorem YS:canon 0 (swN a b l acc j k i s n t tx vl vf its vs k' i' s' tx' vl' vf' uT vs' z z2 x)=some (swH a b l acc j k i s n t tx vl vf its vs k' i' s' tx' vl' vf' uT (vs'++[x]) (z+1) z2):=by kernel_rfl
end
theorem WV (l:List Msg)(m:Msg):aI (l++[m])=aI l++[m.cells]:=by simp [aI]
theorem VL (l:List Slt)(m:Slt):aW (l++[m])=aW l++[m.cells]:=by simp [aW]
theorem zif (M:Nat)(hM:40<=M)(a b:Int)(l acc:qaV)(j:Nat)(k i s n t:Int)(tx:qaW)(vl vf vs:qaV)(k' i' s':Int)(tx':qaW)(vl' vf':qaV)(ms:List Msg):
  run (callF tab ext M) 0 M (.loop (loopAt 18 1)) (siH a b l acc j k i s n t tx vl vf (aI ms) vs k' i' s' tx' vl' vf' [] 0)=some (.exit 2,siE a b l acc j k i s n t tx vl vf (aI ms) vs k' i' s' tx' vl' vf' (aI ((ms.take 4).map fE)) (ms.take 4).length):=by
 have el:=dG ms;refine aQ (σ:=fun z=>siH a b l acc j k i s n t tx vl vf (aI ms) vs k' i' s' tx' vl' vf' (aI (((ms.take 4).take z).map fE)) z) (k:=(ms.take 4).length) (zdQ ..) (fun z hz=>?_) ?_ (by simp) (by grind)
 ·have m:z<ms.length:=by rw [qai] at hz;omega
  have q:z<4:=by rw [qai] at hz;omega
  have O:=jU m;have h:=Np ms[z] M (by omega);have f:(aI (((ms.take 4).take z).map fE)).length=z:=by rw [dG,qaB,qai,qai];omega
  rw [jc fE hz,WV];generalize ms[z]=v at O h;generalize fE v=w at h;generalize aI (((ms.take 4).take z).map fE)=uT at f;obtain ⟨⟨Q,S⟩,U,V,⟨W,Y,Z,a8,a9,P⟩⟩:=v;obtain ⟨⟨y,A⟩,B,E,⟨F,H,J,L,N,u⟩⟩:=w;exact ⟨_,run_of (σ':=siN a b l acc j k i s n t tx vl vf (aI ms) vs k' i' s' tx' vl' vf' uT z (Msg.mk ⟨y,A⟩ B E (Val.mk F H J L N u)).cells) [(37,.b true),(40,.b true),(49,.e (Msg.mk ⟨Q,S⟩ U V (Val.mk W Y Z a8 a9 P)).cells),(51,.p (.agg (Msg.mk ⟨y,A⟩ B E (Val.mk F H J L N u)).cells)),(53,.app),(43,.i (Int.ofNat (z+1)))] []
   (pf6 (aH (j:=z) (k:=(aI ms).length) (by omega)) (lY q) O h (dX (acc:=uT) z 5 152 f.symm (by omega) (by omega)) (ay (j:=z) (by omega))) (lo':=[]) (by kernel_rfl),Zv ..⟩
 rw [List.take_length];by_cases h6:(ms.take 4).length<ms.length
 ·have h7:(ms.take 4).length=4:=by rw [qai] at h6 ⊢;omega
  exact ruA [(37,.b true),(40,.b false)] (pf2 (aH (j:=(ms.take 4).length) (k:=(aI ms).length) (by omega)) (aG (j:=(ms.take 4).length) (k:=4) (by omega)))
 exact ruA [(37,.b false)] (pf1 (aG (j:=(ms.take 4).length) (k:=(aI ms).length) (by omega)))
theorem zhZ (M:Nat)(hM:40<=M)(a b:Int)(l acc:qaV)(j:Nat)(k i s n t:Int)(tx:qaW)(vl vf its:qaV)(k' i' s':Int)(tx':qaW)(vl' vf' uT:qaV)(z2:Nat)(ms:List Val):
  run (callF tab ext M) 0 M (.loop (loopAt 18 2)) (swH a b l acc j k i s n t tx vl vf its (ah ms) k' i' s' tx' vl' vf' uT [] 0 z2)=some (.exit 4,swE a b l acc j k i s n t tx vl vf its (ah ms) k' i' s' tx' vl' vf' uT (ah ((ms.take 4).map (aO 3))) (ms.take 4).length z2):=by
 have el:=aF ms;refine aQ (σ:=fun z=>swH a b l acc j k i s n t tx vl vf its (ah ms) k' i' s' tx' vl' vf' uT (ah (((ms.take 4).take z).map (aO 3))) z z2) (k:=(ms.take 4).length) (zdw ..) (fun z hz=>?_) ?_ (by simp) (by grind)
 ·have m:z<ms.length:=by rw [qai] at hz;omega
  have q:z<4:=by rw [qai] at hz;omega
  have H:=dR m;have h:=jR 3 ms[z] M (by omega) (by omega);have f:(ah (((ms.take 4).take z).map (aO 3))).length=z:=by rw [aF,qaB,qai,qai];omega
  rw [jc (aO 3) hz,GZ];generalize ms[z]=v at H h;generalize aO 3 v=w at h;generalize ah (((ms.take 4).take z).map (aO 3))=vs' at f;obtain ⟨L,N,O,P,Q,J⟩:=v;obtain ⟨y,A,B,E,F,u⟩:=w;exact ⟨_,run_of (σ':=swN a b l acc j k i s n t tx vl vf its (ah ms) k' i' s' tx' vl' vf' uT vs' z z2 (Val.mk y A B E F u).cells) [(59,.b true),(62,.b true),(71,.e (Val.mk L N O P Q J).cells),(73,.p (.agg (Val.mk y A B E F u).cells)),(75,.app),(65,.i (Int.ofNat (z+1)))] []
   (pf6 (aH (j:=z) (k:=(ah ms).length) (by omega)) (lY q) H h (dX (acc:=vs') z 6 88 f.symm (by omega) (by omega)) (ay (j:=z) (by omega))) (lo':=[]) (by kernel_rfl),YS ..⟩
 rw [List.take_length];by_cases S:(ms.take 4).length<ms.length
 ·have U:(ms.take 4).length=4:=by rw [qai] at S ⊢;omega
  exact ruA [(59,.b true),(62,.b false)] (pf2 (aH (j:=(ms.take 4).length) (k:=(ah ms).length) (by omega)) (aG (j:=(ms.take 4).length) (k:=4) (by omega)))
 exact ruA [(59,.b false)] (pf1 (aG (j:=(ms.take 4).length) (k:=(ah ms).length) (by omega)))
section
variable (a b:Int) (l acc:qaV) (j:Nat) (k i s n t:Int) (tx:qaW) (vl vf its vs:qaV) (k' i' s':Int) (tx':qaW) (vl' vf' uT vs':qaV) (z z2:Nat) (x:List X)
def ssN:St:=⟨[(1,.ptr 0 0 0),(2,.ptr 1 0 0),(3,.bs 7 0 (j+1)),(4,nat (j+1))],[.var [num a,num b,.sl false 10 l],.var ny,.dead,.var (oC k i s tx vl vf n t its vs),.var (oC k' i' s' tx' vl' vf' n t (uT.take z) (vs'.take z2)),.dead,.dead,.row 10 (acc++[oC k' i' s' tx' vl' vf' n t (uT.take z) (vs'.take z2)])]⟩
theorem Y6:canon 0 (ssN a b l acc j k i s n t tx vl vf its vs k' i' s' tx' vl' vf' uT vs' z z2)=some (ssH a b l (acc++[oC k' i' s' tx' vl' vf' n t (uT.take z) (vs'.take z2)]) (j+1)):=by kernel_rfl
end
theorem zh3 (M:Nat)(hM:50<=M)(a b:Int)(ss:List Slt)(hτ:canon 0 τ=some (ssH a b (aW ss) [] 0)):
  run (callF tab ext M) 0 M (.loop (loopAt 18 0)) τ=some (.exit 0,⟨[(1,.ptr 0 0 0),(2,.ptr 1 0 0),(3,.bs 2 0 (ss.take 6).length),(4,nat (ss.take 6).length),(17,boolX false)],[.var [num a,num b,.sl false 10 (aW ss)],.var ny,.row 10 (aW ((ss.take 6).map oG))]⟩):=by
 have el:=jQ ss;refine aQ (σ:=fun z=>ssH a b (aW ss) (aW (((ss.take 6).take z).map oG)) z) (k:=(ss.take 6).length) hτ (fun z hz=>?_) ?_ (by simp) (by grind)
 ·have pa:z<ss.length:=by rw [qai] at hz;omega
  have pb:z<6:=by rw [qai] at hz;omega
  have hg:=EC pa;have hc:=jR 2 ss[z].key M (by omega) (by omega);have S:(aW (((ss.take 6).take z).map oG)).length=z:=by rw [jQ,qaB,qai,qai];omega
  have hi:=fun vl vf k i s tx n t h k' i' s' U W V=>zif M (by omega) a b (aW ss) (aW (((ss.take 6).take z).map oG)) z k i s n t tx vl vf h k' i' s' U W V ss[z].items;have hv:=fun vl vf k i s tx n t pc k' i' s' U W V Y Z=>zhZ M (by omega) a b (aW ss) (aW (((ss.take 6).take z).map oG)) z k i s n t tx vl vf pc k' i' s' U W V Y Z ss[z].vals;rw [jc oG hz,VL];generalize ss[z]=v at hg hc hi hv;obtain ⟨⟨u,y,A,B,E,F⟩,m,q,f,h⟩:=v;have e:(oG ⟨.mk u y A B E F,m,q,f,h⟩).cells=(Slt.mk (aO 2 (.mk u y A B E F)) m q ((f.take 4).map fE) ((h.take 4).map (aO 3))).cells:=rfl;rw [e];dsimp only at hc hi hv;generalize aO 2 (.mk u y A B E F)=w at hc;obtain ⟨J,L,N,O,P,Q⟩:=w;have l1:(aI ((f.take 4).map fE)).length=(f.take 4).length:=by rw [dG,qaB]
  have l2:(ah ((h.take 4).map (aO 3))).length=(h.take 4).length:=by rw [aF,qaB]
  have H:=hi (ah E) (au F) u y A B m q (ah h) J L N O (ah P) (au Q);have l:=hv (ah E) (au F) u y A B m q (aI f) J L N O (ah P) (au Q) (aI ((f.take 4).map fE)) (f.take 4).length;generalize aW (((ss.take 6).take z).map oG)=acc at S H l;have e1:(Slt.mk (.mk J L N O P Q) m q ((f.take 4).map fE) ((h.take 4).map (aO 3))).cells=oC J L N O (ah P) (au Q) m q ((aI ((f.take 4).map fE)).take (f.take 4).length) ((ah ((h.take 4).map (aO 3))).take (h.take 4).length):=by rw [List.take_of_length_le (Nat.le_of_eq l1),List.take_of_length_le (Nat.le_of_eq l2)];rfl
  rw [e1];generalize aI ((f.take 4).map fE)=Y at l1 H l;generalize ah ((h.take 4).map (aO 3))=vs' at l2 l;generalize (f.take 4).length=z1 at l1 H l;generalize (h.take 4).length=Z at l2 l;exact ⟨_,run_of (σ':=ssN a b (aW ss) acc z u y A m q B (ah E) (au F) (aI f) (ah h) J L N O (ah P) (au Q) Y vs' z1 Z)
   [(13,.b true),(16,.b true),(23,.e (oC u y A B (ah E) (au F) m q (aI f) (ah h))),(27,.p (.agg (Val.mk J L N O P Q).cells)),(80,.app),(19,.i (Int.ofNat (z+1)))]
   [(.exit 2,siE a b (aW ss) acc z u y A m q B (ah E) (au F) (aI f) (ah h) J L N O (ah P) (au Q) Y z1),(.exit 4,swE a b (aW ss) acc z u y A m q B (ah E) (au F) (aI f) (ah h) J L N O (ah P) (au Q) Y vs' Z z1)]
   (zmF (aH (j:=z) (k:=(aW ss).length) (by omega)) (lY pb) hg hc H l (show 0+z1<=Y.length by omega) (show 0+Z<=vs'.length by omega) (dX (acc:=acc) z 2 152 S.symm (by omega) (by omega)) (ay (j:=z) (by omega))) (lo':=[]) (by kernel_rfl),Y6 ..⟩
 rw [List.take_length];by_cases h6:(ss.take 6).length<ss.length
 ·have h7:(ss.take 6).length=6:=by rw [qai] at h6 ⊢;omega
  exact ruA [(13,.b true),(16,.b false)] (pf2 (aH (j:=(ss.take 6).length) (k:=(aW ss).length) (by omega)) (aG (j:=(ss.take 6).length) (k:=6) (by omega)))
 exact ruA [(13,.b false)] (pf1 (aG (j:=(ss.take 6).length) (k:=(aW ss).length) (by omega)))
theorem lK (s:Stt)(N:Nat)(hN:60<=N):Gam.pureD (callF tab ext N) 18 [.agg s.cells]=some (.agg (shortS s).cells):=by
 obtain ⟨M,rfl⟩:=pR_ N;obtain ⟨a,b,f⟩:=s;have h:=zh3 M (by omega) a b f (τ:=⟨[(1,.ptr 0 0 0),(2,.ptr 1 0 0),(3,.bs 2 0 0),(4,num 0)],[.var [num a,num b,.sl false 10 (aW f)],.var ny,.row 10 []]⟩) (by kernel_rfl);have j:(aW ((f.take 6).map oG)).length=(f.take 6).length:=by rw [jQ,qaB]
 have e:(shortS ⟨a,b,f⟩).cells=[num a,num b,.sl false 10 (aW ((f.take 6).map oG))]:=rfl;rw [e];generalize aW ((f.take 6).map oG)=acc at j h;generalize (f.take 6).length=z at j h;have l:(X.agg [num a,num b,.bs 0 0 z]).data [.row 10 acc] false=some (.agg [num a,num b,.sl false 10 acc]):=by subst j;simp [X.data,dH,rowOf,num]
 exact pure_of [] [(.exit 0,⟨[(1,.ptr 0 0 0),(2,.ptr 1 0 0),(3,.bs 2 0 z),(4,nat z),(17,boolX false)],[.var [num a,num b,.sl false 10 (aW f)],.var ny,.row 10 acc]⟩)] (pf1 h) (x:=.agg [num a,num b,.bs 0 0 z]) (bx:=[.row 10 acc]) (by kernel_rfl) l
mutual
theorem wX:∀(n:Nat) (v:Val),(aO n v).size<=13^n*2-1
 |0,.mk .. =>by grind[aO,Val.size,iZ,rV]
 |n+1,.mk k i s t l f=>by
  have h1:∀l:List Val,iZ (l.map (aO n))<=l.length*(13^n*2):=fun l=>by
   induction l with
   |nil=>simp [iZ]
   |cons v l ih=>have:=wX n v<;>grind[iZ,Nat.add_mul]
  have h2:∀l:List (qaW×Val),rV (l.map fun p=>(gU 40 p.1,aO n p.2))<=l.length*(13^n*2):=fun l=>by
   induction l with
   |nil=>simp [rV]
   |cons v l ih=>have:=wX n v.2<;>grind[rV,Nat.add_mul]
  have g1:=h1 (l.take 6);have g2:=h2 (f.take 6);have e1:(l.take 6).length*(13^n*2)<=6*(13^n*2):=qaA _ (by grind);have e2:(f.take 6).length*(13^n*2)<=6*(13^n*2):=qaA _ (by rw [qai];omega)<;>grind[aO,Val.size]
end
theorem nD {n:Nat}(v:Val)(h:n<=4):(aO n v).ok:=by
 have a:=wX n v;have f:13^n<=13^4:=Nat.pow_le_pow_right (by omega) h;unfold Val.ok
 grind
theorem rW (m:Msg):(fE m).ok:=⟨⟨by have:=xC m.st.p;show (zcM m.st.p).length<=60000;omega⟩,by have:=xC m.orig;show (zcM m.orig).length<=60000;omega,nD _ (by omega)⟩
theorem BL (s:Stt):(shortS s).small:=by
 refine ⟨?_,fun x h=>?_⟩;·show ((s.slots.take 6).map oG).length<=100<;>grind
 obtain ⟨y,n,rfl⟩:=qah.1 h;have j:((y.items.take 4).map fE).length<=4:=by rw [qaB,qai];omega
 have l:((y.vals.take 4).map (aO 3)).length<=4:=by rw [qaB,qai];omega
 refine ⟨⟨nD _ (by omega),?_,fun m a=>?_,?_,fun v f=>?_⟩,?_,?_⟩;·show ((y.items.take 4).map fE).length<=60000;omega
 ·obtain ⟨q,_,rfl⟩:=qah.1 a<;>simp_all[rW]
 ·show ((y.vals.take 4).map (aO 3)).length<=60000;omega
 ·obtain ⟨u,_,rfl⟩:=qah.1 f<;>simp_all[nD]
 ·show ((y.items.take 4).map fE).length<=100;omega
 show ((y.vals.take 4).map (aO 3)).length<=100;omega
theorem jh {b:C}{B:Nat}{H:Nat->qaV->St}{k:Nat}{E:qaV->St}(Q:List X->Prop)(hτ:canon nIn τ=some (H 0 []))
  (hstep:∀j acc,j<k->acc.length=j->∃x υ,Q x/\canon nIn υ=some (H (j+1) (acc++[x]))/\∀M,B<=M->run (callF tab ext M) nIn M b (H j acc)=some (.norm,υ))
  (hend:∀acc,acc.length=k->∀M,B<=M->run (callF tab ext M) nIn M b (H k acc)=some (e,E acc)) (hne:e≠.norm):
  ∃acc:qaV,acc.length=k/\(∀x,x∈acc->Q x)/\∀M,B<=M->k<M->run (callF tab ext M) nIn M (.loop b) τ=some (e,E acc):=by
 have m:∀d j acc,j+d=k->acc.length=j->(∀x,x∈acc->Q x)->∃fin:qaV,fin.length=k/\(∀x,x∈fin->Q x)/\∀M F υ,B<=M->d<F->canon nIn υ=some (H j acc)->iter nIn (run (callF tab ext M) nIn M b) F υ=some (e,E fin):=by
  intro d;induction d with
  |zero=>
   intro j acc J a q;have l:j=k:=by omega
   subst l;refine ⟨acc,a,q,fun M F υ w u A=>?_⟩;obtain ⟨F',rfl⟩:∃F',F=F'+1:=⟨F-1,by omega⟩
   grind[bF]
  |succ d ih=>intro j acc J a q;obtain ⟨x,υ,L,A,N⟩:=hstep j acc (by omega) a;obtain ⟨fin,n,f,h⟩:=ih (j+1) (acc++[x]) (by omega) (by grind) (fun y O=>by grind);refine ⟨fin,n,f,fun M F ω w u P=>?_⟩;obtain ⟨F',rfl⟩:∃F',F=F'+1:=⟨F-1,by omega⟩<;>simp_all[dV]
 obtain ⟨fin,n,f,h⟩:=m k 0 [] (by omega) rfl (fun x L=>by grind)
 grind[run]
def kOf (n len K:Nat):Nat:=if n=0 then 0 else min len K
theorem yZ (n len K:Nat):kOf n len K<=len/\kOf n len K<=K:=by grind[kOf]
def isVal (c:List X):Prop:=∃v:Val,c=v.cells
def KN:Nat->List X->Prop
 |0,c=>∃o i t vs es,c=[num o,num i,strX t,.sl false 6 vs,.sl false 5 es]/\∀x,x∈vs->isVal x
 |n+1,c=>∃o i t vs es,c=[num o,num i,strX t,.sl false 6 vs,.sl false 5 es]/\(∀x,x∈vs->isVal x)/\∀x,x∈es->KN n x
theorem Xf:∀{n:Nat} {c:List X},KN n c->KN 0 c
 |0,_,h=>h
 |_+1,_,⟨o,i,t,vs,es,h1,h2,_⟩=>⟨o,i,t,vs,es,h1,h2⟩
def zcD:List X:=[num 0,num 0,noText,.sl true 6 [],.sl true 5 []]
def mQ (o i:Int)(t:qaW)(vs es:qaV):List X:=[num o,num i,strX t,.sl false 6 vs,.sl false 5 es]
def sE:Nat->List X->Prop
 |0,_=>False
 |h+1,x=>∃o i t vs es,x=mQ o i t vs es/\t.size<=60/\vs.length<=2/\(∀v,v∈vs->∃w:Val,v=(aO 1 w).cells)/\es.length<=4/\∀e,e∈es->sE h e
theorem jI (n:Nat)(t:qaW):(gU n t).size<=n:=by grind[gU,ByteArray.size_extract]
section
variable (n:Nat) (o i:Int) (t:qaW) (l f:qaV) (acc:qaV) (j:Nat) (x:List X)
def xvH:St:=⟨[(1,num (Int.ofNat (n+1))),(2,.ptr 0 0 0),(4,.ptr 1 0 0),(5,.bs 2 0 j),(6,nat j)],[.var (mQ o i t l f),.var zcD,.row 6 acc]⟩
def xvN:St:=⟨[(1,num (Int.ofNat (n+1))),(2,.ptr 0 0 0),(4,.ptr 1 0 0),(5,.bs 3 0 (j+1)),(6,nat (j+1))],[.var (mQ o i t l f),.var zcD,.dead,.row 6 (acc++[x])]⟩
def xvE:St:=⟨[(1,num (Int.ofNat (n+1))),(2,.ptr 0 0 0),(4,.ptr 1 0 0),(5,.bs 2 0 j),(6,nat j),(25,boolX false)],[.var (mQ o i t l f),.var zcD,.row 6 acc]⟩
theorem zcP:canon 0 (xvN n o i t l f acc j x)=some (xvH n o i t l f (acc++[x]) (j+1)):=by kernel_rfl
end
theorem Yx (n:Nat)(o i:Int)(t:qaW)(l f:qaV)(hl:∀x,x∈l->isVal x)(hτ:canon 0 τ=some (xvH n o i t l f [] 0)):∃acc,acc.length=min l.length 2/\(∀x,x∈acc->(fun x=>∃w:Val,x=(aO 1 w).cells) x)/\∀M,40<=M->run (callF tab ext M) 0 M (.loop (loopAt 94 0)) τ=some (.exit 0,xvE n o i t l f acc (min l.length 2)):=by
 have hK:min l.length 2<=2:=by exact Nat.min_le_right _ _
 have pa:∃acc:qaV,acc.length=min l.length 2/\(∀x,x∈acc->(fun x=>∃w:Val,x=(aO 1 w).cells) x)/\∀M,40<=M->min l.length 2<M->run (callF tab ext M) 0 M (.loop (loopAt 94 0)) τ=some (.exit 0,xvE n o i t l f acc (min l.length 2)):=?_
 ·grind
 refine jh (nIn:=0) (b:=loopAt 94 0) (B:=40) (H:=fun j acc=>xvH n o i t l f acc j) (k:=min l.length 2) (e:=.exit 0) (E:=fun acc=>xvE n o i t l f acc (min l.length 2)) (fun x=>∃w:Val,x=(aO 1 w).cells) hτ (fun j acc hj a=>?_) (fun acc a M Y=>?_) (by simp)
 ·have h:j<l.length:=by omega
  have L:j<2:=by omega
  obtain ⟨v,hv⟩:=hl _ (qaf h);have Z:l[j]?=some v.cells:=by rw [qad h,hv]
  have O:=jR 1 v;generalize hw:aO 1 v=w at O;obtain ⟨P,Q,S,U,V,W⟩:=v;obtain ⟨m,u,y,A,F,J⟩:=w;exact ⟨(Val.mk m u y A F J).cells,xvN n o i t l f acc j ((Val.mk m u y A F J).cells),⟨_,by rw [hw]⟩,zcP ..,fun M Y=>ruA [(21,.b true),(24,.b true),(32,.e (Val.mk P Q S U V W).cells),(34,.p (.agg (Val.mk m u y A F J).cells)),(36,.app),(27,.i (Int.ofNat (j+1)))] (pf6 (aH (j:=j) (k:=l.length) h) (lY L) Z (O M (by omega) (by omega)) (dX (acc:=acc) j 2 88 a.symm (by omega) (by omega)) (ay (j:=j) (by omega)))⟩
 generalize hq:min l.length 2=q;by_cases N:q<l.length;·exact ruA [(21,.b true),(24,.b false)] (pf2 (aH (j:=q) (k:=l.length) N) (aG (j:=q) (k:=2) (by omega)))
 exact ruA [(21,.b false)] (pf1 (aG (j:=q) (k:=l.length) N))
section
variable (n:Nat) (o i:Int) (t:qaW) (l f acc0:qaV) (m:Nat) (acc:qaV) (j:Nat) (x:List X)
def xaH:St:=⟨[(1,num (Int.ofNat (n+1))),(2,.ptr 0 0 0),(4,.ptr 1 0 0),(5,.bs 2 0 m),(7,.bs 3 0 j),(8,nat j)],[.var (mQ o i t l f),.var zcD,.row 6 acc0,.row 5 acc]⟩
def xaN:St:=⟨[(1,num (Int.ofNat (n+1))),(2,.ptr 0 0 0),(4,.ptr 1 0 0),(5,.bs 2 0 m),(7,.bs 4 0 (j+1)),(8,nat (j+1))],[.var (mQ o i t l f),.var zcD,.row 6 acc0,.dead,.row 5 (acc++[x])]⟩
def xaE:St:=⟨[(1,num (Int.ofNat (n+1))),(2,.ptr 0 0 0),(4,.ptr 1 0 0),(5,.bs 2 0 m),(7,.bs 3 0 j),(8,nat j),(49,boolX false)],[.var (mQ o i t l f),.var zcD,.row 6 acc0,.row 5 acc]⟩
theorem zcR:canon 0 (xaN n o i t l f acc0 m acc j x)=some (xaH n o i t l f acc0 m (acc++[x]) (j+1)):=by kernel_rfl
end
theorem Yy (n:Nat)(o i:Int)(t:qaW)(l f acc0:qaV)(m:Nat)(hn:n<1000)(hf:∀m,n=m+1->∀x,x∈f->∃o i t vs es o' i' t' vs' es',x=mQ o i t vs es/\sE n (mQ o' i' t' vs' es')/\∀N,50+n<=N->Gam.pureD (callF tab ext N) 94 [.agg (mQ o i t vs es),nat (m+1)]=some (.agg (mQ o' i' t' vs' es')))(hτ:canon 0 τ=some (xaH n o i t l f acc0 m [] 0)):∃acc,acc.length=kOf n f.length 4/\(∀x,x∈acc->(sE n) x)/\∀M,(50+n)<=M->run (callF tab ext M) 0 M (.loop (loopAt 94 1)) τ=some (.exit 2,xaE n o i t l f acc0 m acc (kOf n f.length 4)):=by
 have pa:kOf n f.length 4<=f.length/\kOf n f.length 4<=4:=yZ ..;have hK:kOf n f.length 4<=4:=by omega
 have pb:∃acc:qaV,acc.length=kOf n f.length 4/\(∀x,x∈acc->(sE n) x)/\∀M,(50+n)<=M->kOf n f.length 4<M->run (callF tab ext M) 0 M (.loop (loopAt 94 1)) τ=some (.exit 2,xaE n o i t l f acc0 m acc (kOf n f.length 4)):=?_
 ·grind
 refine jh (nIn:=0) (b:=loopAt 94 1) (B:=(50+n)) (H:=fun j acc=>xaH n o i t l f acc0 m acc j) (k:=kOf n f.length 4) (e:=.exit 2) (E:=fun acc=>xaE n o i t l f acc0 m acc (kOf n f.length 4)) (sE n) hτ (fun j acc hj a=>?_) (fun acc a M Y=>?_) (by simp)
 ·have h:j<f.length:=by omega
  have y:j<4:=by omega
  obtain ⟨n,rfl⟩:∃m,n=m+1:=by
   cases n with
   |zero=>grind[kOf]
   |succ m=>grind
  obtain ⟨S,Q,U,V,u,F,A,J,L,w,hv,hs,Z⟩:=hf n rfl _ (qaf h);have hg:f[j]?=some (mQ S Q U V u):=by rw [qad h,hv]
  exact ⟨(mQ F A J L w),xaN (n+1) o i t l f acc0 m acc j ((mQ F A J L w)),hs,zcR ..,fun M Y=>ruA [(41,.b true),(44,.b true),(48,.b true),(56,.e (mQ S Q U V u)),(59,.i (Int.ofNat (n+1))),(60,.p (.agg (mQ F A J L w))),(62,.app),(51,.i (Int.ofNat (j+1)))] (pf8 (aH (j:=j) (k:=f.length) h) (lY y) (Ou n) hg (Ls (j:=n+1) (by omega)) (Z M (by omega)) (dX (acc:=acc) j 3 80 a.symm (by omega) (by omega)) (ay (j:=j) (by omega)))⟩
 cases n with
 |zero=>
  have W:kOf 0 f.length 4=0:=rfl;rw [W];cases O:decide (Int.ofNat 0<Int.ofNat f.length) with
  |true=>exact ruA [(41,.b true)] (pf1 O)
  |false=>exact ruA [(41,.b false)] (pf1 O)
 |succ n=>
  have u:kOf (n+1) f.length 4=min f.length 4:=rfl;rw [u];generalize hq:min f.length 4=q;by_cases P:q<f.length;·exact ruA [(41,.b true),(44,.b false)] (pf2 (aH (j:=q) (k:=f.length) P) (aG (j:=q) (k:=4) (by omega)))
  exact ruA [(41,.b false)] (pf1 (aG (j:=q) (k:=f.length) P))
theorem Zx:∀(n:Nat) (c:List X),n<1000->KN n c->∃o i t vs es o' i' t' vs' es',c=mQ o i t vs es/\sE (n+1) (mQ o' i' t' vs' es')/\∀N,50+(n+1)<=N->Gam.pureD (callF tab ext N) 94 [.agg (mQ o i t vs es),nat (n+1)]=some (.agg (mQ o' i' t' vs' es')):=by
 intro n;induction n with
 |zero=>
  rintro c hn ⟨o,i,t,l,f,rfl,B⟩
  obtain ⟨a,j,E,u⟩:=Yx 0 o i (gU 60 t) l f B (τ:=⟨[(1,num (Int.ofNat (0+1))),(2,.ptr 0 0 0),(4,.ptr 1 0 0),(5,.bs 2 0 0),(6,nat 0)],[.var (mQ o i (gU 60 t) l f),.var zcD,.row 6 []]⟩) (by kernel_rfl);have H:min l.length 2<=2:=Nat.min_le_right _ _;generalize min l.length 2=m at j u H;obtain ⟨h,w,F,y⟩:=Yy 0 o i (gU 60 t) l f a m (by omega) (fun m O=>by omega) (τ:=⟨[(1,num (Int.ofNat (0+1))),(2,.ptr 0 0 0),(4,.ptr 1 0 0),(5,.bs 2 0 m),(7,.bs 3 0 0),(8,nat 0)],[.var (mQ o i (gU 60 t) l f),.var zcD,.row 6 a,.row 5 []]⟩) (by kernel_rfl);have J:=(yZ 0 f.length 4).2;generalize kOf 0 f.length 4=q at w y J;refine ⟨o,i,t,l,f,o,i,gU 60 t,a,h,rfl,⟨o,i,gU 60 t,a,h,rfl,jI 60 t,by omega,E,by omega,F⟩,fun N L=>?_⟩;obtain ⟨M,rfl⟩:=pR_ N;have A:(X.agg [num o,num i,strX (gU 60 t),.bs 0 0 m,.bs 1 0 q]).data [.row 6 a,.row 5 h] false=some (.agg (mQ o i (gU 60 t) a h)):=by subst j w;simp [X.data,dH,rowOf,num,strX,mQ]
  exact pure_of [(14,.i (Int.ofNat (min t.size 60))),(15,.cut)] [(.exit 0,xvE 0 o i (gU 60 t) l f a m),(.exit 2,xaE 0 o i (gU 60 t) l f a m h q)] (pf4 (jg t.size 60) (nR t.size 60) (u M (by omega)) (y M (by omega)))
   (x:=.agg [num o,num i,strX (gU 60 t),.bs 0 0 m,.bs 1 0 q]) (bx:=[.row 6 a,.row 5 h]) (by kernel_rfl) A
 |succ n ih=>
  rintro c hn ⟨o,i,t,l,f,rfl,B,P⟩
  obtain ⟨a,j,E,u⟩:=Yx (n+1) o i (gU 60 t) l f B (τ:=⟨[(1,num (Int.ofNat (n+1+1))),(2,.ptr 0 0 0),(4,.ptr 1 0 0),(5,.bs 2 0 0),(6,nat 0)],[.var (mQ o i (gU 60 t) l f),.var zcD,.row 6 []]⟩) (by kernel_rfl);have H:min l.length 2<=2:=Nat.min_le_right _ _;generalize min l.length 2=m at j u H;obtain ⟨h,w,F,y⟩:=Yy (n+1) o i (gU 60 t) l f a m (by omega) (fun m O x Q=>by grind) (τ:=⟨[(1,num (Int.ofNat (n+1+1))),(2,.ptr 0 0 0),(4,.ptr 1 0 0),(5,.bs 2 0 m),(7,.bs 3 0 0),(8,nat 0)],[.var (mQ o i (gU 60 t) l f),.var zcD,.row 6 a,.row 5 []]⟩) (by kernel_rfl);have J:=(yZ (n+1) f.length 4).2;generalize kOf (n+1) f.length 4=q at w y J;refine ⟨o,i,t,l,f,o,i,gU 60 t,a,h,rfl,⟨o,i,gU 60 t,a,h,rfl,jI 60 t,by omega,E,by omega,F⟩,fun N L=>?_⟩;obtain ⟨M,rfl⟩:=pR_ N;have A:(X.agg [num o,num i,strX (gU 60 t),.bs 0 0 m,.bs 1 0 q]).data [.row 6 a,.row 5 h] false=some (.agg (mQ o i (gU 60 t) a h)):=by subst j w;simp [X.data,dH,rowOf,num,strX,mQ]
  exact pure_of [(14,.i (Int.ofNat (min t.size 60))),(15,.cut)] [(.exit 0,xvE (n+1) o i (gU 60 t) l f a m),(.exit 2,xaE (n+1) o i (gU 60 t) l f a m h q)] (pf4 (jg t.size 60) (nR t.size 60) (u M (by omega)) (y M (by omega)))
   (x:=.agg [num o,num i,strX (gU 60 t),.bs 0 0 m,.bs 1 0 q]) (bx:=[.row 6 a,.row 5 h]) (by kernel_rfl) A
def vW (c:List X):Prop:=∃t e,c=strX t::e/\KN 3 e
def zi (c:List X):Prop:=∃s o i t vs es,c=[strX s,num o,num i,strX t,.sl false 6 vs,.sl false 5 es]/\s.size<=60/\sE 4 (mQ o i t vs es)
def fU (s:qaW)(o i:Int)(t:qaW)(vs es:qaV):List X:=[strX s,num o,num i,strX t,.sl false 6 vs,.sl false 5 es]
section
variable (l:qaV) (acc:qaV) (j:Nat) (x:List X)
def ruH:St:=⟨[(1,.ptr 0 0 0),(2,.ptr 1 0 0),(3,.ptr 2 0 0),(4,nat j)],[.var [.sl false 6 l],.var [.sl true 6 []],.var [.bs 3 0 j],.row 6 acc]⟩
def ruN:St:=⟨[(1,.ptr 0 0 0),(2,.ptr 1 0 0),(3,.ptr 2 0 0),(4,nat (j+1))],[.var [.sl false 6 l],.var [.sl true 6 []],.var [.bs 4 0 (j+1)],.dead,.row 6 (acc++[x])]⟩
def ruE:St:=⟨[(1,.ptr 0 0 0),(2,.ptr 1 0 0),(3,.ptr 2 0 0),(4,nat j),(13,boolX false)],[.var [.sl false 6 l],.var [.sl true 6 []],.var [.bs 3 0 j],.row 6 acc]⟩
theorem zd1:canon 0 (ruN l acc j x)=some (ruH l (acc++[x]) (j+1)):=by kernel_rfl
end
theorem ziC (l:qaV)(hl:∀x,x∈l->vW x)(hτ:canon 0 τ=some (ruH l [] 0)):∃acc,acc.length=min l.length 8/\(∀x,x∈acc->(zi) x)/\∀M,100<=M->run (callF tab ext M) 0 M (.loop (loopAt 57 0)) τ=some (.exit 0,ruE l acc (min l.length 8)):=by
 have Z:min l.length 8<=8:=by exact Nat.min_le_right _ _
 have Y:∃acc:qaV,acc.length=min l.length 8/\(∀x,x∈acc->(zi) x)/\∀M,100<=M->min l.length 8<M->run (callF tab ext M) 0 M (.loop (loopAt 57 0)) τ=some (.exit 0,ruE l acc (min l.length 8)):=?_
 ·grind
 refine jh (nIn:=0) (b:=loopAt 57 0) (B:=100) (H:=fun j acc=>ruH l acc j) (k:=min l.length 8) (e:=.exit 0) (E:=fun acc=>ruE l acc (min l.length 8)) (zi) hτ (fun j acc hj a=>?_) (fun acc a M Q=>?_) (by simp)
 ·have f:j<l.length:=by omega
  have O:j<8:=by omega
  obtain ⟨s,e,W,U⟩:=hl _ (qaf f);obtain ⟨w,n,A,J,h,y,u,F,L,m,rfl,V,S⟩:=Zx 3 e (by omega) U;have N:l[j]?=some (fU s w n A J h):=by rw [qad f,W];rfl
  exact ⟨(fU (gU 60 s) y u F L m),ruN l acc j ((fU (gU 60 s) y u F L m)),⟨gU 60 s,y,u,F,L,m,rfl,jI 60 s,V⟩,zd1 ..,fun M Q=>ruA [(9,.b true),(12,.b true),(21,.e (fU s w n A J h)),(27,.e (fU s w n A J h)),(31,.i (Int.ofNat (min s.size 60))),(32,.cut),(36,.e (fU s w n A J h)),(39,.p (.agg (mQ y u F L m))),(42,.app),(15,.i (Int.ofNat (j+1)))] (zmF (aH (j:=j) (k:=l.length) f) (lY O) N N (jg s.size 60) (nR s.size 60) N (S M (by omega)) (dX (acc:=acc) j 3 96 a.symm (by omega) (by omega)) (ay (j:=j) (by omega)))⟩
 generalize hq:min l.length 8=q;by_cases P:q<l.length;·exact ruA [(9,.b true),(12,.b false)] (pf2 (aH (j:=q) (k:=l.length) P) (aG (j:=q) (k:=8) (by omega)))
 exact ruA [(9,.b false)] (pf1 (aG (j:=q) (k:=l.length) P))
theorem EF (l:qaV)(hl:∀x,x∈l->vW x):∃l',l'.length<=8/\(∀x,x∈l'->zi x)/\∀N,110<=N->Gam.pureD (callF tab ext N) 57 [.agg [.sl false 6 l]]=some (.agg [.sl false 6 l']):=by
 obtain ⟨a,f,q,h⟩:=ziC l hl (τ:=⟨[(1,.ptr 0 0 0),(2,.ptr 1 0 0),(3,.ptr 2 0 0),(4,nat 0)],[.var [.sl false 6 l],.var [.sl true 6 []],.var [.bs 3 0 0],.row 6 []]⟩) (by kernel_rfl);have n:min l.length 8<=8:=Nat.min_le_right _ _;generalize min l.length 8=m at f h n;refine ⟨a,by omega,q,fun N u=>?_⟩;obtain ⟨M,rfl⟩:=pR_ N;have j:(X.agg [.bs 0 0 m]).data [.row 6 a] false=some (.agg [.sl false 6 a]):=by subst f;simp [X.data,dH,rowOf]
 exact pure_of [] [(.exit 0,ruE l a m)] (pf1 (h M (by omega))) (x:=.agg [.bs 0 0 m]) (bx:=[.row 6 a]) (by kernel_rfl) j
end Go.Proofs.YtkeefpkcepodeaaGreatDoor
