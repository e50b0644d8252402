/-.-/
import Derived.Test.YtpcjeobkehmhpaaGreatDoorV17
import Derived.Test.YtpcjeobkehmhpaaGreatDoorV19
import Derived.Test.YtpcjeobkehmhpaaGreatDoorV29
import Derived.Test.YtpcjeobkehmhpaaGreatDoorV30
import Derived.Test.YtpcjeobkehmhpaaGreatDoorV31
import Derived.Test.YtpcjeobkehmhpaaGreatDoorV32
set_option linter.all false
namespace Go.Proofs.YtpcjeobkehmhpaaGreatDoor
open Go Go.Em Go.Ab
set_option maxRecDepth 100000
variable {u v:Bool}{s:qaY}{a h hp:Int}{x x0 xs:List X}{B:Nat}{τ:St}{r:X}
namespace Ct
def okE:Nat->List X->Prop
 |0,_=>False
 |h+1,x=>∃(op n:Int) (s:qaY) (u:Bool) (vs:qaX) (v:Bool) (ar:qaX),x=[num op,num n,aF s,.sl u 6 vs,.sl v 5 ar]/\s.size<=1000000/\vs.length<=1000000/\ar.length<=1000000/\(∀e,e∈vs->D T 9 1 e)/\
  (op=1->∃c:Int,((c=0->1<=vs.length)/\0<=c/\c<=100)/\∃B,∀N,B<=N->Gam.aC (ah tab ext N) 216 [.sl false 6 vs]=some (num c))/\∀e,e∈ar->okE h e
abbrev fnB:Bx:=.var [.fn 169 [.ptr 0 0 0,.ptr 1 0 0]]
def Vis (H:Int)(x:List X)(lev k:Int):Prop:=∃c k':Int,(0<=c/\c<=100)/\0<=k'/\k'<=256/\(c=0->D T H 10 x)/\∃B,∀N,B<=N->ah tab ext N (.fn 169) [.agg x,num lev,.ptr 0 0 0,.ptr 1 0 0] [.var [num k],fnB]=some (num c,[.var [num k'],fnB])
section
variable (lev:Int) (t:Bool) (ar:qaX) (m:Nat)
abbrev vsH (k:Int) (j:Nat):St:=⟨[(1,num lev),(3,.ptr 1 0 0),(23,.sl t 5 ar),(24,nat m),(25,nat j)],[.var [num k],fnB]⟩
end
theorem Ny {a b c:X}{u' v':Bool}{l f:qaX}(hd:D T h 10 [a,b,c,.sl u 6 l,.sl v 5 f]):D T h 10 [a,b,c,.sl u' 6 l,.sl v' 5 f]:=by obtain ⟨n,j,m,y⟩:=l9 hd;obtain ⟨q,L,rfl⟩:=qal.1 (show j∈List.map _ _ from m);obtain ⟨A,B,E,F,H,J⟩:=y;exact dJ n m ⟨A,B,E,F,H,J⟩
theorem zcq {H:Int}(lev:Int)(t:Bool)(ar:qaX)(m:Nat)(hm:m=ar.length)(hlen:m<=1000000)(h0:0<=lev)(h1:lev<=1000)(hok:∀x,x∈ar->∃(op n:Int) (s:qaY) (u:Bool) (vs:qaX) (v:Bool) (ar2:qaX),x=[num op,num n,aF s,.sl u 6 vs,.sl v 5 ar2]/\∀k,0<=k->k<=256->Vis H [num op,num n,aF s,.sl false 6 vs,.sl false 5 ar2] (lev+1) k)
  {k0:Int} (hk0:0<=k0) (hk1:k0<=256) {τ:St} (hτ:canon 2 τ=some (vsH lev t ar m k0 0)):
  ∃e σ' B,((∃(c k:Int) (y:List X),(c≠0/\0<=c/\c<=100)/\0<=k/\k<=256/\e=.ret/\σ'=⟨[(6,num c)],[.var [num k],fnB,.var y]⟩)\/(∃k:Int,0<=k/\k<=256/\e=.exit 0/\σ'=⟨[(1,num lev),(3,.ptr 1 0 0),(23,.sl t 5 ar),(24,nat m),(25,nat m),(26,aj false)],[.var [num k],fnB]⟩/\∀x,x∈ar->D T H 10 x))/\∀M,B<=M->run (ah tab ext M) 2 M (.loop (aH 169 0)) τ=some (e,σ'):=by
 refine jI (nIn:=2) (b:=aH 169 0) (H:=fun p:Int×Nat=>vsH lev t ar m p.1 p.2) (I:=fun p=>0<=p.1/\p.1<=256/\p.2<=m/\∀i (hi:i<ar.length),i<p.2->D T H 10 ar[i]) (μ:=fun p=>m-p.2)
  (Q:=fun e σ'=>(∃(c k:Int) (y:List X),(c≠0/\0<=c/\c<=100)/\0<=k/\k<=256/\e=.ret/\σ'=⟨[(6,num c)],[.var [num k],fnB,.var y]⟩)\/(∃k:Int,0<=k/\k<=256/\e=.exit 0/\σ'=⟨[(1,num lev),(3,.ptr 1 0 0),(23,.sl t 5 ar),(24,nat m),(25,nat m),(26,aj false)],[.var [num k],fnB]⟩/\∀x,x∈ar->D T H 10 x))
  (fun p hp=>?_) (a:=(k0,0)) ⟨hk0,hk1,Nat.zero_le _,fun i hi N=>absurd N (Nat.not_lt_zero _)⟩ hτ
 obtain ⟨k,j⟩:=p;obtain ⟨O,P,i3,i4⟩:=hp;dsimp only at O P i3 i4 ⊢;by_cases N:j<m
 ·have l:=aK N;have h:j<ar.length:=by omega
  have E:=qad h;have q:=qag h;obtain ⟨op,n,s,u,vs,v,f,e,S⟩:=hok _ q;obtain ⟨c,F,Z,U,V,Y,B,W⟩:=S k O P;have A:IntKind.i64.wrap (lev+1)=lev+1:=by rw [IntKind.wrap_i64];omega
  rw [e] at E;by_cases h0:c=0
  ·subst h0;refine .inl ⟨⟨[(1,num lev),(3,.ptr 1 0 0),(23,.sl t 5 ar),(24,nat m),(25,nat (j+1))],[.var [num F],fnB,.var [num op,num n,aF s,.sl u 6 vs,.sl v 5 f]]⟩,(F,j+1),B,fun M J=>?_,by kernel_rfl,⟨U,V,by grind,fun i hi L=>?_⟩,by grind⟩;·exact ruA [(26,.b true),(27,.e [num op,num n,aF s,.sl u 6 vs,.sl v 5 f]),(32,.i (lev+1)),(33,.r (num 0) [.var [num F],fnB]),(37,.i (Int.ofNat (j+1)))] (pf5 l E A (W M J) (aB (j:=j) (by omega)))
   dsimp only at L;by_cases pa:i<j
   ·grind
   obtain rfl:i=j:=by omega
   rw [e];exact Ny (Y rfl)
  have hb:(c !=0)=true:=by simpa using h0
  exact .inr ⟨_,_,B,(by grind),.inl ⟨c,F,[num op,num n,aF s,.sl u 6 vs,.sl v 5 f],⟨h0,Z⟩,U,V,rfl,rfl⟩,fun M J=>ruA [(26,.b true),(27,.e [num op,num n,aF s,.sl u 6 vs,.sl v 5 f]),(32,.i (lev+1)),(33,.r (num c) [.var [num F],fnB]),(35,.b true)] (pf5 l E A (W M J) hb)⟩
 obtain rfl:j=m:=by omega
 refine .inr ⟨_,_,0,(by grind),.inr ⟨k,O,P,rfl,rfl,fun x E=>?_⟩,fun M _=>ruA [(26,.b false)] (pf1 (aN (qat j)))⟩;obtain ⟨i,hi,rfl⟩:=qaT E
 grind
end Ct
namespace Ct
abbrev zuC (o na:Int):Ctr:=(dS 170 [exp] [] none [(.k .i64 0,[],bd 2 o o++[ak (.k na) ⟨6,0⟩]),(.ir .i64 1 100,[],[])]).with [bd 2 o o]
theorem znN {o na H n:Int}{vs ar:qaX}(hC:(zuC o na).Holds T Gm)(h0:0<=H)(hs:s.size<=1000000)(hvl:vs.length<=1000000)(hal:ar.length<=1000000)(hv:∀e,e∈vs->D T H 1 e)(ha:∀e,e∈ar->D T H 8 e):
  ∃c:Int,((c=0->na<=ar.length)/\0<=c/\c<=100)/\∃B,∀N,B<=N->Gam.aC (ah tab ext N) 170 [.agg [num o,num n,aF s,.sl u 6 vs,.sl v 5 ar]]=some (num c):=by
 obtain ⟨ρ,a⟩:=I9 (T:=T) (f:=170) (args:=[exp]) (inb:=[]) (mu:=none) (outs:=[(.k .i64 0,[],bd 2 o o++[ak (.k na) ⟨6,0⟩]),(.ir .i64 1 100,[],[])]) (xs:=[.agg [num o,num n,aF s,.sl u 6 vs,.sl v 5 ar]]) (bx:=[]) rfl rfl
  ⟨⟨H,_,rfl,h0,⟨o,rfl⟩,⟨n,rfl⟩,⟨s,rfl,by unfold bT;omega⟩,⟨u,vs,rfl,by unfold bT;omega,hv⟩,⟨v,ar,rfl,by unfold bT;omega,ha⟩,trivial⟩,trivial⟩ trivial
 have M:GL T _ ρ [.agg [.i .i64 ⟨2,0⟩,.i .i64 ⟨3,0⟩,.s ⟨4,0⟩,.sl none 6 1 ⟨1,0⟩ ⟨5,0⟩,.sl none 5 8 ⟨1,0⟩ ⟨6,0⟩]] [.agg [num o,num n,aF s,.sl u 6 vs,.sl v 5 ar]]:=a.args;obtain ⟨_,_,e,w,_⟩:=dB M;cases e;obtain ⟨_,e,w⟩:=zaK w;cases e;obtain ⟨_,_,e,S,w⟩:=dB w;cases e;obtain ⟨_,_,e,v2,w⟩:=dB w;cases e;obtain ⟨_,_,e,v3,w⟩:=dB w;cases e;obtain ⟨_,_,e,v4,w⟩:=dB w;cases e;obtain ⟨_,_,e,U,w⟩:=dB w;cases e;have Y:o=ρ 2:=sI S;have Z:(ar.length:Int)=ρ 6:=by
  cases U with
  |sl _ _ _ q _=>rw [q];unfold Lin.v;show ρ 6+0=_;omega
 have z:=a.zero;have Q:aY (dS 170 [exp] [] none [(.k .i64 0,[],bd 2 o o++[ak (.k na) ⟨6,0⟩]),(.ir .i64 1 100,[],[])]).m ρ (bd 2 o o):=by
  refine .cons (aJ.2 ⟨by show 0<7;decide,by show 2<7;decide,?_⟩) (.cons (aJ.2 ⟨by show 2<7;decide,by show 0<7;decide,?_⟩) .nil);·rw [Lin.k_v z];unfold Lin.v;dsimp only;omega
  rw [Lin.k_v z];unfold Lin.v;dsimp only;omega
 obtain ⟨q,y,n',ρ',r,F,P,V,L,O,h,E,B,A⟩:=BK a.zero a.pos (hC ρ _ _ (Ctr.Sat.with a Q));rcases qak.1 y with rfl|y;·obtain rfl:=nK E;have h:r=num 0:=h;subst h;have k6:ρ' 6=ρ 6:=P.same 6 (by show 6<7;decide);have l:=(aJ.1 (L (ak (.k na) ⟨6,0⟩) (List.mem_append_right _ (qaa.2 rfl)))).2.2;rw [Lin.k_v V] at l;unfold Lin.v at l;dsimp only at l;exact ⟨0,⟨fun _=>by omega,by decide,by decide⟩,B,fun N j=>aZ (A N j) rfl⟩
 obtain rfl:=qaa.1 y;obtain rfl:=nK E;obtain ⟨c,rfl,W,J⟩:=zn9 h;exact ⟨c,⟨fun e=>by omega,by omega,J⟩,B,fun N j=>aZ (A N j) rfl⟩
end Ct
namespace Ct
abbrev RN:List (Int×Int×Nat×Nat):=[(1,1,1,0),(2,2,0,0),(3,3,0,1),(4,15,0,2),(16,16,0,1),(17,17,0,2),(18,20,0,1),(21,21,0,3),(22,22,0,0),(23,23,0,2),(24,24,0,3),(25,25,0,2),(26,26,0,0),(27,28,0,1)]
theorem zqE {H op n:Int}{vs ar:qaX}{q:Int×Int×Nat×Nat}(hq:q∈RN)(h0:0<=H)(h1:q.1<=op)(h2:op<=q.2.1)(hs:s.size<=1000000)(hvl:vs.length<=1000000)(hal:ar.length<=1000000)(h3:q.2.2.1<=vs.length)(h4:q.2.2.2<=ar.length)(hv:∀e,e∈vs->D T H 1 e)(ha:∀e,e∈ar->D T H 10 e):D T (H+1) 10 [num op,num n,aF s,.sl u 6 vs,.sl v 5 ar]:=by refine dJ (by omega) (qal.2 ⟨q,hq,rfl⟩) ?_;rw [Int.add_sub_cancel];exact ⟨⟨rfl,(fun a e=>by cases e;exact h1),(fun a e=>by cases e;exact h2)⟩,⟨rfl,(fun a e=>by cases e),(fun a e=>by cases e)⟩,⟨Nat.zero_le _,hs⟩,⟨rfl,h3,hvl,hv⟩,⟨rfl,h4,hal,ha⟩,trivial⟩
theorem zgm:∀(h:Nat) {x:List X},okE h x->D T (9+(h:Int)) 8 x
 |0,_,hx=>hx.elim
 |h+1,x,hx=>by obtain ⟨op,n,s,u,vs,v,ar,rfl,h1,h2,h3,h4,_,h6⟩:=hx;rw [show (9:Int)+((h+1:Nat):Int)=9+(h:Int)+1 by omega];refine dJ (by omega) (qaa.2 rfl) ?_;rw [Int.add_sub_cancel];exact ⟨⟨rfl,(fun a e=>by cases e),(fun a e=>by cases e)⟩,⟨rfl,(fun a e=>by cases e),(fun a e=>by cases e)⟩,⟨Nat.zero_le _,h1⟩,⟨rfl,Nat.zero_le _,h2,fun e he=>gu (by omega) (h4 e he)⟩,⟨rfl,Nat.zero_le _,h3,fun e he=>zgm h (h6 e he)⟩,trivial⟩
end Ct
namespace Ct
theorem one_one {n:Int}{vs ar:qaX}(zol:∃c:Int,((c=0->1<=vs.length)/\0<=c/\c<=100)/\∃B,∀N,B<=N->Gam.aC (ah tab ext N) 216 [.sl false 6 vs]=some (num c)):
  ∃c:Int,((c=0->1<=vs.length)/\0<=c/\c<=100)/\∃B,∀N,B<=N->Gam.aC (ah tab ext N) 170 [.agg [num 1,num n,aF s,.sl false 6 vs,.sl false 5 ar]]=some (num c):=by
 obtain ⟨c,A,B,zol⟩:=zol;have f:∀{c':Int} {B:Nat},(∀M,B<=M->Gam.aC (ah tab ext (M+1)) 170 [.agg [num 1,num n,aF s,.sl false 6 vs,.sl false 5 ar]]=some (num c'))->∃B,∀N,B<=N->Gam.aC (ah tab ext N) 170 [.agg [num 1,num n,aF s,.sl false 6 vs,.sl false 5 ar]]=some (num c'):=fun {c'} {B} h=>⟨B+1,fun N E=>by obtain ⟨M,rfl⟩:=pR_ N<;>simp_all⟩;have j:∀M,1<=M->Gam.aC (ah tab ext M) 213 [num 1]=some (.tup [num 0,num 0]):=fun M a=>by obtain ⟨M,rfl⟩:∃M',M=M'+1:=⟨M-1,by omega⟩;exact aZ (ar1 M) rfl
 have l:∀M,1<=M->Gam.aC (ah tab ext M) 214 [num 1]=some (aj false):=fun M a=>by obtain ⟨M,rfl⟩:∃M',M=M'+1:=⟨M-1,by omega⟩;exact puA [] pf0 (aj false)
 have m:∀M,1<=M->Gam.aC (ah tab ext M) 215 [num 1]=some (aj false):=fun M a=>by obtain ⟨M,rfl⟩:∃M',M=M'+1:=⟨M-1,by omega⟩;exact puA [] pf0 (aj false)
 cases q:(!s.toList==(⟨#[]⟩:qaY).toList) with
 |true=>exact ⟨3,⟨(fun e=>by cases e),by decide,by decide⟩,f (B:=1) fun M a=>puA [(19,.p (.tup [num 0,num 0])),(35,.p (aj false)),(40,.b true)] (pf3 (j M a) (l M a) q) (num 3)⟩
 |false=>
  cases u:(n !=0) with
  |true=>exact ⟨3,⟨(fun e=>by cases e),by decide,by decide⟩,f (B:=1) fun M a=>puA [(19,.p (.tup [num 0,num 0])),(35,.p (aj false)),(40,.b false),(46,.p (aj false)),(51,.b true)] (pf5 (j M a) (l M a) q (m M a) u) (num 3)⟩
  |false=>
   cases y:decide (Int.ofNat ar.length>0) with
   |true=>exact ⟨3,⟨(fun e=>by cases e),by decide,by decide⟩,f (B:=1) fun M a=>puA [(19,.p (.tup [num 0,num 0])),(35,.p (aj false)),(40,.b false),(46,.p (aj false)),(51,.b false),(61,.b true)] (pf6 (j M a) (l M a) q (m M a) u y) (num 3)⟩
   |false=>exact ⟨c,A,f (B:=B+1) fun M a=>puA [(19,.p (.tup [num 0,num 0])),(35,.p (aj false)),(40,.b false),(46,.p (aj false)),(51,.b false),(61,.b false),(74,.b false),(86,.p (num c))] (pf8 (j M (by omega)) (l M (by omega)) q (m M (by omega)) u y y (zol M (by omega))) (num c)⟩
theorem zdI {H op n:Int}{vs ar:qaX}(h0:0<=H)(hs:s.size<=1000000)(hvl:vs.length<=1000000)(hal:ar.length<=1000000)(hv:∀e,e∈vs->D T H 1 e)(ha:∀e,e∈ar->D T H 8 e)(zol:op=1->∃c:Int,((c=0->1<=vs.length)/\0<=c/\c<=100)/\∃B,∀N,B<=N->Gam.aC (ah tab ext N) 216 [.sl false 6 vs]=some (num c)):
  ∃c:Int,((c=0->∃q,q∈RN/\q.1<=op/\op<=q.2.1/\q.2.2.1<=vs.length/\q.2.2.2<=ar.length)/\0<=c/\c<=100)/\∃B,∀N,B<=N->Gam.aC (ah tab ext N) 170 [.agg [num op,num n,aF s,.sl false 6 vs,.sl false 5 ar]]=some (num c):=by
 by_cases f:op<1;·exact ⟨11,⟨(fun e=>by cases e),by decide,by decide⟩,1,fun N y=>by obtain ⟨M,rfl⟩:=pR_ N;exact puA [(10,.b true)] (pf1 (decide_eq_true f)) (num 11)⟩
 by_cases m:op>28;·exact ⟨11,⟨(fun e=>by cases e),by decide,by decide⟩,1,fun N y=>by obtain ⟨M,rfl⟩:=pR_ N;exact puA [(10,.b false),(14,.b true)] (pf2 (decide_eq_false f) (decide_eq_true m)) (num 11)⟩
 have a:∀{o na:Int} {q:Int×Int×Nat×Nat},op=o->q∈RN->q.1<=o->o<=q.2.1->q.2.2.1=0->(q.2.2.2:Int)=na->(zuC o na).Holds T Gm->∃c:Int,((c=0->∃q,q∈RN/\q.1<=op/\op<=q.2.1/\q.2.2.1<=vs.length/\q.2.2.2<=ar.length)/\0<=c/\c<=100)/\∃B,∀N,B<=N->Gam.aC (ah tab ext N) 170 [.agg [num op,num n,aF s,.sl false 6 vs,.sl false 5 ar]]=some (num c):=fun {o na q} ho hq k1 k2 k3 k4 hC=>by subst ho;obtain ⟨c,j,l⟩:=znN (n:=n) (u:=false) (v:=false) hC h0 hs hvl hal hv ha;exact ⟨c,⟨fun e=>⟨q,hq,k1,k2,by omega,by grind⟩,j.2⟩,l⟩
 rcases znF (op:=op) (by omega) (by omega) with h|h|h|h|h|h|h|h|h|h|h|h|h|h|h|h|h|h|h|h|h|h|h|h|h|h|h|h;·subst h;obtain ⟨c,j,l⟩:=one_one (n:=n) (s:=s) (ar:=ar) (zol rfl);exact ⟨c,⟨fun e=>⟨(1,1,1,0),by simp,by decide,by decide,j.1 e,Nat.zero_le _⟩,j.2⟩,l⟩
 ·exact a (q:=(2,2,0,0)) h (by simp) (by decide) (by decide) rfl rfl (Wh _ (qaa.2 rfl))
 ·exact a (q:=(3,3,0,1)) h (by simp) (by decide) (by decide) rfl rfl (V9 _ (qaa.2 rfl))
 ·exact a (q:=(4,15,0,2)) h (by simp) (by decide) (by decide) rfl rfl (V8 _ (qaa.2 rfl))
 ·exact a (q:=(4,15,0,2)) h (by simp) (by decide) (by decide) rfl rfl (V7 _ (qaa.2 rfl))
 ·exact a (q:=(4,15,0,2)) h (by simp) (by decide) (by decide) rfl rfl (V6 _ (qaa.2 rfl))
 ·exact a (q:=(4,15,0,2)) h (by simp) (by decide) (by decide) rfl rfl (V5 _ (qaa.2 rfl))
 ·exact a (q:=(4,15,0,2)) h (by simp) (by decide) (by decide) rfl rfl (V4 _ (qaa.2 rfl))
 ·exact a (q:=(4,15,0,2)) h (by simp) (by decide) (by decide) rfl rfl (V3 _ (qaa.2 rfl))
 ·exact a (q:=(4,15,0,2)) h (by simp) (by decide) (by decide) rfl rfl (P7 _ (qaa.2 rfl))
 ·exact a (q:=(4,15,0,2)) h (by simp) (by decide) (by decide) rfl rfl (P6 _ (qaa.2 rfl))
 ·exact a (q:=(4,15,0,2)) h (by simp) (by decide) (by decide) rfl rfl (P5 _ (qaa.2 rfl))
 ·exact a (q:=(4,15,0,2)) h (by simp) (by decide) (by decide) rfl rfl (PZ _ (qaa.2 rfl))
 ·exact a (q:=(4,15,0,2)) h (by simp) (by decide) (by decide) rfl rfl (PY _ (qaa.2 rfl))
 ·exact a (q:=(4,15,0,2)) h (by simp) (by decide) (by decide) rfl rfl (PX _ (qaa.2 rfl))
 ·exact a (q:=(16,16,0,1)) h (by simp) (by decide) (by decide) rfl rfl (PW _ (qaa.2 rfl))
 ·exact a (q:=(17,17,0,2)) h (by simp) (by decide) (by decide) rfl rfl (PV _ (qaa.2 rfl))
 ·exact a (q:=(18,20,0,1)) h (by simp) (by decide) (by decide) rfl rfl (PU _ (qaa.2 rfl))
 ·exact a (q:=(18,20,0,1)) h (by simp) (by decide) (by decide) rfl rfl (PS _ (qaa.2 rfl))
 ·exact a (q:=(18,20,0,1)) h (by simp) (by decide) (by decide) rfl rfl (PO _ (qaa.2 rfl))
 ·exact a (q:=(21,21,0,3)) h (by simp) (by decide) (by decide) rfl rfl (PN _ (qaa.2 rfl))
 ·exact a (q:=(22,22,0,0)) h (by simp) (by decide) (by decide) rfl rfl (PL _ (qaa.2 rfl))
 ·exact a (q:=(23,23,0,2)) h (by simp) (by decide) (by decide) rfl rfl (PK _ (qaa.2 rfl))
 ·exact a (q:=(24,24,0,3)) h (by simp) (by decide) (by decide) rfl rfl (PI _ (qaa.2 rfl))
 ·exact a (q:=(25,25,0,2)) h (by simp) (by decide) (by decide) rfl rfl (PG _ (qaa.2 rfl))
 ·exact a (q:=(26,26,0,0)) h (by simp) (by decide) (by decide) rfl rfl (PE _ (qaa.2 rfl))
 ·exact a (q:=(27,28,0,1)) h (by simp) (by decide) (by decide) rfl rfl (PD _ (qaa.2 rfl))
 exact a (q:=(27,28,0,1)) h (by simp) (by decide) (by decide) rfl rfl (Pz _ (qaa.2 rfl))
end Ct
namespace Ct
theorem Rl:∀(h:Nat) (op n:Int) (s:qaY) (u v:Bool) (vs ar:qaX),okE h [num op,num n,aF s,.sl u 6 vs,.sl v 5 ar]->∀lev k:Int,0<=lev->lev+h<=1000->0<=k->k<=256->Vis (9+(h:Int)) [num op,num n,aF s,.sl false 6 vs,.sl false 5 ar] lev k
 |0,_,_,_,_,_,_,_,hx=>hx.elim
 |h+1,op,n,s,u,v,vs,ar,hx=>fun lev k l0 l1 k0 k1=>by
  obtain ⟨op',n',s',u',vs',v',ar',e,a1,a2,a3,a4,a5,a6⟩:=hx;simp only [num,aF,List.cons.injEq,X.v.injEq,Value.int.injEq,Value.string.injEq,X.sl.injEq,and_true,true_and] at e;obtain ⟨rfl,rfl,rfl,⟨_,rfl⟩,⟨_,rfl⟩⟩:=e;have lift:∀{c k':Int} {B:Nat},(∀M,B<=M->ah tab ext (M+1) (.fn 169) [.agg [num op,num n,aF s,.sl false 6 vs,.sl false 5 ar],num lev,.ptr 0 0 0,.ptr 1 0 0] [.var [num k],fnB]=some (num c,[.var [num k'],fnB]))->∃B,∀N,B<=N->ah tab ext N (.fn 169) [.agg [num op,num n,aF s,.sl false 6 vs,.sl false 5 ar],num lev,.ptr 0 0 0,.ptr 1 0 0] [.var [num k],fnB]=some (num c,[.var [num k'],fnB]):=fun {c k' B} h=>⟨B+1,fun N hN=>by obtain ⟨M,rfl⟩:=pR_ N<;>simp_all⟩;have hD8:∀e,e∈ar->D T (9+(h:Int)) 8 e:=fun e he=>zgm h (a6 e he);have hv:∀e,e∈vs->D T (9+(h:Int)) 1 e:=fun e he=>gu (by omega) (a4 e he);obtain ⟨c,hc,B1,zrG⟩:=zdI (H:=9+(h:Int)) (op:=op) (n:=n) (by omega) a1 a2 a3 hv hD8 a5;cases h1:(k==256) with
  |true=>exact ⟨9,k,by decide,k0,k1,(fun e=>by cases e),lift (B:=0) fun M _=>caA [(12,.b true)] (pf1 h1) (r:=some (num 9,[.var [num k],fnB]))⟩
  |false=>
   have kne:k≠256:=by simpa using h1
   have hk:IntKind.i64.wrap (k+1)=k+1:=by rw [IntKind.wrap_i64];omega
   cases h2:decide (lev>8) with
   |true=>exact ⟨23,k+1,by decide,by omega,by omega,(fun e=>by cases e),lift (B:=0) fun M _=>caA [(12,.b false),(14,.i (k+1)),(16,.b true)] (pf3 h1 hk h2) (r:=some (num 23,[.var [num (k+1)],fnB]))⟩
   |false=>
    by_cases c0:c=0
    ·subst c0;obtain ⟨q,hq,q1,q2,q3,q4⟩:=hc.1 rfl;obtain ⟨e,σ',B2,hr,hl⟩:=zcq (H:=9+(h:Int)) lev false ar ar.length rfl a3 l0 (by omega) (fun x hx=>by
      cases h with
      |zero=>exact (a6 x hx).elim
      |succ h'=>obtain ⟨op2,n2,s2,u2,vs2,v2,ar2,e,_⟩:=a6 x hx;exact ⟨op2,n2,s2,u2,vs2,v2,ar2,e,fun k' k2 k3=>Rl (h'+1) op2 n2 s2 u2 v2 vs2 ar2 (e▸a6 x hx) (lev+1) k' (by omega) (by omega) k2 k3⟩) (k0:=k+1) (by omega) (by omega)
      (τ:=⟨[(1,num lev),(3,.ptr 1 0 0),(23,.sl false 5 ar),(24,nat ar.length),(25,num 0)],[.var [num (k+1)],fnB,.var [num op,num n,aF s,.sl false 6 vs,.sl false 5 ar]]⟩) (by kernel_rfl)
     rcases hr with ⟨c,k',y,c1,c2,c3,rfl,rfl⟩|⟨k',c2,c3,rfl,rfl,hall⟩;·exact ⟨c,k',c1.2,c2,c3,fun e=>absurd e c1.1,lift (B:=max B1 B2) fun M hM=>caB [(12,.b false),(14,.i (k+1)),(16,.b false),(18,.p (num 0))] [(.ret,⟨[(6,num c)],[.var [num k'],fnB,.var y]⟩)] (pf5 h1 hk h2 (zrG M (by omega)) (hl M (by omega))) (r:=some (num c,[.var [num k'],fnB]))⟩
     refine ⟨0,k',by decide,c2,c3,fun _=>?_,lift (B:=max B1 B2) fun M hM=>?_⟩;·rw [show (9:Int)+((h+1:Nat):Int)=9+(h:Int)+1 by omega];exact zqE hq (by omega) q1 q2 a1 a2 a3 q3 q4 hv hall
     have hl:=hl M (by omega);generalize ar.length=m at hl;exact caB [(12,.b false),(14,.i (k+1)),(16,.b false),(18,.p (num 0))] [(.exit 0,⟨[(1,num lev),(3,.ptr 1 0 0),(23,.sl false 5 ar),(24,nat m),(25,nat m),(26,aj false)],[.var [num k'],fnB]⟩)] (pf5 h1 hk h2 (zrG M (by omega)) hl) (r:=some (num 0,[.var [num k'],fnB]))
    have hb:(c !=0)=true:=by simpa using c0
    exact ⟨c,k+1,hc.2,by omega,by omega,fun e=>absurd e c0,lift (B:=B1) fun M hM=>caA [(12,.b false),(14,.i (k+1)),(16,.b false),(18,.p (num c)),(20,.b true)] (pf5 h1 hk h2 (zrG M hM) hb) (r:=some (num c,[.var [num (k+1)],fnB]))⟩
theorem WO {h:Nat}(hh:h<=900){op n:Int}{vs ar:qaX}(hx:okE h [num op,num n,aF s,.sl u 6 vs,.sl v 5 ar]):∃c:Int,((c=0->D T (9+(h:Int)) 10 [num op,num n,aF s,.sl u 6 vs,.sl v 5 ar])/\0<=c/\c<=100)/\Back 119 [.agg [num op,num n,aF s,.sl u 6 vs,.sl v 5 ar]] (num c):=by obtain ⟨c,l,f,m,q,a,B,j⟩:=Rl h op n s u v vs ar hx 1 0 (by decide) (by omega) (by decide) (by decide);refine ⟨c,⟨fun e=>Ny (a e),f⟩,B+1,fun N y=>?_⟩;obtain ⟨M,rfl⟩:=pR_ N;exact caA [(8,.r (num c) [.var [num l],fnB])] (pf1 (j M (by omega))) (r:=some (num c,[]))
end Ct
namespace Ct
def zw9:List Ctr:=[mkC 297 [.ir .i64 0 12] [] none [(.ir .i64 1 1000000000000,[])]]
theorem zmJ (n:Nat)(h:n<=12):∃z:Int,1<=z/\z<=1000000000000/\∀N,ah tab ext (N+20) (.fn 297) [.v (.int .i64 n)] []=some (.v (.int .i64 z),[]):=by
 have:n=0\/n=1\/n=2\/n=3\/n=4\/n=5\/n=6\/n=7\/n=8\/n=9\/n=10\/n=11\/n=12:=by omega
 rcases this with rfl|rfl|rfl|rfl|rfl|rfl|rfl|rfl|rfl|rfl|rfl|rfl|rfl;·exact ⟨1,by omega,by omega,fun N=>caA [] pf0 (r:=some (.v (.int .i64 1),[]))⟩
 ·exact ⟨10,by omega,by omega,fun N=>caA [] pf0 (r:=some (.v (.int .i64 10),[]))⟩
 ·exact ⟨100,by omega,by omega,fun N=>caA [] pf0 (r:=some (.v (.int .i64 100),[]))⟩
 ·exact ⟨1000,by omega,by omega,fun N=>caA [] pf0 (r:=some (.v (.int .i64 1000),[]))⟩
 ·exact ⟨10000,by omega,by omega,fun N=>caA [] pf0 (r:=some (.v (.int .i64 10000),[]))⟩
 ·exact ⟨100000,by omega,by omega,fun N=>caA [] pf0 (r:=some (.v (.int .i64 100000),[]))⟩
 ·exact ⟨1000000,by omega,by omega,fun N=>caA [] pf0 (r:=some (.v (.int .i64 1000000),[]))⟩
 ·exact ⟨10000000,by omega,by omega,fun N=>caA [] pf0 (r:=some (.v (.int .i64 10000000),[]))⟩
 ·exact ⟨100000000,by omega,by omega,fun N=>caA [] pf0 (r:=some (.v (.int .i64 100000000),[]))⟩
 ·exact ⟨1000000000,by omega,by omega,fun N=>caA [] pf0 (r:=some (.v (.int .i64 1000000000),[]))⟩
 ·exact ⟨10000000000,by omega,by omega,fun N=>caA [] pf0 (r:=some (.v (.int .i64 10000000000),[]))⟩
 ·exact ⟨100000000000,by omega,by omega,fun N=>caA [] pf0 (r:=some (.v (.int .i64 100000000000),[]))⟩
 exact ⟨1000000000000,by omega,by omega,fun N=>caA [] pf0 (r:=some (.v (.int .i64 1000000000000),[]))⟩
theorem zaL:ay T Gm zw9:=.one (dH (fun o m=>by rw [qaa.1 m];exact ⟨rfl,rfl⟩) fun u a j l=>by
 match u,a,j,l with
 |[_],[],⟨⟨z,rfl,h1,h2⟩,_⟩,_=>obtain ⟨n,rfl⟩:∃n:Nat,z=n:=⟨z.toNat,by omega⟩;obtain ⟨y,f,h,q⟩:=zmJ n (by omega);refine ⟨_,qaa.2 rfl,.v (.int .i64 y),[],⟨y,rfl,f,h⟩,trivial,20,fun N A=>?_⟩;obtain ⟨M,rfl⟩:∃M,N=M+20:=⟨N-20,by omega⟩;exact q M)
end Ct
set_option linter.all false
namespace Ct
def zt5:List Ctr:=[mkC 269 [.ir .i64 (-999999999999999) (-1)] [] none [(.ir .i64 1 999999999999999,[])],mkC 269 [.ir .i64 0 0] [] none [(.ir .i64 0 0,[])],mkC 269 [.ir .i64 1 999999999999999] [] none [(.ir .i64 1 999999999999999,[])],dS 269 [int] [] none [(int,[],[lt 1 0 2])]]
theorem yw:ay T Gm zt5:=hoA K .nil
def zwf:List Ctr:=[dS 276 [rV] [] none [(.k .i64 0,[],bd 1 (-999999999999999) 999999999999999++bd 2 0 12),(.ir .i64 1 100,[],[])]]
theorem Qa:ay T Gm zwf:=hoA K yw
def zwm:List Ctr:=[mkC 261 [.sl 2 9] [] none [(err,[])]]
theorem yx:ay T Gm zwm:=hoB K ((iQ [⟨[6,7,8],fun e n=>(n+1,[ak (.k 0) ⟨n+0,0⟩,ak ⟨n+0,0⟩ (e 1)],[(6,.sl none 2 9 (e 0) (e 1)),(7,.i .i64 (e 1)),(8,.i .i64 ⟨n+0,0⟩)],[],(e 1,⟨n+0,0⟩))⟩])) Qa
def zwl:List Ctr:=[mkC 262 [Sr] [] none [(.tu [int,int],[])]]
theorem zao:ay T Gm zwl:=hoA K zaL
def zw1:List Ctr:=[mkC 157 [int] [] none [((.kb true),[]),((.kb false),[])]]
theorem zj0:ay T Gm zw1:=hoA K .nil
def zw4:List Ctr:=[mkC 109 [int,int] [] none [((int),[])]]
theorem Qm:ay T Gm zw4:=hoA K zj0
def zw5:List Ctr:=[mkC 108 [.sl 1 3] [] none [((int),[])]]
theorem zaE:ay T Gm zw5:=hoB K ((iQ [⟨[3,6,7,8],fun e n=>(n+1,[ak (.k 0) ⟨n+0,0⟩,ak ⟨n+0,0⟩ (e 2)],[(3,.i .i64 (.k 0)),(6,.sl none 1 3 (e 1) (e 2)),(7,.i .i64 (e 2)),(8,.i .i64 ⟨n+0,0⟩)],[],(e 2,⟨n+0,0⟩))⟩])) .nil
def zwK:List Ctr:=[mkC 223 [Sr,Sr] [] none [(.tu [int,err],[])]]
theorem zjC:ay T Gm zwK:=hoA K (hpA yx (hpA zao (hpA Qm zaE)))
def zwi:List Ctr:=[mkC 270 [int,int] [] none [(((.tu [rV,err])),[])]]
theorem Qb:ay T Gm zwi:=hoA K yw
def zwk:List Ctr:=[mkC 267 [.sl 2 9,.ir .i64 0 12] [] none [(.tu [rV,err],[])]]
theorem zan:ay T Gm zwk:=hoB K ((iQ [⟨[1,4,6,7,8,14,15,16],fun e n=>(n+3,[ak (.k 0) ⟨n+2,0⟩,ak ⟨n+2,0⟩ (e 6)],[(1,.i .i64 (e 0)),(4,.ptr 0 (.k 0) 0),(6,.i .i64 (e 2)),(7,.i .i64 ⟨n+0,0⟩),(8,.i .i64 ⟨n+1,0⟩),(14,.sl none 2 9 (e 5) (e 6)),(15,.i .i64 (e 6)),(16,.i .i64 ⟨n+2,0⟩)],[.var [.i .i64 (.k 0),.i .i64 (.k 0)]],(e 6,⟨n+2,0⟩))⟩])) (hpA zaL (hpA zao (hpA yw Qb)))
def zwI:List Ctr:=[mkC 227 [.sl 2 9] [] none [(.tu [rV,err],[])]]
theorem zjB:ay T Gm zwI:=hoB K ((iQ [⟨[0,2,5,18,19,20],fun e n=>(n+2,[ak (.k 0) ⟨n+0,0⟩,ak (.k 0) ⟨n+1,0⟩,ak ⟨n+1,0⟩ (e 1),ak ⟨n+0,0⟩ (.k 12)],[(0,.sl none 2 9 (e 0) (e 1)),(2,.ptr 0 (.k 0) 0),(5,.i .i64 ⟨n+0,0⟩),(18,.sl none 2 9 (e 0) (e 1)),(19,.i .i64 (e 1)),(20,.i .i64 ⟨n+1,0⟩)],[.var [.i .i64 (.k 0),.i .i64 (.k 0)]],(e 1,⟨n+1,0⟩))⟩])) (hpA yx zan)
def zwG:List Ctr:=[mkC 229 [Sr,Sr] [] none [(.tu [rV,err],[])]]
theorem zat:ay T Gm zwG:=hoA K (hpA yx zan)
def zwF:List Ctr:=[mkC 230 [Sr,Sr] [] none [(.tu [rV,err],[])]]
theorem zjA:ay T Gm zwF:=hoA K (hpA yx zat)
def zwE:List Ctr:=[mkC 231 [Sr,.ag [.ir .i64 (-999999999999999) (-1),.ir .i64 0 12]] [] none [(.tu [rV,err],[])],mkC 231 [Sr,.ag [.ir .i64 0 0,.ir .i64 0 12]] [] none [(.tu [rV,err],[])],mkC 231 [Sr,.ag [.ir .i64 1 999999999999999,.ir .i64 0 12]] [] none [(.tu [rV,err],[])]]
theorem Qg:ay T Gm zwE:=hoA K (hpA yx (hpA yw Qb))
def zwh:List Ctr:=[mkC 271 [.ir .i64 (-999999999999999) 999999999999999,.ir .i64 (-999999999999999) (-1),.ir .i64 (-24) 24] [] none [(int,[])],mkC 271 [.ir .i64 (-999999999999999) 999999999999999,.ir .i64 1 999999999999999,.ir .i64 (-24) 24] [] none [(int,[])]]
theorem zjm:ay T Gm zwh:=hoB K ((iQ [⟨[0,1,2],fun e n=>(n+2,[ak (.k 0) ⟨n+0,-1⟩,ak ⟨n+1,0⟩ (.k 24),ak (e 2) ⟨n+1,0⟩,ak ⟨n+0,0⟩ (.k 39999999999999960)],[(0,.i .i64 (e 0)),(1,.i .i64 ⟨n+0,0⟩),(2,.i .i64 ⟨n+1,0⟩)],[],(e 1,⟨n+1,0⟩))⟩,⟨[1,2,7,8],fun e n=>(n+3,[ak (.k 0) ⟨n+0,0⟩,ak ⟨n+0,0⟩ (e 1),ak ⟨n+1,0⟩ (.k 9223372036854775807),ak (.k 0) ⟨n+1,9223372036854775808⟩,ak (.k 0) ⟨n+2,39999999999999959⟩,ak ⟨n+2,0⟩ ((e 0).up (-1))],[(1,.i .i64 (e 0)),(2,.i .i64 ⟨n+0,0⟩),(7,.i .i64 ⟨n+1,0⟩),(8,.i .i64 ⟨n+2,0⟩)],[],(⟨n+0,0⟩,.k 0))⟩,⟨[0,1,2],fun e n=>(n+2,[ak (.k 0) ⟨n+0,-1⟩,ak ⟨n+1,0⟩ (.k 24),ak (e 2) ⟨n+1,0⟩,ak ⟨n+0,0⟩ (.k 39999999999999960)],[(0,.i .i64 (e 0)),(1,.i .i64 ⟨n+0,0⟩),(2,.i .i64 ⟨n+1,0⟩)],[],(e 1,⟨n+1,0⟩))⟩,⟨[1,2,7,8],fun e n=>(n+3,[ak (.k 0) ⟨n+0,0⟩,ak ⟨n+0,0⟩ (e 1),ak ⟨n+1,0⟩ (.k 9223372036854775807),ak (.k 0) ⟨n+1,9223372036854775808⟩,ak (.k 0) ⟨n+2,39999999999999959⟩,ak ⟨n+2,0⟩ ((e 0).up (-1))],[(1,.i .i64 (e 0)),(2,.i .i64 ⟨n+0,0⟩),(7,.i .i64 ⟨n+1,0⟩),(8,.i .i64 ⟨n+2,0⟩)],[],(⟨n+0,0⟩,.k 0))⟩])) yw
def zwD:List Ctr:=[mkC 232 [Sr,.ag [.ir .i64 (-999999999999999) (-1),.ir .i64 0 12],int] [] none [(.tu [rV,err],[])],mkC 232 [Sr,.ag [.ir .i64 0 0,.ir .i64 0 12],int] [] none [(.tu [rV,err],[])],mkC 232 [Sr,.ag [.ir .i64 1 999999999999999,.ir .i64 0 12],int] [] none [(.tu [rV,err],[])]]
theorem Qe:ay T Gm zwD:=hoA K (hpA yx (hpA zjm Qb))
def zwC:List Ctr:=[mkC 236 [rV] [] none [(((.tu [rV,err])),[])]]
theorem zjz:ay T Gm zwC:=hoA K Qa
end Ct
namespace Ct
def okN (a s:Int):Prop:=-999999999999999<=a/\a<=999999999999999/\0<=s/\s<=12
theorem zgM (a s:Int):∃e:Int,((e=0->okN a s)/\0<=e/\e<=100)/\∃B,∀N,B<=N->ah tab ext N (.fn 276) [.agg [num a,num s]] []=some (num e,[]):=by
 have h:=Qa _ (qaa.2 rfl);obtain ⟨o,q,ρ',r,y,u,j,l,m,B,A⟩:=h (fun n=>match n with|1=>a|2=>s|_=>0) [.agg [num a,num s]] [] ⟨rfl,by decide,(fun f E=>by cases E),⟨[],qaa.2 rfl,(fun f E=>by grind)⟩,
  .cons (.agg (.cons (.i (by decide) (by show _=_+(0:Int)<;>simp_all)) (.cons (.i (by decide) (by show _=_+(0:Int)<;>simp_all)) .nil))) .nil,.nil⟩
 have z:ρ' 0=0:=u.same 0 (by decide);have L:ρ' 1=a:=u.same 1 (by decide);have M:ρ' 2=s:=u.same 2 (by decide);rcases qak.1 q with rfl|q
 ·have l:G T _ ρ' (.i .i64 (.k 0)) r:=l;have m:GBs T _ ρ' [] y:=m;cases m;cases l with
  |i q1 q2=>rw [Lin.k_v z] at q2;subst q2;refine ⟨0,⟨fun _=>?_,by decide,by decide⟩,B,A⟩;have F:=aJ.1 (j (ak (.k (-999999999999999)) ⟨1,0⟩) (by grind[bd]));have H:=aJ.1 (j (ak ⟨1,0⟩ (.k 999999999999999)) (by grind[bd]));have O:=aJ.1 (j (ak (.k 0) ⟨2,0⟩) (by grind[bd]));have P:=aJ.1 (j (ak ⟨2,0⟩ (.k 12)) (by simp [dS,mkC,LW,bd]))<;>grind[Lin.k_v,Lin.v,okN]
 rcases qak.1 q with rfl|q
 ·have l:G T _ ρ' (.i .i64 ⟨3,0⟩) r:=l;have m:GBs T _ ρ' [] y:=m;cases m;cases l with
  |i q1 q2=>rename_i J;have F:=aJ.1 (j (ak (.k 1) ⟨3,0⟩) (by grind[LW,bnd,Sh.bld]));have H:=aJ.1 (j (ak ⟨3,0⟩ (.k 100)) (by grind[LW,bnd,Sh.bld]));rw [Lin.k_v z,<-q2] at F H;exact ⟨J,⟨fun e=>by omega,by omega,by omega⟩,B,A⟩
 simp_all
def nc (p:Int×Int):List X:=[num p.1,num p.2]
theorem Hf (t:Bool)(l:List (Int×Int))(hl:l.length<=2000000):∃e:Int,((e=0->∀p,p∈l->okN p.1 p.2)/\0<=e/\e<=100)/\Back 261 [.sl t 2 (l.map nc)] (num e):=by
 obtain ⟨E,B,A⟩:=oK l (R:=fun p (e:Int)=>(e=0->okN p.1 p.2)/\0<=e/\e<=100) (Q:=fun p e N=>Gam.aC (ah tab ext N) 276 [.agg [num p.1,num p.2]]=some (num e)) (fun p _=>by obtain ⟨e,S,U⟩:=zgM p.1 p.2;exact ⟨e,S,ig U rfl⟩);have O:(l.map nc).length=l.length:=qaD ..;have L:=zhL (nIn:=0) (b:=aH 261 0) (H:=fun j=>⟨[(6,.sl t 2 (l.map nc)),(7,nat (l.map nc).length),(8,nat j)],[]⟩) (P:=fun j=>E (l.getD j (0,0))!=0) (r:=fun j=>⟨[(2,num (E (l.getD j (0,0))))],[.var (nc (l.getD j (0,0)))]⟩)
  (υ:=fun j=>⟨[(6,.sl t 2 (l.map nc)),(7,nat (l.map nc).length),(8,nat (j+1))],[.var (nc (l.getD j (0,0)))]⟩) (τ:=⟨[(6,.sl t 2 (l.map nc)),(7,nat (l.map nc).length),(8,nat 0)],[]⟩) (n:=l.length) (B:=B) (e:=.exit 0)
  (fin:=⟨[(6,.sl t 2 (l.map nc)),(7,nat (l.map nc).length),(8,nat l.length),(9,aj false)],[]⟩) (by kernel_rfl)
  (fun j f m M F=>by
   have u:(l.map nc)[j]?=some (nc (l.getD j (0,0))):=by rw [qav,qaA,qad f];rfl
   have y:l.getD j (0,0)∈l:=by rw [qaA,qad f];exact qag f
   have q:=(A _ y).2 M F;generalize l.getD j (0,0)=p at u q m ⊢;generalize E p=e at q m ⊢;obtain ⟨a,s⟩:=p;exact ruA [(9,.b true),(10,.e ([num a,num s])),(13,.p (num e)),(15,.b true)] (pf4 (aK (j:=j) (k:=(l.map nc).length) (by omega)) u q m))
  (fun j f m=>⟨by kernel_rfl,fun M F=>by
   have u:(l.map nc)[j]?=some (nc (l.getD j (0,0))):=by rw [qav,qaA,qad f];rfl
   have y:l.getD j (0,0)∈l:=by rw [qaA,qad f];exact qag f
   have q:=(A _ y).2 M F;generalize l.getD j (0,0)=p at u q m ⊢;generalize E p=e at q m ⊢;obtain ⟨a,s⟩:=p;exact ruA [(9,.b true),(10,.e ([num a,num s])),(13,.p (num e)),(15,.b false),(17,.i (Int.ofNat (j+1)))] (pf5 (aK (j:=j) (k:=(l.map nc).length) (by omega)) u q m (aB (j:=j) (by omega)))⟩)
  (fun M _=>ruA [(9,.b false)] (pf1 (aN (j:=l.length) (k:=(l.map nc).length) (by omega)))) (by simp)
 rcases L with ⟨j,f,m,_,h⟩|⟨Z,h⟩
 ·have y:l.getD j (0,0)∈l:=by rw [qaA,qad f];exact qag f
  have J:=(A _ y).1.2;generalize l.getD j (0,0)=p at m h J;obtain ⟨a,s⟩:=p;generalize E (a,s)=e at m h J;refine ⟨e,⟨fun Y=>by grind,J⟩,B+l.length+2,fun N V=>?_⟩;obtain ⟨M,rfl⟩:=pR_ N;exact caB [] [(.ret,⟨[(2,num e)],[.var (nc (a,s))]⟩)] (pf1 (h M (by omega) (by omega))) (r:=some (num e,[]))
 refine ⟨0,⟨fun _ p W=>?_,by decide,by decide⟩,B+l.length+2,fun N V=>?_⟩
 ·obtain ⟨j,f,rfl⟩:=qaT W
  grind
 obtain ⟨M,rfl⟩:=pR_ N;exact caB [] [(.exit 0,⟨[(6,.sl t 2 (l.map nc)),(7,nat (l.map nc).length),(8,nat l.length),(9,aj false)],[]⟩)] (pf1 (h M (by omega) (by omega))) (r:=some (num 0,[]))
end Ct
namespace Ct
theorem isN {T:Tab}{x:X}(hx:rV.Is T h x):∃a s,x=.agg [num a,num s]:=by
 match x,hx with
 |_,⟨xs,rfl,hx⟩=>
  match xs,hx with
  |[_,_],⟨⟨a,rfl⟩,⟨s,rfl⟩,_⟩=>exact ⟨a,s,rfl⟩
theorem Gy {T:Tab}(a s:Int):rV.Is T h (.agg [num a,num s]):=⟨_,rfl,⟨a,rfl⟩,⟨s,rfl⟩,trivial⟩
theorem Xt {T:Tab}{s:Int}(hk:okN a s):Sr.Is T h (.agg [num a,num s]):=⟨_,rfl,⟨a,rfl,hk.1,hk.2.1⟩,⟨s,rfl,hk.2.2.1,hk.2.2.2⟩,trivial⟩
theorem uq {f:FuncId}{args:List X}{outs:List (Sh×List BSh)}{o:Sh}{x:X}(ho:(o,[])∈outs)(hx:o.Is T 0 x)(h:∀M,B<=M->ah tab ext (M+1) (.fn f) args []=some (x,[])):Says T Gm f args [] outs:=
 ⟨_,ho,x,[],hx,trivial,B+1,fun N a=>by obtain ⟨M,rfl⟩:=pR_ N<;>simp_all⟩
theorem NJ (t:Bool)(a s b u:Int):(okN a s/\okN b u)\/∃e:Int,((e !=0)=true/\0<=e/\e<=100)/\∃B,∀N,B<=N->Gam.aC (ah tab ext N) 261 [.sl t 2 [[num a,num s],[num b,num u]]]=some (num e):=by
 obtain ⟨e,⟨j,h⟩,f⟩:=Hf t [(a,s),(b,u)] (by simp);by_cases l:e=0;·simp_all
 exact .inr ⟨e,⟨by grind,h⟩,ig f rfl⟩
def zxl:List Ctr:=[mkC 223 [rV,rV] [] none [(.tu [int,err],[])]]
theorem zaQ:ay T Gm zxl:=.one (dH (fun o y=>by rw [qaa.1 y];exact ⟨rfl,rfl⟩) fun F f m n=>by
 match F,f,m,n with
 |[_,_],[],⟨h1,h2,_⟩,_=>
  obtain ⟨a,s,rfl⟩:=isN h1;obtain ⟨b,u,rfl⟩:=isN h2;rcases NJ false a s b u with ⟨A,E⟩|⟨e,⟨q,h⟩,B,j⟩;·exact dX (zjC _ (qaa.2 rfl)) rfl rfl ⟨Xt A,Xt E,trivial⟩ trivial
  exact uq (x:=.tup [num 0,num e]) (qaa.2 rfl) ⟨_,rfl,⟨0,rfl⟩,⟨e,rfl,h⟩,trivial⟩ (B:=B) fun M l=>caA [(14,.p (num e)),(16,.b true)] (pf2 (j M l) q) (r:=some (.tup [num 0,num e],[])))
def zxj:List Ctr:=[mkC 229 [rV,rV] [] none [(.tu [rV,err],[])]]
theorem zaP:ay T Gm zxj:=.one (dH (fun o y=>by rw [qaa.1 y];exact ⟨rfl,rfl⟩) fun F f m n=>by
 match F,f,m,n with
 |[_,_],[],⟨h1,h2,_⟩,_=>
  obtain ⟨a,s,rfl⟩:=isN h1;obtain ⟨b,u,rfl⟩:=isN h2;rcases NJ false a s b u with ⟨A,E⟩|⟨e,⟨q,h⟩,B,j⟩;·exact dX (zat _ (qaa.2 rfl)) rfl rfl ⟨Xt A,Xt E,trivial⟩ trivial
  exact uq (x:=.tup [.agg [num 0,num 0],num e]) (qaa.2 rfl) ⟨_,rfl,Gy 0 0,⟨e,rfl,h⟩,trivial⟩ (B:=B) fun M l=>caA [(10,.p (num e)),(12,.b true)] (pf2 (j M l) q) (r:=some (.tup [.agg [num 0,num 0],num e],[])))
def zxi:List Ctr:=[mkC 230 [rV,rV] [] none [(.tu [rV,err],[])]]
theorem zkc:ay T Gm zxi:=.one (dH (fun o y=>by rw [qaa.1 y];exact ⟨rfl,rfl⟩) fun F f m n=>by
 match F,f,m,n with
 |[_,_],[],⟨h1,h2,_⟩,_=>
  obtain ⟨a,s,rfl⟩:=isN h1;obtain ⟨b,u,rfl⟩:=isN h2;rcases NJ false a s b u with ⟨A,E⟩|⟨e,⟨q,h⟩,B,j⟩;·exact dX (zjA _ (qaa.2 rfl)) rfl rfl ⟨Xt A,Xt E,trivial⟩ trivial
  exact uq (x:=.tup [.agg [num 0,num 0],num e]) (qaa.2 rfl) ⟨_,rfl,Gy 0 0,⟨e,rfl,h⟩,trivial⟩ (B:=B) fun M l=>caA [(10,.p (num e)),(12,.b true)] (pf2 (j M l) q) (r:=some (.tup [.agg [num 0,num 0],num e],[])))
def zxh:List Ctr:=[mkC 231 [rV,rV] [] none [(.tu [rV,err],[])]]
theorem zkb:ay T Gm zxh:=.one (dH (fun o H=>by rw [qaa.1 H];exact ⟨rfl,rfl⟩) fun J n E f=>by
 match J,n,E,f with
 |[_,_],[],⟨h1,h2,_⟩,_=>
  obtain ⟨a,s,rfl⟩:=isN h1;obtain ⟨b,u,rfl⟩:=isN h2;rcases NJ false a s b u with ⟨j,h⟩|⟨e,⟨F,q⟩,B,y⟩
  ·have f:∀lo hi:Int,lo<=b->b<=hi->(Sh.ag [.ir .i64 lo hi,.ir .i64 0 12]).Is T 0 (.agg [num b,num u]):=fun lo hi l m=>⟨_,rfl,⟨b,rfl,l,m⟩,⟨u,rfl,h.2.2.1,h.2.2.2⟩,trivial⟩;have L:=h.1;have N:=h.2.1;by_cases l:b<=-1;·exact dX (Qg _ (qar ..)) rfl rfl ⟨Xt j,f _ _ (by omega) (by omega),trivial⟩ trivial
   by_cases m:b=0;·exact dX (Qg _ (qap _ (qar ..))) rfl rfl ⟨Xt j,f _ _ (by omega) (by omega),trivial⟩ trivial
   exact dX (Qg _ (qap _ (qap _ (qar ..)))) rfl rfl ⟨Xt j,f _ _ (by omega) (by omega),trivial⟩ trivial
  exact uq (x:=.tup [.agg [num 0,num 0],num e]) (qaa.2 rfl) ⟨_,rfl,Gy 0 0,⟨e,rfl,q⟩,trivial⟩ (B:=B) fun M A=>caA [(11,.p (num e)),(13,.b true)] (pf2 (y M A) F) (r:=some (.tup [.agg [num 0,num 0],num e],[])))
def zxg:List Ctr:=[mkC 232 [rV,rV,int] [] none [(.tu [rV,err],[])]]
theorem zka:ay T Gm zxg:=.one (dH (fun o H=>by rw [qaa.1 H];exact ⟨rfl,rfl⟩) fun J n E f=>by
 match J,n,E,f with
 |[_,_,_],[],⟨h1,h2,⟨w,hw⟩,_⟩,_=>
  obtain ⟨a,s,rfl⟩:=isN h1;obtain ⟨b,u,rfl⟩:=isN h2;subst hw;rcases NJ false a s b u with ⟨j,h⟩|⟨e,⟨F,q⟩,B,y⟩
  ·have f:∀lo hi:Int,lo<=b->b<=hi->(Sh.ag [.ir .i64 lo hi,.ir .i64 0 12]).Is T 0 (.agg [num b,num u]):=fun lo hi l m=>⟨_,rfl,⟨b,rfl,l,m⟩,⟨u,rfl,h.2.2.1,h.2.2.2⟩,trivial⟩;have L:=h.1;have N:=h.2.1;by_cases l:b<=-1;·exact dX (Qe _ (qar ..)) rfl rfl ⟨Xt j,f _ _ (by omega) (by omega),⟨w,rfl⟩,trivial⟩ trivial
   by_cases m:b=0;·exact dX (Qe _ (qap _ (qar ..))) rfl rfl ⟨Xt j,f _ _ (by omega) (by omega),⟨w,rfl⟩,trivial⟩ trivial
   exact dX (Qe _ (qap _ (qap _ (qar ..)))) rfl rfl ⟨Xt j,f _ _ (by omega) (by omega),⟨w,rfl⟩,trivial⟩ trivial
  exact uq (x:=.tup [.agg [num 0,num 0],num e]) (qaa.2 rfl) ⟨_,rfl,Gy 0 0,⟨e,rfl,q⟩,trivial⟩ (B:=B) fun M A=>caA [(13,.p (num e)),(15,.b true)] (pf2 (y M A) F) (r:=some (.tup [.agg [num 0,num 0],num e],[])))
theorem Zt:∀{es:qaX} {h:Int},(∀e,e∈es->D T h 6 e)->∃l:List (Int×Int),es=l.map nc
 |[],_,_=>⟨[],rfl⟩
 |e::r,h,hd=>by
  obtain ⟨l,hl⟩:=Zt (es:=r) fun x hx=>hd x (qap _ hx);obtain ⟨_,alt,ha,hs⟩:=l9 (hd e (qar ..));rw [qaa.1 ha] at hs
  match e,hs with
  |[x,y],⟨hx,hy,_⟩=>
   match x,y,hx,hy with
   |.v (.int _ a),.v (.int _ b),⟨rfl,_⟩,⟨rfl,_⟩=>exact ⟨(a,b)::l,by rw [hl];rfl⟩
def zxk:List Ctr:=[mkC 227 [.sl 2 6] [] none [(.tu [rV,err],[])]]
theorem zkd:ay T Gm zxk:=.one (dH (fun o J=>by rw [qaa.1 J];exact ⟨rfl,rfl⟩) fun O u H f=>by
 match O,u,H,f with
 |[_],[],⟨⟨t,es,h',rfl,hh,hl,hd⟩,_⟩,_=>
  obtain ⟨l,rfl⟩:=Zt hd;have q:(l.map nc).length=l.length:=qaD ..;have j:l.length<=2000000:=by unfold bT at hl;omega
  obtain ⟨e,⟨A,y⟩,E⟩:=Hf false l j;obtain ⟨B,F⟩:=ig E rfl;by_cases n:e=0;·refine dX (zjB _ (qaa.2 rfl)) rfl rfl ⟨⟨t,l.map nc,1,rfl,by omega,hl,fun x N=>?_⟩,trivial⟩ trivial;obtain ⟨p,L,rfl⟩:=qal.1 N;obtain ⟨P,Q,S,U⟩:=A n p L;exact dJ (by omega) (qaa.2 rfl) ⟨⟨rfl,fun a e=>by grind,fun a e=>by grind⟩,⟨rfl,fun a e=>by grind,fun a e=>by grind⟩,trivial⟩
  have h:(e !=0)=true:=by simpa using n
  cases f:decide (Int.ofNat (l.map nc).length>256) with
  |true=>exact uq (x:=.tup [.agg [num 0,num 0],num 9]) (qaa.2 rfl) ⟨_,rfl,Gy 0 0,⟨9,rfl,by decide,by decide⟩,trivial⟩ (B:=B) fun M m=>caA [(10,.b true)] (pf1 f) (r:=some (.tup [.agg [num 0,num 0],num 9],[]))
  |false=>exact uq (x:=.tup [.agg [num 0,num 0],num e]) (qaa.2 rfl) ⟨_,rfl,Gy 0 0,⟨e,rfl,y⟩,trivial⟩ (B:=B) fun M m=>caA [(10,.b false),(13,.p (num e)),(15,.b true)] (pf3 f (F M m) h) (r:=some (.tup [.agg [num 0,num 0],num e],[])))
end Ct
namespace Ct
abbrev J7 (bx:List Bx):St:=⟨[(4,.sl true 6 []),(5,num 22)],bx⟩
section
variable (t2:Bool) (ps es:qaX) (np j n:Nat) (k i:Int) (nm:qaY)
abbrev inS (ns:qaX) (q m:Nat):St:=⟨[(1,.sl t2 3 ps),(9,.ptr 0 0 0),(10,.bs 1 0 q),(23,.sl t2 3 ps),(24,nat np),(25,nat j),(29,.sl true 6 es),(30,nat n),(31,nat m)],[.var [num k,num i,aF nm],.row 6 ns]⟩
abbrev inR (ns:qaX) (q m:Nat):St:=⟨[(1,.sl t2 3 ps),(9,.ptr 0 0 0),(10,.bs 1 0 q),(23,.sl t2 3 ps),(24,nat np),(25,nat j),(29,.bs 2 0 n),(30,nat n),(31,nat m)],[.var [num k,num i,aF nm],.row 6 ns,.row 6 es]⟩
abbrev eiS (ns:qaX) (q m:Nat):St:=⟨[(1,.sl t2 3 ps),(9,.ptr 0 0 0),(10,.bs 1 0 q),(23,.sl t2 3 ps),(24,nat np),(25,nat j),(29,.sl true 6 es),(30,nat n),(31,nat m),(32,aj false)],[.var [num k,num i,aF nm],.row 6 ns]⟩
abbrev eiR (ns:qaX) (q m:Nat):St:=⟨[(1,.sl t2 3 ps),(9,.ptr 0 0 0),(10,.bs 1 0 q),(23,.sl t2 3 ps),(24,nat np),(25,nat j),(29,.bs 2 0 n),(30,nat n),(31,nat m),(32,aj false)],[.var [num k,num i,aF nm],.row 6 ns,.row 6 es]⟩
end
def zmv (bx:List Bx):Prop:=(∃a ns b,bx=[.var a,.row 6 ns,.var b])\/(∃a ns es b,bx=[.var a,.row 6 ns,.row 6 es,.var b])
theorem hz {es:qaX}{m:Nat}(h:es[m]?=some x):es[0+m]?=some x:=by grind
theorem innerS (t2:Bool)(ps es:qaX)(np j n:Nat){k i:Int}{nm:qaY}(p1:0<=i)(p2:i<=1000000)(p3:nm.size<=1000000)(hn:n=es.length)(hes:∀e,e∈es->D T (h+1) 11 e)(hl:es.length<=50000)(hτ:canon 0 τ=some (inS t2 ps es np j n k i nm [] 0 0)):
  ∃e σ' B,((e=.ret/\∃bx,σ'=J7 bx/\zmv bx)\/(∃ns:qaX,e=.exit 2/\σ'=eiS t2 ps es np j n k i nm ns ns.length n/\ns.length<=6*n/\∀y,y∈ns->D T h 11 y))/\∀M,B<=M->run (ah tab ext M) 0 M (.loop (aH 225 1)) τ=some (e,σ'):=by
 refine jI (nIn:=0) (b:=aH 225 1) (H:=fun p:qaX×Nat×Nat=>inS t2 ps es np j n k i nm p.1 p.2.1 p.2.2) (I:=fun p=>p.2.1=p.1.length/\p.2.2<=n/\p.1.length<=6*p.2.2/\∀y,y∈p.1->D T h 11 y) (μ:=fun p=>n-p.2.2)
  (Q:=fun e σ'=>(e=.ret/\∃bx,σ'=J7 bx/\zmv bx)\/(∃ns:qaX,e=.exit 2/\σ'=eiS t2 ps es np j n k i nm ns ns.length n/\ns.length<=6*n/\∀y,y∈ns->D T h 11 y))
  (fun p hp=>?_) (a:=([],0,0)) ⟨rfl,Nat.zero_le _,Nat.zero_le _,fun y hy=>by grind⟩ hτ
 obtain ⟨ns,q,m⟩:=p;obtain ⟨V,i2,W,Y⟩:=hp;dsimp only at V i2 W Y ⊢;by_cases hm:m<n
 ·have S:=aK hm;have J:m<es.length:=by omega
  obtain ⟨x,O⟩:∃x,es[m]?=some x:=⟨_,qad J⟩;have F:=hes x (qam O);obtain ⟨h0,a,b,c,s,u,l,v,f,rfl,_⟩:=d11 F;have F:=oJ F;obtain ⟨g,P,U⟩:=zC (k:=k) p1 p2 p3 F;obtain ⟨E,y1,y2,Z,L⟩:=MF (k:=k) p1 p2 p3 F;cases g with
  |false=>exact .inr ⟨.ret,J7 [.var [num k,num i,aF nm],.row 6 ns,.var [num a,num b,num c,aF s,.sl u 6 l,.sl v 7 f]],P,(by grind),.inl ⟨rfl,_,rfl,.inl ⟨_,_,_,rfl⟩⟩,fun M hM=>ruA [(32,.b true),(33,.e [num a,num b,num c,aF s,.sl u 6 l,.sl v 7 f]),(37,.p (aj false)),(38,.b true)] (pf4 S O (U M (by omega)) (show (!false)=true from rfl))⟩
  |true=>
   have A:0+q=ns.length/\dh (q+E.length) (87+1)=true/\rF 1 (X.sl false 6 E).rows=false:=⟨by omega,iL (by omega) (by omega),rfl⟩;refine .inl ⟨⟨[(1,.sl t2 3 ps),(9,.ptr 0 0 0),(10,.bs 3 0 (q+E.length)),(23,.sl t2 3 ps),(24,nat np),(25,nat j),(29,.sl true 6 es),(30,nat n),(31,nat (m+1))],[.var [num k,num i,aF nm],.dead,.var [num a,num b,num c,aF s,.sl u 6 l,.sl v 7 f],.row 6 (ns++E)]⟩,(ns++E,q+E.length,m+1),max P Z,fun M hM=>?_,by kernel_rfl,⟨by grind,by grind,by grind,fun y hy=>?_⟩,by grind⟩;·exact ruA [(32,.b true),(33,.e [num a,num b,num c,aF s,.sl u 6 l,.sl v 7 f]),(37,.p (aj true)),(38,.b false),(42,.p (.sl false 6 E)),(43,.app),(44,.i (Int.ofNat (m+1)))] (pf7 S O (U M (by omega)) (show (!true)=false from rfl) (L M (by omega)) A (aB (j:=m) (by omega)))
   grind
 have N:m=n:=by omega
 subst N;subst V;exact .inr ⟨_,_,0,(by grind),.inr ⟨ns,rfl,rfl,W,Y⟩,fun M _=>ruA [(32,.b false)] (pf1 (aN (qat m)))⟩
theorem zob (t2:Bool)(ps es:qaX)(np j n:Nat){k i:Int}{nm:qaY}(p1:0<=i)(p2:i<=1000000)(p3:nm.size<=1000000)(hn:n=es.length)(hes:∀e,e∈es->D T (h+1) 11 e)(hl:es.length<=50000)(hτ:canon 0 τ=some (inR t2 ps es np j n k i nm [] 0 0)):
  ∃e σ' B,((e=.ret/\∃bx,σ'=J7 bx/\zmv bx)\/(∃ns:qaX,e=.exit 2/\σ'=eiR t2 ps es np j n k i nm ns ns.length n/\ns.length<=6*n/\∀y,y∈ns->D T h 11 y))/\∀M,B<=M->run (ah tab ext M) 0 M (.loop (aH 225 1)) τ=some (e,σ'):=by
 refine jI (nIn:=0) (b:=aH 225 1) (H:=fun p:qaX×Nat×Nat=>inR t2 ps es np j n k i nm p.1 p.2.1 p.2.2) (I:=fun p=>p.2.1=p.1.length/\p.2.2<=n/\p.1.length<=6*p.2.2/\∀y,y∈p.1->D T h 11 y) (μ:=fun p=>n-p.2.2)
  (Q:=fun e σ'=>(e=.ret/\∃bx,σ'=J7 bx/\zmv bx)\/(∃ns:qaX,e=.exit 2/\σ'=eiR t2 ps es np j n k i nm ns ns.length n/\ns.length<=6*n/\∀y,y∈ns->D T h 11 y))
  (fun p hp=>?_) (a:=([],0,0)) ⟨rfl,Nat.zero_le _,Nat.zero_le _,fun y hy=>by grind⟩ hτ
 obtain ⟨ns,q,m⟩:=p;obtain ⟨W,i2,Y,Z⟩:=hp;dsimp only at W i2 Y Z ⊢;by_cases N:m<n
 ·have U:=aK N;have J:m<es.length:=by omega
  obtain ⟨x,P⟩:∃x,es[m]?=some x:=⟨_,qad J⟩;have F:=hes x (qam P);obtain ⟨h0,a,b,c,s,u,l,v,f,rfl,_⟩:=d11 F;have F:=oJ F;obtain ⟨g,S,V⟩:=zC (k:=k) p1 p2 p3 F;obtain ⟨E,y1,y2,B2,L⟩:=MF (k:=k) p1 p2 p3 F;cases g with
  |false=>exact .inr ⟨.ret,J7 [.var [num k,num i,aF nm],.row 6 ns,.row 6 es,.var [num a,num b,num c,aF s,.sl u 6 l,.sl v 7 f]],S,(by grind),.inl ⟨rfl,_,rfl,.inr ⟨_,_,_,_,rfl⟩⟩,fun M hM=>ruA [(32,.b true),(33,.at),(34,.ld [num a,num b,num c,aF s,.sl u 6 l,.sl v 7 f]),(37,.p (aj false)),(38,.b true)] (pf5 U N (hz P) (V M (by omega)) (show (!false)=true from rfl))⟩
  |true=>
   have A:0+q=ns.length/\dh (q+E.length) (87+1)=true/\rF 1 (X.sl false 6 E).rows=false:=⟨by omega,iL (by omega) (by omega),rfl⟩;refine .inl ⟨⟨[(1,.sl t2 3 ps),(9,.ptr 0 0 0),(10,.bs 4 0 (q+E.length)),(23,.sl t2 3 ps),(24,nat np),(25,nat j),(29,.bs 2 0 n),(30,nat n),(31,nat (m+1))],[.var [num k,num i,aF nm],.dead,.row 6 es,.var [num a,num b,num c,aF s,.sl u 6 l,.sl v 7 f],.row 6 (ns++E)]⟩,(ns++E,q+E.length,m+1),max S B2,fun M hM=>?_,by kernel_rfl,⟨by grind,by grind,by grind,fun y hy=>?_⟩,by grind⟩;·exact ruA [(32,.b true),(33,.at),(34,.ld [num a,num b,num c,aF s,.sl u 6 l,.sl v 7 f]),(37,.p (aj true)),(38,.b false),(42,.p (.sl false 6 E)),(43,.app),(44,.i (Int.ofNat (m+1)))] (pf8 U N (hz P) (V M (by omega)) (show (!true)=false from rfl) (L M (by omega)) A (aB (j:=m) (by omega)))
   grind
 have O:m=n:=by omega
 subst O;subst W;exact .inr ⟨_,_,0,(by grind),.inr ⟨ns,rfl,rfl,Y,Z⟩,fun M _=>ruA [(32,.b false)] (pf1 (aN (qat m)))⟩
end Ct
namespace Ct
theorem d7 (hd:D T h 7 x):∃(k i:Int) (nm:qaY),x=[num k,num i,aF nm]/\0<=i/\i<=1000000/\nm.size<=1000000:=by
 obtain ⟨m,a,j,l⟩:=l9 hd;obtain rfl:=qaa.1 j
 match x,l with
 |[_,y,_],⟨k1,k2,k3,_⟩=>
  obtain ⟨k,rfl⟩:=kC k1;obtain ⟨nm,rfl,_,f⟩:=zgG k3
  match y,k2 with
  |.v (.int _ i),⟨rfl,q1,q2⟩=>exact ⟨k,i,nm,rfl,q1 0 rfl,q2 1000000 rfl,f⟩
section
variable (t2:Bool) (ps:qaX) (np:Nat)
abbrev ouH (p:Bool×qaX×Nat×Nat):St:=match p.1 with
 |true=>⟨[(1,.sl t2 3 ps),(7,.sl true 6 p.2.1),(23,.sl t2 3 ps),(24,nat np),(25,nat p.2.2.2)],[]⟩
 |false=>⟨[(1,.sl t2 3 ps),(7,.bs 0 0 p.2.2.1),(23,.sl t2 3 ps),(24,nat np),(25,nat p.2.2.2)],[.row 6 p.2.1]⟩
abbrev ouE (p:Bool×qaX×Nat×Nat):St:=match p.1 with
 |true=>⟨[(1,.sl t2 3 ps),(7,.sl true 6 p.2.1),(23,.sl t2 3 ps),(24,nat np),(25,nat p.2.2.2),(26,aj false)],[]⟩
 |false=>⟨[(1,.sl t2 3 ps),(7,.bs 0 0 p.2.2.1),(23,.sl t2 3 ps),(24,nat np),(25,nat p.2.2.2),(26,aj false)],[.row 6 p.2.1]⟩
end
def OuI (np:Nat)(p:Bool×qaX×Nat×Nat):Prop:=p.2.2.1=p.2.1.length/\p.2.2.2<=np/\(∀e,e∈p.2.1->D T (7-(p.2.2.2:Int)) 11 e)/\(p.2.2.2<=6->p.2.1.length<=6^p.2.2.2)
theorem znE {np:Nat}{p:Bool×qaX×Nat×Nat}(h:OuI np p):p.2.1.length<=50000:=by
 obtain ⟨l,m,f,j⟩:=h;by_cases a:p.2.2.2<=6
 ·have:=j a;have:6^p.2.2.2<=6^6:=Nat.pow_le_pow_right (by decide) a
  grind
 cases n:p.2.1 with
 |nil=>simp
 |cons x r=>have:=(l9 (f x (by grind))).1;omega
theorem outer (t2:Bool)(ps:qaX)(hps:∀e,e∈ps->D T hp 7 e)(hlen:ps.length<=1000000)(hx0:D T 7 11 x0)(hτ:canon 0 τ=some (ouH t2 ps ps.length (true,[x0],1,0))):
  ∃e σ' B,((e=.ret/\∃bx,σ'=J7 bx/\zmv bx)\/(∃p,e=.exit 0/\σ'=ouE t2 ps ps.length p/\p.2.2.1=p.2.1.length/\(∀y,y∈p.2.1->D T 7 11 y)/\p.2.1.length<=50000))/\∀M,B<=M->run (ah tab ext M) 0 M (.loop (aH 225 0)) τ=some (e,σ'):=by
 refine jI (nIn:=0) (b:=aH 225 0) (H:=ouH t2 ps ps.length) (I:=OuI ps.length) (μ:=fun p=>ps.length-p.2.2.2)
  (Q:=fun e σ'=>(e=.ret/\∃bx,σ'=J7 bx/\zmv bx)\/(∃p,e=.exit 0/\σ'=ouE t2 ps ps.length p/\p.2.2.1=p.2.1.length/\(∀y,y∈p.2.1->D T 7 11 y)/\p.2.1.length<=50000))
  (fun p S=>?_) (a:=(true,[x0],1,0)) ⟨rfl,Nat.zero_le _,(fun e he=>by grind),fun _=>Nat.le_refl _⟩ hτ
 have P:=znE S;obtain ⟨w,l,n,j⟩:=p;obtain ⟨L,i2,i3,i4⟩:=S;dsimp only at L i2 i3 i4 P ⊢;by_cases hj:j<ps.length
 ·have J:=aK hj;obtain ⟨x,F⟩:∃x,ps[j]?=some x:=⟨_,qad hj⟩;obtain ⟨k,i,m,rfl,p1,p2,p3⟩:=d7 (hps x (qam F));have O:∀e,e∈l->D T ((6-(j:Int))+1) 11 e:=fun e he=>by grind
  generalize W:ps.length=np at*;have next:∀{ns:qaX},ns.length<=6*n->(∀y,y∈ns->D T (6-(j:Int)) 11 y)->OuI np (false,ns,ns.length,j+1):=fun {ns} U V=>by
   refine ⟨rfl,by grind,fun y hy=>?_,fun pa=>?_⟩
   ·grind
   grind
  cases w with
  |true=>
   obtain ⟨e,σ',B,Y,f⟩:=innerS t2 ps l np j n (k:=k) (h:=6-(j:Int)) p1 p2 p3 L O P (τ:=⟨[(1,.sl t2 3 ps),(9,.ptr 0 0 0),(10,.bs 1 0 0),(23,.sl t2 3 ps),(24,nat np),(25,nat j),(29,.sl true 6 l),(30,nat n),(31,num 0)],[.var [num k,num i,aF m],.row 6 []]⟩) (by kernel_rfl);subst L;rcases Y with ⟨rfl,bx,rfl,E⟩|⟨ns,rfl,rfl,U,V⟩
   ·rcases E with ⟨a,ns,b,rfl⟩|⟨a,ns,u,b,rfl⟩;·exact .inr ⟨.ret,J7 [.var a,.row 6 ns,.var b],B,(by grind),.inl ⟨rfl,_,rfl,.inl ⟨_,_,_,rfl⟩⟩,fun M A=>ruB [(26,.b true),(27,.e [num k,num i,aF m])] [(.ret,J7 [.var a,.row 6 ns,.var b])] (pf3 J F (f M A))⟩
    exact .inr ⟨.ret,J7 [.var a,.row 6 ns,.row 6 u,.var b],B,(by grind),.inl ⟨rfl,_,rfl,.inr ⟨_,_,_,_,rfl⟩⟩,fun M A=>ruB [(26,.b true),(27,.e [num k,num i,aF m])] [(.ret,J7 [.var a,.row 6 ns,.row 6 u,.var b])] (pf3 J F (f M A))⟩
   have N:=next U V
   generalize ns.length=q at f N;refine .inl ⟨⟨[(1,.sl t2 3 ps),(7,.bs 1 0 q),(23,.sl t2 3 ps),(24,nat np),(25,nat (j+1))],[.var [num k,num i,aF m],.row 6 ns]⟩,(false,ns,q,j+1),B,fun M A=>?_,by kernel_rfl,N,by grind⟩;exact ruB [(26,.b true),(27,.e [num k,num i,aF m]),(46,.i (Int.ofNat (j+1)))] [(.exit 2,eiS t2 ps l np j l.length k i m ns q l.length)] (pf4 J F (f M A) (aB (j:=j) (by omega)))
  |false=>
   obtain ⟨e,σ',B,Y,f⟩:=zob t2 ps l np j n (k:=k) (h:=6-(j:Int)) p1 p2 p3 L O P (τ:=⟨[(1,.sl t2 3 ps),(9,.ptr 1 0 0),(10,.bs 2 0 0),(23,.sl t2 3 ps),(24,nat np),(25,nat j),(29,.bs 0 0 n),(30,nat n),(31,num 0)],[.row 6 l,.var [num k,num i,aF m],.row 6 []]⟩) (by kernel_rfl);rcases Y with ⟨rfl,bx,rfl,E⟩|⟨ns,rfl,rfl,U,V⟩
   ·rcases E with ⟨a,ns,b,rfl⟩|⟨a,ns,u,b,rfl⟩;·exact .inr ⟨.ret,J7 [.var a,.row 6 ns,.var b],B,(by grind),.inl ⟨rfl,_,rfl,.inl ⟨_,_,_,rfl⟩⟩,fun M A=>ruB [(26,.b true),(27,.e [num k,num i,aF m])] [(.ret,J7 [.var a,.row 6 ns,.var b])] (pf3 J F (f M A))⟩
    exact .inr ⟨.ret,J7 [.var a,.row 6 ns,.row 6 u,.var b],B,(by grind),.inl ⟨rfl,_,rfl,.inr ⟨_,_,_,_,rfl⟩⟩,fun M A=>ruB [(26,.b true),(27,.e [num k,num i,aF m])] [(.ret,J7 [.var a,.row 6 ns,.row 6 u,.var b])] (pf3 J F (f M A))⟩
   have N:=next U V
   generalize ns.length=q at f N;refine .inl ⟨⟨[(1,.sl t2 3 ps),(7,.bs 1 0 q),(23,.sl t2 3 ps),(24,nat np),(25,nat (j+1))],[.var [num k,num i,aF m],.row 6 ns,.row 6 l]⟩,(false,ns,q,j+1),B,fun M A=>?_,by kernel_rfl,N,by grind⟩;exact ruB [(26,.b true),(27,.e [num k,num i,aF m]),(46,.i (Int.ofNat (j+1)))] [(.exit 2,eiR t2 ps l np j n k i m ns q n)] (pf4 J F (f M A) (aB (j:=j) (by omega)))
 have pb:j=ps.length:=by omega
 have Z:∀y,y∈l->D T 7 11 y:=fun y hy=>gu (by omega) (i3 y hy);generalize W:ps.length=np at*;cases w with
 |true=>exact .inr ⟨_,_,0,(by grind),.inr ⟨(true,l,n,j),rfl,rfl,L,Z,P⟩,fun M _=>ruA [(26,.b false)] (pf1 (aN (j:=j) (k:=np) (by omega)))⟩
 |false=>exact .inr ⟨_,_,0,(by grind),.inr ⟨(false,l,n,j),rfl,rfl,L,Z,P⟩,fun M _=>ruA [(26,.b false)] (pf1 (aN (j:=j) (k:=np) (by omega)))⟩
section
variable (es:qaX) (n:Nat)
abbrev coS (ns:qaX) (q m:Nat):St:=⟨[(13,.bs 0 0 q),(55,.sl true 6 es),(56,nat n),(57,nat m)],[.row 6 ns]⟩
abbrev coR (ns:qaX) (q m:Nat):St:=⟨[(13,.bs 0 0 q),(55,.bs 1 0 n),(56,nat n),(57,nat m)],[.row 6 ns,.row 6 es]⟩
abbrev ceS (ns:qaX) (q m:Nat):St:=⟨[(13,.bs 0 0 q),(55,.sl true 6 es),(56,nat n),(57,nat m),(58,aj false)],[.row 6 ns]⟩
abbrev ceR (ns:qaX) (q m:Nat):St:=⟨[(13,.bs 0 0 q),(55,.bs 1 0 n),(56,nat n),(57,nat m),(58,aj false)],[.row 6 ns,.row 6 es]⟩
end
theorem copyS (es:qaX)(n:Nat)(hn:n=es.length)(hes:∀e,e∈es->D T 7 11 e)(hl:es.length<=50000)(hτ:canon 0 τ=some (coS es n [] 0 0)):
  ∃e σ' B,(∃ns:qaX,e=.exit 4/\σ'=ceS es n ns ns.length n/\ns.length=n/\∀y,y∈ns->D T 7 1 y)/\∀M,B<=M->run (ah tab ext M) 0 M (.loop (aH 225 2)) τ=some (e,σ'):=by
 refine jI (nIn:=0) (b:=aH 225 2) (H:=fun p:qaX×Nat×Nat=>coS es n p.1 p.2.1 p.2.2) (I:=fun p=>p.2.1=p.1.length/\p.2.2<=n/\p.1.length=p.2.2/\∀y,y∈p.1->D T 7 1 y) (μ:=fun p=>n-p.2.2)
  (Q:=fun e σ'=>∃ns:qaX,e=.exit 4/\σ'=ceS es n ns ns.length n/\ns.length=n/\∀y,y∈ns->D T 7 1 y)
  (fun p hp=>?_) (a:=([],0,0)) ⟨rfl,Nat.zero_le _,rfl,fun y hy=>by grind⟩ hτ
 obtain ⟨ns,q,m⟩:=p;obtain ⟨Y,i2,Z,i4⟩:=hp;dsimp only at Y i2 Z i4 ⊢;by_cases hm:m<n
 ·have h1:=aK hm;have N:m<es.length:=by omega
  obtain ⟨x,W⟩:∃x,es[m]?=some x:=⟨_,qad N⟩;have V:=hes x (qam W);obtain ⟨h0,a,b,c,s,u,l,v,f,rfl,_⟩:=d11 (h:=6) V;obtain ⟨E,F,J,P,t,O,S,L,y1,B1,hc⟩:=G9 (h:=6) (oJ V);have A:0+q=ns.length/\dh (q+[[num E,num F,num J,aF P,X.sl t 6 O,X.sl S 7 L]].length) (87+1)=true/\rF 0 (X.sl true 6 [[num E,num F,num J,aF P,X.sl t 6 O,X.sl S 7 L]]).rows=false:=⟨by omega,iL (by grind) (by grind),rfl⟩;refine .inl ⟨⟨[(13,.bs 2 0 (q+1)),(55,.sl true 6 es),(56,nat n),(57,nat (m+1))],[.dead,.var [num a,num b,num c,aF s,.sl u 6 l,.sl v 7 f],.row 6 (ns++[[num E,num F,num J,aF P,.sl t 6 O,.sl S 7 L]])]⟩,(ns++[[num E,num F,num J,aF P,.sl t 6 O,.sl S 7 L]],q+1,m+1),B1,fun M hM=>?_,by kernel_rfl,⟨by grind,by grind,by grind,fun y hy=>?_⟩,by grind⟩;·exact ruA [(58,.b true),(59,.e [num a,num b,num c,aF s,.sl u 6 l,.sl v 7 f]),(63,.p (.agg [num E,num F,num J,aF P,.sl t 6 O,.sl S 7 L])),(65,.app),(66,.i (Int.ofNat (m+1)))] (pf5 h1 W (hc M hM) A (aB (j:=m) (by omega)))
  grind
 have U:m=n:=by omega
 subst U;subst Y;exact .inr ⟨_,_,0,(by grind),⟨ns,rfl,rfl,Z,i4⟩,fun M _=>ruA [(58,.b false)] (pf1 (aN (qat m)))⟩
theorem zsA (es:qaX)(n:Nat)(hn:n=es.length)(hes:∀e,e∈es->D T 7 11 e)(hl:es.length<=50000)(hτ:canon 0 τ=some (coR es n [] 0 0)):
  ∃e σ' B,(∃ns:qaX,e=.exit 4/\σ'=ceR es n ns ns.length n/\ns.length=n/\∀y,y∈ns->D T 7 1 y)/\∀M,B<=M->run (ah tab ext M) 0 M (.loop (aH 225 2)) τ=some (e,σ'):=by
 refine jI (nIn:=0) (b:=aH 225 2) (H:=fun p:qaX×Nat×Nat=>coR es n p.1 p.2.1 p.2.2) (I:=fun p=>p.2.1=p.1.length/\p.2.2<=n/\p.1.length=p.2.2/\∀y,y∈p.1->D T 7 1 y) (μ:=fun p=>n-p.2.2)
  (Q:=fun e σ'=>∃ns:qaX,e=.exit 4/\σ'=ceR es n ns ns.length n/\ns.length=n/\∀y,y∈ns->D T 7 1 y)
  (fun p hp=>?_) (a:=([],0,0)) ⟨rfl,Nat.zero_le _,rfl,fun y hy=>by grind⟩ hτ
 obtain ⟨ns,q,m⟩:=p;obtain ⟨Z,i2,i3,i4⟩:=hp;dsimp only at Z i2 i3 i4 ⊢;by_cases W:m<n
 ·have h1:=aK W;have N:m<es.length:=by omega
  obtain ⟨x,Y⟩:∃x,es[m]?=some x:=⟨_,qad N⟩;have V:=hes x (qam Y);obtain ⟨h0,a,b,c,s,u,l,v,f,rfl,_⟩:=d11 (h:=6) V;obtain ⟨E,F,J,P,t,O,S,L,y1,B1,hc⟩:=G9 (h:=6) (oJ V);have A:0+q=ns.length/\dh (q+[[num E,num F,num J,aF P,X.sl t 6 O,X.sl S 7 L]].length) (87+1)=true/\rF 0 (X.sl true 6 [[num E,num F,num J,aF P,X.sl t 6 O,X.sl S 7 L]]).rows=false:=⟨by omega,iL (by grind) (by grind),rfl⟩;refine .inl ⟨⟨[(13,.bs 3 0 (q+1)),(55,.bs 1 0 n),(56,nat n),(57,nat (m+1))],[.dead,.row 6 es,.var [num a,num b,num c,aF s,.sl u 6 l,.sl v 7 f],.row 6 (ns++[[num E,num F,num J,aF P,.sl t 6 O,.sl S 7 L]])]⟩,(ns++[[num E,num F,num J,aF P,.sl t 6 O,.sl S 7 L]],q+1,m+1),B1,fun M hM=>?_,by kernel_rfl,⟨by grind,by grind,by grind,fun y hy=>?_⟩,by grind⟩;·exact ruA [(58,.b true),(59,.at),(60,.ld [num a,num b,num c,aF s,.sl u 6 l,.sl v 7 f]),(63,.p (.agg [num E,num F,num J,aF P,.sl t 6 O,.sl S 7 L])),(65,.app),(66,.i (Int.ofNat (m+1)))] (pf6 h1 W (hz Y) (hc M hM) A (aB (j:=m) (by omega)))
  grind
 have U:m=n:=by omega
 subst U;subst Z;exact .inr ⟨_,_,0,(by grind),⟨ns,rfl,rfl,i3,i4⟩,fun M _=>ruA [(58,.b false)] (pf1 (aN (qat m)))⟩
end Ct
namespace Ct
theorem Wu (t2:Bool)(ps:qaX)(h0:0<=hp)(hps:∀e,e∈ps->D T hp 7 e)(hlen:ps.length<=1000000):∃g,∃B,∀N,B<=N->Gam.aC (ah tab ext N) 226 [.sl t2 3 ps]=some (aj g):=by
 obtain ⟨o,h,r,bx,a,l,B,j⟩:=dX (zjV _ (qaa.2 rfl)) rfl rfl (xs:=[.sl t2 3 ps]) ⟨⟨t2,ps,hp,rfl,h0,by unfold bT;omega,hps⟩,trivial⟩ (bx:=[]) trivial;rcases qak.1 h with rfl|h;·obtain rfl:=nK l;have a:r=aj true:=a;subst a;exact ⟨true,B,fun N f=>aZ (j N f) rfl⟩
 obtain rfl:=qaa.1 h;obtain rfl:=nK l;have a:r=aj false:=a;subst a;exact ⟨false,B,fun N f=>aZ (j N f) rfl⟩
theorem OU (t2:Bool)(ps:qaX)(h0:0<=hp)(hps:∀e,e∈ps->D T hp 7 e)(hlen:ps.length<=1000000):∃e:Int,(0<=e/\e<=100)/\∃B,∀N,B<=N->Gam.aC (ah tab ext N) 263 [.sl t2 3 ps]=some (num e):=by obtain ⟨o,m,r,bx,l,j,B,f⟩:=dX (zjF _ (qaa.2 rfl)) rfl rfl (xs:=[.sl t2 3 ps]) ⟨⟨t2,ps,hp,rfl,h0,by unfold bT;omega,hps⟩,trivial⟩ (bx:=[]) trivial;obtain rfl:=qaa.1 m;obtain rfl:=nK j;obtain ⟨e,rfl,a⟩:∃e,r=num e/\0<=e/\e<=100:=l;exact ⟨e,a,B,fun N h=>aZ (f N h) rfl⟩
def zb3 (xs:List X)(r:X)(bx:List Bx):Prop:=∃B,∀N,B<=N->ah tab ext N (.fn 225) xs []=some (r,bx)
theorem pO {bx:List Bx}(h:∀M,B<=M->ah tab ext (M+1) (.fn 225) xs []=some (r,bx)):zb3 xs r bx:=⟨B+1,fun N a=>by obtain ⟨M,rfl⟩:=pR_ N;exact h M (by omega)⟩
theorem Np (t2:Bool)(ps:qaX)(h0:0<=hp)(hps:∀e,e∈ps->D T hp 7 e)(hlen:ps.length<=1000000)(hx0:D T 7 11 x0):
  ∃g,(∃B,∀N,B<=N->Gam.aC (ah tab ext N) 226 [.sl false 3 ps]=some (aj g))/\((∃e:Int,((e !=0)=true/\0<=e/\e<=100)/\zb3 [.agg x0,.sl t2 3 ps] (.tup [.sl true 6 [],num e]) [])\/∃ns:qaX,(∀y,y∈ns->D T 7 1 y)/\ns.length<=50000/\(g=false->ns≠[])/\zb3 [.agg x0,.sl t2 3 ps] (.tup [.bs 0 0 ns.length,num 0]) [.row 6 ns]):=by
 obtain ⟨g,P,E⟩:=Wu false ps h0 hps hlen;refine ⟨g,⟨P,E⟩,?_⟩;obtain ⟨e,er,H,L⟩:=OU false ps h0 hps hlen;obtain ⟨_,a,b,c,s,u,l,v,f,rfl,_⟩:=d11 (h:=6) hx0;cases Z:(e !=0) with
 |true=>exact .inl ⟨e,⟨Z,er⟩,pO (B:=H) fun M J=>caA [(17,.p (num e)),(19,.b true)] (pf2 (L M J) Z) (r:=some (.tup [.sl true 6 [],num e],[]))⟩
 |false=>
  have e0:e=0:=by simpa using Z
  subst e0;obtain ⟨e,σ',O,hr,F⟩:=outer t2 ps hps hlen hx0 (τ:=⟨[(1,.sl t2 3 ps),(7,.sl true 6 [[num a,num b,num c,aF s,.sl u 6 l,.sl v 7 f]]),(23,.sl t2 3 ps),(24,nat ps.length),(25,num 0)],[.var [num a,num b,num c,aF s,.sl u 6 l,.sl v 7 f]]⟩) (by kernel_rfl);rcases hr with ⟨rfl,bx,rfl,pa⟩|⟨p,rfl,rfl,q1,q2,q3⟩
  ·rcases pa with ⟨V,ns,W,rfl⟩|⟨V,ns,Y,W,rfl⟩;·exact .inl ⟨22,⟨rfl,by decide,by decide⟩,pO (B:=max H O) fun M J=>caB [(17,.p (num 0))] [(.ret,J7 [.var V,.row 6 ns,.var W])] (pf2 (L M (by omega)) (F M (by omega))) (r:=some (.tup [.sl true 6 [],num 22],[]))⟩
   exact .inl ⟨22,⟨rfl,by decide,by decide⟩,pO (B:=max H O) fun M J=>caB [(17,.p (num 0))] [(.ret,J7 [.var V,.row 6 ns,.row 6 Y,.var W])] (pf2 (L M (by omega)) (F M (by omega))) (r:=some (.tup [.sl true 6 [],num 22],[]))⟩
  obtain ⟨w,m,n,j⟩:=p;dsimp only at q1 q2 q3 F;generalize ps.length=np at F;cases w with
  |true=>
   subst q1;obtain ⟨e,σ',S,⟨ns,rfl,rfl,r1,U⟩,A⟩:=copyS m m.length rfl q2 q3 (τ:=⟨[(13,.bs 0 0 0),(55,.sl true 6 m),(56,nat m.length),(57,num 0)],[.row 6 []]⟩) (by kernel_rfl);cases hz:(Int.ofNat m.length==0) with
   |true=>
    cases g with
    |false=>exact .inl ⟨19,⟨rfl,by decide,by decide⟩,pO (B:=P+H+O) fun M J=>caB [(17,.p (num 0)),(49,.b true),(52,.p (aj false)),(53,.b true)] [(.exit 0,ouE t2 ps np (true,m,m.length,j))] (pf5 (L M (by omega)) (F M (by omega)) hz (E M (by omega)) (show (!false)=true from rfl)) (r:=some (.tup [.sl true 6 [],num 19],[]))⟩
    |true=>refine .inr ⟨ns,U,by omega,(fun e=>by cases e),pO (B:=P+H+O+S) fun M J=>?_⟩;generalize ns.length=q at A;exact caB [(17,.p (num 0)),(49,.b true),(52,.p (aj true)),(53,.b false)] [(.exit 0,ouE t2 ps np (true,m,m.length,j)),(.exit 4,ceS m m.length ns q m.length)] (pf6 (L M (by omega)) (F M (by omega)) hz (E M (by omega)) (show (!true)=false from rfl) (A M (by omega))) (r:=some (.tup [.bs 0 0 q,num 0],[.row 6 ns]))
   |false=>
    have Q:ns≠[]:=fun e=>by subst e;rw [<-r1] at hz;simp at hz
    refine .inr ⟨ns,U,by omega,fun _=>Q,pO (B:=P+H+O+S) fun M J=>?_⟩;generalize ns.length=q at A;exact caB [(17,.p (num 0)),(49,.b false)] [(.exit 0,ouE t2 ps np (true,m,m.length,j)),(.exit 4,ceS m m.length ns q m.length)] (pf4 (L M (by omega)) (F M (by omega)) hz (A M (by omega))) (r:=some (.tup [.bs 0 0 q,num 0],[.row 6 ns]))
  |false=>
   obtain ⟨e,σ',S,⟨ns,rfl,rfl,r1,U⟩,A⟩:=zsA m n q1 q2 q3 (τ:=⟨[(13,.bs 1 0 0),(55,.bs 0 0 n),(56,nat n),(57,num 0)],[.row 6 m,.row 6 []]⟩) (by kernel_rfl);cases hz:(Int.ofNat n==0) with
   |true=>
    cases g with
    |false=>exact .inl ⟨19,⟨rfl,by decide,by decide⟩,pO (B:=P+H+O) fun M J=>caB [(17,.p (num 0)),(49,.b true),(52,.p (aj false)),(53,.b true)] [(.exit 0,ouE t2 ps np (false,m,n,j))] (pf5 (L M (by omega)) (F M (by omega)) hz (E M (by omega)) (show (!false)=true from rfl)) (r:=some (.tup [.sl true 6 [],num 19],[]))⟩
    |true=>refine .inr ⟨ns,U,by omega,(fun e=>by cases e),pO (B:=P+H+O+S) fun M J=>?_⟩;generalize ns.length=q at A;exact caB [(17,.p (num 0)),(49,.b true),(52,.p (aj true)),(53,.b false)] [(.exit 0,ouE t2 ps np (false,m,n,j)),(.exit 4,ceR m n ns q n)] (pf6 (L M (by omega)) (F M (by omega)) hz (E M (by omega)) (show (!true)=false from rfl) (A M (by omega))) (r:=some (.tup [.bs 0 0 q,num 0],[.row 6 ns]))
   |false=>
    have Q:ns≠[]:=fun e=>by subst e;rw [<-r1] at hz;simp at hz
    refine .inr ⟨ns,U,by omega,fun _=>Q,pO (B:=P+H+O+S) fun M J=>?_⟩;generalize ns.length=q at A;exact caB [(17,.p (num 0)),(49,.b false)] [(.exit 0,ouE t2 ps np (false,m,n,j)),(.exit 4,ceR m n ns q n)] (pf4 (L M (by omega)) (F M (by omega)) hz (A M (by omega))) (r:=some (.tup [.bs 0 0 q,num 0],[.row 6 ns]))
theorem zf3 {x:X}(hx:zql.Is T 0 x):∃x0,x=.agg x0/\D T 7 11 x0:=by obtain ⟨h',xs,rfl,a,h,f⟩:∃h' xs,x=.agg xs/\0<=h'/\h'<=6/\IsL T h' zmw xs:=hx;exact ⟨xs,rfl,gu (by omega) (ziY a f)⟩
theorem ztQ {T:Tab}{sz k:Nat}{x:X}(hx:(Sh.sl sz k).Is T h x):∃t es h',x=.sl t sz es/\0<=h'/\(es.length:Int)<=1000000/\∀e,e∈es->D T h' k e:=hx
def zxr:List Ctr:=[dS 225 [zql,.sl 3 7] [] none [(.tu [.x (.sl true 6 []),err],[],[]),(.tu [.bs 0,err],[.row 6 1],[lt 10 0 13,lt 13 0 10])]]
theorem zkh:ay T Gm zxr:=.one fun ρ Z N f=>by
 obtain ⟨n,u⟩:=pG f;obtain ⟨x,y,rfl,E,F⟩:=zmi n;obtain rfl:=nK u;obtain ⟨Y,rfl,A⟩:=zf3 E;obtain ⟨M,L,U,rfl,H,W,J⟩:=ztQ F;obtain ⟨g,_,⟨e,⟨_,j⟩,h⟩|⟨a,m,Q,_,h⟩⟩:=Np M L H J (by omega) A;·exact jY (q:=(.tu [.x (.sl true 6 []),err],[],[])) (qar ..) f.zero f.pos rfl rfl (r:=.tup [.sl true 6 [],num e]) ⟨_,rfl,⟨rfl,rfl⟩,⟨e,rfl,j⟩,trivial⟩ (fun _ _ _ _ _ _=>.nil) h
 refine sG (q:=(.tu [.bs 0,err],[.row 6 1],[lt 10 0 13,lt 13 0 10])) (qap _ (qaa.2 rfl)) f.zero f.pos rfl rfl (r:=.tup [.bs 0 0 a.length,num 0]) (bx':=[.row 6 a]) ⟨_,rfl,⟨a.length,rfl,by unfold bT;omega⟩,⟨0,rfl,by decide,by decide⟩,trivial⟩ ⟨⟨a,7,rfl,by omega,by unfold bT;omega,m⟩,trivial⟩ (fun V ρ' S z g l B=>?_) h;subst B;have O:(a.length:Int)=ρ' 10:=by
  cases g with
  |tup g=>cases g with
   |cons g _=>cases g with
    |bs _ _ _ q=>rw [q];unfold Lin.v;show ρ' 10+0=_;omega
 have P:(a.length:Int)=ρ' 13:=by
  cases l with
  |cons g _=>cases g with
   |row _ _ q _=>rw [q];unfold Lin.v;show ρ' 13+0=_;omega
 exact .cons (iZ (by decide) (by decide) (by omega)) (.cons (iZ (by decide) (by decide) (by omega)) .nil)
theorem zcT (ns:qaX):X.data [.row 6 ns] false (.tup [.bs 0 0 ns.length,num 0])=some (.tup [.sl false 6 ns,num 0]):=by simp only [X.data,eG,jZ (bx:=[.row 6 ns]) (i:=0) (sz:=6) (es:=ns) rfl rfl,qan,num]
theorem Pg (h:∀M,B<=M->ah tab ext (M+1) (.fn 175) xs []=some (r,[])):Back 175 xs r:=⟨B+1,fun N a=>by obtain ⟨M,rfl⟩:=pR_ N;exact h M (by omega)⟩
theorem zeU (t2:Bool)(ps:qaX)(h0:0<=hp)(hps:∀e,e∈ps->D T hp 7 e)(hlen:ps.length<=1000000)(hx0:D T 7 11 x0):
  ∃y e,(D T 8 1 y/\0<=e/\e<=100)/\Back 175 [.agg x0,.sl t2 3 ps] (.tup [.agg y,num e]):=by
 obtain ⟨_,a,b,c,s,u,l,v,f,rfl,_⟩:=d11 (h:=6) hx0;have hz:D T 8 1 [num 0,num 0,num 0,bD,.sl true 6 [],.sl true 7 []]:=dJ (by decide) (qaa.2 rfl) ⟨⟨rfl,(fun a e=>by cases e),(fun a e=>by cases e)⟩,⟨rfl,(fun a e=>by cases e),(fun a e=>by cases e)⟩,⟨rfl,(fun a e=>by cases e),(fun a e=>by cases e)⟩,⟨by decide,by decide⟩,⟨rfl,by decide,by decide,fun e m=>by cases m⟩,⟨rfl,by decide,by decide,fun e m=>by cases m⟩,trivial⟩;obtain ⟨g,⟨L,n⟩,hr⟩:=Np false ps h0 hps hlen (oJ hx0);rcases hr with ⟨e,⟨h1,er⟩,A,j⟩|⟨q,F,n2,n3,A,j⟩;·have j:=fun N J=>aZ (j N J) (y:=.tup [.sl false 6 [],num e]) rfl;exact ⟨_,e,⟨hz,er⟩,Pg (B:=A) fun M H=>caA [(11,.p (.tup [.sl false 6 [],num e])),(16,.b true)] (pf2 (j M H) h1) (r:=some (.tup [.agg [num 0,num 0,num 0,bD,.sl true 6 [],.sl true 7 []],num e],[]))⟩
 have j:=fun N J=>aZ (j N J) (zcT q);cases g with
 |true=>refine ⟨[num 8,num 0,num 0,bD,.sl false 6 q,.sl true 7 []],0,⟨dJ (by decide) (qaa.2 rfl) ⟨⟨rfl,(fun a e=>by cases e),(fun a e=>by cases e)⟩,⟨rfl,(fun a e=>by cases e),(fun a e=>by cases e)⟩,⟨rfl,(fun a e=>by cases e),(fun a e=>by cases e)⟩,⟨by decide,by decide⟩,⟨rfl,Nat.zero_le _,by omega,F⟩,⟨rfl,by decide,by decide,fun e m=>by cases m⟩,trivial⟩,by decide,by decide⟩,Pg (B:=L+A) fun M H=>?_⟩;exact caA [(11,.p (.tup [.sl false 6 q,num 0])),(21,.p (aj true)),(19,.b true)] (pf3 (j M (by omega)) (n M (by omega)) (show true=true from rfl)) (r:=some (.tup [.agg [num 8,num 0,num 0,bD,.sl false 6 q,.sl true 7 []],num 0],[]))
 |false=>
  match q,n3 rfl,F,j with
  |x::r,_,F,j=>
   have E:=F x (qar ..);obtain ⟨k1,Z,ha,hs⟩:=l9 E;obtain rfl:=qaa.1 ha
   match x,hs,E,j with
   |[_,_,_,_,_,_],⟨w1,w2,w3,w4,w5,w6,_⟩,E,j=>obtain ⟨O,rfl⟩:=kC w1;obtain ⟨P,rfl⟩:=kC w2;obtain ⟨Q,rfl⟩:=kC w3;obtain ⟨V,rfl,_,_⟩:=zgG w4;obtain ⟨W,U,rfl,_,_,_⟩:=zQ w5;obtain ⟨Y,S,rfl,_,_,_⟩:=zQ w6;exact ⟨_,0,⟨gu (by decide) E,by decide,by decide⟩,Pg (B:=L+A) fun M H=>caA [(11,.p (.tup [.sl false 6 ([num O,num P,num Q,aF V,.sl W 6 U,.sl Y 7 S]::r),num 0])),(21,.p (aj false)),(19,.b false)] (pf3 (j M (by omega)) (n M (by omega)) (show false=false from rfl)) (r:=some (.tup [.agg [num O,num P,num Q,aF V,.sl W 6 U,.sl Y 7 S],num 0],[]))⟩
theorem zgH (hd:D T (h+1) 1 x):val.Is T 0 (.agg x):=by
 obtain ⟨H,j,q,a⟩:=l9 hd;rw [qaa.1 q,Int.add_sub_cancel] at a
 match x,a with
 |[_,_,_,_,_,_],⟨w1,w2,w3,w4,w5,w6,_⟩=>obtain ⟨f,rfl⟩:=kC w1;obtain ⟨l,rfl⟩:=kC w2;obtain ⟨m,rfl⟩:=kC w3;obtain ⟨B,rfl,_,J⟩:=zgG w4;obtain ⟨E,u,rfl,_,L,y⟩:=zQ w5;obtain ⟨F,n,rfl,_,M,A⟩:=zQ w6;exact ⟨h,_,rfl,by omega,⟨f,rfl⟩,⟨l,rfl⟩,⟨m,rfl⟩,⟨B,rfl,by unfold bT;omega⟩,⟨E,u,rfl,by unfold bT;omega,y⟩,⟨F,n,rfl,by unfold bT;omega,A⟩,trivial⟩
def zus:List Ctr:=[mkC 175 [zql,.sl 3 7] [] none [(.tu [val,err],[])]]
theorem zki:ay T Gm zus:=.one (dH (fun o n=>by rw [qaa.1 n];exact ⟨rfl,rfl⟩) fun N H j l=>by obtain ⟨x,y,rfl,q,u⟩:=zmi j;obtain rfl:=nK l;obtain ⟨M,rfl,m⟩:=zf3 q;obtain ⟨F,E,J,rfl,A,L,B⟩:=ztQ u;obtain ⟨y,e,⟨f,a⟩,h⟩:=zeU F E A B (by omega) m;exact ⟨_,qaa.2 rfl,.tup [.agg y,num e],[],⟨_,rfl,zgH (h:=7) f,⟨e,rfl,a⟩,trivial⟩,trivial,h⟩)
end Ct
namespace Ct
theorem zfI (h1:-999999999999999<=a)(h2:a<=999999999999999):∃b:Int,0<=b/\b<=999999999999999/\∃B,∀N,B<=N->Gam.aC (ah tab ext N) 269 [num a]=some (num b):=by
 have f:∀{lo hi lo' hi':Int},mkC 269 [.ir .i64 lo hi] [] none [(.ir .i64 lo' hi',[])]∈zt5->lo<=a->a<=hi->0<=lo'->hi'<=999999999999999->∃b:Int,0<=b/\b<=999999999999999/\∃B,∀N,B<=N->Gam.aC (ah tab ext N) 269 [num a]=some (num b):=fun q h j y A=>by obtain ⟨o,u,r,bx,hi,n,B,l⟩:=dX (yw _ q) rfl rfl (xs:=[num a]) ⟨ziE h j,trivial⟩ (bx:=[]) trivial;obtain rfl:=qaa.1 u;obtain rfl:=nK n;obtain ⟨b,rfl,E,F⟩:=zn9 hi;exact ⟨b,by omega,by omega,B,fun N m=>aZ (l N m) rfl⟩
 by_cases h:a<=-1;·exact f (qar ..) h1 h (by decide) (by decide)
 by_cases j:a=0;·exact f (qap _ (qar ..)) (by omega) (by omega) (by decide) (by decide)
 exact f (qap _ (qap _ (qar ..))) (by omega) (by omega) (by decide) (by decide)
theorem ZQ (h1:-9223372036854775808<=a)(h2:a<=9223372036854775807):∃d:qaY,1<=d.size/\d.size<=21/\∃B,∀N,B<=N->Gam.aC (ah tab ext N) 64 [num a]=some (aF d):=by have l:=Lib.itoa_length_le a h1 h2;have m:=Ti a;obtain ⟨B,h⟩:=gJ (f:=64) (g:=yh) rfl (Je a h1 h2);exact ⟨_,by grind[bsz],by grind[bsz],B,fun N j=>aZ (h N j) rfl⟩
theorem OI {c:Int}(h2:0<=c)(h3:c<=100):∃r:qaY,(r.size:Int)=c/\∃B,∀N,B<=N->Gam.aC (ah tab ext N) 305 [.v (.string ⟨#[48]⟩),num c]=some (aF r):=by obtain ⟨r,j,l⟩:=F7 ⟨#[48]⟩ c rfl h2 h3;obtain ⟨B,a⟩:=gJ (f:=305) (g:=nX) rfl j;exact ⟨r,l,B,fun N h=>aZ (a N h) rfl⟩
theorem pfc {p:Prop}{ps:List Prop}(h1:p)(h2:kX ps):kX (p::ps):=⟨h1,h2⟩
theorem WA (a s:Int):(∃e:Int,(0<=e/\e<=100)/\Back 278 [.agg [num a,num s]] (.tup [bD,num e]))\/∃t:qaY,t.size<=60/\Back 278 [.agg [num a,num s]] (.tup [aF t,num 0]):=by
 have f:∀{B:Nat} {r:X},(∀M,B<=M->ah tab ext (M+1) (.fn 278) [.agg [num a,num s]] []=some (r,[]))->Back 278 [.agg [num a,num s]] r:=fun {B} {r} h=>⟨B+1,fun N hN=>by obtain ⟨M,rfl⟩:=pR_ N<;>simp_all⟩;obtain ⟨e,⟨W,er⟩,l⟩:=zgM a s;obtain ⟨m,l⟩:=ig l rfl;cases Z:(e !=0) with
 |true=>exact .inl ⟨e,er,f (B:=m) fun M H=>caA [(7,.p (num e)),(9,.b true)] (pf2 (l M H) Z) (r:=some (.tup [bD,num e],[]))⟩
 |false=>
  have e0:e=0:=by simpa using Z
  subst e0;obtain ⟨o1,o2,o3,o4⟩:=W rfl;obtain ⟨b,b1,b2,O,Q⟩:=zfI o1 o2;obtain ⟨d,d1,d2,P,S⟩:=ZQ (a:=b) (by omega) (by omega);right;cases L:decide (s>0) with
  |false=>
   cases J:decide (a<0) with
   |true=>
    have hm:(⟨#[45]⟩:qaY).size+d.size<=9223372036854775807:=by show 1+d.size<=_;omega
    refine ⟨⟨#[45]⟩++d,by rw [ByteArray.size_append];show 1+d.size<=60;omega,f (B:=m+O+P) fun M H=>?_⟩;exact caA [(7,.p (num 0)),(13,.p (num b)),(14,.p (aF d)),(17,.b false),(46,.b true),(48,.at)] (pf6 (l M (by omega)) (Q M (by omega)) (S M (by omega)) L J hm) (r:=some (.tup [aF (⟨#[45]⟩++d),num 0],[]))
   |false=>exact ⟨d,by omega,f (B:=m+O+P) fun M H=>caA [(7,.p (num 0)),(13,.p (num b)),(14,.p (aF d)),(17,.b false),(46,.b false)] (pf5 (l M (by omega)) (Q M (by omega)) (S M (by omega)) L J) (r:=some (.tup [aF d,num 0],[]))⟩
  |true=>
   have pb:=of_decide_eq_true L;obtain ⟨w,hw⟩:∃w,w=s+1-Int.ofNat d.size:=⟨_,rfl⟩;simp at hw;obtain ⟨c,V⟩:∃c:Int,(if true=true then if w>0 then w else 0 else if w<0 then w else 0)=c:=⟨_,rfl⟩;have pa:c=max w 0:=by rw [<-V,if_pos rfl];split<;>omega
   obtain ⟨z,pc,Y,hz⟩:=OI (c:=c) (by omega) (by omega);have pd:(z++d).size=z.size+d.size:=ByteArray.size_append;obtain ⟨k,hk⟩:∃k:Nat,k+s.toNat=(z++d).size:=⟨(z++d).size-s.toNat,by omega⟩;have n:IntKind.i64.wrap (s+1)=s+1:=by rw [IntKind.wrap_i64];omega
   have q:IntKind.i64.wrap (s+1-Int.ofNat d.size)=w:=by rw [IntKind.wrap_i64];simp;omega
   have j:IntKind.i64.wrap (Int.ofNat (z++d).size-s)=Int.ofNat k:=by rw [IntKind.wrap_i64];simp only [qaJ];omega
   have u:z.size+d.size<=9223372036854775807:=by omega
   have y:0<=(Int.ofNat k).toNat/\(Int.ofNat k).toNat<=(z++d).size:=⟨Nat.zero_le _,by grind⟩;have x1:((z++d).extract 0 k).size=k:=by rw [ByteArray.size_extract];omega
   have x2:((z++d).extract k (z++d).size).size=s.toNat:=by rw [ByteArray.size_extract];omega
   have A:((z++d).extract 0 (Int.ofNat k).toNat).size+(⟨#[46]⟩:qaY).size<=9223372036854775807:=by show ((z++d).extract 0 k).size+1<=_;omega
   have E:(Int.ofNat k).toNat<=(z++d).size/\(z++d).size<=(z++d).size:=⟨by grind,Nat.le_refl _⟩;have x3:((z++d).extract 0 k++(⟨#[46]⟩:qaY)).size=k+1:=by rw [ByteArray.size_append,x1];rfl
   have F:((z++d).extract 0 (Int.ofNat k).toNat++(⟨#[46]⟩:qaY)).size+((z++d).extract (Int.ofNat k).toNat (z++d).size).size<=9223372036854775807:=by show ((z++d).extract 0 k++(⟨#[46]⟩:qaY)).size+((z++d).extract k (z++d).size).size<=_;omega
   have x4:((z++d).extract 0 k++(⟨#[46]⟩:qaY)++(z++d).extract k (z++d).size).size=k+1+s.toNat:=by rw [ByteArray.size_append,x3,x2]
   cases J:decide (a<0) with
   |true=>
    have U:(⟨#[45]⟩:qaY).size+((z++d).extract 0 (Int.ofNat k).toNat++(⟨#[46]⟩:qaY)++(z++d).extract (Int.ofNat k).toNat (z++d).size).size<=9223372036854775807:=by show 1+((z++d).extract 0 k++(⟨#[46]⟩:qaY)++(z++d).extract k (z++d).size).size<=_;omega
    refine ⟨⟨#[45]⟩++((z++d).extract 0 k++(⟨#[46]⟩:qaY)++(z++d).extract k (z++d).size),by rw [ByteArray.size_append,x4];show 1+(k+1+s.toNat)<=60;omega,f (B:=m+O+P+Y) fun M H=>?_⟩;exact caA [(7,.p (num 0)),(13,.p (num b)),(14,.p (aF d)),(17,.b true),(20,.i (s+1)),(23,.i w),(24,.i c),(25,.p (aF z)),(27,.at),(33,.i (Int.ofNat k)),(34,.cut),(35,.at),(41,.i (Int.ofNat k)),(42,.cut),(43,.at),(46,.b true),(48,.at)] (pfc (l M (by omega)) (pfc (Q M (by omega)) (pfc (S M (by omega)) (ztF L n q V (hz M (by omega)) u j y A j E F J U)))) (r:=some (.tup [aF (⟨#[45]⟩++((z++d).extract 0 k++(⟨#[46]⟩:qaY)++(z++d).extract k (z++d).size)),num 0],[]))
   |false=>refine ⟨(z++d).extract 0 k++(⟨#[46]⟩:qaY)++(z++d).extract k (z++d).size,by grind,f (B:=m+O+P+Y) fun M H=>?_⟩;exact caA [(7,.p (num 0)),(13,.p (num b)),(14,.p (aF d)),(17,.b true),(20,.i (s+1)),(23,.i w),(24,.i c),(25,.p (aF z)),(27,.at),(33,.i (Int.ofNat k)),(34,.cut),(35,.at),(41,.i (Int.ofNat k)),(42,.cut),(43,.at),(46,.b false)] (pfc (l M (by omega)) (pfc (Q M (by omega)) (pfc (S M (by omega)) (zqP L n q V (hz M (by omega)) u j y A j E F J)))) (r:=some (.tup [aF ((z++d).extract 0 k++(⟨#[46]⟩:qaY)++(z++d).extract k (z++d).size),num 0],[]))
def zxb:List Ctr:=[mkC 278 [rV] [] none [(.tu [.sr 0 60,err],[])]]
theorem zaM:ay T Gm zxb:=.one (dH (fun o m=>by rw [qaa.1 m];exact ⟨rfl,rfl⟩) fun B u j l=>by
 obtain ⟨x,rfl,n⟩:=zd9 j;obtain rfl:=nK l;obtain ⟨ys,rfl,q⟩:∃ys,x=.agg ys/\IsL T 0 [int,int] ys:=n;obtain ⟨y,z,rfl,⟨a,rfl⟩,⟨s,rfl⟩⟩:=zmi q;rcases WA a s with ⟨e,f,h⟩|⟨t,A,h⟩;·exact ⟨_,qaa.2 rfl,.tup [bD,num e],[],⟨_,rfl,⟨⟨#[]⟩,rfl,by decide,by decide⟩,⟨e,rfl,f⟩,trivial⟩,trivial,h⟩
 exact ⟨_,qaa.2 rfl,.tup [aF t,num 0],[],⟨_,rfl,⟨t,rfl,by omega,by omega⟩,⟨0,rfl,by decide,by decide⟩,trivial⟩,trivial,h⟩)
end Ct
end Go.Proofs.YtpcjeobkehmhpaaGreatDoor
