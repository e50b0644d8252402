/-.-/
import Derived.Test.YtpcjeobkehmhpaaGreatDoorU17
import Derived.Test.YtpcjeobkehmhpaaGreatDoorU19
import Derived.Test.YtpcjeobkehmhpaaGreatDoorU29
import Derived.Test.YtpcjeobkehmhpaaGreatDoorU30
import Derived.Test.YtpcjeobkehmhpaaGreatDoorU31
import Derived.Test.YtpcjeobkehmhpaaGreatDoorU32
set_option linter.unusedSimpArgs false
set_option linter.unusedVariables false
namespace Go.Proofs.YtpcjeobkehmhpaaGreatDoor
open Go Go.Em Go.Ab
set_option maxRecDepth 100000
variable {u v:Bool}{s:qaZ}{a h hp:Int}{x x0 xs:List X}{B:Nat}{τ:St}{r:X}
namespace Ct
def okE:Nat->List X->Prop
 |0,_=>False
 |h+1,x=>∃(op n:Int) (s:qaZ) (u:Bool) (vs:qaY) (v:Bool) (ar:qaY),x=[num op,num n,aC s,.sl u 6 vs,.sl v 5 ar]/\s.size<=1000000/\vs.length<=1000000/\ar.length<=1000000/\(∀e,e∈vs->D T 9 1 e)/\
  (op=1->∃c:Int,((c=0->1<=vs.length)/\0<=c/\c<=100)/\∃B,∀N,B<=N->Gam.aF (ah tab ext N) 216 [.sl false 6 vs]=some (num c))/\∀e,e∈ar->okE h e
abbrev fnB:Bx:=.var [.fn 169 [.ptr 0 0 0,.ptr 1 0 0]]
def Vis (H:Int)(x:List X)(lev k:Int):Prop:=∃c k':Int,(0<=c/\c<=100)/\0<=k'/\k'<=256/\(c=0->D T H 10 x)/\∃B,∀N,B<=N->ah tab ext N (.fn 169) [.agg x,num lev,.ptr 0 0 0,.ptr 1 0 0] [.var [num k],fnB]=some (num c,[.var [num k'],fnB])
section
variable (lev:Int) (t:Bool) (ar:qaY) (m:Nat)
abbrev vsH (k:Int) (j:Nat):St:=⟨[(1,num lev),(3,.ptr 1 0 0),(23,.sl t 5 ar),(24,nat m),(25,nat j)],[.var [num k],fnB]⟩
end
theorem Nv {a b c:X}{u' v':Bool}{l f:qaY}(hd:D T h 10 [a,b,c,.sl u 6 l,.sl v 5 f]):D T h 10 [a,b,c,.sl u' 6 l,.sl v' 5 f]:=by obtain ⟨h1,alt,ha,hs⟩:=lT hd;obtain ⟨q,hq,rfl⟩:=qal.1 (show alt∈List.map _ _ from ha);obtain ⟨k1,k2,k3,k4,k5,k6⟩:=hs;exact dH h1 ha ⟨k1,k2,k3,k4,k5,k6⟩
theorem zb8 {H:Int}(lev:Int)(t:Bool)(ar:qaY)(m:Nat)(hm:m=ar.length)(hlen:m<=1000000)(h0:0<=lev)(h1:lev<=1000)(hok:∀x,x∈ar->∃(op n:Int) (s:qaZ) (u:Bool) (vs:qaY) (v:Bool) (ar2:qaY),x=[num op,num n,aC s,.sl u 6 vs,.sl v 5 ar2]/\∀k,0<=k->k<=256->Vis H [num op,num n,aC s,.sl false 6 vs,.sl false 5 ar2] (lev+1) k)
  {k0:Int} (hk0:0<=k0) (hk1:k0<=256) {τ:St} (hτ:canon 2 τ=some (vsH lev t ar m k0 0)):
  ∃e σ' B,((∃(c k:Int) (y:List X),(c≠0/\0<=c/\c<=100)/\0<=k/\k<=256/\e=.ret/\σ'=⟨[(6,num c)],[.var [num k],fnB,.var y]⟩)\/(∃k:Int,0<=k/\k<=256/\e=.exit 0/\σ'=⟨[(1,num lev),(3,.ptr 1 0 0),(23,.sl t 5 ar),(24,nat m),(25,nat m),(26,ak false)],[.var [num k],fnB]⟩/\∀x,x∈ar->D T H 10 x))/\∀M,B<=M->run (ah tab ext M) 2 M (.loop (aH 169 0)) τ=some (e,σ'):=by
 refine jC (nIn:=2) (b:=aH 169 0) (H:=fun p:Int×Nat=>vsH lev t ar m p.1 p.2) (I:=fun p=>0<=p.1/\p.1<=256/\p.2<=m/\∀i (hi:i<ar.length),i<p.2->D T H 10 ar[i]) (μ:=fun p=>m-p.2)
  (Q:=fun e σ'=>(∃(c k:Int) (y:List X),(c≠0/\0<=c/\c<=100)/\0<=k/\k<=256/\e=.ret/\σ'=⟨[(6,num c)],[.var [num k],fnB,.var y]⟩)\/(∃k:Int,0<=k/\k<=256/\e=.exit 0/\σ'=⟨[(1,num lev),(3,.ptr 1 0 0),(23,.sl t 5 ar),(24,nat m),(25,nat m),(26,ak false)],[.var [num k],fnB]⟩/\∀x,x∈ar->D T H 10 x))
  (fun p hp=>?_) (a:=(k0,0)) ⟨hk0,hk1,Nat.zero_le _,fun i hi hj=>absurd hj (Nat.not_lt_zero _)⟩ hτ
 obtain ⟨k,j⟩:=p;obtain ⟨i1,i2,i3,i4⟩:=hp;dsimp only at i1 i2 i3 i4 ⊢;by_cases hj:j<m
 ·have hlt:=aN hj;have hjl:j<ar.length:=by omega
  have hx:ar[j]?=some ar[j]:=qad hjl;have hmem:=qah hjl;obtain ⟨op,n,s,u,vs,v,as',e,zlN⟩:=hok _ hmem;obtain ⟨c,k',cr,c1,c2,c3,B,hc⟩:=zlN k i1 i2;have hnx:IntKind.i64.wrap (lev+1)=lev+1:=by rw [IntKind.wrap_i64];omega
  rw [e] at hx;by_cases h0:c=0
  ·subst h0;refine .inl ⟨⟨[(1,num lev),(3,.ptr 1 0 0),(23,.sl t 5 ar),(24,nat m),(25,nat (j+1))],[.var [num k'],fnB,.var [num op,num n,aC s,.sl u 6 vs,.sl v 5 as']]⟩,(k',j+1),B,fun M hM=>?_,by kernel_rfl,⟨c1,c2,by dsimp only;omega,fun i hi hij=>?_⟩,by dsimp only;omega⟩;·exact ruA [(26,.b true),(27,.e [num op,num n,aC s,.sl u 6 vs,.sl v 5 as']),(32,.i (lev+1)),(33,.r (num 0) [.var [num k'],fnB]),(37,.i (Int.ofNat (j+1)))] (pf5 hlt hx hnx (hc M hM) (aB (j:=j) (by omega)))
   dsimp only at hij;by_cases hi2:i<j;·exact i4 i hi hi2
   obtain rfl:i=j:=by omega
   rw [e];exact Nv (c3 rfl)
  have hb:(c !=0)=true:=by simpa using h0
  exact .inr ⟨_,_,B,(by intro e;cases e),.inl ⟨c,k',[num op,num n,aC s,.sl u 6 vs,.sl v 5 as'],⟨h0,cr⟩,c1,c2,rfl,rfl⟩,fun M hM=>ruA [(26,.b true),(27,.e [num op,num n,aC s,.sl u 6 vs,.sl v 5 as']),(32,.i (lev+1)),(33,.r (num c) [.var [num k'],fnB]),(35,.b true)] (pf5 hlt hx hnx (hc M hM) hb)⟩
 obtain rfl:j=m:=by omega
 refine .inr ⟨_,_,0,(by intro e;cases e),.inr ⟨k,i1,i2,rfl,rfl,fun x hx=>?_⟩,fun M _=>ruA [(26,.b false)] (pf1 (aO (qaC j)))⟩;obtain ⟨i,hi,rfl⟩:=qaU hx;exact i4 i hi (by omega)
end Ct
namespace Ct
abbrev ztI (o na:Int):Ctr:=(dM 170 [exp] [] none [(.k .i64 0,[],bd 2 o o++[aj (.k na) ⟨6,0⟩]),(.ir .i64 1 100,[],[])]).with [bd 2 o o]
theorem zna {o na H n:Int}{vs ar:qaY}(hC:(ztI o na).Holds T Gm)(h0:0<=H)(hs:s.size<=1000000)(hvl:vs.length<=1000000)(hal:ar.length<=1000000)(hv:∀e,e∈vs->D T H 1 e)(ha:∀e,e∈ar->D T H 8 e):
  ∃c:Int,((c=0->na<=ar.length)/\0<=c/\c<=100)/\∃B,∀N,B<=N->Gam.aF (ah tab ext N) 170 [.agg [num o,num n,aC s,.sl u 6 vs,.sl v 5 ar]]=some (num c):=by
 obtain ⟨ρ,znp⟩:=Jc (T:=T) (f:=170) (args:=[exp]) (inb:=[]) (mu:=none) (outs:=[(.k .i64 0,[],bd 2 o o++[aj (.k na) ⟨6,0⟩]),(.ir .i64 1 100,[],[])]) (xs:=[.agg [num o,num n,aC s,.sl u 6 vs,.sl v 5 ar]]) (bx:=[]) rfl rfl
  ⟨⟨H,_,rfl,h0,⟨o,rfl⟩,⟨n,rfl⟩,⟨s,rfl,by unfold bT;omega⟩,⟨u,vs,rfl,by unfold bT;omega,hv⟩,⟨v,ar,rfl,by unfold bT;omega,ha⟩,trivial⟩,trivial⟩ trivial
 have hg:GL T _ ρ [.agg [.i .i64 ⟨2,0⟩,.i .i64 ⟨3,0⟩,.s ⟨4,0⟩,.sl none 6 1 ⟨1,0⟩ ⟨5,0⟩,.sl none 5 8 ⟨1,0⟩ ⟨6,0⟩]] [.agg [num o,num n,aC s,.sl u 6 vs,.sl v 5 ar]]:=znp.args;obtain ⟨_,_,e,w,_⟩:=cZ hg;cases e;obtain ⟨_,e,w⟩:=zay w;cases e;obtain ⟨_,_,e,v1,w⟩:=cZ w;cases e;obtain ⟨_,_,e,v2,w⟩:=cZ w;cases e;obtain ⟨_,_,e,v3,w⟩:=cZ w;cases e;obtain ⟨_,_,e,v4,w⟩:=cZ w;cases e;obtain ⟨_,_,e,v5,w⟩:=cZ w;cases e;have e2:o=ρ 2:=sI v1;have e6:(ar.length:Int)=ρ 6:=by
  cases v5 with
  |sl _ _ _ q _=>rw [q];unfold Lin.v;show ρ 6+0=_;omega
 have z:=znp.zero;have hp:aX (dM 170 [exp] [] none [(.k .i64 0,[],bd 2 o o++[aj (.k na) ⟨6,0⟩]),(.ir .i64 1 100,[],[])]).m ρ (bd 2 o o):=by
  refine .cons (aJ.2 ⟨by show 0<7;decide,by show 2<7;decide,?_⟩) (.cons (aJ.2 ⟨by show 2<7;decide,by show 0<7;decide,?_⟩) .nil);·rw [Lin.k_v z];unfold Lin.v;dsimp only;omega
  rw [Lin.k_v z];unfold Lin.v;dsimp only;omega
 obtain ⟨q,hq,n',ρ',r,bx',hm,z',hF,hg',hi,hb,B,hB⟩:=BD znp.zero znp.pos (hC ρ _ _ (Ctr.Sat.with znp hp));rcases qaj.1 hq with rfl|hq;·obtain rfl:=nD hb;have hi:r=num 0:=hi;subst hi;have k6:ρ' 6=ρ 6:=hm.same 6 (by show 6<7;decide);have hf:=(aJ.1 (hF (aj (.k na) ⟨6,0⟩) (List.mem_append_right _ (qaa.2 rfl)))).2.2;rw [Lin.k_v z'] at hf;unfold Lin.v at hf;dsimp only at hf;exact ⟨0,⟨fun _=>by omega,by decide,by decide⟩,B,fun N hN=>aY (hB N hN) rfl⟩
 obtain rfl:=qaa.1 hq;obtain rfl:=nD hb;obtain ⟨c,rfl,c1,c2⟩:=znl hi;exact ⟨c,⟨fun e=>by omega,by omega,c2⟩,B,fun N hN=>aY (hB N hN) rfl⟩
end Ct
namespace Ct
abbrev RI:List (Int×Int×Nat×Nat):=[(1,1,1,0),(2,2,0,0),(3,3,0,1),(4,15,0,2),(16,16,0,1),(17,17,0,2),(18,20,0,1),(21,21,0,3),(22,22,0,0),(23,23,0,2),(24,24,0,3),(25,25,0,2),(26,26,0,0),(27,28,0,1)]
theorem zpK {H op n:Int}{vs ar:qaY}{q:Int×Int×Nat×Nat}(hq:q∈RI)(h0:0<=H)(h1:q.1<=op)(h2:op<=q.2.1)(hs:s.size<=1000000)(hvl:vs.length<=1000000)(hal:ar.length<=1000000)(h3:q.2.2.1<=vs.length)(h4:q.2.2.2<=ar.length)(hv:∀e,e∈vs->D T H 1 e)(ha:∀e,e∈ar->D T H 10 e):D T (H+1) 10 [num op,num n,aC s,.sl u 6 vs,.sl v 5 ar]:=by refine dH (by omega) (qal.2 ⟨q,hq,rfl⟩) ?_;rw [Int.add_sub_cancel];exact ⟨⟨rfl,(fun a e=>by cases e;exact h1),(fun a e=>by cases e;exact h2)⟩,⟨rfl,(fun a e=>by cases e),(fun a e=>by cases e)⟩,⟨Nat.zero_le _,hs⟩,⟨rfl,h3,hvl,hv⟩,⟨rfl,h4,hal,ha⟩,trivial⟩
theorem zfX:∀(h:Nat) {x:List X},okE h x->D T (9+(h:Int)) 8 x
 |0,_,hx=>hx.elim
 |h+1,x,hx=>by obtain ⟨op,n,s,u,vs,v,ar,rfl,h1,h2,h3,h4,_,h6⟩:=hx;rw [show (9:Int)+((h+1:Nat):Int)=9+(h:Int)+1 by omega];refine dH (by omega) (qaa.2 rfl) ?_;rw [Int.add_sub_cancel];exact ⟨⟨rfl,(fun a e=>by cases e),(fun a e=>by cases e)⟩,⟨rfl,(fun a e=>by cases e),(fun a e=>by cases e)⟩,⟨Nat.zero_le _,h1⟩,⟨rfl,Nat.zero_le _,h2,fun e he=>fU (by omega) (h4 e he)⟩,⟨rfl,Nat.zero_le _,h3,fun e he=>zfX h (h6 e he)⟩,trivial⟩
end Ct
namespace Ct
theorem one_one {n:Int}{vs ar:qaY}(znw:∃c:Int,((c=0->1<=vs.length)/\0<=c/\c<=100)/\∃B,∀N,B<=N->Gam.aF (ah tab ext N) 216 [.sl false 6 vs]=some (num c)):
  ∃c:Int,((c=0->1<=vs.length)/\0<=c/\c<=100)/\∃B,∀N,B<=N->Gam.aF (ah tab ext N) 170 [.agg [num 1,num n,aC s,.sl false 6 vs,.sl false 5 ar]]=some (num c):=by
 obtain ⟨c,hc,B,znw⟩:=znw;have lift:∀{c':Int} {B:Nat},(∀M,B<=M->Gam.aF (ah tab ext (M+1)) 170 [.agg [num 1,num n,aC s,.sl false 6 vs,.sl false 5 ar]]=some (num c'))->∃B,∀N,B<=N->Gam.aF (ah tab ext N) 170 [.agg [num 1,num n,aC s,.sl false 6 vs,.sl false 5 ar]]=some (num c'):=fun {c'} {B} h=>⟨B+1,fun N hN=>by obtain ⟨M,rfl⟩:∃M,N=M+1:=⟨N-1,by omega⟩;exact h M (by omega)⟩;have har:∀M,1<=M->Gam.aF (ah tab ext M) 213 [num 1]=some (.tup [num 0,num 0]):=fun M hM=>by obtain ⟨M,rfl⟩:∃M',M=M'+1:=⟨M-1,by omega⟩;exact aY (ar1 M) rfl
 have zo5:∀M,1<=M->Gam.aF (ah tab ext M) 214 [num 1]=some (ak false):=fun M hM=>by obtain ⟨M,rfl⟩:∃M',M=M'+1:=⟨M-1,by omega⟩;exact puA [] pf0 (ak false)
 have zqH:∀M,1<=M->Gam.aF (ah tab ext M) 215 [num 1]=some (ak false):=fun M hM=>by obtain ⟨M,rfl⟩:∃M',M=M'+1:=⟨M-1,by omega⟩;exact puA [] pf0 (ak false)
 cases h1:(!s.toList==(⟨#[]⟩:qaZ).toList) with
 |true=>exact ⟨3,⟨(fun e=>by cases e),by decide,by decide⟩,lift (B:=1) fun M hM=>puA [(19,.p (.tup [num 0,num 0])),(35,.p (ak false)),(40,.b true)] (pf3 (har M hM) (zo5 M hM) h1) (num 3)⟩
 |false=>
  cases h2:(n !=0) with
  |true=>exact ⟨3,⟨(fun e=>by cases e),by decide,by decide⟩,lift (B:=1) fun M hM=>puA [(19,.p (.tup [num 0,num 0])),(35,.p (ak false)),(40,.b false),(46,.p (ak false)),(51,.b true)] (pf5 (har M hM) (zo5 M hM) h1 (zqH M hM) h2) (num 3)⟩
  |false=>
   cases h3:decide (Int.ofNat ar.length>0) with
   |true=>exact ⟨3,⟨(fun e=>by cases e),by decide,by decide⟩,lift (B:=1) fun M hM=>puA [(19,.p (.tup [num 0,num 0])),(35,.p (ak false)),(40,.b false),(46,.p (ak false)),(51,.b false),(61,.b true)] (pf6 (har M hM) (zo5 M hM) h1 (zqH M hM) h2 h3) (num 3)⟩
   |false=>exact ⟨c,hc,lift (B:=B+1) fun M hM=>puA [(19,.p (.tup [num 0,num 0])),(35,.p (ak false)),(40,.b false),(46,.p (ak false)),(51,.b false),(61,.b false),(74,.b false),(86,.p (num c))] (pf8 (har M (by omega)) (zo5 M (by omega)) h1 (zqH M (by omega)) h2 h3 h3 (znw M (by omega))) (num c)⟩
theorem zdo {H op n:Int}{vs ar:qaY}(h0:0<=H)(hs:s.size<=1000000)(hvl:vs.length<=1000000)(hal:ar.length<=1000000)(hv:∀e,e∈vs->D T H 1 e)(ha:∀e,e∈ar->D T H 8 e)(znw:op=1->∃c:Int,((c=0->1<=vs.length)/\0<=c/\c<=100)/\∃B,∀N,B<=N->Gam.aF (ah tab ext N) 216 [.sl false 6 vs]=some (num c)):
  ∃c:Int,((c=0->∃q,q∈RI/\q.1<=op/\op<=q.2.1/\q.2.2.1<=vs.length/\q.2.2.2<=ar.length)/\0<=c/\c<=100)/\∃B,∀N,B<=N->Gam.aF (ah tab ext N) 170 [.agg [num op,num n,aC s,.sl false 6 vs,.sl false 5 ar]]=some (num c):=by
 by_cases hlo:op<1;·exact ⟨11,⟨(fun e=>by cases e),by decide,by decide⟩,1,fun N hN=>by obtain ⟨M,rfl⟩:∃M,N=M+1:=⟨N-1,by omega⟩;exact puA [(10,.b true)] (pf1 (decide_eq_true hlo)) (num 11)⟩
 by_cases hhi:op>28;·exact ⟨11,⟨(fun e=>by cases e),by decide,by decide⟩,1,fun N hN=>by obtain ⟨M,rfl⟩:∃M,N=M+1:=⟨N-1,by omega⟩;exact puA [(10,.b false),(14,.b true)] (pf2 (decide_eq_false hlo) (decide_eq_true hhi)) (num 11)⟩
 have go:∀{o na:Int} {q:Int×Int×Nat×Nat},op=o->q∈RI->q.1<=o->o<=q.2.1->q.2.2.1=0->(q.2.2.2:Int)=na->(ztI o na).Holds T Gm->∃c:Int,((c=0->∃q,q∈RI/\q.1<=op/\op<=q.2.1/\q.2.2.1<=vs.length/\q.2.2.2<=ar.length)/\0<=c/\c<=100)/\∃B,∀N,B<=N->Gam.aF (ah tab ext N) 170 [.agg [num op,num n,aC s,.sl false 6 vs,.sl false 5 ar]]=some (num c):=fun {o na q} ho hq k1 k2 k3 k4 hC=>by subst ho;obtain ⟨c,hc,hB⟩:=zna (n:=n) (u:=false) (v:=false) hC h0 hs hvl hal hv ha;exact ⟨c,⟨fun e=>⟨q,hq,k1,k2,by omega,by have:=hc.1 e;omega⟩,hc.2⟩,hB⟩
 rcases zm2 (op:=op) (by omega) (by omega) with h|h|h|h|h|h|h|h|h|h|h|h|h|h|h|h|h|h|h|h|h|h|h|h|h|h|h|h;·subst h;obtain ⟨c,hc,hB⟩:=one_one (n:=n) (s:=s) (ar:=ar) (znw rfl);exact ⟨c,⟨fun e=>⟨(1,1,1,0),by simp,by decide,by decide,hc.1 e,Nat.zero_le _⟩,hc.2⟩,hB⟩
 ·exact go (q:=(2,2,0,0)) h (by simp) (by decide) (by decide) rfl rfl (VX _ (qaa.2 rfl))
 ·exact go (q:=(3,3,0,1)) h (by simp) (by decide) (by decide) rfl rfl (VW _ (qaa.2 rfl))
 ·exact go (q:=(4,15,0,2)) h (by simp) (by decide) (by decide) rfl rfl (VU _ (qaa.2 rfl))
 ·exact go (q:=(4,15,0,2)) h (by simp) (by decide) (by decide) rfl rfl (VT _ (qaa.2 rfl))
 ·exact go (q:=(4,15,0,2)) h (by simp) (by decide) (by decide) rfl rfl (VR _ (qaa.2 rfl))
 ·exact go (q:=(4,15,0,2)) h (by simp) (by decide) (by decide) rfl rfl (VQ _ (qaa.2 rfl))
 ·exact go (q:=(4,15,0,2)) h (by simp) (by decide) (by decide) rfl rfl (VP _ (qaa.2 rfl))
 ·exact go (q:=(4,15,0,2)) h (by simp) (by decide) (by decide) rfl rfl (VO _ (qaa.2 rfl))
 ·exact go (q:=(4,15,0,2)) h (by simp) (by decide) (by decide) rfl rfl (PZ _ (qaa.2 rfl))
 ·exact go (q:=(4,15,0,2)) h (by simp) (by decide) (by decide) rfl rfl (PY _ (qaa.2 rfl))
 ·exact go (q:=(4,15,0,2)) h (by simp) (by decide) (by decide) rfl rfl (PX _ (qaa.2 rfl))
 ·exact go (q:=(4,15,0,2)) h (by simp) (by decide) (by decide) rfl rfl (PW _ (qaa.2 rfl))
 ·exact go (q:=(4,15,0,2)) h (by simp) (by decide) (by decide) rfl rfl (PV _ (qaa.2 rfl))
 ·exact go (q:=(4,15,0,2)) h (by simp) (by decide) (by decide) rfl rfl (PU _ (qaa.2 rfl))
 ·exact go (q:=(16,16,0,1)) h (by simp) (by decide) (by decide) rfl rfl (PS _ (qaa.2 rfl))
 ·exact go (q:=(17,17,0,2)) h (by simp) (by decide) (by decide) rfl rfl (PO _ (qaa.2 rfl))
 ·exact go (q:=(18,20,0,1)) h (by simp) (by decide) (by decide) rfl rfl (PN _ (qaa.2 rfl))
 ·exact go (q:=(18,20,0,1)) h (by simp) (by decide) (by decide) rfl rfl (PL _ (qaa.2 rfl))
 ·exact go (q:=(18,20,0,1)) h (by simp) (by decide) (by decide) rfl rfl (PK _ (qaa.2 rfl))
 ·exact go (q:=(21,21,0,3)) h (by simp) (by decide) (by decide) rfl rfl (PI _ (qaa.2 rfl))
 ·exact go (q:=(22,22,0,0)) h (by simp) (by decide) (by decide) rfl rfl (PG _ (qaa.2 rfl))
 ·exact go (q:=(23,23,0,2)) h (by simp) (by decide) (by decide) rfl rfl (PE _ (qaa.2 rfl))
 ·exact go (q:=(24,24,0,3)) h (by simp) (by decide) (by decide) rfl rfl (PD _ (qaa.2 rfl))
 ·exact go (q:=(25,25,0,2)) h (by simp) (by decide) (by decide) rfl rfl (Pz _ (qaa.2 rfl))
 ·exact go (q:=(26,26,0,0)) h (by simp) (by decide) (by decide) rfl rfl (Py _ (qaa.2 rfl))
 ·exact go (q:=(27,28,0,1)) h (by simp) (by decide) (by decide) rfl rfl (Px _ (qaa.2 rfl))
 exact go (q:=(27,28,0,1)) h (by simp) (by decide) (by decide) rfl rfl (Pv _ (qaa.2 rfl))
end Ct
namespace Ct
theorem Rj:∀(h:Nat) (op n:Int) (s:qaZ) (u v:Bool) (vs ar:qaY),okE h [num op,num n,aC s,.sl u 6 vs,.sl v 5 ar]->∀lev k:Int,0<=lev->lev+h<=1000->0<=k->k<=256->Vis (9+(h:Int)) [num op,num n,aC s,.sl false 6 vs,.sl false 5 ar] lev k
 |0,_,_,_,_,_,_,_,hx=>hx.elim
 |h+1,op,n,s,u,v,vs,ar,hx=>fun lev k l0 l1 k0 k1=>by
  obtain ⟨op',n',s',u',vs',v',ar',e,a1,a2,a3,a4,a5,a6⟩:=hx;simp only [num,aC,List.cons.injEq,X.v.injEq,Value.int.injEq,Value.string.injEq,X.sl.injEq,and_true,true_and] at e;obtain ⟨rfl,rfl,rfl,⟨_,rfl⟩,⟨_,rfl⟩⟩:=e;have lift:∀{c k':Int} {B:Nat},(∀M,B<=M->ah tab ext (M+1) (.fn 169) [.agg [num op,num n,aC s,.sl false 6 vs,.sl false 5 ar],num lev,.ptr 0 0 0,.ptr 1 0 0] [.var [num k],fnB]=some (num c,[.var [num k'],fnB]))->∃B,∀N,B<=N->ah tab ext N (.fn 169) [.agg [num op,num n,aC s,.sl false 6 vs,.sl false 5 ar],num lev,.ptr 0 0 0,.ptr 1 0 0] [.var [num k],fnB]=some (num c,[.var [num k'],fnB]):=fun {c k' B} h=>⟨B+1,fun N hN=>by obtain ⟨M,rfl⟩:∃M,N=M+1:=⟨N-1,by omega⟩;exact h M (by omega)⟩;have hD8:∀e,e∈ar->D T (9+(h:Int)) 8 e:=fun e he=>zfX h (a6 e he);have hv:∀e,e∈vs->D T (9+(h:Int)) 1 e:=fun e he=>fU (by omega) (a4 e he);obtain ⟨c,hc,B1,zqJ⟩:=zdo (H:=9+(h:Int)) (op:=op) (n:=n) (by omega) a1 a2 a3 hv hD8 a5;cases h1:(k==256) with
  |true=>exact ⟨9,k,by decide,k0,k1,(fun e=>by cases e),lift (B:=0) fun M _=>caA [(12,.b true)] (pf1 h1) (r:=some (num 9,[.var [num k],fnB]))⟩
  |false=>
   have kne:k≠256:=by simpa using h1
   have hk:IntKind.i64.wrap (k+1)=k+1:=by rw [IntKind.wrap_i64];omega
   cases h2:decide (lev>8) with
   |true=>exact ⟨23,k+1,by decide,by omega,by omega,(fun e=>by cases e),lift (B:=0) fun M _=>caA [(12,.b false),(14,.i (k+1)),(16,.b true)] (pf3 h1 hk h2) (r:=some (num 23,[.var [num (k+1)],fnB]))⟩
   |false=>
    by_cases c0:c=0
    ·subst c0;obtain ⟨q,hq,q1,q2,q3,q4⟩:=hc.1 rfl;obtain ⟨e,σ',B2,hr,hl⟩:=zb8 (H:=9+(h:Int)) lev false ar ar.length rfl a3 l0 (by omega) (fun x hx=>by
      cases h with
      |zero=>exact (a6 x hx).elim
      |succ h'=>obtain ⟨op2,n2,s2,u2,vs2,v2,ar2,e,_⟩:=a6 x hx;exact ⟨op2,n2,s2,u2,vs2,v2,ar2,e,fun k' k2 k3=>Rj (h'+1) op2 n2 s2 u2 v2 vs2 ar2 (e▸a6 x hx) (lev+1) k' (by omega) (by omega) k2 k3⟩) (k0:=k+1) (by omega) (by omega)
      (τ:=⟨[(1,num lev),(3,.ptr 1 0 0),(23,.sl false 5 ar),(24,nat ar.length),(25,num 0)],[.var [num (k+1)],fnB,.var [num op,num n,aC s,.sl false 6 vs,.sl false 5 ar]]⟩) (by kernel_rfl)
     rcases hr with ⟨c,k',y,c1,c2,c3,rfl,rfl⟩|⟨k',c2,c3,rfl,rfl,hall⟩;·exact ⟨c,k',c1.2,c2,c3,fun e=>absurd e c1.1,lift (B:=max B1 B2) fun M hM=>caB [(12,.b false),(14,.i (k+1)),(16,.b false),(18,.p (num 0))] [(.ret,⟨[(6,num c)],[.var [num k'],fnB,.var y]⟩)] (pf5 h1 hk h2 (zqJ M (by omega)) (hl M (by omega))) (r:=some (num c,[.var [num k'],fnB]))⟩
     refine ⟨0,k',by decide,c2,c3,fun _=>?_,lift (B:=max B1 B2) fun M hM=>?_⟩;·rw [show (9:Int)+((h+1:Nat):Int)=9+(h:Int)+1 by omega];exact zpK hq (by omega) q1 q2 a1 a2 a3 q3 q4 hv hall
     have hl:=hl M (by omega);generalize ar.length=m at hl;exact caB [(12,.b false),(14,.i (k+1)),(16,.b false),(18,.p (num 0))] [(.exit 0,⟨[(1,num lev),(3,.ptr 1 0 0),(23,.sl false 5 ar),(24,nat m),(25,nat m),(26,ak false)],[.var [num k'],fnB]⟩)] (pf5 h1 hk h2 (zqJ M (by omega)) hl) (r:=some (num 0,[.var [num k'],fnB]))
    have hb:(c !=0)=true:=by simpa using c0
    exact ⟨c,k+1,hc.2,by omega,by omega,fun e=>absurd e c0,lift (B:=B1) fun M hM=>caA [(12,.b false),(14,.i (k+1)),(16,.b false),(18,.p (num c)),(20,.b true)] (pf5 h1 hk h2 (zqJ M hM) hb) (r:=some (num c,[.var [num (k+1)],fnB]))⟩
theorem WB {h:Nat}(hh:h<=900){op n:Int}{vs ar:qaY}(hx:okE h [num op,num n,aC s,.sl u 6 vs,.sl v 5 ar]):∃c:Int,((c=0->D T (9+(h:Int)) 10 [num op,num n,aC s,.sl u 6 vs,.sl v 5 ar])/\0<=c/\c<=100)/\Back 119 [.agg [num op,num n,aC s,.sl u 6 vs,.sl v 5 ar]] (num c):=by obtain ⟨c,k',cr,c1,c2,c3,B,hB⟩:=Rj h op n s u v vs ar hx 1 0 (by decide) (by omega) (by decide) (by decide);refine ⟨c,⟨fun e=>Nv (c3 e),cr⟩,B+1,fun N hN=>?_⟩;obtain ⟨M,rfl⟩:∃M,N=M+1:=⟨N-1,by omega⟩;exact caA [(8,.r (num c) [.var [num k'],fnB])] (pf1 (hB M (by omega))) (r:=some (num c,[]))
end Ct
namespace Ct
def zwm:List Ctr:=[mkC 297 [.ir .i64 0 12] [] none [(.ir .i64 1 1000000000000,[])]]
theorem zmb (n:Nat)(h:n<=12):∃z:Int,1<=z/\z<=1000000000000/\∀N,ah tab ext (N+20) (.fn 297) [.v (.int .i64 n)] []=some (.v (.int .i64 z),[]):=by
 have:n=0\/n=1\/n=2\/n=3\/n=4\/n=5\/n=6\/n=7\/n=8\/n=9\/n=10\/n=11\/n=12:=by omega
 rcases this with rfl|rfl|rfl|rfl|rfl|rfl|rfl|rfl|rfl|rfl|rfl|rfl|rfl;·exact ⟨1,by omega,by omega,fun N=>caA [] pf0 (r:=some (.v (.int .i64 1),[]))⟩
 ·exact ⟨10,by omega,by omega,fun N=>caA [] pf0 (r:=some (.v (.int .i64 10),[]))⟩
 ·exact ⟨100,by omega,by omega,fun N=>caA [] pf0 (r:=some (.v (.int .i64 100),[]))⟩
 ·exact ⟨1000,by omega,by omega,fun N=>caA [] pf0 (r:=some (.v (.int .i64 1000),[]))⟩
 ·exact ⟨10000,by omega,by omega,fun N=>caA [] pf0 (r:=some (.v (.int .i64 10000),[]))⟩
 ·exact ⟨100000,by omega,by omega,fun N=>caA [] pf0 (r:=some (.v (.int .i64 100000),[]))⟩
 ·exact ⟨1000000,by omega,by omega,fun N=>caA [] pf0 (r:=some (.v (.int .i64 1000000),[]))⟩
 ·exact ⟨10000000,by omega,by omega,fun N=>caA [] pf0 (r:=some (.v (.int .i64 10000000),[]))⟩
 ·exact ⟨100000000,by omega,by omega,fun N=>caA [] pf0 (r:=some (.v (.int .i64 100000000),[]))⟩
 ·exact ⟨1000000000,by omega,by omega,fun N=>caA [] pf0 (r:=some (.v (.int .i64 1000000000),[]))⟩
 ·exact ⟨10000000000,by omega,by omega,fun N=>caA [] pf0 (r:=some (.v (.int .i64 10000000000),[]))⟩
 ·exact ⟨100000000000,by omega,by omega,fun N=>caA [] pf0 (r:=some (.v (.int .i64 100000000000),[]))⟩
 exact ⟨1000000000000,by omega,by omega,fun N=>caA [] pf0 (r:=some (.v (.int .i64 1000000000000),[]))⟩
theorem zaz:ay T Gm zwm:=.one (dF (fun o ho=>by rw [qaa.1 ho];exact ⟨rfl,rfl⟩) fun xs bx ha hb=>by
 match xs,bx,ha,hb with
 |[_],[],⟨⟨z,rfl,h1,h2⟩,_⟩,_=>obtain ⟨n,rfl⟩:∃n:Nat,z=n:=⟨z.toNat,by omega⟩;obtain ⟨y,h3,h4,hy⟩:=zmb n (by omega);refine ⟨_,qaa.2 rfl,.v (.int .i64 y),[],⟨y,rfl,h3,h4⟩,trivial,20,fun N hN=>?_⟩;obtain ⟨M,rfl⟩:∃M,N=M+20:=⟨N-20,by omega⟩;exact hy M)
end Ct
set_option linter.all false
namespace Ct
def ztd:List Ctr:=[mkC 269 [.ir .i64 (-999999999999999) (-1)] [] none [(.ir .i64 1 999999999999999,[])],mkC 269 [.ir .i64 0 0] [] none [(.ir .i64 0 0,[])],mkC 269 [.ir .i64 1 999999999999999] [] none [(.ir .i64 1 999999999999999,[])],dM 269 [int] [] none [(int,[],[lt 1 0 2])]]
theorem yh:ay T Gm ztd:=hoA K .nil
def zvs:List Ctr:=[dM 276 [rJ] [] none [(.k .i64 0,[],bd 1 (-999999999999999) 999999999999999++bd 2 0 12),(.ir .i64 1 100,[],[])]]
theorem P7:ay T Gm zvs:=hoA K yh
def zvz:List Ctr:=[mkC 261 [.sl 2 9] [] none [(err,[])]]
theorem yj:ay T Gm zvz:=hoB K ((iM [⟨[6,7,8],fun e n=>(n+1,[aj (.k 0) ⟨n+0,0⟩,aj ⟨n+0,0⟩ (e 1)],[(6,.sl none 2 9 (e 0) (e 1)),(7,.i .i64 (e 1)),(8,.i .i64 ⟨n+0,0⟩)],[],(e 1,⟨n+0,0⟩))⟩])) P7
def zvy:List Ctr:=[mkC 262 [Sj] [] none [(.tu [int,int],[])]]
theorem zab:ay T Gm zvy:=hoA K zaz
def zwd:List Ctr:=[mkC 157 [int] [] none [((.kb true),[]),((.kb false),[])]]
theorem zjt:ay T Gm zwd:=hoA K .nil
def zwh:List Ctr:=[mkC 109 [int,int] [] none [((int),[])]]
theorem Qk:ay T Gm zwh:=hoA K zjt
def zwi:List Ctr:=[mkC 108 [.sl 1 3] [] none [((int),[])]]
theorem zas:ay T Gm zwi:=hoB K ((iM [⟨[3,6,7,8],fun e n=>(n+1,[aj (.k 0) ⟨n+0,0⟩,aj ⟨n+0,0⟩ (e 2)],[(3,.i .i64 (.k 0)),(6,.sl none 1 3 (e 1) (e 2)),(7,.i .i64 (e 2)),(8,.i .i64 ⟨n+0,0⟩)],[],(e 2,⟨n+0,0⟩))⟩])) .nil
def zvW:List Ctr:=[mkC 223 [Sj,Sj] [] none [(.tu [int,err],[])]]
theorem zi4:ay T Gm zvW:=hoA K (hpA yj (hpA zab (hpA Qk zas)))
def zvv:List Ctr:=[mkC 270 [int,int] [] none [(((.tu [rJ,err])),[])]]
theorem P8:ay T Gm zvv:=hoA K yh
def zvx:List Ctr:=[mkC 267 [.sl 2 9,.ir .i64 0 12] [] none [(.tu [rJ,err],[])]]
theorem zaa:ay T Gm zvx:=hoB K ((iM [⟨[1,4,6,7,8,14,15,16],fun e n=>(n+3,[aj (.k 0) ⟨n+2,0⟩,aj ⟨n+2,0⟩ (e 6)],[(1,.i .i64 (e 0)),(4,.ptr 0 (.k 0) 0),(6,.i .i64 (e 2)),(7,.i .i64 ⟨n+0,0⟩),(8,.i .i64 ⟨n+1,0⟩),(14,.sl none 2 9 (e 5) (e 6)),(15,.i .i64 (e 6)),(16,.i .i64 ⟨n+2,0⟩)],[.var [.i .i64 (.k 0),.i .i64 (.k 0)]],(e 6,⟨n+2,0⟩))⟩])) (hpA zaz (hpA zab (hpA yh P8)))
def zvU:List Ctr:=[mkC 227 [.sl 2 9] [] none [(.tu [rJ,err],[])]]
theorem zi3:ay T Gm zvU:=hoB K ((iM [⟨[0,2,5,18,19,20],fun e n=>(n+2,[aj (.k 0) ⟨n+0,0⟩,aj (.k 0) ⟨n+1,0⟩,aj ⟨n+1,0⟩ (e 1),aj ⟨n+0,0⟩ (.k 12)],[(0,.sl none 2 9 (e 0) (e 1)),(2,.ptr 0 (.k 0) 0),(5,.i .i64 ⟨n+0,0⟩),(18,.sl none 2 9 (e 0) (e 1)),(19,.i .i64 (e 1)),(20,.i .i64 ⟨n+1,0⟩)],[.var [.i .i64 (.k 0),.i .i64 (.k 0)]],(e 1,⟨n+1,0⟩))⟩])) (hpA yj zaa)
def zvS:List Ctr:=[mkC 229 [Sj,Sj] [] none [(.tu [rJ,err],[])]]
theorem zaf:ay T Gm zvS:=hoA K (hpA yj zaa)
def zvR:List Ctr:=[mkC 230 [Sj,Sj] [] none [(.tu [rJ,err],[])]]
theorem zi2:ay T Gm zvR:=hoA K (hpA yj zaf)
def zvQ:List Ctr:=[mkC 231 [Sj,.ag [.ir .i64 (-999999999999999) (-1),.ir .i64 0 12]] [] none [(.tu [rJ,err],[])],mkC 231 [Sj,.ag [.ir .i64 0 0,.ir .i64 0 12]] [] none [(.tu [rJ,err],[])],mkC 231 [Sj,.ag [.ir .i64 1 999999999999999,.ir .i64 0 12]] [] none [(.tu [rJ,err],[])]]
theorem Qc:ay T Gm zvQ:=hoA K (hpA yj (hpA yh P8))
def zvu:List Ctr:=[mkC 271 [.ir .i64 (-999999999999999) 999999999999999,.ir .i64 (-999999999999999) (-1),.ir .i64 (-24) 24] [] none [(int,[])],mkC 271 [.ir .i64 (-999999999999999) 999999999999999,.ir .i64 1 999999999999999,.ir .i64 (-24) 24] [] none [(int,[])]]
theorem ziP:ay T Gm zvu:=hoB K ((iM [⟨[0,1,2],fun e n=>(n+2,[aj (.k 0) ⟨n+0,-1⟩,aj ⟨n+1,0⟩ (.k 24),aj (e 2) ⟨n+1,0⟩,aj ⟨n+0,0⟩ (.k 39999999999999960)],[(0,.i .i64 (e 0)),(1,.i .i64 ⟨n+0,0⟩),(2,.i .i64 ⟨n+1,0⟩)],[],(e 1,⟨n+1,0⟩))⟩,⟨[1,2,7,8],fun e n=>(n+3,[aj (.k 0) ⟨n+0,0⟩,aj ⟨n+0,0⟩ (e 1),aj ⟨n+1,0⟩ (.k 9223372036854775807),aj (.k 0) ⟨n+1,9223372036854775808⟩,aj (.k 0) ⟨n+2,39999999999999959⟩,aj ⟨n+2,0⟩ ((e 0).up (-1))],[(1,.i .i64 (e 0)),(2,.i .i64 ⟨n+0,0⟩),(7,.i .i64 ⟨n+1,0⟩),(8,.i .i64 ⟨n+2,0⟩)],[],(⟨n+0,0⟩,.k 0))⟩,⟨[0,1,2],fun e n=>(n+2,[aj (.k 0) ⟨n+0,-1⟩,aj ⟨n+1,0⟩ (.k 24),aj (e 2) ⟨n+1,0⟩,aj ⟨n+0,0⟩ (.k 39999999999999960)],[(0,.i .i64 (e 0)),(1,.i .i64 ⟨n+0,0⟩),(2,.i .i64 ⟨n+1,0⟩)],[],(e 1,⟨n+1,0⟩))⟩,⟨[1,2,7,8],fun e n=>(n+3,[aj (.k 0) ⟨n+0,0⟩,aj ⟨n+0,0⟩ (e 1),aj ⟨n+1,0⟩ (.k 9223372036854775807),aj (.k 0) ⟨n+1,9223372036854775808⟩,aj (.k 0) ⟨n+2,39999999999999959⟩,aj ⟨n+2,0⟩ ((e 0).up (-1))],[(1,.i .i64 (e 0)),(2,.i .i64 ⟨n+0,0⟩),(7,.i .i64 ⟨n+1,0⟩),(8,.i .i64 ⟨n+2,0⟩)],[],(⟨n+0,0⟩,.k 0))⟩])) yh
def zvP:List Ctr:=[mkC 232 [Sj,.ag [.ir .i64 (-999999999999999) (-1),.ir .i64 0 12],int] [] none [(.tu [rJ,err],[])],mkC 232 [Sj,.ag [.ir .i64 0 0,.ir .i64 0 12],int] [] none [(.tu [rJ,err],[])],mkC 232 [Sj,.ag [.ir .i64 1 999999999999999,.ir .i64 0 12],int] [] none [(.tu [rJ,err],[])]]
theorem Qb:ay T Gm zvP:=hoA K (hpA yj (hpA ziP P8))
def zvO:List Ctr:=[mkC 236 [rJ] [] none [(((.tu [rJ,err])),[])]]
theorem zi1:ay T Gm zvO:=hoA K P7
end Ct
namespace Ct
def okN (a s:Int):Prop:=-999999999999999<=a/\a<=999999999999999/\0<=s/\s<=12
theorem zgj (a s:Int):∃e:Int,((e=0->okN a s)/\0<=e/\e<=100)/\∃B,∀N,B<=N->ah tab ext N (.fn 276) [.agg [num a,num s]] []=some (num e,[]):=by
 have h:=P7 _ (qaa.2 rfl);obtain ⟨o,ho,ρ',r,bx,m1,f1,g1,g2,B,hB⟩:=h (fun n=>match n with|1=>a|2=>s|_=>0) [.agg [num a,num s]] [] ⟨rfl,by decide,(fun f hf=>by cases hf),⟨[],qaa.2 rfl,(fun f hf=>by cases hf)⟩,
  .cons (.agg (.cons (.i (by decide) (by show _=_+(0:Int);rw [Int.add_zero];rfl)) (.cons (.i (by decide) (by show _=_+(0:Int);rw [Int.add_zero];rfl)) .nil))) .nil,.nil⟩
 have z:ρ' 0=0:=m1.same 0 (by decide);have e1:ρ' 1=a:=m1.same 1 (by decide);have e2:ρ' 2=s:=m1.same 2 (by decide);rcases qaj.1 ho with rfl|ho
 ·have g1:G T _ ρ' (.i .i64 (.k 0)) r:=g1;have g2:GBs T _ ρ' [] bx:=g2;cases g2;cases g1 with
  |i q1 q2=>rw [Lin.k_v z] at q2;subst q2;refine ⟨0,⟨fun _=>?_,by decide,by decide⟩,B,hB⟩;have k1:=aJ.1 (f1 (aj (.k (-999999999999999)) ⟨1,0⟩) (by simp [dM,mkC,F9,bd]));have k2:=aJ.1 (f1 (aj ⟨1,0⟩ (.k 999999999999999)) (by simp [dM,mkC,F9,bd]));have k3:=aJ.1 (f1 (aj (.k 0) ⟨2,0⟩) (by simp [dM,mkC,F9,bd]));have k4:=aJ.1 (f1 (aj ⟨2,0⟩ (.k 12)) (by simp [dM,mkC,F9,bd]));simp only [Lin.k_v z] at k1 k2 k3 k4;unfold Lin.v at k1 k2 k3 k4;dsimp only at k1 k2 k3 k4;rw [e1] at k1 k2;rw [e2] at k3 k4;unfold okN;omega
 rcases qaj.1 ho with rfl|ho
 ·have g1:G T _ ρ' (.i .i64 ⟨3,0⟩) r:=g1;have g2:GBs T _ ρ' [] bx:=g2;cases g2;cases g1 with
  |i q1 q2=>rename_i z1;have k1:=aJ.1 (f1 (aj (.k 1) ⟨3,0⟩) (by simp [dM,mkC,F9,bd,bnd,Sh.bld,mO,qy]));have k2:=aJ.1 (f1 (aj ⟨3,0⟩ (.k 100)) (by simp [dM,mkC,F9,bd,bnd,Sh.bld,mO,qy]));rw [Lin.k_v z,<-q2] at k1 k2;exact ⟨z1,⟨fun e=>by omega,by omega,by omega⟩,B,hB⟩
 cases ho
def nc (p:Int×Int):List X:=[num p.1,num p.2]
theorem GZ (t:Bool)(l:List (Int×Int))(hl:l.length<=2000000):∃e:Int,((e=0->∀p,p∈l->okN p.1 p.2)/\0<=e/\e<=100)/\Back 261 [.sl t 2 (l.map nc)] (num e):=by
 obtain ⟨E,B,hE⟩:=oG l (R:=fun p (e:Int)=>(e=0->okN p.1 p.2)/\0<=e/\e<=100) (Q:=fun p e N=>Gam.aF (ah tab ext N) 276 [.agg [num p.1,num p.2]]=some (num e)) (fun p _=>by obtain ⟨e,h1,h2⟩:=zgj p.1 p.2;exact ⟨e,h1,gY h2 rfl⟩);have hlen:(l.map nc).length=l.length:=qat ..;have key:=zmz (nIn:=0) (b:=aH 261 0) (H:=fun j=>⟨[(6,.sl t 2 (l.map nc)),(7,nat (l.map nc).length),(8,nat j)],[]⟩) (P:=fun j=>E (l.getD j (0,0))!=0) (r:=fun j=>⟨[(2,num (E (l.getD j (0,0))))],[.var (nc (l.getD j (0,0)))]⟩)
  (υ:=fun j=>⟨[(6,.sl t 2 (l.map nc)),(7,nat (l.map nc).length),(8,nat (j+1))],[.var (nc (l.getD j (0,0)))]⟩) (τ:=⟨[(6,.sl t 2 (l.map nc)),(7,nat (l.map nc).length),(8,nat 0)],[]⟩) (n:=l.length) (B:=B) (e:=.exit 0)
  (fin:=⟨[(6,.sl t 2 (l.map nc)),(7,nat (l.map nc).length),(8,nat l.length),(9,ak false)],[]⟩) (by kernel_rfl)
  (fun j hj hP M hM=>by
   have hg:(l.map nc)[j]?=some (nc (l.getD j (0,0))):=by rw [qaw,qax,qad hj];rfl
   have hm:l.getD j (0,0)∈l:=by rw [qax,qad hj];exact qah hj
   have hc:=(hE _ hm).2 M hM;generalize l.getD j (0,0)=p at hg hc hP ⊢;generalize E p=e at hc hP ⊢;obtain ⟨a,s⟩:=p;exact ruA [(9,.b true),(10,.e ([num a,num s])),(13,.p (num e)),(15,.b true)] (pf4 (aN (j:=j) (k:=(l.map nc).length) (by omega)) hg hc hP))
  (fun j hj hP=>⟨by kernel_rfl,fun M hM=>by
   have hg:(l.map nc)[j]?=some (nc (l.getD j (0,0))):=by rw [qaw,qax,qad hj];rfl
   have hm:l.getD j (0,0)∈l:=by rw [qax,qad hj];exact qah hj
   have hc:=(hE _ hm).2 M hM;generalize l.getD j (0,0)=p at hg hc hP ⊢;generalize E p=e at hc hP ⊢;obtain ⟨a,s⟩:=p;exact ruA [(9,.b true),(10,.e ([num a,num s])),(13,.p (num e)),(15,.b false),(17,.i (Int.ofNat (j+1)))] (pf5 (aN (j:=j) (k:=(l.map nc).length) (by omega)) hg hc hP (aB (j:=j) (by omega)))⟩)
  (fun M _=>ruA [(9,.b false)] (pf1 (aO (j:=l.length) (k:=(l.map nc).length) (by omega)))) (by simp)
 rcases key with ⟨j,hj,hP,_,h⟩|⟨ha,h⟩
 ·have hm:l.getD j (0,0)∈l:=by rw [qax,qad hj];exact qah hj
  have hr:=(hE _ hm).1.2;generalize l.getD j (0,0)=p at hP h hr;obtain ⟨a,s⟩:=p;generalize E (a,s)=e at hP h hr;refine ⟨e,⟨fun e0=>by subst e0;simp at hP,hr⟩,B+l.length+2,fun N hN=>?_⟩;obtain ⟨M,rfl⟩:∃M,N=M+1:=⟨N-1,by omega⟩;exact caB [] [(.ret,⟨[(2,num e)],[.var (nc (a,s))]⟩)] (pf1 (h M (by omega) (by omega))) (r:=some (num e,[]))
 refine ⟨0,⟨fun _ p hp=>?_,by decide,by decide⟩,B+l.length+2,fun N hN=>?_⟩;·obtain ⟨j,hj,rfl⟩:=qaU hp;have:=ha j hj;rw [qax,qad hj] at this;exact (hE _ hp).1.1 (by simpa using this)
 obtain ⟨M,rfl⟩:∃M,N=M+1:=⟨N-1,by omega⟩;exact caB [] [(.exit 0,⟨[(6,.sl t 2 (l.map nc)),(7,nat (l.map nc).length),(8,nat l.length),(9,ak false)],[]⟩)] (pf1 (h M (by omega) (by omega))) (r:=some (num 0,[]))
end Ct
namespace Ct
theorem isN {T:Tab}{x:X}(hx:rJ.Is T h x):∃a s,x=.agg [num a,num s]:=by
 match x,hx with
 |_,⟨xs,rfl,hx⟩=>
  match xs,hx with
  |[_,_],⟨⟨a,rfl⟩,⟨s,rfl⟩,_⟩=>exact ⟨a,s,rfl⟩
theorem Gu {T:Tab}(a s:Int):rJ.Is T h (.agg [num a,num s]):=⟨_,rfl,⟨a,rfl⟩,⟨s,rfl⟩,trivial⟩
theorem Xk {T:Tab}{s:Int}(hk:okN a s):Sj.Is T h (.agg [num a,num s]):=⟨_,rfl,⟨a,rfl,hk.1,hk.2.1⟩,⟨s,rfl,hk.2.2.1,hk.2.2.2⟩,trivial⟩
theorem uh {f:FuncId}{args:List X}{outs:List (Sh×List BSh)}{o:Sh}{x:X}(ho:(o,[])∈outs)(hx:o.Is T 0 x)(h:∀M,B<=M->ah tab ext (M+1) (.fn f) args []=some (x,[])):Says T Gm f args [] outs:=
 ⟨_,ho,x,[],hx,trivial,B+1,fun N hN=>by obtain ⟨M,rfl⟩:∃M,N=M+1:=⟨N-1,by omega⟩;exact h M (by omega)⟩
theorem NI (t:Bool)(a s b u:Int):(okN a s/\okN b u)\/∃e:Int,((e !=0)=true/\0<=e/\e<=100)/\∃B,∀N,B<=N->Gam.aF (ah tab ext N) 261 [.sl t 2 [[num a,num s],[num b,num u]]]=some (num e):=by
 obtain ⟨e,⟨h1,hr⟩,h2⟩:=GZ t [(a,s),(b,u)] (by simp);by_cases he:e=0;·exact .inl ⟨h1 he (a,s) (by simp),h1 he (b,u) (by simp)⟩
 exact .inr ⟨e,⟨by simpa using he,hr⟩,gY h2 rfl⟩
def zwz:List Ctr:=[mkC 223 [rJ,rJ] [] none [(.tu [int,err],[])]]
theorem zaE:ay T Gm zwz:=.one (dF (fun o ho=>by rw [qaa.1 ho];exact ⟨rfl,rfl⟩) fun xs bx ha hb=>by
 match xs,bx,ha,hb with
 |[_,_],[],⟨h1,h2,_⟩,_=>
  obtain ⟨a,s,rfl⟩:=isN h1;obtain ⟨b,u,rfl⟩:=isN h2;rcases NI false a s b u with ⟨v1,v2⟩|⟨e,⟨he,er⟩,B,hB⟩;·exact dU (zi4 _ (qaa.2 rfl)) rfl rfl ⟨Xk v1,Xk v2,trivial⟩ trivial
  exact uh (x:=.tup [num 0,num e]) (qaa.2 rfl) ⟨_,rfl,⟨0,rfl⟩,⟨e,rfl,er⟩,trivial⟩ (B:=B) fun M hM=>caA [(14,.p (num e)),(16,.b true)] (pf2 (hB M hM) he) (r:=some (.tup [num 0,num e],[])))
def zwx:List Ctr:=[mkC 229 [rJ,rJ] [] none [(.tu [rJ,err],[])]]
theorem zaD:ay T Gm zwx:=.one (dF (fun o ho=>by rw [qaa.1 ho];exact ⟨rfl,rfl⟩) fun xs bx ha hb=>by
 match xs,bx,ha,hb with
 |[_,_],[],⟨h1,h2,_⟩,_=>
  obtain ⟨a,s,rfl⟩:=isN h1;obtain ⟨b,u,rfl⟩:=isN h2;rcases NI false a s b u with ⟨v1,v2⟩|⟨e,⟨he,er⟩,B,hB⟩;·exact dU (zaf _ (qaa.2 rfl)) rfl rfl ⟨Xk v1,Xk v2,trivial⟩ trivial
  exact uh (x:=.tup [.agg [num 0,num 0],num e]) (qaa.2 rfl) ⟨_,rfl,Gu 0 0,⟨e,rfl,er⟩,trivial⟩ (B:=B) fun M hM=>caA [(10,.p (num e)),(12,.b true)] (pf2 (hB M hM) he) (r:=some (.tup [.agg [num 0,num 0],num e],[])))
def zww:List Ctr:=[mkC 230 [rJ,rJ] [] none [(.tu [rJ,err],[])]]
theorem zjF:ay T Gm zww:=.one (dF (fun o ho=>by rw [qaa.1 ho];exact ⟨rfl,rfl⟩) fun xs bx ha hb=>by
 match xs,bx,ha,hb with
 |[_,_],[],⟨h1,h2,_⟩,_=>
  obtain ⟨a,s,rfl⟩:=isN h1;obtain ⟨b,u,rfl⟩:=isN h2;rcases NI false a s b u with ⟨v1,v2⟩|⟨e,⟨he,er⟩,B,hB⟩;·exact dU (zi2 _ (qaa.2 rfl)) rfl rfl ⟨Xk v1,Xk v2,trivial⟩ trivial
  exact uh (x:=.tup [.agg [num 0,num 0],num e]) (qaa.2 rfl) ⟨_,rfl,Gu 0 0,⟨e,rfl,er⟩,trivial⟩ (B:=B) fun M hM=>caA [(10,.p (num e)),(12,.b true)] (pf2 (hB M hM) he) (r:=some (.tup [.agg [num 0,num 0],num e],[])))
def zwv:List Ctr:=[mkC 231 [rJ,rJ] [] none [(.tu [rJ,err],[])]]
theorem zjE:ay T Gm zwv:=.one (dF (fun o ho=>by rw [qaa.1 ho];exact ⟨rfl,rfl⟩) fun xs bx ha hb=>by
 match xs,bx,ha,hb with
 |[_,_],[],⟨h1,h2,_⟩,_=>
  obtain ⟨a,s,rfl⟩:=isN h1;obtain ⟨b,u,rfl⟩:=isN h2;rcases NI false a s b u with ⟨v1,v2⟩|⟨e,⟨he,er⟩,B,hB⟩
  ·have hb:∀lo hi:Int,lo<=b->b<=hi->(Sh.ag [.ir .i64 lo hi,.ir .i64 0 12]).Is T 0 (.agg [num b,num u]):=fun lo hi k1 k2=>⟨_,rfl,⟨b,rfl,k1,k2⟩,⟨u,rfl,v2.2.2.1,v2.2.2.2⟩,trivial⟩;have w1:=v2.1;have w2:=v2.2.1;by_cases k1:b<=-1;·exact dU (Qc _ (qap ..)) rfl rfl ⟨Xk v1,hb _ _ (by omega) (by omega),trivial⟩ trivial
   by_cases k2:b=0;·exact dU (Qc _ (qam _ (qap ..))) rfl rfl ⟨Xk v1,hb _ _ (by omega) (by omega),trivial⟩ trivial
   exact dU (Qc _ (qam _ (qam _ (qap ..)))) rfl rfl ⟨Xk v1,hb _ _ (by omega) (by omega),trivial⟩ trivial
  exact uh (x:=.tup [.agg [num 0,num 0],num e]) (qaa.2 rfl) ⟨_,rfl,Gu 0 0,⟨e,rfl,er⟩,trivial⟩ (B:=B) fun M hM=>caA [(11,.p (num e)),(13,.b true)] (pf2 (hB M hM) he) (r:=some (.tup [.agg [num 0,num 0],num e],[])))
def zwu:List Ctr:=[mkC 232 [rJ,rJ,int] [] none [(.tu [rJ,err],[])]]
theorem zjD:ay T Gm zwu:=.one (dF (fun o ho=>by rw [qaa.1 ho];exact ⟨rfl,rfl⟩) fun xs bx ha hb=>by
 match xs,bx,ha,hb with
 |[_,_,_],[],⟨h1,h2,⟨w,hw⟩,_⟩,_=>
  obtain ⟨a,s,rfl⟩:=isN h1;obtain ⟨b,u,rfl⟩:=isN h2;subst hw;rcases NI false a s b u with ⟨v1,v2⟩|⟨e,⟨he,er⟩,B,hB⟩
  ·have hb:∀lo hi:Int,lo<=b->b<=hi->(Sh.ag [.ir .i64 lo hi,.ir .i64 0 12]).Is T 0 (.agg [num b,num u]):=fun lo hi k1 k2=>⟨_,rfl,⟨b,rfl,k1,k2⟩,⟨u,rfl,v2.2.2.1,v2.2.2.2⟩,trivial⟩;have w1:=v2.1;have w2:=v2.2.1;by_cases k1:b<=-1;·exact dU (Qb _ (qap ..)) rfl rfl ⟨Xk v1,hb _ _ (by omega) (by omega),⟨w,rfl⟩,trivial⟩ trivial
   by_cases k2:b=0;·exact dU (Qb _ (qam _ (qap ..))) rfl rfl ⟨Xk v1,hb _ _ (by omega) (by omega),⟨w,rfl⟩,trivial⟩ trivial
   exact dU (Qb _ (qam _ (qam _ (qap ..)))) rfl rfl ⟨Xk v1,hb _ _ (by omega) (by omega),⟨w,rfl⟩,trivial⟩ trivial
  exact uh (x:=.tup [.agg [num 0,num 0],num e]) (qaa.2 rfl) ⟨_,rfl,Gu 0 0,⟨e,rfl,er⟩,trivial⟩ (B:=B) fun M hM=>caA [(13,.p (num e)),(15,.b true)] (pf2 (hB M hM) he) (r:=some (.tup [.agg [num 0,num 0],num e],[])))
theorem Zh:∀{es:qaY} {h:Int},(∀e,e∈es->D T h 6 e)->∃l:List (Int×Int),es=l.map nc
 |[],_,_=>⟨[],rfl⟩
 |e::r,h,hd=>by
  obtain ⟨l,hl⟩:=Zh (es:=r) fun x hx=>hd x (qam _ hx);obtain ⟨_,alt,ha,hs⟩:=lT (hd e (qap ..));rw [qaa.1 ha] at hs
  match e,hs with
  |[x,y],⟨hx,hy,_⟩=>
   match x,y,hx,hy with
   |.v (.int _ a),.v (.int _ b),⟨rfl,_⟩,⟨rfl,_⟩=>exact ⟨(a,b)::l,by rw [hl];rfl⟩
def zwy:List Ctr:=[mkC 227 [.sl 2 6] [] none [(.tu [rJ,err],[])]]
theorem zjG:ay T Gm zwy:=.one (dF (fun o ho=>by rw [qaa.1 ho];exact ⟨rfl,rfl⟩) fun xs bx ha hb=>by
 match xs,bx,ha,hb with
 |[_],[],⟨⟨t,es,h',rfl,hh,hl,hd⟩,_⟩,_=>
  obtain ⟨l,rfl⟩:=Zh hd;have hlen:(l.map nc).length=l.length:=qat ..;have hl2:l.length<=2000000:=by unfold bT at hl;omega
  obtain ⟨e,⟨h1,er⟩,h2⟩:=GZ false l hl2;obtain ⟨B,hB⟩:=gY h2 rfl;by_cases he:e=0;·refine dU (zi3 _ (qaa.2 rfl)) rfl rfl ⟨⟨t,l.map nc,1,rfl,by omega,hl,fun x hx=>?_⟩,trivial⟩ trivial;obtain ⟨p,hp,rfl⟩:=qal.1 hx;obtain ⟨k1,k2,k3,k4⟩:=h1 he p hp;exact dH (by omega) (qaa.2 rfl) ⟨⟨rfl,fun a e=>by cases e;exact k1,fun a e=>by cases e;exact k2⟩,⟨rfl,fun a e=>by cases e;exact k3,fun a e=>by cases e;exact k4⟩,trivial⟩
  have he':(e !=0)=true:=by simpa using he
  cases hb:decide (Int.ofNat (l.map nc).length>256) with
  |true=>exact uh (x:=.tup [.agg [num 0,num 0],num 9]) (qaa.2 rfl) ⟨_,rfl,Gu 0 0,⟨9,rfl,by decide,by decide⟩,trivial⟩ (B:=B) fun M hM=>caA [(10,.b true)] (pf1 hb) (r:=some (.tup [.agg [num 0,num 0],num 9],[]))
  |false=>exact uh (x:=.tup [.agg [num 0,num 0],num e]) (qaa.2 rfl) ⟨_,rfl,Gu 0 0,⟨e,rfl,er⟩,trivial⟩ (B:=B) fun M hM=>caA [(10,.b false),(13,.p (num e)),(15,.b true)] (pf3 hb (hB M hM) he') (r:=some (.tup [.agg [num 0,num 0],num e],[])))
end Ct
namespace Ct
abbrev Kv (bx:List Bx):St:=⟨[(4,.sl true 6 []),(5,num 22)],bx⟩
section
variable (t2:Bool) (ps es:qaY) (np j n:Nat) (k i:Int) (nm:qaZ)
abbrev inS (ns:qaY) (q m:Nat):St:=⟨[(1,.sl t2 3 ps),(9,.ptr 0 0 0),(10,.bs 1 0 q),(23,.sl t2 3 ps),(24,nat np),(25,nat j),(29,.sl true 6 es),(30,nat n),(31,nat m)],[.var [num k,num i,aC nm],.row 6 ns]⟩
abbrev inR (ns:qaY) (q m:Nat):St:=⟨[(1,.sl t2 3 ps),(9,.ptr 0 0 0),(10,.bs 1 0 q),(23,.sl t2 3 ps),(24,nat np),(25,nat j),(29,.bs 2 0 n),(30,nat n),(31,nat m)],[.var [num k,num i,aC nm],.row 6 ns,.row 6 es]⟩
abbrev eiS (ns:qaY) (q m:Nat):St:=⟨[(1,.sl t2 3 ps),(9,.ptr 0 0 0),(10,.bs 1 0 q),(23,.sl t2 3 ps),(24,nat np),(25,nat j),(29,.sl true 6 es),(30,nat n),(31,nat m),(32,ak false)],[.var [num k,num i,aC nm],.row 6 ns]⟩
abbrev eiR (ns:qaY) (q m:Nat):St:=⟨[(1,.sl t2 3 ps),(9,.ptr 0 0 0),(10,.bs 1 0 q),(23,.sl t2 3 ps),(24,nat np),(25,nat j),(29,.bs 2 0 n),(30,nat n),(31,nat m),(32,ak false)],[.var [num k,num i,aC nm],.row 6 ns,.row 6 es]⟩
end
def zlY (bx:List Bx):Prop:=(∃a ns b,bx=[.var a,.row 6 ns,.var b])\/(∃a ns es b,bx=[.var a,.row 6 ns,.row 6 es,.var b])
theorem hz {es:qaY}{m:Nat}(h:es[m]?=some x):es[0+m]?=some x:=by rw [Nat.zero_add];exact h
theorem innerS (t2:Bool)(ps es:qaY)(np j n:Nat){k i:Int}{nm:qaZ}(p1:0<=i)(p2:i<=1000000)(p3:nm.size<=1000000)(hn:n=es.length)(hes:∀e,e∈es->D T (h+1) 11 e)(hl:es.length<=50000)(hτ:canon 0 τ=some (inS t2 ps es np j n k i nm [] 0 0)):
  ∃e σ' B,((e=.ret/\∃bx,σ'=Kv bx/\zlY bx)\/(∃ns:qaY,e=.exit 2/\σ'=eiS t2 ps es np j n k i nm ns ns.length n/\ns.length<=6*n/\∀y,y∈ns->D T h 11 y))/\∀M,B<=M->run (ah tab ext M) 0 M (.loop (aH 225 1)) τ=some (e,σ'):=by
 refine jC (nIn:=0) (b:=aH 225 1) (H:=fun p:qaY×Nat×Nat=>inS t2 ps es np j n k i nm p.1 p.2.1 p.2.2) (I:=fun p=>p.2.1=p.1.length/\p.2.2<=n/\p.1.length<=6*p.2.2/\∀y,y∈p.1->D T h 11 y) (μ:=fun p=>n-p.2.2)
  (Q:=fun e σ'=>(e=.ret/\∃bx,σ'=Kv bx/\zlY bx)\/(∃ns:qaY,e=.exit 2/\σ'=eiS t2 ps es np j n k i nm ns ns.length n/\ns.length<=6*n/\∀y,y∈ns->D T h 11 y))
  (fun p hp=>?_) (a:=([],0,0)) ⟨rfl,Nat.zero_le _,Nat.zero_le _,fun y hy=>by cases hy⟩ hτ
 obtain ⟨ns,q,m⟩:=p;obtain ⟨i1,i2,i3,i4⟩:=hp;dsimp only at i1 i2 i3 i4 ⊢;by_cases hm:m<n
 ·have h1:=aN hm;have hmem:m<es.length:=by omega
  obtain ⟨x,hx⟩:∃x,es[m]?=some x:=⟨_,qad hmem⟩;have hd:=hes x (qan hx);obtain ⟨h0,a,b,c,s,u,l,v,f,rfl,_⟩:=d11 hd;have hd:=oD hd;obtain ⟨g,B1,ha⟩:=zu (k:=k) p1 p2 p3 hd;obtain ⟨ys,y1,y2,B2,hl2⟩:=MI (k:=k) p1 p2 p3 hd;cases g with
  |false=>exact .inr ⟨.ret,Kv [.var [num k,num i,aC nm],.row 6 ns,.var [num a,num b,num c,aC s,.sl u 6 l,.sl v 7 f]],B1,(by intro e;cases e),.inl ⟨rfl,_,rfl,.inl ⟨_,_,_,rfl⟩⟩,fun M hM=>ruA [(32,.b true),(33,.e [num a,num b,num c,aC s,.sl u 6 l,.sl v 7 f]),(37,.p (ak false)),(38,.b true)] (pf4 h1 hx (ha M (by omega)) (show (!false)=true from rfl))⟩
  |true=>
   have hroom:0+q=ns.length/\dD (q+ys.length) (87+1)=true/\sD 1 (X.sl false 6 ys).rows=false:=⟨by omega,jc (by omega) (by omega),rfl⟩;refine .inl ⟨⟨[(1,.sl t2 3 ps),(9,.ptr 0 0 0),(10,.bs 3 0 (q+ys.length)),(23,.sl t2 3 ps),(24,nat np),(25,nat j),(29,.sl true 6 es),(30,nat n),(31,nat (m+1))],[.var [num k,num i,aC nm],.dead,.var [num a,num b,num c,aC s,.sl u 6 l,.sl v 7 f],.row 6 (ns++ys)]⟩,(ns++ys,q+ys.length,m+1),max B1 B2,fun M hM=>?_,by kernel_rfl,⟨by simp [i1],by dsimp only;omega,by simp only [qau];omega,fun y hy=>?_⟩,by dsimp only;omega⟩;·exact ruA [(32,.b true),(33,.e [num a,num b,num c,aC s,.sl u 6 l,.sl v 7 f]),(37,.p (ak true)),(38,.b false),(42,.p (.sl false 6 ys)),(43,.app),(44,.i (Int.ofNat (m+1)))] (pf7 h1 hx (ha M (by omega)) (show (!true)=false from rfl) (hl2 M (by omega)) hroom (aB (j:=m) (by omega)))
   rcases qaK.1 hy with hy|hy;·exact i4 y hy
   exact y2 y hy
 have hmn:m=n:=by omega
 subst hmn;subst i1;exact .inr ⟨_,_,0,(by intro e;cases e),.inr ⟨ns,rfl,rfl,i3,i4⟩,fun M _=>ruA [(32,.b false)] (pf1 (aO (qaC m)))⟩
theorem znn (t2:Bool)(ps es:qaY)(np j n:Nat){k i:Int}{nm:qaZ}(p1:0<=i)(p2:i<=1000000)(p3:nm.size<=1000000)(hn:n=es.length)(hes:∀e,e∈es->D T (h+1) 11 e)(hl:es.length<=50000)(hτ:canon 0 τ=some (inR t2 ps es np j n k i nm [] 0 0)):
  ∃e σ' B,((e=.ret/\∃bx,σ'=Kv bx/\zlY bx)\/(∃ns:qaY,e=.exit 2/\σ'=eiR t2 ps es np j n k i nm ns ns.length n/\ns.length<=6*n/\∀y,y∈ns->D T h 11 y))/\∀M,B<=M->run (ah tab ext M) 0 M (.loop (aH 225 1)) τ=some (e,σ'):=by
 refine jC (nIn:=0) (b:=aH 225 1) (H:=fun p:qaY×Nat×Nat=>inR t2 ps es np j n k i nm p.1 p.2.1 p.2.2) (I:=fun p=>p.2.1=p.1.length/\p.2.2<=n/\p.1.length<=6*p.2.2/\∀y,y∈p.1->D T h 11 y) (μ:=fun p=>n-p.2.2)
  (Q:=fun e σ'=>(e=.ret/\∃bx,σ'=Kv bx/\zlY bx)\/(∃ns:qaY,e=.exit 2/\σ'=eiR t2 ps es np j n k i nm ns ns.length n/\ns.length<=6*n/\∀y,y∈ns->D T h 11 y))
  (fun p hp=>?_) (a:=([],0,0)) ⟨rfl,Nat.zero_le _,Nat.zero_le _,fun y hy=>by cases hy⟩ hτ
 obtain ⟨ns,q,m⟩:=p;obtain ⟨i1,i2,i3,i4⟩:=hp;dsimp only at i1 i2 i3 i4 ⊢;by_cases hm:m<n
 ·have h1:=aN hm;have hmem:m<es.length:=by omega
  obtain ⟨x,hx⟩:∃x,es[m]?=some x:=⟨_,qad hmem⟩;have hd:=hes x (qan hx);obtain ⟨h0,a,b,c,s,u,l,v,f,rfl,_⟩:=d11 hd;have hd:=oD hd;obtain ⟨g,B1,ha⟩:=zu (k:=k) p1 p2 p3 hd;obtain ⟨ys,y1,y2,B2,hl2⟩:=MI (k:=k) p1 p2 p3 hd;cases g with
  |false=>exact .inr ⟨.ret,Kv [.var [num k,num i,aC nm],.row 6 ns,.row 6 es,.var [num a,num b,num c,aC s,.sl u 6 l,.sl v 7 f]],B1,(by intro e;cases e),.inl ⟨rfl,_,rfl,.inr ⟨_,_,_,_,rfl⟩⟩,fun M hM=>ruA [(32,.b true),(33,.at),(34,.ld [num a,num b,num c,aC s,.sl u 6 l,.sl v 7 f]),(37,.p (ak false)),(38,.b true)] (pf5 h1 hm (hz hx) (ha M (by omega)) (show (!false)=true from rfl))⟩
  |true=>
   have hroom:0+q=ns.length/\dD (q+ys.length) (87+1)=true/\sD 1 (X.sl false 6 ys).rows=false:=⟨by omega,jc (by omega) (by omega),rfl⟩;refine .inl ⟨⟨[(1,.sl t2 3 ps),(9,.ptr 0 0 0),(10,.bs 4 0 (q+ys.length)),(23,.sl t2 3 ps),(24,nat np),(25,nat j),(29,.bs 2 0 n),(30,nat n),(31,nat (m+1))],[.var [num k,num i,aC nm],.dead,.row 6 es,.var [num a,num b,num c,aC s,.sl u 6 l,.sl v 7 f],.row 6 (ns++ys)]⟩,(ns++ys,q+ys.length,m+1),max B1 B2,fun M hM=>?_,by kernel_rfl,⟨by simp [i1],by dsimp only;omega,by simp only [qau];omega,fun y hy=>?_⟩,by dsimp only;omega⟩;·exact ruA [(32,.b true),(33,.at),(34,.ld [num a,num b,num c,aC s,.sl u 6 l,.sl v 7 f]),(37,.p (ak true)),(38,.b false),(42,.p (.sl false 6 ys)),(43,.app),(44,.i (Int.ofNat (m+1)))] (pf8 h1 hm (hz hx) (ha M (by omega)) (show (!true)=false from rfl) (hl2 M (by omega)) hroom (aB (j:=m) (by omega)))
   rcases qaK.1 hy with hy|hy;·exact i4 y hy
   exact y2 y hy
 have hmn:m=n:=by omega
 subst hmn;subst i1;exact .inr ⟨_,_,0,(by intro e;cases e),.inr ⟨ns,rfl,rfl,i3,i4⟩,fun M _=>ruA [(32,.b false)] (pf1 (aO (qaC m)))⟩
end Ct
namespace Ct
theorem d7 (hd:D T h 7 x):∃(k i:Int) (nm:qaZ),x=[num k,num i,aC nm]/\0<=i/\i<=1000000/\nm.size<=1000000:=by
 obtain ⟨h1,alt,ha,hs⟩:=lT hd;obtain rfl:=qaa.1 ha
 match x,hs with
 |[_,y,_],⟨k1,k2,k3,_⟩=>
  obtain ⟨k,rfl⟩:=jV k1;obtain ⟨nm,rfl,_,h3⟩:=zge k3
  match y,k2 with
  |.v (.int _ i),⟨rfl,q1,q2⟩=>exact ⟨k,i,nm,rfl,q1 0 rfl,q2 1000000 rfl,h3⟩
section
variable (t2:Bool) (ps:qaY) (np:Nat)
abbrev ouH (p:Bool×qaY×Nat×Nat):St:=match p.1 with
 |true=>⟨[(1,.sl t2 3 ps),(7,.sl true 6 p.2.1),(23,.sl t2 3 ps),(24,nat np),(25,nat p.2.2.2)],[]⟩
 |false=>⟨[(1,.sl t2 3 ps),(7,.bs 0 0 p.2.2.1),(23,.sl t2 3 ps),(24,nat np),(25,nat p.2.2.2)],[.row 6 p.2.1]⟩
abbrev ouE (p:Bool×qaY×Nat×Nat):St:=match p.1 with
 |true=>⟨[(1,.sl t2 3 ps),(7,.sl true 6 p.2.1),(23,.sl t2 3 ps),(24,nat np),(25,nat p.2.2.2),(26,ak false)],[]⟩
 |false=>⟨[(1,.sl t2 3 ps),(7,.bs 0 0 p.2.2.1),(23,.sl t2 3 ps),(24,nat np),(25,nat p.2.2.2),(26,ak false)],[.row 6 p.2.1]⟩
end
def OuI (np:Nat)(p:Bool×qaY×Nat×Nat):Prop:=p.2.2.1=p.2.1.length/\p.2.2.2<=np/\(∀e,e∈p.2.1->D T (7-(p.2.2.2:Int)) 11 e)/\(p.2.2.2<=6->p.2.1.length<=6^p.2.2.2)
theorem zm1 {np:Nat}{p:Bool×qaY×Nat×Nat}(h:OuI np p):p.2.1.length<=50000:=by
 obtain ⟨h1,h2,h3,h4⟩:=h;by_cases hj:p.2.2.2<=6;·have:=h4 hj;have:6^p.2.2.2<=6^6:=Nat.pow_le_pow_right (by decide) hj;have:6^6=46656:=rfl;omega
 cases he:p.2.1 with
 |nil=>simp
 |cons x r=>have:=(lT (h3 x (by rw [he];exact qap ..))).1;omega
theorem outer (t2:Bool)(ps:qaY)(hps:∀e,e∈ps->D T hp 7 e)(hlen:ps.length<=1000000)(hx0:D T 7 11 x0)(hτ:canon 0 τ=some (ouH t2 ps ps.length (true,[x0],1,0))):
  ∃e σ' B,((e=.ret/\∃bx,σ'=Kv bx/\zlY bx)\/(∃p,e=.exit 0/\σ'=ouE t2 ps ps.length p/\p.2.2.1=p.2.1.length/\(∀y,y∈p.2.1->D T 7 11 y)/\p.2.1.length<=50000))/\∀M,B<=M->run (ah tab ext M) 0 M (.loop (aH 225 0)) τ=some (e,σ'):=by
 refine jC (nIn:=0) (b:=aH 225 0) (H:=ouH t2 ps ps.length) (I:=OuI ps.length) (μ:=fun p=>ps.length-p.2.2.2)
  (Q:=fun e σ'=>(e=.ret/\∃bx,σ'=Kv bx/\zlY bx)\/(∃p,e=.exit 0/\σ'=ouE t2 ps ps.length p/\p.2.2.1=p.2.1.length/\(∀y,y∈p.2.1->D T 7 11 y)/\p.2.1.length<=50000))
  (fun p hp'=>?_) (a:=(true,[x0],1,0)) ⟨rfl,Nat.zero_le _,(fun e he=>by rw [qaa.1 he];exact hx0),fun _=>Nat.le_refl _⟩ hτ
 have hl:=zm1 hp';obtain ⟨w,es,n,j⟩:=p;obtain ⟨i1,i2,i3,i4⟩:=hp';dsimp only at i1 i2 i3 i4 hl ⊢;by_cases hj:j<ps.length
 ·have h1:=aN hj;obtain ⟨x,hx⟩:∃x,ps[j]?=some x:=⟨_,qad hj⟩;obtain ⟨k,i,nm,rfl,p1,p2,p3⟩:=d7 (hps x (qan hx));have hes:∀e,e∈es->D T ((6-(j:Int))+1) 11 e:=fun e he=>by rw [show (6-(j:Int))+1=7-(j:Int) by omega];exact i3 e he
  generalize hnp:ps.length=np at*;have next:∀{ns:qaY},ns.length<=6*n->(∀y,y∈ns->D T (6-(j:Int)) 11 y)->OuI np (false,ns,ns.length,j+1):=fun {ns} q1 q2=>by
   refine ⟨rfl,by dsimp only;omega,fun y hy=>?_,fun hj6=>?_⟩;·have:=q2 y hy;rw [show (7:Int)-((j+1:Nat):Int)=6-(j:Int) by omega];exact this
   dsimp only at hj6 ⊢;have:=i4 (by omega);rw [Nat.pow_succ];omega
  cases w with
  |true=>
   obtain ⟨e,σ',B,hr,hl2⟩:=innerS t2 ps es np j n (k:=k) (h:=6-(j:Int)) p1 p2 p3 i1 hes hl (τ:=⟨[(1,.sl t2 3 ps),(9,.ptr 0 0 0),(10,.bs 1 0 0),(23,.sl t2 3 ps),(24,nat np),(25,nat j),(29,.sl true 6 es),(30,nat n),(31,num 0)],[.var [num k,num i,aC nm],.row 6 []]⟩) (by kernel_rfl);subst i1;rcases hr with ⟨rfl,bx,rfl,hbx⟩|⟨ns,rfl,rfl,q1,q2⟩
   ·rcases hbx with ⟨a,ns,b,rfl⟩|⟨a,ns,es',b,rfl⟩;·exact .inr ⟨.ret,Kv [.var a,.row 6 ns,.var b],B,(by intro e;cases e),.inl ⟨rfl,_,rfl,.inl ⟨_,_,_,rfl⟩⟩,fun M hM=>ruB [(26,.b true),(27,.e [num k,num i,aC nm])] [(.ret,Kv [.var a,.row 6 ns,.var b])] (pf3 h1 hx (hl2 M hM))⟩
    exact .inr ⟨.ret,Kv [.var a,.row 6 ns,.row 6 es',.var b],B,(by intro e;cases e),.inl ⟨rfl,_,rfl,.inr ⟨_,_,_,_,rfl⟩⟩,fun M hM=>ruB [(26,.b true),(27,.e [num k,num i,aC nm])] [(.ret,Kv [.var a,.row 6 ns,.row 6 es',.var b])] (pf3 h1 hx (hl2 M hM))⟩
   have hN:=next q1 q2
   generalize ns.length=q at hl2 hN;refine .inl ⟨⟨[(1,.sl t2 3 ps),(7,.bs 1 0 q),(23,.sl t2 3 ps),(24,nat np),(25,nat (j+1))],[.var [num k,num i,aC nm],.row 6 ns]⟩,(false,ns,q,j+1),B,fun M hM=>?_,by kernel_rfl,hN,by dsimp only;omega⟩;exact ruB [(26,.b true),(27,.e [num k,num i,aC nm]),(46,.i (Int.ofNat (j+1)))] [(.exit 2,eiS t2 ps es np j es.length k i nm ns q es.length)] (pf4 h1 hx (hl2 M hM) (aB (j:=j) (by omega)))
  |false=>
   obtain ⟨e,σ',B,hr,hl2⟩:=znn t2 ps es np j n (k:=k) (h:=6-(j:Int)) p1 p2 p3 i1 hes hl (τ:=⟨[(1,.sl t2 3 ps),(9,.ptr 1 0 0),(10,.bs 2 0 0),(23,.sl t2 3 ps),(24,nat np),(25,nat j),(29,.bs 0 0 n),(30,nat n),(31,num 0)],[.row 6 es,.var [num k,num i,aC nm],.row 6 []]⟩) (by kernel_rfl);rcases hr with ⟨rfl,bx,rfl,hbx⟩|⟨ns,rfl,rfl,q1,q2⟩
   ·rcases hbx with ⟨a,ns,b,rfl⟩|⟨a,ns,es',b,rfl⟩;·exact .inr ⟨.ret,Kv [.var a,.row 6 ns,.var b],B,(by intro e;cases e),.inl ⟨rfl,_,rfl,.inl ⟨_,_,_,rfl⟩⟩,fun M hM=>ruB [(26,.b true),(27,.e [num k,num i,aC nm])] [(.ret,Kv [.var a,.row 6 ns,.var b])] (pf3 h1 hx (hl2 M hM))⟩
    exact .inr ⟨.ret,Kv [.var a,.row 6 ns,.row 6 es',.var b],B,(by intro e;cases e),.inl ⟨rfl,_,rfl,.inr ⟨_,_,_,_,rfl⟩⟩,fun M hM=>ruB [(26,.b true),(27,.e [num k,num i,aC nm])] [(.ret,Kv [.var a,.row 6 ns,.row 6 es',.var b])] (pf3 h1 hx (hl2 M hM))⟩
   have hN:=next q1 q2
   generalize ns.length=q at hl2 hN;refine .inl ⟨⟨[(1,.sl t2 3 ps),(7,.bs 1 0 q),(23,.sl t2 3 ps),(24,nat np),(25,nat (j+1))],[.var [num k,num i,aC nm],.row 6 ns,.row 6 es]⟩,(false,ns,q,j+1),B,fun M hM=>?_,by kernel_rfl,hN,by dsimp only;omega⟩;exact ruB [(26,.b true),(27,.e [num k,num i,aC nm]),(46,.i (Int.ofNat (j+1)))] [(.exit 2,eiR t2 ps es np j n k i nm ns q n)] (pf4 h1 hx (hl2 M hM) (aB (j:=j) (by omega)))
 have hjn:j=ps.length:=by omega
 have hd:∀y,y∈es->D T 7 11 y:=fun y hy=>fU (by omega) (i3 y hy);generalize hnp:ps.length=np at*;cases w with
 |true=>exact .inr ⟨_,_,0,(by intro e;cases e),.inr ⟨(true,es,n,j),rfl,rfl,i1,hd,hl⟩,fun M _=>ruA [(26,.b false)] (pf1 (aO (j:=j) (k:=np) (by omega)))⟩
 |false=>exact .inr ⟨_,_,0,(by intro e;cases e),.inr ⟨(false,es,n,j),rfl,rfl,i1,hd,hl⟩,fun M _=>ruA [(26,.b false)] (pf1 (aO (j:=j) (k:=np) (by omega)))⟩
section
variable (es:qaY) (n:Nat)
abbrev coS (ns:qaY) (q m:Nat):St:=⟨[(13,.bs 0 0 q),(55,.sl true 6 es),(56,nat n),(57,nat m)],[.row 6 ns]⟩
abbrev coR (ns:qaY) (q m:Nat):St:=⟨[(13,.bs 0 0 q),(55,.bs 1 0 n),(56,nat n),(57,nat m)],[.row 6 ns,.row 6 es]⟩
abbrev ceS (ns:qaY) (q m:Nat):St:=⟨[(13,.bs 0 0 q),(55,.sl true 6 es),(56,nat n),(57,nat m),(58,ak false)],[.row 6 ns]⟩
abbrev ceR (ns:qaY) (q m:Nat):St:=⟨[(13,.bs 0 0 q),(55,.bs 1 0 n),(56,nat n),(57,nat m),(58,ak false)],[.row 6 ns,.row 6 es]⟩
end
theorem copyS (es:qaY)(n:Nat)(hn:n=es.length)(hes:∀e,e∈es->D T 7 11 e)(hl:es.length<=50000)(hτ:canon 0 τ=some (coS es n [] 0 0)):
  ∃e σ' B,(∃ns:qaY,e=.exit 4/\σ'=ceS es n ns ns.length n/\ns.length=n/\∀y,y∈ns->D T 7 1 y)/\∀M,B<=M->run (ah tab ext M) 0 M (.loop (aH 225 2)) τ=some (e,σ'):=by
 refine jC (nIn:=0) (b:=aH 225 2) (H:=fun p:qaY×Nat×Nat=>coS es n p.1 p.2.1 p.2.2) (I:=fun p=>p.2.1=p.1.length/\p.2.2<=n/\p.1.length=p.2.2/\∀y,y∈p.1->D T 7 1 y) (μ:=fun p=>n-p.2.2)
  (Q:=fun e σ'=>∃ns:qaY,e=.exit 4/\σ'=ceS es n ns ns.length n/\ns.length=n/\∀y,y∈ns->D T 7 1 y)
  (fun p hp=>?_) (a:=([],0,0)) ⟨rfl,Nat.zero_le _,rfl,fun y hy=>by cases hy⟩ hτ
 obtain ⟨ns,q,m⟩:=p;obtain ⟨i1,i2,i3,i4⟩:=hp;dsimp only at i1 i2 i3 i4 ⊢;by_cases hm:m<n
 ·have h1:=aN hm;have hmem:m<es.length:=by omega
  obtain ⟨x,hx⟩:∃x,es[m]?=some x:=⟨_,qad hmem⟩;have hd:=hes x (qan hx);obtain ⟨h0,a,b,c,s,u,l,v,f,rfl,_⟩:=d11 (h:=6) hd;obtain ⟨a',b',c',s',t,l',t',f',y1,B1,hc⟩:=GX (h:=6) (oD hd);have hroom:0+q=ns.length/\dD (q+[[num a',num b',num c',aC s',X.sl t 6 l',X.sl t' 7 f']].length) (87+1)=true/\sD 0 (X.sl true 6 [[num a',num b',num c',aC s',X.sl t 6 l',X.sl t' 7 f']]).rows=false:=⟨by omega,jc (by simp only [qaz,qaR];omega) (by simp only [qaz,qaR];omega),rfl⟩;refine .inl ⟨⟨[(13,.bs 2 0 (q+1)),(55,.sl true 6 es),(56,nat n),(57,nat (m+1))],[.dead,.var [num a,num b,num c,aC s,.sl u 6 l,.sl v 7 f],.row 6 (ns++[[num a',num b',num c',aC s',.sl t 6 l',.sl t' 7 f']])]⟩,(ns++[[num a',num b',num c',aC s',.sl t 6 l',.sl t' 7 f']],q+1,m+1),B1,fun M hM=>?_,by kernel_rfl,⟨by simp [i1],by dsimp only;omega,by simp [i3],fun y hy=>?_⟩,by dsimp only;omega⟩;·exact ruA [(58,.b true),(59,.e [num a,num b,num c,aC s,.sl u 6 l,.sl v 7 f]),(63,.p (.agg [num a',num b',num c',aC s',.sl t 6 l',.sl t' 7 f'])),(65,.app),(66,.i (Int.ofNat (m+1)))] (pf5 h1 hx (hc M hM) hroom (aB (j:=m) (by omega)))
  rcases qaK.1 hy with hy|hy;·exact i4 y hy
  rw [qaa.1 hy];exact y1
 have hmn:m=n:=by omega
 subst hmn;subst i1;exact .inr ⟨_,_,0,(by intro e;cases e),⟨ns,rfl,rfl,i3,i4⟩,fun M _=>ruA [(58,.b false)] (pf1 (aO (qaC m)))⟩
theorem zrH (es:qaY)(n:Nat)(hn:n=es.length)(hes:∀e,e∈es->D T 7 11 e)(hl:es.length<=50000)(hτ:canon 0 τ=some (coR es n [] 0 0)):
  ∃e σ' B,(∃ns:qaY,e=.exit 4/\σ'=ceR es n ns ns.length n/\ns.length=n/\∀y,y∈ns->D T 7 1 y)/\∀M,B<=M->run (ah tab ext M) 0 M (.loop (aH 225 2)) τ=some (e,σ'):=by
 refine jC (nIn:=0) (b:=aH 225 2) (H:=fun p:qaY×Nat×Nat=>coR es n p.1 p.2.1 p.2.2) (I:=fun p=>p.2.1=p.1.length/\p.2.2<=n/\p.1.length=p.2.2/\∀y,y∈p.1->D T 7 1 y) (μ:=fun p=>n-p.2.2)
  (Q:=fun e σ'=>∃ns:qaY,e=.exit 4/\σ'=ceR es n ns ns.length n/\ns.length=n/\∀y,y∈ns->D T 7 1 y)
  (fun p hp=>?_) (a:=([],0,0)) ⟨rfl,Nat.zero_le _,rfl,fun y hy=>by cases hy⟩ hτ
 obtain ⟨ns,q,m⟩:=p;obtain ⟨i1,i2,i3,i4⟩:=hp;dsimp only at i1 i2 i3 i4 ⊢;by_cases hm:m<n
 ·have h1:=aN hm;have hmem:m<es.length:=by omega
  obtain ⟨x,hx⟩:∃x,es[m]?=some x:=⟨_,qad hmem⟩;have hd:=hes x (qan hx);obtain ⟨h0,a,b,c,s,u,l,v,f,rfl,_⟩:=d11 (h:=6) hd;obtain ⟨a',b',c',s',t,l',t',f',y1,B1,hc⟩:=GX (h:=6) (oD hd);have hroom:0+q=ns.length/\dD (q+[[num a',num b',num c',aC s',X.sl t 6 l',X.sl t' 7 f']].length) (87+1)=true/\sD 0 (X.sl true 6 [[num a',num b',num c',aC s',X.sl t 6 l',X.sl t' 7 f']]).rows=false:=⟨by omega,jc (by simp only [qaz,qaR];omega) (by simp only [qaz,qaR];omega),rfl⟩;refine .inl ⟨⟨[(13,.bs 3 0 (q+1)),(55,.bs 1 0 n),(56,nat n),(57,nat (m+1))],[.dead,.row 6 es,.var [num a,num b,num c,aC s,.sl u 6 l,.sl v 7 f],.row 6 (ns++[[num a',num b',num c',aC s',.sl t 6 l',.sl t' 7 f']])]⟩,(ns++[[num a',num b',num c',aC s',.sl t 6 l',.sl t' 7 f']],q+1,m+1),B1,fun M hM=>?_,by kernel_rfl,⟨by simp [i1],by dsimp only;omega,by simp [i3],fun y hy=>?_⟩,by dsimp only;omega⟩;·exact ruA [(58,.b true),(59,.at),(60,.ld [num a,num b,num c,aC s,.sl u 6 l,.sl v 7 f]),(63,.p (.agg [num a',num b',num c',aC s',.sl t 6 l',.sl t' 7 f'])),(65,.app),(66,.i (Int.ofNat (m+1)))] (pf6 h1 hm (hz hx) (hc M hM) hroom (aB (j:=m) (by omega)))
  rcases qaK.1 hy with hy|hy;·exact i4 y hy
  rw [qaa.1 hy];exact y1
 have hmn:m=n:=by omega
 subst hmn;subst i1;exact .inr ⟨_,_,0,(by intro e;cases e),⟨ns,rfl,rfl,i3,i4⟩,fun M _=>ruA [(58,.b false)] (pf1 (aO (qaC m)))⟩
end Ct
namespace Ct
theorem V8 (t2:Bool)(ps:qaY)(h0:0<=hp)(hps:∀e,e∈ps->D T hp 7 e)(hlen:ps.length<=1000000):∃g,∃B,∀N,B<=N->Gam.aF (ah tab ext N) 226 [.sl t2 3 ps]=some (ak g):=by
 obtain ⟨o,ho,r,bx,hi,hb,B,hB⟩:=dU (zjn _ (qaa.2 rfl)) rfl rfl (xs:=[.sl t2 3 ps]) ⟨⟨t2,ps,hp,rfl,h0,by unfold bT;omega,hps⟩,trivial⟩ (bx:=[]) trivial;rcases qaj.1 ho with rfl|ho;·obtain rfl:=nD hb;have hi:r=ak true:=hi;subst hi;exact ⟨true,B,fun N hN=>aY (hB N hN) rfl⟩
 obtain rfl:=qaa.1 ho;obtain rfl:=nD hb;have hi:r=ak false:=hi;subst hi;exact ⟨false,B,fun N hN=>aY (hB N hN) rfl⟩
theorem OQ (t2:Bool)(ps:qaY)(h0:0<=hp)(hps:∀e,e∈ps->D T hp 7 e)(hlen:ps.length<=1000000):∃e:Int,(0<=e/\e<=100)/\∃B,∀N,B<=N->Gam.aF (ah tab ext N) 263 [.sl t2 3 ps]=some (num e):=by obtain ⟨o,ho,r,bx,hi,hb,B,hB⟩:=dU (zi7 _ (qaa.2 rfl)) rfl rfl (xs:=[.sl t2 3 ps]) ⟨⟨t2,ps,hp,rfl,h0,by unfold bT;omega,hps⟩,trivial⟩ (bx:=[]) trivial;obtain rfl:=qaa.1 ho;obtain rfl:=nD hb;obtain ⟨e,rfl,er⟩:∃e,r=num e/\0<=e/\e<=100:=hi;exact ⟨e,er,B,fun N hN=>aY (hB N hN) rfl⟩
def zbL (xs:List X)(r:X)(bx:List Bx):Prop:=∃B,∀N,B<=N->ah tab ext N (.fn 225) xs []=some (r,bx)
theorem pI {bx:List Bx}(h:∀M,B<=M->ah tab ext (M+1) (.fn 225) xs []=some (r,bx)):zbL xs r bx:=⟨B+1,fun N hN=>by obtain ⟨M,rfl⟩:∃M,N=M+1:=⟨N-1,by omega⟩;exact h M (by omega)⟩
theorem Nj (t2:Bool)(ps:qaY)(h0:0<=hp)(hps:∀e,e∈ps->D T hp 7 e)(hlen:ps.length<=1000000)(hx0:D T 7 11 x0):
  ∃g,(∃B,∀N,B<=N->Gam.aF (ah tab ext N) 226 [.sl false 3 ps]=some (ak g))/\((∃e:Int,((e !=0)=true/\0<=e/\e<=100)/\zbL [.agg x0,.sl t2 3 ps] (.tup [.sl true 6 [],num e]) [])\/∃ns:qaY,(∀y,y∈ns->D T 7 1 y)/\ns.length<=50000/\(g=false->ns≠[])/\zbL [.agg x0,.sl t2 3 ps] (.tup [.bs 0 0 ns.length,num 0]) [.row 6 ns]):=by
 obtain ⟨g,B1,hev⟩:=V8 false ps h0 hps hlen;refine ⟨g,⟨B1,hev⟩,?_⟩;obtain ⟨e,er,B2,he⟩:=OQ false ps h0 hps hlen;obtain ⟨_,a,b,c,s,u,l,v,f,rfl,_⟩:=d11 (h:=6) hx0;cases h1:(e !=0) with
 |true=>exact .inl ⟨e,⟨h1,er⟩,pI (B:=B2) fun M hM=>caA [(17,.p (num e)),(19,.b true)] (pf2 (he M hM) h1) (r:=some (.tup [.sl true 6 [],num e],[]))⟩
 |false=>
  have e0:e=0:=by simpa using h1
  subst e0;obtain ⟨e,σ',B3,hr,hl⟩:=outer t2 ps hps hlen hx0 (τ:=⟨[(1,.sl t2 3 ps),(7,.sl true 6 [[num a,num b,num c,aC s,.sl u 6 l,.sl v 7 f]]),(23,.sl t2 3 ps),(24,nat ps.length),(25,num 0)],[.var [num a,num b,num c,aC s,.sl u 6 l,.sl v 7 f]]⟩) (by kernel_rfl);rcases hr with ⟨rfl,bx,rfl,hbx⟩|⟨p,rfl,rfl,q1,q2,q3⟩
  ·rcases hbx with ⟨a',ns,b',rfl⟩|⟨a',ns,es',b',rfl⟩;·exact .inl ⟨22,⟨rfl,by decide,by decide⟩,pI (B:=max B2 B3) fun M hM=>caB [(17,.p (num 0))] [(.ret,Kv [.var a',.row 6 ns,.var b'])] (pf2 (he M (by omega)) (hl M (by omega))) (r:=some (.tup [.sl true 6 [],num 22],[]))⟩
   exact .inl ⟨22,⟨rfl,by decide,by decide⟩,pI (B:=max B2 B3) fun M hM=>caB [(17,.p (num 0))] [(.ret,Kv [.var a',.row 6 ns,.row 6 es',.var b'])] (pf2 (he M (by omega)) (hl M (by omega))) (r:=some (.tup [.sl true 6 [],num 22],[]))⟩
  obtain ⟨w,es,n,j⟩:=p;dsimp only at q1 q2 q3 hl;generalize ps.length=np at hl;cases w with
  |true=>
   subst q1;obtain ⟨e,σ',B4,⟨ns,rfl,rfl,r1,r2⟩,hl2⟩:=copyS es es.length rfl q2 q3 (τ:=⟨[(13,.bs 0 0 0),(55,.sl true 6 es),(56,nat es.length),(57,num 0)],[.row 6 []]⟩) (by kernel_rfl);cases hz:(Int.ofNat es.length==0) with
   |true=>
    cases g with
    |false=>exact .inl ⟨19,⟨rfl,by decide,by decide⟩,pI (B:=B1+B2+B3) fun M hM=>caB [(17,.p (num 0)),(49,.b true),(52,.p (ak false)),(53,.b true)] [(.exit 0,ouE t2 ps np (true,es,es.length,j))] (pf5 (he M (by omega)) (hl M (by omega)) hz (hev M (by omega)) (show (!false)=true from rfl)) (r:=some (.tup [.sl true 6 [],num 19],[]))⟩
    |true=>refine .inr ⟨ns,r2,by omega,(fun e=>by cases e),pI (B:=B1+B2+B3+B4) fun M hM=>?_⟩;generalize ns.length=q at hl2;exact caB [(17,.p (num 0)),(49,.b true),(52,.p (ak true)),(53,.b false)] [(.exit 0,ouE t2 ps np (true,es,es.length,j)),(.exit 4,ceS es es.length ns q es.length)] (pf6 (he M (by omega)) (hl M (by omega)) hz (hev M (by omega)) (show (!true)=false from rfl) (hl2 M (by omega))) (r:=some (.tup [.bs 0 0 q,num 0],[.row 6 ns]))
   |false=>
    have hne:ns≠[]:=fun e=>by subst e;rw [<-r1] at hz;simp at hz
    refine .inr ⟨ns,r2,by omega,fun _=>hne,pI (B:=B1+B2+B3+B4) fun M hM=>?_⟩;generalize ns.length=q at hl2;exact caB [(17,.p (num 0)),(49,.b false)] [(.exit 0,ouE t2 ps np (true,es,es.length,j)),(.exit 4,ceS es es.length ns q es.length)] (pf4 (he M (by omega)) (hl M (by omega)) hz (hl2 M (by omega))) (r:=some (.tup [.bs 0 0 q,num 0],[.row 6 ns]))
  |false=>
   obtain ⟨e,σ',B4,⟨ns,rfl,rfl,r1,r2⟩,hl2⟩:=zrH es n q1 q2 q3 (τ:=⟨[(13,.bs 1 0 0),(55,.bs 0 0 n),(56,nat n),(57,num 0)],[.row 6 es,.row 6 []]⟩) (by kernel_rfl);cases hz:(Int.ofNat n==0) with
   |true=>
    cases g with
    |false=>exact .inl ⟨19,⟨rfl,by decide,by decide⟩,pI (B:=B1+B2+B3) fun M hM=>caB [(17,.p (num 0)),(49,.b true),(52,.p (ak false)),(53,.b true)] [(.exit 0,ouE t2 ps np (false,es,n,j))] (pf5 (he M (by omega)) (hl M (by omega)) hz (hev M (by omega)) (show (!false)=true from rfl)) (r:=some (.tup [.sl true 6 [],num 19],[]))⟩
    |true=>refine .inr ⟨ns,r2,by omega,(fun e=>by cases e),pI (B:=B1+B2+B3+B4) fun M hM=>?_⟩;generalize ns.length=q at hl2;exact caB [(17,.p (num 0)),(49,.b true),(52,.p (ak true)),(53,.b false)] [(.exit 0,ouE t2 ps np (false,es,n,j)),(.exit 4,ceR es n ns q n)] (pf6 (he M (by omega)) (hl M (by omega)) hz (hev M (by omega)) (show (!true)=false from rfl) (hl2 M (by omega))) (r:=some (.tup [.bs 0 0 q,num 0],[.row 6 ns]))
   |false=>
    have hne:ns≠[]:=fun e=>by subst e;rw [<-r1] at hz;simp at hz
    refine .inr ⟨ns,r2,by omega,fun _=>hne,pI (B:=B1+B2+B3+B4) fun M hM=>?_⟩;generalize ns.length=q at hl2;exact caB [(17,.p (num 0)),(49,.b false)] [(.exit 0,ouE t2 ps np (false,es,n,j)),(.exit 4,ceR es n ns q n)] (pf4 (he M (by omega)) (hl M (by omega)) hz (hl2 M (by omega))) (r:=some (.tup [.bs 0 0 q,num 0],[.row 6 ns]))
theorem zfE {x:X}(hx:zps.Is T 0 x):∃x0,x=.agg x0/\D T 7 11 x0:=by obtain ⟨h',xs,rfl,h1,h2,h3⟩:∃h' xs,x=.agg xs/\0<=h'/\h'<=6/\IsL T h' zlZ xs:=hx;exact ⟨xs,rfl,fU (by omega) (zir h1 h3)⟩
theorem zsU {T:Tab}{sz k:Nat}{x:X}(hx:(Sh.sl sz k).Is T h x):∃t es h',x=.sl t sz es/\0<=h'/\(es.length:Int)<=1000000/\∀e,e∈es->D T h' k e:=hx
def zwF:List Ctr:=[dM 225 [zps,.sl 3 7] [] none [(.tu [.x (.sl true 6 []),err],[],[]),(.tu [.bs 0,err],[.row 6 1],[lt 10 0 13,lt 13 0 10])]]
theorem zjK:ay T Gm zwF:=.one fun ρ xs bx hs=>by
 obtain ⟨ha,hb⟩:=o9 hs;obtain ⟨x,y,rfl,hx,hy⟩:=zlM ha;obtain rfl:=nD hb;obtain ⟨x0,rfl,hd⟩:=zfE hx;obtain ⟨t2,ps,hp,rfl,p1,p2,p3⟩:=zsU hy;obtain ⟨g,_,⟨e,⟨_,er⟩,h⟩|⟨ns,h1,h2,_,h⟩⟩:=Nj t2 ps p1 p3 (by omega) hd;·exact jT (q:=(.tu [.x (.sl true 6 []),err],[],[])) (qap ..) hs.zero hs.pos rfl rfl (r:=.tup [.sl true 6 [],num e]) ⟨_,rfl,⟨rfl,rfl⟩,⟨e,rfl,er⟩,trivial⟩ (fun _ _ _ _ _ _=>.nil) h
 refine rW (q:=(.tu [.bs 0,err],[.row 6 1],[lt 10 0 13,lt 13 0 10])) (qam _ (qaa.2 rfl)) hs.zero hs.pos rfl rfl (r:=.tup [.bs 0 0 ns.length,num 0]) (bx':=[.row 6 ns]) ⟨_,rfl,⟨ns.length,rfl,by unfold bT;omega⟩,⟨0,rfl,by decide,by decide⟩,trivial⟩ ⟨⟨ns,7,rfl,by omega,by unfold bT;omega,h1⟩,trivial⟩ (fun n' ρ' hm z g gb hn=>?_) h;subst hn;have e2:(ns.length:Int)=ρ' 10:=by
  cases g with
  |tup g=>cases g with
   |cons g _=>cases g with
    |bs _ _ _ q=>rw [q];unfold Lin.v;show ρ' 10+0=_;omega
 have e5:(ns.length:Int)=ρ' 13:=by
  cases gb with
  |cons g _=>cases g with
   |row _ _ q _=>rw [q];unfold Lin.v;show ρ' 13+0=_;omega
 exact .cons (iR (by decide) (by decide) (by omega)) (.cons (iR (by decide) (by decide) (by omega)) .nil)
theorem zcA (ns:qaY):X.data [.row 6 ns] false (.tup [.bs 0 0 ns.length,num 0])=some (.tup [.sl false 6 ns,num 0]):=by simp only [X.data,dZ,kY (bx:=[.row 6 ns]) (i:=0) (sz:=6) (es:=ns) rfl rfl,qao,num]
theorem O4 (h:∀M,B<=M->ah tab ext (M+1) (.fn 175) xs []=some (r,[])):Back 175 xs r:=⟨B+1,fun N hN=>by obtain ⟨M,rfl⟩:∃M,N=M+1:=⟨N-1,by omega⟩;exact h M (by omega)⟩
theorem zez (t2:Bool)(ps:qaY)(h0:0<=hp)(hps:∀e,e∈ps->D T hp 7 e)(hlen:ps.length<=1000000)(hx0:D T 7 11 x0):
  ∃y e,(D T 8 1 y/\0<=e/\e<=100)/\Back 175 [.agg x0,.sl t2 3 ps] (.tup [.agg y,num e]):=by
 obtain ⟨_,a,b,c,s,u,l,v,f,rfl,_⟩:=d11 (h:=6) hx0;have hz:D T 8 1 [num 0,num 0,num 0,bD,.sl true 6 [],.sl true 7 []]:=dH (by decide) (qaa.2 rfl) ⟨⟨rfl,(fun a e=>by cases e),(fun a e=>by cases e)⟩,⟨rfl,(fun a e=>by cases e),(fun a e=>by cases e)⟩,⟨rfl,(fun a e=>by cases e),(fun a e=>by cases e)⟩,⟨by decide,by decide⟩,⟨rfl,by decide,by decide,fun e he=>by cases he⟩,⟨rfl,by decide,by decide,fun e he=>by cases he⟩,trivial⟩;obtain ⟨g,⟨B1,hev⟩,hr⟩:=Nj false ps h0 hps hlen (oD hx0);rcases hr with ⟨e,⟨h1,er⟩,B2,hf⟩|⟨ns,n1,n2,n3,B2,hf⟩;·have hf:=fun N hN=>aY (hf N hN) (y:=.tup [.sl false 6 [],num e]) rfl;exact ⟨_,e,⟨hz,er⟩,O4 (B:=B2) fun M hM=>caA [(11,.p (.tup [.sl false 6 [],num e])),(16,.b true)] (pf2 (hf M hM) h1) (r:=some (.tup [.agg [num 0,num 0,num 0,bD,.sl true 6 [],.sl true 7 []],num e],[]))⟩
 have hf:=fun N hN=>aY (hf N hN) (zcA ns);cases g with
 |true=>refine ⟨[num 8,num 0,num 0,bD,.sl false 6 ns,.sl true 7 []],0,⟨dH (by decide) (qaa.2 rfl) ⟨⟨rfl,(fun a e=>by cases e),(fun a e=>by cases e)⟩,⟨rfl,(fun a e=>by cases e),(fun a e=>by cases e)⟩,⟨rfl,(fun a e=>by cases e),(fun a e=>by cases e)⟩,⟨by decide,by decide⟩,⟨rfl,Nat.zero_le _,by omega,n1⟩,⟨rfl,by decide,by decide,fun e he=>by cases he⟩,trivial⟩,by decide,by decide⟩,O4 (B:=B1+B2) fun M hM=>?_⟩;exact caA [(11,.p (.tup [.sl false 6 ns,num 0])),(21,.p (ak true)),(19,.b true)] (pf3 (hf M (by omega)) (hev M (by omega)) (show true=true from rfl)) (r:=some (.tup [.agg [num 8,num 0,num 0,bD,.sl false 6 ns,.sl true 7 []],num 0],[]))
 |false=>
  match ns,n3 rfl,n1,hf with
  |x::r,_,n1,hf=>
   have hx:=n1 x (qap ..);obtain ⟨k1,alt,ha,hs⟩:=lT hx;obtain rfl:=qaa.1 ha
   match x,hs,hx,hf with
   |[_,_,_,_,_,_],⟨w1,w2,w3,w4,w5,w6,_⟩,hx,hf=>obtain ⟨a',rfl⟩:=jV w1;obtain ⟨b',rfl⟩:=jV w2;obtain ⟨c',rfl⟩:=jV w3;obtain ⟨s',rfl,_,_⟩:=zge w4;obtain ⟨t',l',rfl,_,_,_⟩:=zN w5;obtain ⟨v',f',rfl,_,_,_⟩:=zN w6;exact ⟨_,0,⟨fU (by decide) hx,by decide,by decide⟩,O4 (B:=B1+B2) fun M hM=>caA [(11,.p (.tup [.sl false 6 ([num a',num b',num c',aC s',.sl t' 6 l',.sl v' 7 f']::r),num 0])),(21,.p (ak false)),(19,.b false)] (pf3 (hf M (by omega)) (hev M (by omega)) (show false=false from rfl)) (r:=some (.tup [.agg [num a',num b',num c',aC s',.sl t' 6 l',.sl v' 7 f'],num 0],[]))⟩
theorem zgf (hd:D T (h+1) 1 x):val.Is T 0 (.agg x):=by
 obtain ⟨h1,alt,ha,hs⟩:=lT hd;rw [qaa.1 ha,Int.add_sub_cancel] at hs
 match x,hs with
 |[_,_,_,_,_,_],⟨w1,w2,w3,w4,w5,w6,_⟩=>obtain ⟨a',rfl⟩:=jV w1;obtain ⟨b',rfl⟩:=jV w2;obtain ⟨c',rfl⟩:=jV w3;obtain ⟨s',rfl,_,k4⟩:=zge w4;obtain ⟨t',l',rfl,_,k5,q5⟩:=zN w5;obtain ⟨v',f',rfl,_,k6,q6⟩:=zN w6;exact ⟨h,_,rfl,by omega,⟨a',rfl⟩,⟨b',rfl⟩,⟨c',rfl⟩,⟨s',rfl,by unfold bT;omega⟩,⟨t',l',rfl,by unfold bT;omega,q5⟩,⟨v',f',rfl,by unfold bT;omega,q6⟩,trivial⟩
def zty:List Ctr:=[mkC 175 [zps,.sl 3 7] [] none [(.tu [val,err],[])]]
theorem zjL:ay T Gm zty:=.one (dF (fun o ho=>by rw [qaa.1 ho];exact ⟨rfl,rfl⟩) fun xs bx ha hb=>by obtain ⟨x,y,rfl,hx,hy⟩:=zlM ha;obtain rfl:=nD hb;obtain ⟨x0,rfl,hd⟩:=zfE hx;obtain ⟨t2,ps,hp,rfl,p1,p2,p3⟩:=zsU hy;obtain ⟨y,e,⟨h1,er⟩,h⟩:=zez t2 ps p1 p3 (by omega) hd;exact ⟨_,qaa.2 rfl,.tup [.agg y,num e],[],⟨_,rfl,zgf (h:=7) h1,⟨e,rfl,er⟩,trivial⟩,trivial,h⟩)
end Ct
namespace Ct
theorem zfk (h1:-999999999999999<=a)(h2:a<=999999999999999):∃b:Int,0<=b/\b<=999999999999999/\∃B,∀N,B<=N->Gam.aF (ah tab ext N) 269 [num a]=some (num b):=by
 have key:∀{lo hi lo' hi':Int},mkC 269 [.ir .i64 lo hi] [] none [(.ir .i64 lo' hi',[])]∈ztd->lo<=a->a<=hi->0<=lo'->hi'<=999999999999999->∃b:Int,0<=b/\b<=999999999999999/\∃B,∀N,B<=N->Gam.aF (ah tab ext N) 269 [num a]=some (num b):=fun hm k1 k2 k3 k4=>by obtain ⟨o,ho,r,bx,hi,hb,B,hB⟩:=dU (yh _ hm) rfl rfl (xs:=[num a]) ⟨zh8 k1 k2,trivial⟩ (bx:=[]) trivial;obtain rfl:=qaa.1 ho;obtain rfl:=nD hb;obtain ⟨b,rfl,q1,q2⟩:=znl hi;exact ⟨b,by omega,by omega,B,fun N hN=>aY (hB N hN) rfl⟩
 by_cases k1:a<=-1;·exact key (qap ..) h1 k1 (by decide) (by decide)
 by_cases k2:a=0;·exact key (qam _ (qap ..)) (by omega) (by omega) (by decide) (by decide)
 exact key (qam _ (qam _ (qap ..))) (by omega) (by omega) (by decide) (by decide)
theorem ZC (h1:-9223372036854775808<=a)(h2:a<=9223372036854775807):∃d:qaZ,1<=d.size/\d.size<=21/\∃B,∀N,B<=N->Gam.aF (ah tab ext N) 64 [num a]=some (aC d):=by have k1:=Lib.itoa_length_le a h1 h2;have k2:=SQ a;obtain ⟨B,hB⟩:=gB (f:=64) (g:=xY) rfl (Jl a h1 h2);exact ⟨_,by rw [bsz];omega,by rw [bsz];omega,B,fun N hN=>aY (hB N hN) rfl⟩
theorem OG {c:Int}(h2:0<=c)(h3:c<=100):∃r:qaZ,(r.size:Int)=c/\∃B,∀N,B<=N->Gam.aF (ah tab ext N) 305 [.v (.string ⟨#[48]⟩),num c]=some (aC r):=by obtain ⟨r,he,hr⟩:=FX ⟨#[48]⟩ c rfl h2 h3;obtain ⟨B,hB⟩:=gB (f:=305) (g:=nU) rfl he;exact ⟨r,hr,B,fun N hN=>aY (hB N hN) rfl⟩
theorem pfc {p:Prop}{ps:List Prop}(h1:p)(h2:kQ ps):kQ (p::ps):=⟨h1,h2⟩
theorem Wj (a s:Int):(∃e:Int,(0<=e/\e<=100)/\Back 278 [.agg [num a,num s]] (.tup [bD,num e]))\/∃t:qaZ,t.size<=60/\Back 278 [.agg [num a,num s]] (.tup [aC t,num 0]):=by
 have lift:∀{B:Nat} {r:X},(∀M,B<=M->ah tab ext (M+1) (.fn 278) [.agg [num a,num s]] []=some (r,[]))->Back 278 [.agg [num a,num s]] r:=fun {B} {r} h=>⟨B+1,fun N hN=>by obtain ⟨M,rfl⟩:∃M,N=M+1:=⟨N-1,by omega⟩;exact h M (by omega)⟩;obtain ⟨e,⟨hok,er⟩,he⟩:=zgj a s;obtain ⟨B1,he⟩:=gY he rfl;cases h1:(e !=0) with
 |true=>exact .inl ⟨e,er,lift (B:=B1) fun M hM=>caA [(7,.p (num e)),(9,.b true)] (pf2 (he M hM) h1) (r:=some (.tup [bD,num e],[]))⟩
 |false=>
  have e0:e=0:=by simpa using h1
  subst e0;obtain ⟨o1,o2,o3,o4⟩:=hok rfl;obtain ⟨b,b1,b2,B2,hb⟩:=zfk o1 o2;obtain ⟨d,d1,d2,B3,hd⟩:=ZC (a:=b) (by omega) (by omega);right;cases hs:decide (s>0) with
  |false=>
   cases ha:decide (a<0) with
   |true=>
    have hm:(⟨#[45]⟩:qaZ).size+d.size<=9223372036854775807:=by show 1+d.size<=_;omega
    refine ⟨⟨#[45]⟩++d,by rw [ByteArray.size_append];show 1+d.size<=60;omega,lift (B:=B1+B2+B3) fun M hM=>?_⟩;exact caA [(7,.p (num 0)),(13,.p (num b)),(14,.p (aC d)),(17,.b false),(46,.b true),(48,.at)] (pf6 (he M (by omega)) (hb M (by omega)) (hd M (by omega)) hs ha hm) (r:=some (.tup [aC (⟨#[45]⟩++d),num 0],[]))
   |false=>exact ⟨d,by omega,lift (B:=B1+B2+B3) fun M hM=>caA [(7,.p (num 0)),(13,.p (num b)),(14,.p (aC d)),(17,.b false),(46,.b false)] (pf5 (he M (by omega)) (hb M (by omega)) (hd M (by omega)) hs ha) (r:=some (.tup [aC d,num 0],[]))⟩
  |true=>
   have hs':s>0:=of_decide_eq_true hs;obtain ⟨w,hw⟩:∃w,w=s+1-Int.ofNat d.size:=⟨_,rfl⟩;simp only [qaq] at hw;obtain ⟨c,hc⟩:∃c:Int,(if true=true then if w>0 then w else 0 else if w<0 then w else 0)=c:=⟨_,rfl⟩;have hc':c=max w 0:=by rw [<-hc,if_pos rfl];split<;>omega
   obtain ⟨z,hz1,B4,hz⟩:=OG (c:=c) (by omega) (by omega);have hzd:(z++d).size=z.size+d.size:=ByteArray.size_append;obtain ⟨k,hk⟩:∃k:Nat,k+s.toNat=(z++d).size:=⟨(z++d).size-s.toNat,by omega⟩;have h20:IntKind.i64.wrap (s+1)=s+1:=by rw [IntKind.wrap_i64];omega
   have h23:IntKind.i64.wrap (s+1-Int.ofNat d.size)=w:=by rw [IntKind.wrap_i64];simp only [qaq];omega
   have h33:IntKind.i64.wrap (Int.ofNat (z++d).size-s)=Int.ofNat k:=by rw [IntKind.wrap_i64];simp only [qaq];omega
   have h27:z.size+d.size<=9223372036854775807:=by omega
   have h34:0<=(Int.ofNat k).toNat/\(Int.ofNat k).toNat<=(z++d).size:=⟨Nat.zero_le _,by show k<=_;omega⟩;have x1:((z++d).extract 0 k).size=k:=by rw [ByteArray.size_extract];omega
   have x2:((z++d).extract k (z++d).size).size=s.toNat:=by rw [ByteArray.size_extract];omega
   have h35:((z++d).extract 0 (Int.ofNat k).toNat).size+(⟨#[46]⟩:qaZ).size<=9223372036854775807:=by show ((z++d).extract 0 k).size+1<=_;omega
   have h42:(Int.ofNat k).toNat<=(z++d).size/\(z++d).size<=(z++d).size:=⟨by show k<=_;omega,Nat.le_refl _⟩;have x3:((z++d).extract 0 k++(⟨#[46]⟩:qaZ)).size=k+1:=by rw [ByteArray.size_append,x1];rfl
   have h43:((z++d).extract 0 (Int.ofNat k).toNat++(⟨#[46]⟩:qaZ)).size+((z++d).extract (Int.ofNat k).toNat (z++d).size).size<=9223372036854775807:=by show ((z++d).extract 0 k++(⟨#[46]⟩:qaZ)).size+((z++d).extract k (z++d).size).size<=_;omega
   have x4:((z++d).extract 0 k++(⟨#[46]⟩:qaZ)++(z++d).extract k (z++d).size).size=k+1+s.toNat:=by rw [ByteArray.size_append,x3,x2]
   cases ha:decide (a<0) with
   |true=>
    have h48:(⟨#[45]⟩:qaZ).size+((z++d).extract 0 (Int.ofNat k).toNat++(⟨#[46]⟩:qaZ)++(z++d).extract (Int.ofNat k).toNat (z++d).size).size<=9223372036854775807:=by show 1+((z++d).extract 0 k++(⟨#[46]⟩:qaZ)++(z++d).extract k (z++d).size).size<=_;omega
    refine ⟨⟨#[45]⟩++((z++d).extract 0 k++(⟨#[46]⟩:qaZ)++(z++d).extract k (z++d).size),by rw [ByteArray.size_append,x4];show 1+(k+1+s.toNat)<=60;omega,lift (B:=B1+B2+B3+B4) fun M hM=>?_⟩;exact caA [(7,.p (num 0)),(13,.p (num b)),(14,.p (aC d)),(17,.b true),(20,.i (s+1)),(23,.i w),(24,.i c),(25,.p (aC z)),(27,.at),(33,.i (Int.ofNat k)),(34,.cut),(35,.at),(41,.i (Int.ofNat k)),(42,.cut),(43,.at),(46,.b true),(48,.at)] (pfc (he M (by omega)) (pfc (hb M (by omega)) (pfc (hd M (by omega)) (zsL hs h20 h23 hc (hz M (by omega)) h27 h33 h34 h35 h33 h42 h43 ha h48)))) (r:=some (.tup [aC (⟨#[45]⟩++((z++d).extract 0 k++(⟨#[46]⟩:qaZ)++(z++d).extract k (z++d).size)),num 0],[]))
   |false=>refine ⟨(z++d).extract 0 k++(⟨#[46]⟩:qaZ)++(z++d).extract k (z++d).size,by rw [x4];omega,lift (B:=B1+B2+B3+B4) fun M hM=>?_⟩;exact caA [(7,.p (num 0)),(13,.p (num b)),(14,.p (aC d)),(17,.b true),(20,.i (s+1)),(23,.i w),(24,.i c),(25,.p (aC z)),(27,.at),(33,.i (Int.ofNat k)),(34,.cut),(35,.at),(41,.i (Int.ofNat k)),(42,.cut),(43,.at),(46,.b false)] (pfc (he M (by omega)) (pfc (hb M (by omega)) (pfc (hd M (by omega)) (zpU hs h20 h23 hc (hz M (by omega)) h27 h33 h34 h35 h33 h42 h43 ha)))) (r:=some (.tup [aC ((z++d).extract 0 k++(⟨#[46]⟩:qaZ)++(z++d).extract k (z++d).size),num 0],[]))
def zwo:List Ctr:=[mkC 278 [rJ] [] none [(.tu [.sr 0 60,err],[])]]
theorem zaA:ay T Gm zwo:=.one (dF (fun o ho=>by rw [qaa.1 ho];exact ⟨rfl,rfl⟩) fun xs bx ha hb=>by
 obtain ⟨x,rfl,hx⟩:=zdN ha;obtain rfl:=nD hb;obtain ⟨ys,rfl,hy⟩:∃ys,x=.agg ys/\IsL T 0 [int,int] ys:=hx;obtain ⟨y,z,rfl,⟨a,rfl⟩,⟨s,rfl⟩⟩:=zlM hy;rcases Wj a s with ⟨e,er,h⟩|⟨t,ht,h⟩;·exact ⟨_,qaa.2 rfl,.tup [bD,num e],[],⟨_,rfl,⟨⟨#[]⟩,rfl,by decide,by decide⟩,⟨e,rfl,er⟩,trivial⟩,trivial,h⟩
 exact ⟨_,qaa.2 rfl,.tup [aC t,num 0],[],⟨_,rfl,⟨t,rfl,by omega,by omega⟩,⟨0,rfl,by decide,by decide⟩,trivial⟩,trivial,h⟩)
end Ct
end Go.Proofs.YtpcjeobkehmhpaaGreatDoor
