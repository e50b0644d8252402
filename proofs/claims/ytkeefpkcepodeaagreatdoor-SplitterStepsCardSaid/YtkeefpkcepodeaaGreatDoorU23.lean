/-.-/
import Derived.Test.YtkeefpkcepodeaaGreatDoorU19
import Derived.Test.YtkeefpkcepodeaaGreatDoorU20
import Derived.Test.YtkeefpkcepodeaaGreatDoorU21
import Derived.Test.YtkeefpkcepodeaaGreatDoorU22
set_option linter.all false
namespace Go.Proofs.YtkeefpkcepodeaaGreatDoor
open Go Go.Em Go.Ab
set_option maxRecDepth 100000
variable {u v:Bool}{f:FuncId}{a h:Int}{B:Nat}{x:X}
namespace Ct
def okE:Nat->List X->Prop
 |0,_=>False
 |h+1,x=>∃(op n:Int) (s:qaW) (u:Bool) (vs:qaV) (v:Bool) (ar:qaV),x=[num op,num n,strX s,.sl u 6 vs,.sl v 5 ar]/\s.size<=1000000/\vs.length<=1000000/\ar.length<=1000000/\(∀e,e∈vs->D T 9 1 e)/\
  (op=1->∃c:Int,((c=0->1<=vs.length)/\0<=c/\c<=100)/\∃B,∀N,B<=N->Gam.pureD (callF tab ext N) 233 [.sl false 6 vs]=some (num c))/\∀e,e∈ar->okE h e
abbrev fnB:Bx:=.var [.fn 188 [.ptr 0 0 0,.ptr 1 0 0]]
def Vis (H:Int)(x:List X)(lev k:Int):Prop:=∃c k':Int,(0<=c/\c<=100)/\0<=k'/\k'<=256/\(c=0->D T H 10 x)/\∃B,∀N,B<=N->callF tab ext N (.fn 188) [.agg x,num lev,.ptr 0 0 0,.ptr 1 0 0] [.var [num k],fnB]=some (num c,[.var [num k'],fnB])
section
variable (lev:Int) (t:Bool) (ar:qaV) (m:Nat)
abbrev vsH (k:Int) (j:Nat):St:=⟨[(1,num lev),(3,.ptr 1 0 0),(23,.sl t 5 ar),(24,nat m),(25,nat j)],[.var [num k],fnB]⟩
end
theorem OW {a b c:X}{u' v':Bool}{l f:qaV}(hd:D T h 10 [a,b,c,.sl u 6 l,.sl v 5 f]):D T h 10 [a,b,c,.sl u' 6 l,.sl v' 5 f]:=by obtain ⟨n,j,m,w⟩:=mP hd;obtain ⟨q,J,rfl⟩:=qah.1 (show j∈List.map _ _ from m);obtain ⟨y,A,B,E,F,H⟩:=w;exact dI n m ⟨y,A,B,E,F,H⟩
theorem zcU {H:Int}(lev:Int)(t:Bool)(ar:qaV)(m:Nat)(hm:m=ar.length)(hlen:m<=1000000)(h0:0<=lev)(h1:lev<=1000)(hok:∀x,x∈ar->∃(op n:Int) (s:qaW) (u:Bool) (vs:qaV) (v:Bool) (ar2:qaV),x=[num op,num n,strX s,.sl u 6 vs,.sl v 5 ar2]/\∀k,0<=k->k<=256->Vis H [num op,num n,strX s,.sl false 6 vs,.sl false 5 ar2] (lev+1) k)
  {k0:Int} (hk0:0<=k0) (hk1:k0<=256) {τ:St} (hτ:canon 2 τ=some (vsH lev t ar m k0 0)):
  ∃e σ' B,((∃(c k:Int) (y:List X),(c≠0/\0<=c/\c<=100)/\0<=k/\k<=256/\e=.ret/\σ'=⟨[(6,num c)],[.var [num k],fnB,.var y]⟩)\/(∃k:Int,0<=k/\k<=256/\e=.exit 0/\σ'=⟨[(1,num lev),(3,.ptr 1 0 0),(23,.sl t 5 ar),(24,nat m),(25,nat m),(26,boolX false)],[.var [num k],fnB]⟩/\∀x,x∈ar->D T H 10 x))/\∀M,B<=M->run (callF tab ext M) 2 M (.loop (loopAt 188 0)) τ=some (e,σ'):=by
 refine jC (nIn:=2) (b:=loopAt 188 0) (H:=fun p:Int×Nat=>vsH lev t ar m p.1 p.2) (I:=fun p=>0<=p.1/\p.1<=256/\p.2<=m/\∀i (hi:i<ar.length),i<p.2->D T H 10 ar[i]) (μ:=fun p=>m-p.2)
  (Q:=fun e σ'=>(∃(c k:Int) (y:List X),(c≠0/\0<=c/\c<=100)/\0<=k/\k<=256/\e=.ret/\σ'=⟨[(6,num c)],[.var [num k],fnB,.var y]⟩)\/(∃k:Int,0<=k/\k<=256/\e=.exit 0/\σ'=⟨[(1,num lev),(3,.ptr 1 0 0),(23,.sl t 5 ar),(24,nat m),(25,nat m),(26,boolX false)],[.var [num k],fnB]⟩/\∀x,x∈ar->D T H 10 x))
  (fun p hp=>?_) (a:=(k0,0)) ⟨hk0,hk1,Nat.zero_le _,fun i hi L=>absurd L (Nat.not_lt_zero _)⟩ hτ
 obtain ⟨k,j⟩:=p;obtain ⟨N,O,i3,i4⟩:=hp;dsimp only at N O i3 i4 ⊢;by_cases L:j<m
 ·have l:=aH L;have h:j<ar.length:=by omega
  have A:=qad h;have q:=qaf h;obtain ⟨op,n,s,u,vs,v,f,e,P⟩:=hok _ q;obtain ⟨c,E,Y,S,U,W,B,V⟩:=P k N O;have w:IntKind.i64.wrap (lev+1)=lev+1:=by rw [IntKind.wrap_i64];omega
  rw [e] at A;by_cases h0:c=0
  ·subst h0;refine .inl ⟨⟨[(1,num lev),(3,.ptr 1 0 0),(23,.sl t 5 ar),(24,nat m),(25,nat (j+1))],[.var [num E],fnB,.var [num op,num n,strX s,.sl u 6 vs,.sl v 5 f]]⟩,(E,j+1),B,fun M F=>?_,by kernel_rfl,⟨S,U,by grind,fun i hi J=>?_⟩,by grind⟩;·exact ruA [(26,.b true),(27,.e [num op,num n,strX s,.sl u 6 vs,.sl v 5 f]),(32,.i (lev+1)),(33,.r (num 0) [.var [num E],fnB]),(37,.i (Int.ofNat (j+1)))] (pf5 l A w (V M F) (ay (j:=j) (by omega)))
   dsimp only at J;by_cases pa:i<j
   ·grind
   obtain rfl:i=j:=by omega
   rw [e];exact OW (W rfl)
  have Z:(c !=0)=true:=by simpa using h0
  exact .inr ⟨_,_,B,(by grind),.inl ⟨c,E,[num op,num n,strX s,.sl u 6 vs,.sl v 5 f],⟨h0,Y⟩,S,U,rfl,rfl⟩,fun M F=>ruA [(26,.b true),(27,.e [num op,num n,strX s,.sl u 6 vs,.sl v 5 f]),(32,.i (lev+1)),(33,.r (num c) [.var [num E],fnB]),(35,.b true)] (pf5 l A w (V M F) Z)⟩
 obtain rfl:j=m:=by omega
 refine .inr ⟨_,_,0,(by grind),.inr ⟨k,N,O,rfl,rfl,fun x A=>?_⟩,fun M _=>ruA [(26,.b false)] (pf1 (aG (qas j)))⟩;obtain ⟨i,hi,rfl⟩:=qaR A
 grind
end Ct
namespace Ct
abbrev zvj (o na:Int):Ctr:=(dO 189 [exp] [] none [(.k .i64 0,[],bd 2 o o++[aj (.k na) ⟨6,0⟩]),(.ir .i64 1 100,[],[])]).with [bd 2 o o]
theorem zof {o na H n:Int}{s:qaW}{vs ar:qaV}(hC:(zvj o na).Holds T Gm)(h0:0<=H)(hs:s.size<=1000000)(hvl:vs.length<=1000000)(hal:ar.length<=1000000)(hv:∀e,e∈vs->D T H 1 e)(ha:∀e,e∈ar->D T H 8 e):
  ∃c:Int,((c=0->na<=ar.length)/\0<=c/\c<=100)/\∃B,∀N,B<=N->Gam.pureD (callF tab ext N) 189 [.agg [num o,num n,strX s,.sl u 6 vs,.sl v 5 ar]]=some (num c):=by
 obtain ⟨ρ,a⟩:=KD (T:=T) (f:=189) (args:=[exp]) (inb:=[]) (mu:=none) (outs:=[(.k .i64 0,[],bd 2 o o++[aj (.k na) ⟨6,0⟩]),(.ir .i64 1 100,[],[])]) (xs:=[.agg [num o,num n,strX s,.sl u 6 vs,.sl v 5 ar]]) (bx:=[]) rfl rfl
  ⟨⟨H,_,rfl,h0,⟨o,rfl⟩,⟨n,rfl⟩,⟨s,rfl,by unfold bW;omega⟩,⟨u,vs,rfl,by unfold bW;omega,hv⟩,⟨v,ar,rfl,by unfold bW;omega,ha⟩,trivial⟩,trivial⟩ trivial
 have M:GL T _ ρ [.agg [.i .i64 ⟨2,0⟩,.i .i64 ⟨3,0⟩,.s ⟨4,0⟩,.sl none 6 1 ⟨1,0⟩ ⟨5,0⟩,.sl none 5 8 ⟨1,0⟩ ⟨6,0⟩]] [.agg [num o,num n,strX s,.sl u 6 vs,.sl v 5 ar]]:=a.args;obtain ⟨_,_,e,w,_⟩:=dW M;cases e;obtain ⟨_,e,w⟩:=zfs w;cases e;obtain ⟨_,_,e,S,w⟩:=dW w;cases e;obtain ⟨_,_,e,v2,w⟩:=dW w;cases e;obtain ⟨_,_,e,v3,w⟩:=dW w;cases e;obtain ⟨_,_,e,v4,w⟩:=dW w;cases e;obtain ⟨_,_,e,U,w⟩:=dW w;cases e;have Y:o=ρ 2:=sI S;have Z:(ar.length:Int)=ρ 6:=by
  cases U with
  |sl _ _ _ q _=>rw [q];unfold Lin.v;show ρ 6+0=_;omega
 have z:=a.zero;have Q:aV (dO 189 [exp] [] none [(.k .i64 0,[],bd 2 o o++[aj (.k na) ⟨6,0⟩]),(.ir .i64 1 100,[],[])]).m ρ (bd 2 o o):=by
  refine .cons (aC.2 ⟨by show 0<7;decide,by show 2<7;decide,?_⟩) (.cons (aC.2 ⟨by show 2<7;decide,by show 0<7;decide,?_⟩) .nil);·rw [Lin.k_v z];unfold Lin.v;dsimp only;omega
  rw [Lin.k_v z];unfold Lin.v;dsimp only;omega
 obtain ⟨q,y,n',ρ',r,F,P,V,L,O,h,E,B,A⟩:=EO a.zero a.pos (hC ρ _ _ (Ctr.Sat.with a Q));rcases qal.1 y with rfl|y;·obtain rfl:=qQ E;have h:r=num 0:=h;subst h;have k6:ρ' 6=ρ 6:=P.same 6 (by show 6<7;decide);have l:=(aC.1 (L (aj (.k na) ⟨6,0⟩) (List.mem_append_right _ (qaa.2 rfl)))).2.2;rw [Lin.k_v V] at l;unfold Lin.v at l;dsimp only at l;exact ⟨0,⟨fun _=>by omega,by decide,by decide⟩,B,fun N j=>bf (A N j) rfl⟩
 obtain rfl:=qaa.1 y;obtain rfl:=qQ E;obtain ⟨c,rfl,W,J⟩:=zov h;exact ⟨c,⟨fun e=>by omega,by omega,J⟩,B,fun N j=>bf (A N j) rfl⟩
end Ct
namespace Ct
abbrev TN:List (Int×Int×Nat×Nat):=[(1,1,1,0),(2,2,0,0),(3,3,0,1),(4,15,0,2),(16,16,0,1),(17,17,0,2),(18,20,0,1),(21,21,0,3),(22,22,0,0),(23,23,0,2),(24,24,0,3),(25,25,0,2),(26,26,0,0),(27,28,0,1)]
theorem zq5 {H op n:Int}{s:qaW}{vs ar:qaV}{q:Int×Int×Nat×Nat}(hq:q∈TN)(h0:0<=H)(h1:q.1<=op)(h2:op<=q.2.1)(hs:s.size<=1000000)(hvl:vs.length<=1000000)(hal:ar.length<=1000000)(h3:q.2.2.1<=vs.length)(h4:q.2.2.2<=ar.length)(hv:∀e,e∈vs->D T H 1 e)(ha:∀e,e∈ar->D T H 10 e):D T (H+1) 10 [num op,num n,strX s,.sl u 6 vs,.sl v 5 ar]:=by refine dI (by omega) (qah.2 ⟨q,hq,rfl⟩) ?_;rw [Int.add_sub_cancel];exact ⟨⟨rfl,(fun a e=>by cases e;exact h1),(fun a e=>by cases e;exact h2)⟩,⟨rfl,(fun a e=>by cases e),(fun a e=>by cases e)⟩,⟨Nat.zero_le _,hs⟩,⟨rfl,h3,hvl,hv⟩,⟨rfl,h4,hal,ha⟩,trivial⟩
theorem zgV:∀(h:Nat) {x:List X},okE h x->D T (9+(h:Int)) 8 x
 |0,_,hx=>hx.elim
 |h+1,x,hx=>by obtain ⟨op,n,s,u,vs,v,ar,rfl,h1,h2,h3,h4,_,h6⟩:=hx;rw [show (9:Int)+((h+1:Nat):Int)=9+(h:Int)+1 by omega];refine dI (by omega) (qaa.2 rfl) ?_;rw [Int.add_sub_cancel];exact ⟨⟨rfl,(fun a e=>by cases e),(fun a e=>by cases e)⟩,⟨rfl,(fun a e=>by cases e),(fun a e=>by cases e)⟩,⟨Nat.zero_le _,h1⟩,⟨rfl,Nat.zero_le _,h2,fun e he=>fP (by omega) (h4 e he)⟩,⟨rfl,Nat.zero_le _,h3,fun e he=>zgV h (h6 e he)⟩,trivial⟩
end Ct
namespace Ct
theorem one_one {n:Int}{s:qaW}{vs ar:qaV}(zoG:∃c:Int,((c=0->1<=vs.length)/\0<=c/\c<=100)/\∃B,∀N,B<=N->Gam.pureD (callF tab ext N) 233 [.sl false 6 vs]=some (num c)):
  ∃c:Int,((c=0->1<=vs.length)/\0<=c/\c<=100)/\∃B,∀N,B<=N->Gam.pureD (callF tab ext N) 189 [.agg [num 1,num n,strX s,.sl false 6 vs,.sl false 5 ar]]=some (num c):=by
 obtain ⟨c,y,B,zoG⟩:=zoG;have f:∀{c':Int} {B:Nat},(∀M,B<=M->Gam.pureD (callF tab ext (M+1)) 189 [.agg [num 1,num n,strX s,.sl false 6 vs,.sl false 5 ar]]=some (num c'))->∃B,∀N,B<=N->Gam.pureD (callF tab ext N) 189 [.agg [num 1,num n,strX s,.sl false 6 vs,.sl false 5 ar]]=some (num c'):=fun {c'} {B} h=>⟨B+1,fun N A=>by obtain ⟨M,rfl⟩:=pR_ N<;>simp_all⟩;have j:∀M,1<=M->Gam.pureD (callF tab ext M) 230 [num 1]=some (.tup [num 0,num 0]):=fun M a=>by obtain ⟨M,rfl⟩:∃M',M=M'+1:=⟨M-1,by omega⟩;exact bf (ar1 M) rfl
 have l:∀M,1<=M->Gam.pureD (callF tab ext M) 231 [num 1]=some (boolX false):=fun M a=>by obtain ⟨M,rfl⟩:∃M',M=M'+1:=⟨M-1,by omega⟩;exact puA [] pf0 (boolX false)
 have m:∀M,1<=M->Gam.pureD (callF tab ext M) 232 [num 1]=some (boolX false):=fun M a=>by obtain ⟨M,rfl⟩:∃M',M=M'+1:=⟨M-1,by omega⟩;exact puA [] pf0 (boolX false)
 cases q:(!s.toList==(⟨#[]⟩:qaW).toList) with
 |true=>exact ⟨3,⟨(fun e=>by cases e),by decide,by decide⟩,f (B:=1) fun M a=>puA [(19,.p (.tup [num 0,num 0])),(35,.p (boolX false)),(40,.b true)] (pf3 (j M a) (l M a) q) (num 3)⟩
 |false=>
  cases u:(n !=0) with
  |true=>exact ⟨3,⟨(fun e=>by cases e),by decide,by decide⟩,f (B:=1) fun M a=>puA [(19,.p (.tup [num 0,num 0])),(35,.p (boolX false)),(40,.b false),(46,.p (boolX false)),(51,.b true)] (pf5 (j M a) (l M a) q (m M a) u) (num 3)⟩
  |false=>
   cases w:decide (Int.ofNat ar.length>0) with
   |true=>exact ⟨3,⟨(fun e=>by cases e),by decide,by decide⟩,f (B:=1) fun M a=>puA [(19,.p (.tup [num 0,num 0])),(35,.p (boolX false)),(40,.b false),(46,.p (boolX false)),(51,.b false),(61,.b true)] (pf6 (j M a) (l M a) q (m M a) u w) (num 3)⟩
   |false=>exact ⟨c,y,f (B:=B+1) fun M a=>puA [(19,.p (.tup [num 0,num 0])),(35,.p (boolX false)),(40,.b false),(46,.p (boolX false)),(51,.b false),(61,.b false),(74,.b false),(86,.p (num c))] (pf8 (j M (by omega)) (l M (by omega)) q (m M (by omega)) u w w (zoG M (by omega))) (num c)⟩
theorem zel {H op n:Int}{s:qaW}{vs ar:qaV}(h0:0<=H)(hs:s.size<=1000000)(hvl:vs.length<=1000000)(hal:ar.length<=1000000)(hv:∀e,e∈vs->D T H 1 e)(ha:∀e,e∈ar->D T H 8 e)(zoG:op=1->∃c:Int,((c=0->1<=vs.length)/\0<=c/\c<=100)/\∃B,∀N,B<=N->Gam.pureD (callF tab ext N) 233 [.sl false 6 vs]=some (num c)):
  ∃c:Int,((c=0->∃q,q∈TN/\q.1<=op/\op<=q.2.1/\q.2.2.1<=vs.length/\q.2.2.2<=ar.length)/\0<=c/\c<=100)/\∃B,∀N,B<=N->Gam.pureD (callF tab ext N) 189 [.agg [num op,num n,strX s,.sl false 6 vs,.sl false 5 ar]]=some (num c):=by
 by_cases f:op<1;·exact ⟨11,⟨(fun e=>by cases e),by decide,by decide⟩,1,fun N w=>by obtain ⟨M,rfl⟩:=pR_ N;exact puA [(10,.b true)] (pf1 (decide_eq_true f)) (num 11)⟩
 by_cases m:op>28;·exact ⟨11,⟨(fun e=>by cases e),by decide,by decide⟩,1,fun N w=>by obtain ⟨M,rfl⟩:=pR_ N;exact puA [(10,.b false),(14,.b true)] (pf2 (decide_eq_false f) (decide_eq_true m)) (num 11)⟩
 have a:∀{o na:Int} {q:Int×Int×Nat×Nat},op=o->q∈TN->q.1<=o->o<=q.2.1->q.2.2.1=0->(q.2.2.2:Int)=na->(zvj o na).Holds T Gm->∃c:Int,((c=0->∃q,q∈TN/\q.1<=op/\op<=q.2.1/\q.2.2.1<=vs.length/\q.2.2.2<=ar.length)/\0<=c/\c<=100)/\∃B,∀N,B<=N->Gam.pureD (callF tab ext N) 189 [.agg [num op,num n,strX s,.sl false 6 vs,.sl false 5 ar]]=some (num c):=fun {o na q} ho hq k1 k2 k3 k4 hC=>by subst ho;obtain ⟨c,j,l⟩:=zof (n:=n) (u:=false) (v:=false) hC h0 hs hvl hal hv ha;exact ⟨c,⟨fun e=>⟨q,hq,k1,k2,by omega,by grind⟩,j.2⟩,l⟩
 rcases zn7 (op:=op) (by omega) (by omega) with h|h|h|h|h|h|h|h|h|h|h|h|h|h|h|h|h|h|h|h|h|h|h|h|h|h|h|h;·subst h;obtain ⟨c,j,l⟩:=one_one (n:=n) (s:=s) (ar:=ar) (zoG rfl);exact ⟨c,⟨fun e=>⟨(1,1,1,0),by simp,by decide,by decide,j.1 e,Nat.zero_le _⟩,j.2⟩,l⟩
 ·exact a (q:=(2,2,0,0)) h (by simp) (by decide) (by decide) rfl rfl (Xv _ (qaa.2 rfl))
 ·exact a (q:=(3,3,0,1)) h (by simp) (by decide) (by decide) rfl rfl (Xu _ (qaa.2 rfl))
 ·exact a (q:=(4,15,0,2)) h (by simp) (by decide) (by decide) rfl rfl (Xt _ (qaa.2 rfl))
 ·exact a (q:=(4,15,0,2)) h (by simp) (by decide) (by decide) rfl rfl (Xr _ (qaa.2 rfl))
 ·exact a (q:=(4,15,0,2)) h (by simp) (by decide) (by decide) rfl rfl (Xq _ (qaa.2 rfl))
 ·exact a (q:=(4,15,0,2)) h (by simp) (by decide) (by decide) rfl rfl (Xp _ (qaa.2 rfl))
 ·exact a (q:=(4,15,0,2)) h (by simp) (by decide) (by decide) rfl rfl (Xo _ (qaa.2 rfl))
 ·exact a (q:=(4,15,0,2)) h (by simp) (by decide) (by decide) rfl rfl (Xn _ (qaa.2 rfl))
 ·exact a (q:=(4,15,0,2)) h (by simp) (by decide) (by decide) rfl rfl (Q9 _ (qaa.2 rfl))
 ·exact a (q:=(4,15,0,2)) h (by simp) (by decide) (by decide) rfl rfl (Q8 _ (qaa.2 rfl))
 ·exact a (q:=(4,15,0,2)) h (by simp) (by decide) (by decide) rfl rfl (Q7 _ (qaa.2 rfl))
 ·exact a (q:=(4,15,0,2)) h (by simp) (by decide) (by decide) rfl rfl (Q5 _ (qaa.2 rfl))
 ·exact a (q:=(4,15,0,2)) h (by simp) (by decide) (by decide) rfl rfl (QZ _ (qaa.2 rfl))
 ·exact a (q:=(4,15,0,2)) h (by simp) (by decide) (by decide) rfl rfl (QY _ (qaa.2 rfl))
 ·exact a (q:=(16,16,0,1)) h (by simp) (by decide) (by decide) rfl rfl (QX _ (qaa.2 rfl))
 ·exact a (q:=(17,17,0,2)) h (by simp) (by decide) (by decide) rfl rfl (QW _ (qaa.2 rfl))
 ·exact a (q:=(18,20,0,1)) h (by simp) (by decide) (by decide) rfl rfl (QV _ (qaa.2 rfl))
 ·exact a (q:=(18,20,0,1)) h (by simp) (by decide) (by decide) rfl rfl (QU _ (qaa.2 rfl))
 ·exact a (q:=(18,20,0,1)) h (by simp) (by decide) (by decide) rfl rfl (QT _ (qaa.2 rfl))
 ·exact a (q:=(21,21,0,3)) h (by simp) (by decide) (by decide) rfl rfl (QS _ (qaa.2 rfl))
 ·exact a (q:=(22,22,0,0)) h (by simp) (by decide) (by decide) rfl rfl (QO _ (qaa.2 rfl))
 ·exact a (q:=(23,23,0,2)) h (by simp) (by decide) (by decide) rfl rfl (QN _ (qaa.2 rfl))
 ·exact a (q:=(24,24,0,3)) h (by simp) (by decide) (by decide) rfl rfl (QM _ (qaa.2 rfl))
 ·exact a (q:=(25,25,0,2)) h (by simp) (by decide) (by decide) rfl rfl (QL _ (qaa.2 rfl))
 ·exact a (q:=(26,26,0,0)) h (by simp) (by decide) (by decide) rfl rfl (QK _ (qaa.2 rfl))
 ·exact a (q:=(27,28,0,1)) h (by simp) (by decide) (by decide) rfl rfl (QJ _ (qaa.2 rfl))
 exact a (q:=(27,28,0,1)) h (by simp) (by decide) (by decide) rfl rfl (QI _ (qaa.2 rfl))
end Ct
namespace Ct
theorem Tj:∀(h:Nat) (op n:Int) (s:qaW) (u v:Bool) (vs ar:qaV),okE h [num op,num n,strX s,.sl u 6 vs,.sl v 5 ar]->∀lev k:Int,0<=lev->lev+h<=1000->0<=k->k<=256->Vis (9+(h:Int)) [num op,num n,strX s,.sl false 6 vs,.sl false 5 ar] lev k
 |0,_,_,_,_,_,_,_,hx=>hx.elim
 |h+1,op,n,s,u,v,vs,ar,hx=>fun lev k l0 l1 k0 k1=>by
  obtain ⟨op',n',s',u',vs',v',ar',e,a1,a2,a3,a4,a5,a6⟩:=hx;simp only [num,strX,List.cons.injEq,X.v.injEq,Value.int.injEq,Value.string.injEq,X.sl.injEq,and_true,true_and] at e;obtain ⟨rfl,rfl,rfl,⟨_,rfl⟩,⟨_,rfl⟩⟩:=e;have lift:∀{c k':Int} {B:Nat},(∀M,B<=M->callF tab ext (M+1) (.fn 188) [.agg [num op,num n,strX s,.sl false 6 vs,.sl false 5 ar],num lev,.ptr 0 0 0,.ptr 1 0 0] [.var [num k],fnB]=some (num c,[.var [num k'],fnB]))->∃B,∀N,B<=N->callF tab ext N (.fn 188) [.agg [num op,num n,strX s,.sl false 6 vs,.sl false 5 ar],num lev,.ptr 0 0 0,.ptr 1 0 0] [.var [num k],fnB]=some (num c,[.var [num k'],fnB]):=fun {c k' B} h=>⟨B+1,fun N hN=>by obtain ⟨M,rfl⟩:=pR_ N<;>simp_all⟩;have hD8:∀e,e∈ar->D T (9+(h:Int)) 8 e:=fun e he=>zgV h (a6 e he);have hv:∀e,e∈vs->D T (9+(h:Int)) 1 e:=fun e he=>fP (by omega) (a4 e he);obtain ⟨c,hc,B1,zsl⟩:=zel (H:=9+(h:Int)) (op:=op) (n:=n) (by omega) a1 a2 a3 hv hD8 a5;cases h1:(k==256) with
  |true=>exact ⟨9,k,by decide,k0,k1,(fun e=>by cases e),lift (B:=0) fun M _=>caA [(12,.b true)] (pf1 h1) (r:=some (num 9,[.var [num k],fnB]))⟩
  |false=>
   have kne:k≠256:=by simpa using h1
   have hk:IntKind.i64.wrap (k+1)=k+1:=by rw [IntKind.wrap_i64];omega
   cases h2:decide (lev>8) with
   |true=>exact ⟨23,k+1,by decide,by omega,by omega,(fun e=>by cases e),lift (B:=0) fun M _=>caA [(12,.b false),(14,.i (k+1)),(16,.b true)] (pf3 h1 hk h2) (r:=some (num 23,[.var [num (k+1)],fnB]))⟩
   |false=>
    by_cases c0:c=0
    ·subst c0;obtain ⟨q,hq,q1,q2,q3,q4⟩:=hc.1 rfl;obtain ⟨e,σ',B2,hr,hl⟩:=zcU (H:=9+(h:Int)) lev false ar ar.length rfl a3 l0 (by omega) (fun x hx=>by
      cases h with
      |zero=>exact (a6 x hx).elim
      |succ h'=>obtain ⟨op2,n2,s2,u2,vs2,v2,ar2,e,_⟩:=a6 x hx;exact ⟨op2,n2,s2,u2,vs2,v2,ar2,e,fun k' k2 k3=>Tj (h'+1) op2 n2 s2 u2 v2 vs2 ar2 (e▸a6 x hx) (lev+1) k' (by omega) (by omega) k2 k3⟩) (k0:=k+1) (by omega) (by omega)
      (τ:=⟨[(1,num lev),(3,.ptr 1 0 0),(23,.sl false 5 ar),(24,nat ar.length),(25,num 0)],[.var [num (k+1)],fnB,.var [num op,num n,strX s,.sl false 6 vs,.sl false 5 ar]]⟩) (by kernel_rfl)
     rcases hr with ⟨c,k',y,c1,c2,c3,rfl,rfl⟩|⟨k',c2,c3,rfl,rfl,hall⟩;·exact ⟨c,k',c1.2,c2,c3,fun e=>absurd e c1.1,lift (B:=max B1 B2) fun M hM=>caB [(12,.b false),(14,.i (k+1)),(16,.b false),(18,.p (num 0))] [(.ret,⟨[(6,num c)],[.var [num k'],fnB,.var y]⟩)] (pf5 h1 hk h2 (zsl M (by omega)) (hl M (by omega))) (r:=some (num c,[.var [num k'],fnB]))⟩
     refine ⟨0,k',by decide,c2,c3,fun _=>?_,lift (B:=max B1 B2) fun M hM=>?_⟩;·rw [show (9:Int)+((h+1:Nat):Int)=9+(h:Int)+1 by omega];exact zq5 hq (by omega) q1 q2 a1 a2 a3 q3 q4 hv hall
     have hl:=hl M (by omega);generalize ar.length=m at hl;exact caB [(12,.b false),(14,.i (k+1)),(16,.b false),(18,.p (num 0))] [(.exit 0,⟨[(1,num lev),(3,.ptr 1 0 0),(23,.sl false 5 ar),(24,nat m),(25,nat m),(26,boolX false)],[.var [num k'],fnB]⟩)] (pf5 h1 hk h2 (zsl M (by omega)) hl) (r:=some (num 0,[.var [num k'],fnB]))
    have hb:(c !=0)=true:=by simpa using c0
    exact ⟨c,k+1,hc.2,by omega,by omega,fun e=>absurd e c0,lift (B:=B1) fun M hM=>caA [(12,.b false),(14,.i (k+1)),(16,.b false),(18,.p (num c)),(20,.b true)] (pf5 h1 hk h2 (zsl M hM) hb) (r:=some (num c,[.var [num (k+1)],fnB]))⟩
theorem XQ {h:Nat}(hh:h<=900){op n:Int}{s:qaW}{vs ar:qaV}(hx:okE h [num op,num n,strX s,.sl u 6 vs,.sl v 5 ar]):∃c:Int,((c=0->D T (9+(h:Int)) 10 [num op,num n,strX s,.sl u 6 vs,.sl v 5 ar])/\0<=c/\c<=100)/\Back 144 [.agg [num op,num n,strX s,.sl u 6 vs,.sl v 5 ar]] (num c):=by obtain ⟨c,l,f,m,q,a,B,j⟩:=Tj h op n s u v vs ar hx 1 0 (by decide) (by omega) (by decide) (by decide);refine ⟨c,⟨fun e=>OW (a e),f⟩,B+1,fun N w=>?_⟩;obtain ⟨M,rfl⟩:=pR_ N;exact caA [(8,.r (num c) [.var [num l],fnB])] (pf1 (j M (by omega))) (r:=some (num c,[]))
end Ct
namespace Ct
def zxY:List Ctr:=[mkC 297 [.ir .i64 0 12] [] none [(.ir .i64 1 1000000000000,[])]]
theorem znc (n:Nat)(h:n<=12):∃z:Int,1<=z/\z<=1000000000000/\∀N,callF tab ext (N+20) (.fn 297) [.v (.int .i64 n)] []=some (.v (.int .i64 z),[]):=by
 have:n=0\/n=1\/n=2\/n=3\/n=4\/n=5\/n=6\/n=7\/n=8\/n=9\/n=10\/n=11\/n=12:=by omega
 rcases this with rfl|rfl|rfl|rfl|rfl|rfl|rfl|rfl|rfl|rfl|rfl|rfl|rfl;·exact ⟨1,by omega,by omega,fun N=>caA [] pf0 (r:=some (.v (.int .i64 1),[]))⟩
 ·exact ⟨10,by omega,by omega,fun N=>caA [] pf0 (r:=some (.v (.int .i64 10),[]))⟩
 ·exact ⟨100,by omega,by omega,fun N=>caA [] pf0 (r:=some (.v (.int .i64 100),[]))⟩
 ·exact ⟨1000,by omega,by omega,fun N=>caA [] pf0 (r:=some (.v (.int .i64 1000),[]))⟩
 ·exact ⟨10000,by omega,by omega,fun N=>caA [] pf0 (r:=some (.v (.int .i64 10000),[]))⟩
 ·exact ⟨100000,by omega,by omega,fun N=>caA [] pf0 (r:=some (.v (.int .i64 100000),[]))⟩
 ·exact ⟨1000000,by omega,by omega,fun N=>caA [] pf0 (r:=some (.v (.int .i64 1000000),[]))⟩
 ·exact ⟨10000000,by omega,by omega,fun N=>caA [] pf0 (r:=some (.v (.int .i64 10000000),[]))⟩
 ·exact ⟨100000000,by omega,by omega,fun N=>caA [] pf0 (r:=some (.v (.int .i64 100000000),[]))⟩
 ·exact ⟨1000000000,by omega,by omega,fun N=>caA [] pf0 (r:=some (.v (.int .i64 1000000000),[]))⟩
 ·exact ⟨10000000000,by omega,by omega,fun N=>caA [] pf0 (r:=some (.v (.int .i64 10000000000),[]))⟩
 ·exact ⟨100000000000,by omega,by omega,fun N=>caA [] pf0 (r:=some (.v (.int .i64 100000000000),[]))⟩
 exact ⟨1000000000000,by omega,by omega,fun N=>caA [] pf0 (r:=some (.v (.int .i64 1000000000000),[]))⟩
theorem zbi:ak T Gm zxY:=.one (dh (fun o m=>by rw [qaa.1 m];exact ⟨rfl,rfl⟩) fun u a j l=>by
 match u,a,j,l with
 |[_],[],⟨⟨z,rfl,h1,h2⟩,_⟩,_=>obtain ⟨n,rfl⟩:∃n:Nat,z=n:=⟨z.toNat,by omega⟩;obtain ⟨y,f,h,q⟩:=znc n (by omega);refine ⟨_,qaa.2 rfl,.v (.int .i64 y),[],⟨y,rfl,f,h⟩,trivial,20,fun N w=>?_⟩;obtain ⟨M,rfl⟩:∃M,N=M+20:=⟨N-20,by omega⟩;exact q M)
end Ct
set_option linter.all false
namespace Ct
def zuO:List Ctr:=[mkC 275 [.ir .i64 (-999999999999999) (-1)] [] none [(.ir .i64 1 999999999999999,[])],mkC 275 [.ir .i64 0 0] [] none [(.ir .i64 0 0,[])],mkC 275 [.ir .i64 1 999999999999999] [] none [(.ir .i64 1 999999999999999,[])],dO 275 [int] [] none [(int,[],[lt 1 0 2])]]
theorem AY:ak T Gm zuO:=hoA K .nil
def zw8:List Ctr:=[dO 282 [uq] [] none [(.k .i64 0,[],bd 1 (-999999999999999) 999999999999999++bd 2 0 12),(.ir .i64 1 100,[],[])]]
theorem Ri:ak T Gm zw8:=hoA K AY
def zxf:List Ctr:=[mkC 271 [.sl 2 9] [] none [(err,[])]]
theorem AZ:ak T Gm zxf:=hoB K ((iQ [⟨[6,7,8],fun e n=>(n+1,[aj (.k 0) ⟨n+0,0⟩,aj ⟨n+0,0⟩ (e 1)],[(6,.sl none 2 9 (e 0) (e 1)),(7,.i .i64 (e 1)),(8,.i .i64 ⟨n+0,0⟩)],[],(e 1,⟨n+0,0⟩))⟩])) Ri
def zxe:List Ctr:=[mkC 272 [Ud] [] none [(.tu [int,int],[])]]
theorem za1:ak T Gm zxe:=hoA K zbi
def zxR:List Ctr:=[mkC 100 [int] [] none [((.kb true),[]),((.kb false),[])]]
theorem zku:ak T Gm zxR:=hoA K .nil
def zxT:List Ctr:=[mkC 70 [int,int] [] none [((int),[])]]
theorem Rx:ak T Gm zxT:=hoA K zku
def zxU:List Ctr:=[mkC 69 [.sl 1 3] [] none [((int),[])]]
theorem zbe:ak T Gm zxU:=hoB K ((iQ [⟨[3,6,7,8],fun e n=>(n+1,[aj (.k 0) ⟨n+0,0⟩,aj ⟨n+0,0⟩ (e 2)],[(3,.i .i64 (.k 0)),(6,.sl none 1 3 (e 1) (e 2)),(7,.i .i64 (e 2)),(8,.i .i64 ⟨n+0,0⟩)],[],(e 2,⟨n+0,0⟩))⟩])) .nil
def zxC:List Ctr:=[mkC 240 [Ud,Ud] [] none [(.tu [int,err],[])]]
theorem zj6:ak T Gm zxC:=hoA K (hpA AZ (hpA za1 (hpA Rx zbe)))
def zxb:List Ctr:=[mkC 276 [int,int] [] none [(((.tu [uq,err])),[])]]
theorem Rj:ak T Gm zxb:=hoA K AY
def zxd:List Ctr:=[mkC 273 [.sl 2 9,.ir .i64 0 12] [] none [(.tu [uq,err],[])]]
theorem za0:ak T Gm zxd:=hoB K ((iQ [⟨[1,4,6,7,8,14,15,16],fun e n=>(n+3,[aj (.k 0) ⟨n+2,0⟩,aj ⟨n+2,0⟩ (e 6)],[(1,.i .i64 (e 0)),(4,.ptr 0 (.k 0) 0),(6,.i .i64 (e 2)),(7,.i .i64 ⟨n+0,0⟩),(8,.i .i64 ⟨n+1,0⟩),(14,.sl none 2 9 (e 5) (e 6)),(15,.i .i64 (e 6)),(16,.i .i64 ⟨n+2,0⟩)],[.var [.i .i64 (.k 0),.i .i64 (.k 0)]],(e 6,⟨n+2,0⟩))⟩])) (hpA zbi (hpA za1 (hpA AY Rj)))
def zxA:List Ctr:=[mkC 242 [.sl 2 9] [] none [(.tu [uq,err],[])]]
theorem zj5:ak T Gm zxA:=hoB K ((iQ [⟨[0,2,5,18,19,20],fun e n=>(n+2,[aj (.k 0) ⟨n+0,0⟩,aj (.k 0) ⟨n+1,0⟩,aj ⟨n+1,0⟩ (e 1),aj ⟨n+0,0⟩ (.k 12)],[(0,.sl none 2 9 (e 0) (e 1)),(2,.ptr 0 (.k 0) 0),(5,.i .i64 ⟨n+0,0⟩),(18,.sl none 2 9 (e 0) (e 1)),(19,.i .i64 (e 1)),(20,.i .i64 ⟨n+1,0⟩)],[.var [.i .i64 (.k 0),.i .i64 (.k 0)]],(e 1,⟨n+1,0⟩))⟩])) (hpA AZ za0)
def zxy:List Ctr:=[mkC 244 [Ud,Ud] [] none [(.tu [uq,err],[])]]
theorem za5:ak T Gm zxy:=hoA K (hpA AZ za0)
def zxx:List Ctr:=[mkC 245 [Ud,Ud] [] none [(.tu [uq,err],[])]]
theorem zj4:ak T Gm zxx:=hoA K (hpA AZ za5)
def zxw:List Ctr:=[mkC 246 [Ud,.ag [.ir .i64 (-999999999999999) (-1),.ir .i64 0 12]] [] none [(.tu [uq,err],[])],mkC 246 [Ud,.ag [.ir .i64 0 0,.ir .i64 0 12]] [] none [(.tu [uq,err],[])],mkC 246 [Ud,.ag [.ir .i64 1 999999999999999,.ir .i64 0 12]] [] none [(.tu [uq,err],[])]]
theorem Ro:ak T Gm zxw:=hoA K (hpA AZ (hpA AY Rj))
def zxa:List Ctr:=[mkC 277 [.ir .i64 (-999999999999999) 999999999999999,.ir .i64 (-999999999999999) (-1),.ir .i64 (-24) 24] [] none [(int,[])],mkC 277 [.ir .i64 (-999999999999999) 999999999999999,.ir .i64 1 999999999999999,.ir .i64 (-24) 24] [] none [(int,[])]]
theorem zjR:ak T Gm zxa:=hoB K ((iQ [⟨[0,1,2],fun e n=>(n+2,[aj (.k 0) ⟨n+0,-1⟩,aj ⟨n+1,0⟩ (.k 24),aj (e 2) ⟨n+1,0⟩,aj ⟨n+0,0⟩ (.k 39999999999999960)],[(0,.i .i64 (e 0)),(1,.i .i64 ⟨n+0,0⟩),(2,.i .i64 ⟨n+1,0⟩)],[],(e 1,⟨n+1,0⟩))⟩,⟨[1,2,7,8],fun e n=>(n+3,[aj (.k 0) ⟨n+0,0⟩,aj ⟨n+0,0⟩ (e 1),aj ⟨n+1,0⟩ (.k 9223372036854775807),aj (.k 0) ⟨n+1,9223372036854775808⟩,aj (.k 0) ⟨n+2,39999999999999959⟩,aj ⟨n+2,0⟩ ((e 0).up (-1))],[(1,.i .i64 (e 0)),(2,.i .i64 ⟨n+0,0⟩),(7,.i .i64 ⟨n+1,0⟩),(8,.i .i64 ⟨n+2,0⟩)],[],(⟨n+0,0⟩,.k 0))⟩,⟨[0,1,2],fun e n=>(n+2,[aj (.k 0) ⟨n+0,-1⟩,aj ⟨n+1,0⟩ (.k 24),aj (e 2) ⟨n+1,0⟩,aj ⟨n+0,0⟩ (.k 39999999999999960)],[(0,.i .i64 (e 0)),(1,.i .i64 ⟨n+0,0⟩),(2,.i .i64 ⟨n+1,0⟩)],[],(e 1,⟨n+1,0⟩))⟩,⟨[1,2,7,8],fun e n=>(n+3,[aj (.k 0) ⟨n+0,0⟩,aj ⟨n+0,0⟩ (e 1),aj ⟨n+1,0⟩ (.k 9223372036854775807),aj (.k 0) ⟨n+1,9223372036854775808⟩,aj (.k 0) ⟨n+2,39999999999999959⟩,aj ⟨n+2,0⟩ ((e 0).up (-1))],[(1,.i .i64 (e 0)),(2,.i .i64 ⟨n+0,0⟩),(7,.i .i64 ⟨n+1,0⟩),(8,.i .i64 ⟨n+2,0⟩)],[],(⟨n+0,0⟩,.k 0))⟩])) AY
def zxv:List Ctr:=[mkC 247 [Ud,.ag [.ir .i64 (-999999999999999) (-1),.ir .i64 0 12],int] [] none [(.tu [uq,err],[])],mkC 247 [Ud,.ag [.ir .i64 0 0,.ir .i64 0 12],int] [] none [(.tu [uq,err],[])],mkC 247 [Ud,.ag [.ir .i64 1 999999999999999,.ir .i64 0 12],int] [] none [(.tu [uq,err],[])]]
theorem Rn:ak T Gm zxv:=hoA K (hpA AZ (hpA zjR Rj))
def zxu:List Ctr:=[mkC 251 [uq] [] none [(((.tu [uq,err])),[])]]
theorem zj3:ak T Gm zxu:=hoA K Ri
end Ct
namespace Ct
def okN (a s:Int):Prop:=-999999999999999<=a/\a<=999999999999999/\0<=s/\s<=12
theorem zhi (a s:Int):∃e:Int,((e=0->okN a s)/\0<=e/\e<=100)/\∃B,∀N,B<=N->callF tab ext N (.fn 282) [.agg [num a,num s]] []=some (num e,[]):=by
 have h:=Ri _ (qaa.2 rfl);obtain ⟨o,q,ρ',r,w,u,j,l,m,B,y⟩:=h (fun n=>match n with|1=>a|2=>s|_=>0) [.agg [num a,num s]] [] ⟨rfl,by decide,(fun f A=>by cases A),⟨[],qaa.2 rfl,(fun f A=>by grind)⟩,
  .cons (.agg (.cons (.i (by decide) (by show _=_+(0:Int)<;>simp_all)) (.cons (.i (by decide) (by show _=_+(0:Int)<;>simp_all)) .nil))) .nil,.nil⟩
 have z:ρ' 0=0:=u.same 0 (by decide);have J:ρ' 1=a:=u.same 1 (by decide);have L:ρ' 2=s:=u.same 2 (by decide);rcases qal.1 q with rfl|q
 ·have l:G T _ ρ' (.i .i64 (.k 0)) r:=l;have m:GBs T _ ρ' [] w:=m;cases m;cases l with
  |i q1 q2=>rw [Lin.k_v z] at q2;subst q2;refine ⟨0,⟨fun _=>?_,by decide,by decide⟩,B,y⟩;have E:=aC.1 (j (aj (.k (-999999999999999)) ⟨1,0⟩) (by grind[bd]));have F:=aC.1 (j (aj ⟨1,0⟩ (.k 999999999999999)) (by grind[bd]));have M:=aC.1 (j (aj (.k 0) ⟨2,0⟩) (by grind[bd]));have O:=aC.1 (j (aj ⟨2,0⟩ (.k 12)) (by simp [dO,mkC,Z8,bd]))<;>grind[Lin.k_v,Lin.v,okN]
 rcases qal.1 q with rfl|q
 ·have l:G T _ ρ' (.i .i64 ⟨3,0⟩) r:=l;have m:GBs T _ ρ' [] w:=m;cases m;cases l with
  |i q1 q2=>rename_i H;have E:=aC.1 (j (aj (.k 1) ⟨3,0⟩) (by grind[Z8,bnd,Sh.bld]));have F:=aC.1 (j (aj ⟨3,0⟩ (.k 100)) (by grind[Z8,bnd,Sh.bld]));rw [Lin.k_v z,<-q2] at E F;exact ⟨H,⟨fun e=>by omega,by omega,by omega⟩,B,y⟩
 simp_all
def nc (p:Int×Int):List X:=[num p.1,num p.2]
theorem Js (t:Bool)(l:List (Int×Int))(hl:l.length<=2000000):∃e:Int,((e=0->∀p,p∈l->okN p.1 p.2)/\0<=e/\e<=100)/\Back 271 [.sl t 2 (l.map nc)] (num e):=by
 obtain ⟨E,B,y⟩:=jZ l (R:=fun p (e:Int)=>(e=0->okN p.1 p.2)/\0<=e/\e<=100) (Q:=fun p e N=>Gam.pureD (callF tab ext N) 282 [.agg [num p.1,num p.2]]=some (num e)) (fun p _=>by obtain ⟨e,O,S⟩:=zhi p.1 p.2;exact ⟨e,O,gq S rfl⟩);have L:(l.map nc).length=l.length:=qaB ..;have J:=zil (nIn:=0) (b:=loopAt 271 0) (H:=fun j=>⟨[(6,.sl t 2 (l.map nc)),(7,nat (l.map nc).length),(8,nat j)],[]⟩) (P:=fun j=>E (l.getD j (0,0))!=0) (r:=fun j=>⟨[(2,num (E (l.getD j (0,0))))],[.var (nc (l.getD j (0,0)))]⟩)
  (υ:=fun j=>⟨[(6,.sl t 2 (l.map nc)),(7,nat (l.map nc).length),(8,nat (j+1))],[.var (nc (l.getD j (0,0)))]⟩) (τ:=⟨[(6,.sl t 2 (l.map nc)),(7,nat (l.map nc).length),(8,nat 0)],[]⟩) (n:=l.length) (B:=B) (e:=.exit 0)
  (fin:=⟨[(6,.sl t 2 (l.map nc)),(7,nat (l.map nc).length),(8,nat l.length),(9,boolX false)],[]⟩) (by kernel_rfl)
  (fun j f m M A=>by
   have u:(l.map nc)[j]?=some (nc (l.getD j (0,0))):=by rw [qav,qaF,qad f];rfl
   have w:l.getD j (0,0)∈l:=by rw [qaF,qad f];exact qaf f
   have q:=(y _ w).2 M A;generalize l.getD j (0,0)=p at u q m ⊢;generalize E p=e at q m ⊢;obtain ⟨a,s⟩:=p;exact ruA [(9,.b true),(10,.e ([num a,num s])),(13,.p (num e)),(15,.b true)] (pf4 (aH (j:=j) (k:=(l.map nc).length) (by omega)) u q m))
  (fun j f m=>⟨by kernel_rfl,fun M A=>by
   have u:(l.map nc)[j]?=some (nc (l.getD j (0,0))):=by rw [qav,qaF,qad f];rfl
   have w:l.getD j (0,0)∈l:=by rw [qaF,qad f];exact qaf f
   have q:=(y _ w).2 M A;generalize l.getD j (0,0)=p at u q m ⊢;generalize E p=e at q m ⊢;obtain ⟨a,s⟩:=p;exact ruA [(9,.b true),(10,.e ([num a,num s])),(13,.p (num e)),(15,.b false),(17,.i (Int.ofNat (j+1)))] (pf5 (aH (j:=j) (k:=(l.map nc).length) (by omega)) u q m (ay (j:=j) (by omega)))⟩)
  (fun M _=>ruA [(9,.b false)] (pf1 (aG (j:=l.length) (k:=(l.map nc).length) (by omega)))) (by simp)
 rcases J with ⟨j,f,m,_,h⟩|⟨Y,h⟩
 ·have w:l.getD j (0,0)∈l:=by rw [qaF,qad f];exact qaf f
  have F:=(y _ w).1.2;generalize l.getD j (0,0)=p at m h F;obtain ⟨a,s⟩:=p;generalize E (a,s)=e at m h F;refine ⟨e,⟨fun W=>by grind,F⟩,B+l.length+2,fun N U=>?_⟩;obtain ⟨M,rfl⟩:=pR_ N;exact caB [] [(.ret,⟨[(2,num e)],[.var (nc (a,s))]⟩)] (pf1 (h M (by omega) (by omega))) (r:=some (num e,[]))
 refine ⟨0,⟨fun _ p V=>?_,by decide,by decide⟩,B+l.length+2,fun N U=>?_⟩
 ·obtain ⟨j,f,rfl⟩:=qaR V
  grind
 obtain ⟨M,rfl⟩:=pR_ N;exact caB [] [(.exit 0,⟨[(6,.sl t 2 (l.map nc)),(7,nat (l.map nc).length),(8,nat l.length),(9,boolX false)],[]⟩)] (pf1 (h M (by omega) (by omega))) (r:=some (num 0,[]))
end Ct
namespace Ct
theorem isN {T:Tab}(hx:uq.Is T h x):∃a s,x=.agg [num a,num s]:=by
 match x,hx with
 |_,⟨xs,rfl,hx⟩=>
  match xs,hx with
  |[_,_],⟨⟨a,rfl⟩,⟨s,rfl⟩,_⟩=>exact ⟨a,s,rfl⟩
theorem Je {T:Tab}(a s:Int):uq.Is T h (.agg [num a,num s]):=⟨_,rfl,⟨a,rfl⟩,⟨s,rfl⟩,trivial⟩
theorem Yn {T:Tab}{a s:Int}(hk:okN a s):Ud.Is T h (.agg [num a,num s]):=⟨_,rfl,⟨a,rfl,hk.1,hk.2.1⟩,⟨s,rfl,hk.2.2.1,hk.2.2.2⟩,trivial⟩
theorem wY {args:List X}{outs:List (Sh×List BSh)}{o:Sh}(ho:(o,[])∈outs)(hx:o.Is T 0 x)(h:∀M,B<=M->callF tab ext (M+1) (.fn f) args []=some (x,[])):Says T Gm f args [] outs:=
 ⟨_,ho,x,[],hx,trivial,B+1,fun N a=>by obtain ⟨M,rfl⟩:=pR_ N<;>simp_all⟩
theorem O6 (t:Bool)(a s b u:Int):(okN a s/\okN b u)\/∃e:Int,((e !=0)=true/\0<=e/\e<=100)/\∃B,∀N,B<=N->Gam.pureD (callF tab ext N) 271 [.sl t 2 [[num a,num s],[num b,num u]]]=some (num e):=by
 obtain ⟨e,⟨j,h⟩,f⟩:=Js t [(a,s),(b,u)] (by simp);by_cases l:e=0;·simp_all
 exact .inr ⟨e,⟨by grind,h⟩,gq f rfl⟩
def zya:List Ctr:=[mkC 240 [uq,uq] [] none [(.tu [int,err],[])]]
theorem zbn:ak T Gm zya:=.one (dh (fun o w=>by rw [qaa.1 w];exact ⟨rfl,rfl⟩) fun E f m n=>by
 match E,f,m,n with
 |[_,_],[],⟨h1,h2,_⟩,_=>
  obtain ⟨a,s,rfl⟩:=isN h1;obtain ⟨b,u,rfl⟩:=isN h2;rcases O6 false a s b u with ⟨y,A⟩|⟨e,⟨q,h⟩,B,j⟩;·exact eU (zj6 _ (qaa.2 rfl)) rfl rfl ⟨Yn y,Yn A,trivial⟩ trivial
  exact wY (x:=.tup [num 0,num e]) (qaa.2 rfl) ⟨_,rfl,⟨0,rfl⟩,⟨e,rfl,h⟩,trivial⟩ (B:=B) fun M l=>caA [(14,.p (num e)),(16,.b true)] (pf2 (j M l) q) (r:=some (.tup [num 0,num e],[])))
def zx8:List Ctr:=[mkC 244 [uq,uq] [] none [(.tu [uq,err],[])]]
theorem zbm:ak T Gm zx8:=.one (dh (fun o w=>by rw [qaa.1 w];exact ⟨rfl,rfl⟩) fun E f m n=>by
 match E,f,m,n with
 |[_,_],[],⟨h1,h2,_⟩,_=>
  obtain ⟨a,s,rfl⟩:=isN h1;obtain ⟨b,u,rfl⟩:=isN h2;rcases O6 false a s b u with ⟨y,A⟩|⟨e,⟨q,h⟩,B,j⟩;·exact eU (za5 _ (qaa.2 rfl)) rfl rfl ⟨Yn y,Yn A,trivial⟩ trivial
  exact wY (x:=.tup [.agg [num 0,num 0],num e]) (qaa.2 rfl) ⟨_,rfl,Je 0 0,⟨e,rfl,h⟩,trivial⟩ (B:=B) fun M l=>caA [(10,.p (num e)),(12,.b true)] (pf2 (j M l) q) (r:=some (.tup [.agg [num 0,num 0],num e],[])))
def zx7:List Ctr:=[mkC 245 [uq,uq] [] none [(.tu [uq,err],[])]]
theorem zkG:ak T Gm zx7:=.one (dh (fun o w=>by rw [qaa.1 w];exact ⟨rfl,rfl⟩) fun E f m n=>by
 match E,f,m,n with
 |[_,_],[],⟨h1,h2,_⟩,_=>
  obtain ⟨a,s,rfl⟩:=isN h1;obtain ⟨b,u,rfl⟩:=isN h2;rcases O6 false a s b u with ⟨y,A⟩|⟨e,⟨q,h⟩,B,j⟩;·exact eU (zj4 _ (qaa.2 rfl)) rfl rfl ⟨Yn y,Yn A,trivial⟩ trivial
  exact wY (x:=.tup [.agg [num 0,num 0],num e]) (qaa.2 rfl) ⟨_,rfl,Je 0 0,⟨e,rfl,h⟩,trivial⟩ (B:=B) fun M l=>caA [(10,.p (num e)),(12,.b true)] (pf2 (j M l) q) (r:=some (.tup [.agg [num 0,num 0],num e],[])))
def zx6:List Ctr:=[mkC 246 [uq,uq] [] none [(.tu [uq,err],[])]]
theorem zkF:ak T Gm zx6:=.one (dh (fun o F=>by rw [qaa.1 F];exact ⟨rfl,rfl⟩) fun H n A f=>by
 match H,n,A,f with
 |[_,_],[],⟨h1,h2,_⟩,_=>
  obtain ⟨a,s,rfl⟩:=isN h1;obtain ⟨b,u,rfl⟩:=isN h2;rcases O6 false a s b u with ⟨j,h⟩|⟨e,⟨E,q⟩,B,w⟩
  ·have f:∀lo hi:Int,lo<=b->b<=hi->(Sh.ag [.ir .i64 lo hi,.ir .i64 0 12]).Is T 0 (.agg [num b,num u]):=fun lo hi l m=>⟨_,rfl,⟨b,rfl,l,m⟩,⟨u,rfl,h.2.2.1,h.2.2.2⟩,trivial⟩;have J:=h.1;have L:=h.2.1;by_cases l:b<=-1;·exact eU (Ro _ (qaq ..)) rfl rfl ⟨Yn j,f _ _ (by omega) (by omega),trivial⟩ trivial
   by_cases m:b=0;·exact eU (Ro _ (qar _ (qaq ..))) rfl rfl ⟨Yn j,f _ _ (by omega) (by omega),trivial⟩ trivial
   exact eU (Ro _ (qar _ (qar _ (qaq ..)))) rfl rfl ⟨Yn j,f _ _ (by omega) (by omega),trivial⟩ trivial
  exact wY (x:=.tup [.agg [num 0,num 0],num e]) (qaa.2 rfl) ⟨_,rfl,Je 0 0,⟨e,rfl,q⟩,trivial⟩ (B:=B) fun M y=>caA [(11,.p (num e)),(13,.b true)] (pf2 (w M y) E) (r:=some (.tup [.agg [num 0,num 0],num e],[])))
def zx5:List Ctr:=[mkC 247 [uq,uq,int] [] none [(.tu [uq,err],[])]]
theorem zkE:ak T Gm zx5:=.one (dh (fun o H=>by rw [qaa.1 H];exact ⟨rfl,rfl⟩) fun J n E f=>by
 match J,n,E,f with
 |[_,_,_],[],⟨h1,h2,⟨w,hw⟩,_⟩,_=>
  obtain ⟨a,s,rfl⟩:=isN h1;obtain ⟨b,u,rfl⟩:=isN h2;subst hw;rcases O6 false a s b u with ⟨j,h⟩|⟨e,⟨F,q⟩,B,y⟩
  ·have f:∀lo hi:Int,lo<=b->b<=hi->(Sh.ag [.ir .i64 lo hi,.ir .i64 0 12]).Is T 0 (.agg [num b,num u]):=fun lo hi l m=>⟨_,rfl,⟨b,rfl,l,m⟩,⟨u,rfl,h.2.2.1,h.2.2.2⟩,trivial⟩;have L:=h.1;have N:=h.2.1;by_cases l:b<=-1;·exact eU (Rn _ (qaq ..)) rfl rfl ⟨Yn j,f _ _ (by omega) (by omega),⟨w,rfl⟩,trivial⟩ trivial
   by_cases m:b=0;·exact eU (Rn _ (qar _ (qaq ..))) rfl rfl ⟨Yn j,f _ _ (by omega) (by omega),⟨w,rfl⟩,trivial⟩ trivial
   exact eU (Rn _ (qar _ (qar _ (qaq ..)))) rfl rfl ⟨Yn j,f _ _ (by omega) (by omega),⟨w,rfl⟩,trivial⟩ trivial
  exact wY (x:=.tup [.agg [num 0,num 0],num e]) (qaa.2 rfl) ⟨_,rfl,Je 0 0,⟨e,rfl,q⟩,trivial⟩ (B:=B) fun M A=>caA [(13,.p (num e)),(15,.b true)] (pf2 (y M A) F) (r:=some (.tup [.agg [num 0,num 0],num e],[])))
theorem zam:∀{es:qaV} {h:Int},(∀e,e∈es->D T h 6 e)->∃l:List (Int×Int),es=l.map nc
 |[],_,_=>⟨[],rfl⟩
 |e::r,h,hd=>by
  obtain ⟨l,hl⟩:=zam (es:=r) fun x hx=>hd x (qar _ hx);obtain ⟨_,alt,ha,hs⟩:=mP (hd e (qaq ..));rw [qaa.1 ha] at hs
  match e,hs with
  |[x,y],⟨hx,hy,_⟩=>
   match x,y,hx,hy with
   |.v (.int _ a),.v (.int _ b),⟨rfl,_⟩,⟨rfl,_⟩=>exact ⟨(a,b)::l,by rw [hl];rfl⟩
def zx9:List Ctr:=[mkC 242 [.sl 2 6] [] none [(.tu [uq,err],[])]]
theorem zkH:ak T Gm zx9:=.one (dh (fun o H=>by rw [qaa.1 H];exact ⟨rfl,rfl⟩) fun N u F f=>by
 match N,u,F,f with
 |[_],[],⟨⟨t,es,h',rfl,hh,hl,hd⟩,_⟩,_=>
  obtain ⟨l,rfl⟩:=zam hd;have q:(l.map nc).length=l.length:=qaB ..;have j:l.length<=2000000:=by unfold bW at hl;omega
  obtain ⟨e,⟨y,w⟩,A⟩:=Js false l j;obtain ⟨B,E⟩:=gq A rfl;by_cases n:e=0;·refine eU (zj5 _ (qaa.2 rfl)) rfl rfl ⟨⟨t,l.map nc,1,rfl,by omega,hl,fun x L=>?_⟩,trivial⟩ trivial;obtain ⟨p,J,rfl⟩:=qah.1 L;obtain ⟨O,P,Q,S⟩:=y n p J;exact dI (by omega) (qaa.2 rfl) ⟨⟨rfl,fun a e=>by grind,fun a e=>by grind⟩,⟨rfl,fun a e=>by grind,fun a e=>by grind⟩,trivial⟩
  have h:(e !=0)=true:=by simpa using n
  cases f:decide (Int.ofNat (l.map nc).length>256) with
  |true=>exact wY (x:=.tup [.agg [num 0,num 0],num 9]) (qaa.2 rfl) ⟨_,rfl,Je 0 0,⟨9,rfl,by decide,by decide⟩,trivial⟩ (B:=B) fun M m=>caA [(10,.b true)] (pf1 f) (r:=some (.tup [.agg [num 0,num 0],num 9],[]))
  |false=>exact wY (x:=.tup [.agg [num 0,num 0],num e]) (qaa.2 rfl) ⟨_,rfl,Je 0 0,⟨e,rfl,w⟩,trivial⟩ (B:=B) fun M m=>caA [(10,.b false),(13,.p (num e)),(15,.b true)] (pf3 f (E M m) h) (r:=some (.tup [.agg [num 0,num 0],num e],[])))
end Ct
namespace Ct
theorem zgf (h1:-999999999999999<=a)(h2:a<=999999999999999):∃b:Int,0<=b/\b<=999999999999999/\∃B,∀N,B<=N->Gam.pureD (callF tab ext N) 275 [num a]=some (num b):=by
 have f:∀{lo hi lo' hi':Int},mkC 275 [.ir .i64 lo hi] [] none [(.ir .i64 lo' hi',[])]∈zuO->lo<=a->a<=hi->0<=lo'->hi'<=999999999999999->∃b:Int,0<=b/\b<=999999999999999/\∃B,∀N,B<=N->Gam.pureD (callF tab ext N) 275 [num a]=some (num b):=fun q h j w y=>by obtain ⟨o,u,r,bx,hi,n,B,l⟩:=eU (AY _ q) rfl rfl (xs:=[num a]) ⟨zjc h j,trivial⟩ (bx:=[]) trivial;obtain rfl:=qaa.1 u;obtain rfl:=qQ n;obtain ⟨b,rfl,A,E⟩:=zov hi;exact ⟨b,by omega,by omega,B,fun N m=>bf (l N m) rfl⟩
 by_cases h:a<=-1;·exact f (qaq ..) h1 h (by decide) (by decide)
 by_cases j:a=0;·exact f (qar _ (qaq ..)) (by omega) (by omega) (by decide) (by decide)
 exact f (qar _ (qar _ (qaq ..))) (by omega) (by omega) (by decide) (by decide)
theorem zaC (h1:-9223372036854775808<=a)(h2:a<=9223372036854775807):∃d:qaW,1<=d.size/\d.size<=21/\∃B,∀N,B<=N->Gam.pureD (callF tab ext N) 82 [num a]=some (strX d):=by have l:=Lib.itoa_length_le a h1 h2;have m:=Ut a;obtain ⟨B,h⟩:=gI (f:=82) (g:=AU) rfl (KH a h1 h2);exact ⟨_,by grind[bsz],by grind[bsz],B,fun N j=>bf (h N j) rfl⟩
theorem Qi {c:Int}(h2:0<=c)(h3:c<=100):∃r:qaW,(r.size:Int)=c/\∃B,∀N,B<=N->Gam.pureD (callF tab ext N) 303 [.v (.string ⟨#[48]⟩),num c]=some (strX r):=by obtain ⟨r,j,l⟩:=IV ⟨#[48]⟩ c rfl h2 h3;obtain ⟨B,a⟩:=gI (f:=303) (g:=oM) rfl j;exact ⟨r,l,B,fun N h=>bf (a N h) rfl⟩
theorem pfc {p:Prop}{ps:List Prop}(h1:p)(h2:kK ps):kK (p::ps):=⟨h1,h2⟩
theorem XF (a s:Int):(∃e:Int,(0<=e/\e<=100)/\Back 284 [.agg [num a,num s]] (.tup [noText,num e]))\/∃t:qaW,t.size<=60/\Back 284 [.agg [num a,num s]] (.tup [strX t,num 0]):=by
 have f:∀{B:Nat} {r:X},(∀M,B<=M->callF tab ext (M+1) (.fn 284) [.agg [num a,num s]] []=some (r,[]))->Back 284 [.agg [num a,num s]] r:=fun {B} {r} h=>⟨B+1,fun N hN=>by obtain ⟨M,rfl⟩:=pR_ N<;>simp_all⟩;obtain ⟨e,⟨W,er⟩,l⟩:=zhi a s;obtain ⟨m,l⟩:=gq l rfl;cases Z:(e !=0) with
 |true=>exact .inl ⟨e,er,f (B:=m) fun M H=>caA [(7,.p (num e)),(9,.b true)] (pf2 (l M H) Z) (r:=some (.tup [noText,num e],[]))⟩
 |false=>
  have e0:e=0:=by simpa using Z
  subst e0;obtain ⟨o1,o2,o3,o4⟩:=W rfl;obtain ⟨b,b1,b2,O,Q⟩:=zgf o1 o2;obtain ⟨d,d1,d2,P,S⟩:=zaC (a:=b) (by omega) (by omega);right;cases L:decide (s>0) with
  |false=>
   cases J:decide (a<0) with
   |true=>
    have hm:(⟨#[45]⟩:qaW).size+d.size<=9223372036854775807:=by show 1+d.size<=_;omega
    refine ⟨⟨#[45]⟩++d,by rw [ByteArray.size_append];show 1+d.size<=60;omega,f (B:=m+O+P) fun M H=>?_⟩;exact caA [(7,.p (num 0)),(13,.p (num b)),(14,.p (strX d)),(17,.b false),(46,.b true),(48,.at)] (pf6 (l M (by omega)) (Q M (by omega)) (S M (by omega)) L J hm) (r:=some (.tup [strX (⟨#[45]⟩++d),num 0],[]))
   |false=>exact ⟨d,by omega,f (B:=m+O+P) fun M H=>caA [(7,.p (num 0)),(13,.p (num b)),(14,.p (strX d)),(17,.b false),(46,.b false)] (pf5 (l M (by omega)) (Q M (by omega)) (S M (by omega)) L J) (r:=some (.tup [strX d,num 0],[]))⟩
  |true=>
   have pb:=of_decide_eq_true L;obtain ⟨w,hw⟩:∃w,w=s+1-Int.ofNat d.size:=⟨_,rfl⟩;simp at hw;obtain ⟨c,V⟩:∃c:Int,(if true=true then if w>0 then w else 0 else if w<0 then w else 0)=c:=⟨_,rfl⟩;have pa:c=max w 0:=by rw [<-V,if_pos rfl];split<;>omega
   obtain ⟨z,pc,Y,hz⟩:=Qi (c:=c) (by omega) (by omega);have pd:(z++d).size=z.size+d.size:=ByteArray.size_append;obtain ⟨k,hk⟩:∃k:Nat,k+s.toNat=(z++d).size:=⟨(z++d).size-s.toNat,by omega⟩;have n:IntKind.i64.wrap (s+1)=s+1:=by rw [IntKind.wrap_i64];omega
   have q:IntKind.i64.wrap (s+1-Int.ofNat d.size)=w:=by rw [IntKind.wrap_i64];simp;omega
   have j:IntKind.i64.wrap (Int.ofNat (z++d).size-s)=Int.ofNat k:=by rw [IntKind.wrap_i64];simp only [qaJ];omega
   have u:z.size+d.size<=9223372036854775807:=by omega
   have y:0<=(Int.ofNat k).toNat/\(Int.ofNat k).toNat<=(z++d).size:=⟨Nat.zero_le _,by grind⟩;have x1:((z++d).extract 0 k).size=k:=by rw [ByteArray.size_extract];omega
   have x2:((z++d).extract k (z++d).size).size=s.toNat:=by rw [ByteArray.size_extract];omega
   have A:((z++d).extract 0 (Int.ofNat k).toNat).size+(⟨#[46]⟩:qaW).size<=9223372036854775807:=by show ((z++d).extract 0 k).size+1<=_;omega
   have E:(Int.ofNat k).toNat<=(z++d).size/\(z++d).size<=(z++d).size:=⟨by grind,Nat.le_refl _⟩;have x3:((z++d).extract 0 k++(⟨#[46]⟩:qaW)).size=k+1:=by rw [ByteArray.size_append,x1];rfl
   have F:((z++d).extract 0 (Int.ofNat k).toNat++(⟨#[46]⟩:qaW)).size+((z++d).extract (Int.ofNat k).toNat (z++d).size).size<=9223372036854775807:=by show ((z++d).extract 0 k++(⟨#[46]⟩:qaW)).size+((z++d).extract k (z++d).size).size<=_;omega
   have x4:((z++d).extract 0 k++(⟨#[46]⟩:qaW)++(z++d).extract k (z++d).size).size=k+1+s.toNat:=by rw [ByteArray.size_append,x3,x2]
   cases J:decide (a<0) with
   |true=>
    have U:(⟨#[45]⟩:qaW).size+((z++d).extract 0 (Int.ofNat k).toNat++(⟨#[46]⟩:qaW)++(z++d).extract (Int.ofNat k).toNat (z++d).size).size<=9223372036854775807:=by show 1+((z++d).extract 0 k++(⟨#[46]⟩:qaW)++(z++d).extract k (z++d).size).size<=_;omega
    refine ⟨⟨#[45]⟩++((z++d).extract 0 k++(⟨#[46]⟩:qaW)++(z++d).extract k (z++d).size),by rw [ByteArray.size_append,x4];show 1+(k+1+s.toNat)<=60;omega,f (B:=m+O+P+Y) fun M H=>?_⟩;exact caA [(7,.p (num 0)),(13,.p (num b)),(14,.p (strX d)),(17,.b true),(20,.i (s+1)),(23,.i w),(24,.i c),(25,.p (strX z)),(27,.at),(33,.i (Int.ofNat k)),(34,.cut),(35,.at),(41,.i (Int.ofNat k)),(42,.cut),(43,.at),(46,.b true),(48,.at)] (pfc (l M (by omega)) (pfc (Q M (by omega)) (pfc (S M (by omega)) (zus L n q V (hz M (by omega)) u j y A j E F J U)))) (r:=some (.tup [strX (⟨#[45]⟩++((z++d).extract 0 k++(⟨#[46]⟩:qaW)++(z++d).extract k (z++d).size)),num 0],[]))
   |false=>refine ⟨(z++d).extract 0 k++(⟨#[46]⟩:qaW)++(z++d).extract k (z++d).size,by grind,f (B:=m+O+P+Y) fun M H=>?_⟩;exact caA [(7,.p (num 0)),(13,.p (num b)),(14,.p (strX d)),(17,.b true),(20,.i (s+1)),(23,.i w),(24,.i c),(25,.p (strX z)),(27,.at),(33,.i (Int.ofNat k)),(34,.cut),(35,.at),(41,.i (Int.ofNat k)),(42,.cut),(43,.at),(46,.b false)] (pfc (l M (by omega)) (pfc (Q M (by omega)) (pfc (S M (by omega)) (zrg L n q V (hz M (by omega)) u j y A j E F J)))) (r:=some (.tup [strX ((z++d).extract 0 k++(⟨#[46]⟩:qaW)++(z++d).extract k (z++d).size),num 0],[]))
def zx0:List Ctr:=[mkC 284 [uq] [] none [(.tu [.sr 0 60,err],[])]]
theorem zbj:ak T Gm zx0:=.one (dh (fun o m=>by rw [qaa.1 m];exact ⟨rfl,rfl⟩) fun A u j l=>by
 obtain ⟨x,rfl,n⟩:=zeH j;obtain rfl:=qQ l;obtain ⟨ys,rfl,q⟩:∃ys,x=.agg ys/\IsL T 0 [int,int] ys:=n;obtain ⟨y,z,rfl,⟨a,rfl⟩,⟨s,rfl⟩⟩:=zmL q;rcases XF a s with ⟨e,f,h⟩|⟨t,w,h⟩;·exact ⟨_,qaa.2 rfl,.tup [noText,num e],[],⟨_,rfl,⟨⟨#[]⟩,rfl,by decide,by decide⟩,⟨e,rfl,f⟩,trivial⟩,trivial,h⟩
 exact ⟨_,qaa.2 rfl,.tup [strX t,num 0],[],⟨_,rfl,⟨t,rfl,by omega,by omega⟩,⟨0,rfl,by decide,by decide⟩,trivial⟩,trivial,h⟩)
end Ct
namespace Ct
theorem Iz (s:qaW)(hs:s.size<=1000000)(c d:Int)(hc0:0<=c)(hc1:c<=97)(hd0:-32<=d)(hd1:d<=32)(hcd:0<=c+d):∃t:qaW,t.size<=1000000/\∃B,∀N,B<=N->Gam.pureD (callF tab ext N) 288 [strX s,.v (.int .u8 c),num d]=some (strX t):=by
 have j:DK [strX s,.v (.int .u8 c),num d] []=some (.v (.string ⟨(s.data.toList.map (shB c d)).toArray⟩),[]):=by show (if 0<=c/\c<=97/\-32<=d/\d<=32/\0<=c+d/\s.size<=1000000 then _ else _)=_;rw [if_pos ⟨hc0,hc1,hd0,hd1,hcd,hs⟩]
 obtain ⟨B,a⟩:=gI (f:=288) (g:=DK) rfl j;exact ⟨_,by grind[bsz,bln],B,fun N h=>bf (a N h) rfl⟩
theorem TY {s t:qaW}(h:∀M,B<=M->callF tab ext (M+1) (.fn f) [strX s] []=some (strX t,[])):∃B,∀N,B<=N->callF tab ext N (.fn f) [strX s] []=some (strX t,[]):=⟨B+1,fun N a=>by obtain ⟨M,rfl⟩:=pR_ N<;>simp_all⟩
def zx4:List Ctr:=[mkC 254 [.s] [] none [(.s,[])]]
theorem zkD:ak T Gm zx4:=.one (dh (fun o m=>by rw [qaa.1 m];exact ⟨rfl,rfl⟩) fun w q j l=>by obtain ⟨x,rfl,n⟩:=zeH j;obtain rfl:=qQ l;obtain ⟨s,rfl,h⟩:=isS n;obtain ⟨t,u,B,a⟩:=Iz s (by omega) 65 32 (by decide) (by decide) (by decide) (by decide) (by decide);exact ⟨_,qaa.2 rfl,strX t,[],⟨t,rfl,by grind[bW]⟩,trivial,TY (B:=B) fun M f=>caA [(4,.p (strX t))] (pf1 (a M f)) (r:=some (strX t,[]))⟩)
def zx3:List Ctr:=[mkC 255 [.s] [] none [(.s,[])]]
theorem zkC:ak T Gm zx3:=.one (dh (fun o m=>by rw [qaa.1 m];exact ⟨rfl,rfl⟩) fun w q j l=>by obtain ⟨x,rfl,n⟩:=zeH j;obtain rfl:=qQ l;obtain ⟨s,rfl,h⟩:=isS n;obtain ⟨t,u,B,a⟩:=Iz s (by omega) 97 (-32) (by decide) (by decide) (by decide) (by decide) (by decide);exact ⟨_,qaa.2 rfl,strX t,[],⟨t,rfl,by grind[bW]⟩,trivial,TY (B:=B) fun M f=>caA [(4,.p (strX t))] (pf1 (a M f)) (r:=some (strX t,[]))⟩)
theorem zyn (n a b c d:Nat)(ha:a<256)(h:¬((Lib.decodeN n a b c d).1=65533/\(Lib.decodeN n a b c d).2<=1)):(Lib.encodeRune ((Lib.decodeN n a b c d).1:Int)).length=(Lib.decodeN n a b c d).2:=by
 have f:∀r:Int,(Lib.encodeRune r).length=(Lib.encodeRuneZ r).length:=fun r=>qaB ..;rw [f]
 revert h
 unfold Lib.decodeN
 repeat' split
 all_goals intro h
 all_goals first
  |exact absurd ⟨rfl,by decide⟩ h
  |(dsimp only at h ⊢
    first
     |rw [Lib.encodeRuneZ_one (by omega) (by omega)];rfl
     |rw [Lib.encodeRuneZ_two (by omega) (by omega)];rfl
     |rw [Lib.encodeRuneZ_three (by omega)];rfl
     |grind[Lib.encodeRuneZ_four])
theorem zfQ (s:qaW)(h:1<=s.size):∃c w:Nat,(c<=1114111/\1<=w/\w<=s.size/\(¬(c=65533/\w<=1)->(Lib.encodeRune (c:Int)).length=w))/\∃B,∀N,B<=N->Gam.pureD (callF tab ext N) 299 [strX s]=some (.tup [.v (.int .i32 (Int.ofNat c)),nat w]):=by
 have a:¬s.size=0:=by omega
 obtain ⟨B,l⟩:=gI (f:=299) (g:=Gs) (args:=[strX s]) rfl rfl;have j:(zD s).1<=1114111/\1<=(zD s).2/\(zD s).2<=s.size/\(¬((zD s).1=65533/\(zD s).2<=1)->(Lib.encodeRune ((zD s).1:Int)).length=(zD s).2):=by unfold zD;rw [if_neg a,Lib.decode_at];have:=OV (s.size-0) (s.get! 0).toNat (s.get! (0+1)).toNat (s.get! (0+2)).toNat (s.get! (0+3)).toNat (by omega);exact ⟨Lib.decodeN_rune_le _ _ _ _ _ (UInt8.toNat_lt _),this.1,by omega,zyn _ _ _ _ _ (UInt8.toNat_lt _)⟩
 exact ⟨(zD s).1,(zD s).2,j,B,fun N m=>bf (l N m) rfl⟩
def ziF:C->List (C×C)
 |.seq a b|.cond _ a b=>ziF a++ziF b
 |.block _ b|.loop b=>ziF b
 |.rf _ _ _ a b=>(a,b)::(ziF a++ziF b)
 |_=>[]
noncomputable def ptA:C:=((ziF (bodyOf tab 249)).getD 0 (.skip,.skip)).1
noncomputable def ptB:C:=((ziF (bodyOf tab 249)).getD 0 (.skip,.skip)).2
noncomputable def Ht:Bx:=.loop .ready none [(4,.ptr 1 0 0)] [12,13] ptA ptB
noncomputable abbrev nX (w:Bool) (n:Nat) (outs:qaV):List Bx:=match w with
 |false=>[Ht,.var [.bs 2 0 n],.row 1 outs]
 |true=>[Ht,.var [.bs 3 0 n],.dead,.row 1 outs]
noncomputable abbrev ptH (s:qaW) (p:Bool×Nat×List Int):St:=⟨[(0,.yl 0),(1,.dp [strX s]),(3,nat p.2.1)],nX p.1 p.2.2.length (p.2.2.map fun z=>[num z])⟩
theorem zwF {r:Int}(h1:0<=r)(h2:r<=1114111):IntKind.i64.wrap r=r:=by grind[IntKind.wrap_i64]
theorem ZX (N k n:Nat)(r:Int)(outs:qaV)(h0:0<=r)(h1:r<=1114111)(hn:n=outs.length)(hn2:n<=1000000):callF tab ext (N+1) .yl [.yl 0,nat k,.v (.int .i32 r)] [Ht,.var [.bs 2 0 n],.row 1 outs]=some (boolX true,[Ht,.var [.bs 3 0 (n+1)],.dead,.row 1 (outs++[[num r]])]):=by have a:0+n=outs.length/\cZ (n+[[num r]].length) (7+1)=true/\tC 1 (X.sl true 1 [[num r]]).rows=false:=⟨by omega,jd (by grind) (by grind),rfl⟩;exact yiA [(16,.i r),(18,.app)] (pf2 (zwF h0 h1) a)
noncomputable abbrev ptN (w:Bool) (n:Nat) (outs:qaV):List Bx:=match w with
 |false=>[Ht,.var [.bs 3 0 n],.dead,.row 1 outs]
 |true=>[Ht,.var [.bs 4 0 n],.dead,.dead,.row 1 outs]
section
variable (s:qaW) (k n c sz k2:Nat) (outs WO:qaV) (M:Nat)
theorem zn1 (w:Bool)(h1:decide (Int.ofNat k<Int.ofNat s.size)=false):run (callF tab ext M) 3 M (loopAt 298 0) ⟨[(0,.yl 0),(1,.dp [strX s]),(3,nat k)],nX w n outs⟩=some (.exit 0,⟨[(0,.yl 0),(1,.dp [strX s]),(3,nat k),(9,boolX false)],nX w n outs⟩):=by
 cases w with
 |false=>exact ruA [(9,.b false)] (pf1 h1)
 |true=>exact ruA [(9,.b false)] (pf1 h1)
theorem zn2 (w:Bool)(h1:decide (Int.ofNat k<Int.ofNat s.size)=true)(h13:(Int.ofNat k).toNat<=s.size/\s.size<=s.size)(hd:Gam.pureD (callF tab ext M) 299 [strX (s.extract (Int.ofNat k).toNat s.size)]=some (.tup [.v (.int .i32 (Int.ofNat c)),nat sz]))(h18:(Int.ofNat c==65533)=true)(h21:decide (Int.ofNat sz<=1)=true):
  run (callF tab ext M) 3 M (loopAt 298 0) ⟨[(0,.yl 0),(1,.dp [strX s]),(3,nat k)],nX w n outs⟩=some (.ret,⟨[(0,.yl 0),(1,.dp [strX s]),(3,nat k),(5,nat sz),(29,boolX true)],nX w n outs⟩):=by
 cases w with
 |false=>exact ruA [(9,.b true),(13,.cut),(14,.p (.tup [.v (.int .i32 (Int.ofNat c)),nat sz])),(18,.b true),(21,.b true)] (pf5 h1 h13 hd h18 h21)
 |true=>exact ruA [(9,.b true),(13,.cut),(14,.p (.tup [.v (.int .i32 (Int.ofNat c)),nat sz])),(18,.b true),(21,.b true)] (pf5 h1 h13 hd h18 h21)
theorem ziS (w:Bool)(h1:decide (Int.ofNat k<Int.ofNat s.size)=true)(h13:(Int.ofNat k).toNat<=s.size/\s.size<=s.size)(hd:Gam.pureD (callF tab ext M) 299 [strX (s.extract (Int.ofNat k).toNat s.size)]=some (.tup [.v (.int .i32 (Int.ofNat c)),nat sz]))(h18:(Int.ofNat c==65533)=true/\decide (Int.ofNat sz<=1)=false\/(Int.ofNat c==65533)=false)
  (hy:callF tab ext M .yl [.yl 0,nat k,.v (.int .i32 (Int.ofNat c))] (nX false n outs)=some (boolX true,ptN false (n+1) WO)) (hk:IntKind.i64.wrap (Int.ofNat k+Int.ofNat sz)=Int.ofNat k2):
  run (callF tab ext M) 3 M (loopAt 298 0) ⟨[(0,.yl 0),(1,.dp [strX s]),(3,nat k)],nX w n outs⟩=some (.norm,⟨[(0,.yl 0),(1,.dp [strX s]),(3,nat k2)],ptN w (n+1) WO⟩):=by
 rcases h18 with ⟨h18,a⟩|h18
 ·cases w with
  |false=>exact ruA [(9,.b true),(13,.cut),(14,.p (.tup [.v (.int .i32 (Int.ofNat c)),nat sz])),(18,.b true),(21,.b false),(27,.r (boolX true) [Ht,.var [.bs 3 0 (n+1)],.dead,.row 1 WO]),(32,.i (Int.ofNat k2))] (pf7 h1 h13 hd h18 a hy hk)
  |true=>exact ruA [(9,.b true),(13,.cut),(14,.p (.tup [.v (.int .i32 (Int.ofNat c)),nat sz])),(18,.b true),(21,.b false),(27,.r (boolX true) [Ht,.var [.bs 3 0 (n+1)],.dead,.row 1 WO]),(32,.i (Int.ofNat k2))] (pf7 h1 h13 hd h18 a hy hk)
 cases w with
 |false=>exact ruA [(9,.b true),(13,.cut),(14,.p (.tup [.v (.int .i32 (Int.ofNat c)),nat sz])),(18,.b false),(27,.r (boolX true) [Ht,.var [.bs 3 0 (n+1)],.dead,.row 1 WO]),(32,.i (Int.ofNat k2))] (pf6 h1 h13 hd h18 hy hk)
 |true=>exact ruA [(9,.b true),(13,.cut),(14,.p (.tup [.v (.int .i32 (Int.ofNat c)),nat sz])),(18,.b false),(27,.r (boolX true) [Ht,.var [.bs 3 0 (n+1)],.dead,.row 1 WO]),(32,.i (Int.ofNat k2))] (pf6 h1 h13 hd h18 hy hk)
theorem zeb (w:Bool):canon 3 ⟨[(0,.yl 0),(1,.dp [strX s]),(3,nat k)],ptN w n outs⟩=some ⟨[(0,.yl 0),(1,.dp [strX s]),(3,nat k)],nX true n outs⟩:=by cases w<;>kernel_rfl
end
noncomputable abbrev PtI (s:qaW) (p:Bool×Nat×List Int):Prop:=p.2.1<=s.size/\p.2.2.length<=p.2.1/\(p.2.2.flatMap Lib.encodeRune).length<=p.2.1/\∀z,z∈p.2.2->0<=z/\z<=1114111
theorem ziR (s:qaW)(hs:s.size<=1000000){τ:St}(hτ:canon 3 τ=some (ptH s (false,0,[]))):∃e σ' B,(∃(w:Bool) (zs:List Int) (q:List (Nat×X)),(e=.ret\/e=.exit 0)/\(σ'=⟨q,nX w zs.length (zs.map fun z=>[num z])⟩)/\(∃k:Nat,q=[(0,.yl 0),(1,.dp [strX s]),(3,nat k),(9,boolX false)]/\e=.exit 0\/∃(w2:Nat),q=[(0,.yl 0),(1,.dp [strX s]),(3,nat k),(5,nat w2),(29,boolX true)]/\e=.ret)/\zs.length<=s.size/\(zs.flatMap Lib.encodeRune).length<=s.size)/\∀M,B<=M->run (callF tab ext M) 3 M (.loop (loopAt 298 0)) τ=some (e,σ'):=by
 refine jC (nIn:=3) (b:=loopAt 298 0) (H:=ptH s) (I:=PtI s) (μ:=fun p=>s.size-p.2.1) (Q:=fun e σ'=>∃(w:Bool) (zs:List Int) (q:List (Nat×X)),(e=.ret\/e=.exit 0)/\(σ'=⟨q,nX w zs.length (zs.map fun z=>[num z])⟩)/\(∃k:Nat,q=[(0,.yl 0),(1,.dp [strX s]),(3,nat k),(9,boolX false)]/\e=.exit 0\/∃(w2:Nat),q=[(0,.yl 0),(1,.dp [strX s]),(3,nat k),(5,nat w2),(29,boolX true)]/\e=.ret)/\zs.length<=s.size/\(zs.flatMap Lib.encodeRune).length<=s.size)
  (fun p Z=>?_) (a:=(false,0,[])) ⟨Nat.zero_le _,Nat.le_refl _,Nat.le_refl _,fun z hz=>by grind⟩ hτ
 obtain ⟨w,k,zs⟩:=p;obtain ⟨V,i2,i3,i4⟩:=Z;dsimp only at V i2 i3 i4 ⊢;by_cases U:k<s.size
 ·have P:=aH U;have j:(Int.ofNat k).toNat<=s.size/\s.size<=s.size:=⟨V,Nat.le_refl _⟩;have pa:(s.extract k s.size).size=s.size-k:=by rw [ByteArray.size_extract];omega
  obtain ⟨c,f,⟨c1,c2,c3,c4⟩,B,u⟩:=zfQ (s.extract k s.size) (by omega);have u:∀N,B<=N->Gam.pureD (callF tab ext N) 299 [strX (s.extract (Int.ofNat k).toNat s.size)]=some (.tup [.v (.int .i32 (Int.ofNat c)),nat f]):=u;by_cases l:c=65533/\f<=1
  ·have A:(Int.ofNat c==65533)=true:=by rw [l.1];rfl
   have E:decide (Int.ofNat f<=1)=true:=by rw [qaC,qaJ];omega
   exact .inr ⟨.ret,⟨[(0,.yl 0),(1,.dp [strX s]),(3,nat k),(5,nat f),(29,boolX true)],nX w zs.length (zs.map fun z=>[num z])⟩,B,(by grind),⟨w,zs,_,.inl rfl,rfl,⟨k,.inr ⟨f,rfl,rfl⟩⟩,by omega,by omega⟩,fun M S=>zn2 s k _ c f _ M w P j (u M S) A E⟩
  have m:(zs.map fun z:Int=>[num z]).length=zs.length:=qaB ..;have L:(0:Int)<=Int.ofNat c:=by simp only [qaJ];omega
  have O:Int.ofNat c<=1114111:=by simp;omega
  have W:=fun N=>ZX N k zs.length (Int.ofNat c) (zs.map fun z=>[num z]) L O m.symm (by omega);have n:(zs.map fun z:Int=>[num z])++[[num (Int.ofNat c)]]=(zs++[Int.ofNat c]).map fun z=>[num z]:=by simp
  have J:zs.length+1=(zs++[Int.ofNat c]).length:=by simp
  rw [n] at W;have Y:PtI s (true,k+f,zs++[Int.ofNat c]):=by
   refine ⟨by grind,by grind,?_,fun z hz=>?_⟩
   ·grind
   ·grind
  have F:IntKind.i64.wrap (Int.ofNat k+Int.ofNat f)=Int.ofNat (k+f):=by rw [IntKind.wrap_i64];simp only [qaJ];omega
  have y:(Int.ofNat c==65533)=true/\decide (Int.ofNat f<=1)=false\/(Int.ofNat c==65533)=false:=by
   by_cases h:c=65533
   ·grind
   ·grind
  refine .inl ⟨⟨[(0,.yl 0),(1,.dp [strX s]),(3,nat (k+f))],ptN w (zs.length+1) ((zs++[Int.ofNat c]).map fun z=>[num z])⟩,(true,k+f,zs++[Int.ofNat c]),B+1,fun M S=>?_,?_,Y,by grind⟩;·obtain ⟨M,rfl⟩:∃M',M=M'+1:=⟨M-1,by omega⟩;exact ziS s k _ c f (k+f) _ _ (M+1) w P j (u (M+1) (by omega)) y (W M) F
  rw [J]<;>grind[zeb]
 exact .inr ⟨.exit 0,⟨[(0,.yl 0),(1,.dp [strX s]),(3,nat k),(9,boolX false)],nX w zs.length (zs.map fun z=>[num z])⟩,0,(by grind),⟨w,zs,_,.inr rfl,rfl,⟨k,.inl ⟨rfl,rfl⟩⟩,by omega,by omega⟩,fun M _=>zn1 s k _ _ M w (aG U)⟩
theorem Ws (N:Nat)(s:qaW):Gam.pureD (callF tab ext (N+2)) 278 [strX s]=some (.fn 298 [.dp [strX s]]):=by kernel_rfl
section
variable (s:qaW) (n k w2:Nat) (outs:qaV) (M:Nat)
theorem znZ (h:run (callF tab ext M) 3 M (.loop (loopAt 298 0)) ⟨[(0,.yl 0),(1,.dp [strX s]),(3,nat 0)],nX false 0 []⟩=some (.exit 0,⟨[(0,.yl 0),(1,.dp [strX s]),(3,nat k),(9,boolX false)],nX false n outs⟩)):callF tab ext (M+1) (.fn 298) [.yl 0,.dp [strX s]] (nX false 0 [])=some (.tup [],nX false n outs):=
 caB [] [(.exit 0,⟨[(0,.yl 0),(1,.dp [strX s]),(3,nat k),(9,boolX false)],nX false n outs⟩)] (pf1 h)
theorem znY (h:run (callF tab ext M) 3 M (.loop (loopAt 298 0)) ⟨[(0,.yl 0),(1,.dp [strX s]),(3,nat 0)],nX false 0 []⟩=some (.exit 0,⟨[(0,.yl 0),(1,.dp [strX s]),(3,nat k),(9,boolX false)],nX true n outs⟩)):callF tab ext (M+1) (.fn 298) [.yl 0,.dp [strX s]] (nX false 0 [])=some (.tup [],nX true n outs):=
 caB [] [(.exit 0,⟨[(0,.yl 0),(1,.dp [strX s]),(3,nat k),(9,boolX false)],nX true n outs⟩)] (pf1 h)
theorem znX (h:run (callF tab ext M) 3 M (.loop (loopAt 298 0)) ⟨[(0,.yl 0),(1,.dp [strX s]),(3,nat 0)],nX false 0 []⟩=some (.ret,⟨[(0,.yl 0),(1,.dp [strX s]),(3,nat k),(5,nat w2),(29,boolX true)],nX false n outs⟩)):callF tab ext (M+1) (.fn 298) [.yl 0,.dp [strX s]] (nX false 0 [])=some (.tup [],nX false n outs):=
 caB [] [(.ret,⟨[(0,.yl 0),(1,.dp [strX s]),(3,nat k),(5,nat w2),(29,boolX true)],nX false n outs⟩)] (pf1 h)
theorem znW (h:run (callF tab ext M) 3 M (.loop (loopAt 298 0)) ⟨[(0,.yl 0),(1,.dp [strX s]),(3,nat 0)],nX false 0 []⟩=some (.ret,⟨[(0,.yl 0),(1,.dp [strX s]),(3,nat k),(5,nat w2),(29,boolX true)],nX true n outs⟩)):callF tab ext (M+1) (.fn 298) [.yl 0,.dp [strX s]] (nX false 0 [])=some (.tup [],nX true n outs):=
 caB [] [(.ret,⟨[(0,.yl 0),(1,.dp [strX s]),(3,nat k),(5,nat w2),(29,boolX true)],nX true n outs⟩)] (pf1 h)
noncomputable def zur:St:=⟨[(4,.ptr 0 0 0),(11,.fn 298 [.dp [strX s]])],[.var [.bs 1 0 0],.row 1 []]⟩
theorem znV (N:Nat)(hy:callF tab ext N (.fn 298) [.yl 0,.dp [strX s]] (nX false 0 [])=some (.tup [],nX false n outs)):run (callF tab ext N) 0 N (.rf (.t 11) [12,13] [4] ptA ptB) (zur s)=some (.norm,⟨[(4,.ptr 0 0 0),(11,.fn 298 [.dp [strX s]])],[.var [.bs 1 0 n],.row 1 outs,.dead]⟩):=
 Hq (g:=298) (caps:=[.dp [strX s]]) (y:=.tup []) (outb:=nX false n outs) (q:=(.tup [],[.var [.bs 1 0 n],.row 1 outs,.loop .ready none [(4,.ptr 0 0 0)] [12,13] ptA ptB],[2,0,1])) hy (by kernel_rfl) (by kernel_rfl) (by kernel_rfl)
theorem znU (N:Nat)(hy:callF tab ext N (.fn 298) [.yl 0,.dp [strX s]] (nX false 0 [])=some (.tup [],nX true n outs)):run (callF tab ext N) 0 N (.rf (.t 11) [12,13] [4] ptA ptB) (zur s)=some (.norm,⟨[(4,.ptr 0 0 0),(11,.fn 298 [.dp [strX s]])],[.var [.bs 3 0 n],.dead,.dead,.row 1 outs]⟩):=
 Hq (g:=298) (caps:=[.dp [strX s]]) (y:=.tup []) (outb:=nX true n outs) (q:=(.tup [],[.var [.bs 3 0 n],.dead,.loop .ready none [(4,.ptr 0 0 0)] [12,13] ptA ptB,.row 1 outs],[2,0,1])) hy (by kernel_rfl) (by kernel_rfl) (by kernel_rfl)
theorem zn0 (w:Bool)(hv:Gam.pureD (callF tab ext M) 206 [strX s]=some (boolX true))(hr:Gam.pureD (callF tab ext M) 278 [strX s]=some (.fn 298 [.dp [strX s]]))(hy:callF tab ext M (.fn 298) [.yl 0,.dp [strX s]] (nX false 0 [])=some (.tup [],nX w n outs))(hn:n=outs.length):
  Gam.pureD (callF tab ext (M+1)) 249 [strX s]=some (.tup [.sl false 1 outs,num 0]):=by
 have a:X.data [.row 1 outs] false (.tup [.bs 0 0 n,num 0])=some (.tup [.sl false 1 outs,num 0]):=by simp only [X.data,dH,fG (bx:=[.row 1 outs]) (i:=0) (sz:=1) (es:=outs) (n:=n) rfl hn,qam,num]
 cases w with
 |false=>exact pure_of [(8,.p (boolX true)),(11,.p (.fn 298 [.dp [strX s]]))] [(.norm,⟨[(4,.ptr 0 0 0),(11,.fn 298 [.dp [strX s]])],[.var [.bs 1 0 n],.row 1 outs,.dead]⟩)] (pf3 hv hr (znV s n outs M hy)) (x:=.tup [.bs 0 0 n,num 0]) (bx:=[.row 1 outs]) (by kernel_rfl) a
 |true=>exact pure_of [(8,.p (boolX true)),(11,.p (.fn 298 [.dp [strX s]]))] [(.norm,⟨[(4,.ptr 0 0 0),(11,.fn 298 [.dp [strX s]])],[.var [.bs 3 0 n],.dead,.dead,.row 1 outs]⟩)] (pf3 hv hr (znU s n outs M hy)) (x:=.tup [.bs 0 0 n,num 0]) (bx:=[.row 1 outs]) (by kernel_rfl) a
end
theorem Qn (s:qaW)(hs:s.size<=1000000):∃(e:Int) (t:Bool) (zs:List Int),(0<=e/\e<=100)/\zs.length<=1000000/\(zs.flatMap Lib.encodeRune).length<=1000000/\∃B,∀N,B<=N->Gam.pureD (callF tab ext N) 249 [strX s]=some (.tup [.sl t 1 (zs.map fun z=>[num z]),num e]):=by
 obtain ⟨g,a,l⟩:∃g,∃B,∀N,B<=N->Gam.pureD (callF tab ext N) 206 [strX s]=some (boolX g):=by
  have A:s.size<281474976710656:=by omega
  obtain ⟨g,u⟩:∃g,pR [strX s] []=some (boolX g,[]):=by refine ⟨Lib.validD s.data.toList,?_⟩;show (if s.size<=9223372036854775807 then some (X.v (Value.bool (Lib.validD s.data.toList)),[]) else none:Option (X×List Bx))=_;rw [if_pos (by omega)];rfl
  obtain ⟨B,n⟩:=gI (f:=163) (g:=pR) rfl u;refine ⟨g,B+1,fun N h=>?_⟩;obtain ⟨M,rfl⟩:=pR_ N;exact puA [(4,.p (boolX g))] (pf1 (bf (n M (by omega)) rfl)) (boolX g)
 cases g with
 |false=>exact ⟨16,false,[],by decide,Nat.zero_le _,Nat.zero_le _,a+1,fun N h=>by obtain ⟨M,rfl⟩:=pR_ N;exact puA [(8,.p (boolX false))] (pf1 (l M (by omega))) (.tup [.sl true 1 [],num 16])⟩
 |true=>
  obtain ⟨e,σ',m,⟨w,zs,q,_,rfl,y,H,J⟩,j⟩:=ziR s hs (τ:=⟨[(0,.yl 0),(1,.dp [strX s]),(3,nat 0)],nX false 0 []⟩) (by kernel_rfl);refine ⟨0,false,zs,by decide,by omega,by omega,a+m+3,fun N h=>?_⟩;obtain ⟨M,rfl⟩:∃M,N=M+1+1:=⟨N-2,by omega⟩;have j:=j M (by omega);have E:callF tab ext (M+1) (.fn 298) [.yl 0,.dp [strX s]] (nX false 0 [])=some (.tup [],nX w zs.length (zs.map fun z=>[num z])):=by
   obtain ⟨k,⟨rfl,rfl⟩|⟨F,rfl,rfl⟩⟩:=y
   ·cases w with
    |false=>grind[znZ]
    |true=>grind[znY]
   cases w with
   |false=>grind[znX]
   |true=>grind[znW]
  obtain ⟨K,rfl⟩:=pR_ M;exact zn0 s _ _ (K+1+1) w (l _ (by omega)) (Ws _ s) E (qaB ..).symm
theorem YO (N:Nat)(s:qaW):Gam.pureD (callF tab ext (N+2)) 248 [strX s]=some (.agg [num 4,num 0,num 0,strX s,.sl false 6 [],.sl false 7 []]):=by kernel_rfl
theorem zeV (zs:List Int):intsOf (zs.map fun z=>[num z])=some zs:=by
 induction zs with
 |nil=>rfl
 |cons z r ih=>grind[intsOf,num]
theorem zhV (t:Bool)(zs:List Int)(h1:zs.length<=1000000)(h2:(zs.flatMap Lib.encodeRune).length<=1000000):∃(r:qaW) (e:Int),r.size<=1000000/\∃B,∀N,B<=N->Gam.pureD (callF tab ext N) 250 [.sl t 1 (zs.map fun z=>[num z])]=some (.tup [strX r,num e]):=by
 have l:∃(r:qaW) (e:Int),r.size<=1000000/\sO [.sl t 1 (zs.map fun z=>[num z])] []=some (.tup [strX r,num e],[]):=by
  have e:sO [.sl t 1 (zs.map fun z=>[num z])] []=(match intsOf (zs.map fun z=>[num z]) with
   |some zs=>if zs.length<=1000000 then (if zs.all nY then some (.tup [.v (.string ⟨(zs.flatMap Lib.encodeRune).toArray⟩),.v (.int .i64 0)],[]) else some (.tup [.v (.string ⟨#[]⟩),.v (.int .i64 2)],[])) else none
   |none=>none):=rfl
  rw [e,zeV];simp only [if_pos h1];split;·exact ⟨_,0,by grind[bsz],rfl⟩
  exact ⟨⟨#[]⟩,2,by decide,rfl⟩
 obtain ⟨r,e,h,m⟩:=l;obtain ⟨B,a⟩:=gI (f:=250) (g:=sO) rfl m;exact ⟨r,e,h,B,fun N j=>bf (a N j) rfl⟩
theorem zft (zs:List Int)(lo hi:Nat):(((zs.take hi).drop lo).flatMap Lib.encodeRune).length<=(zs.flatMap Lib.encodeRune).length:=by
 have e:zs.flatMap Lib.encodeRune=((zs.take hi).take lo).flatMap Lib.encodeRune++(((zs.take hi).drop lo).flatMap Lib.encodeRune++(zs.drop hi).flatMap Lib.encodeRune):=by rw [<-qaM,<-List.flatMap_append,List.take_append_drop,<-List.flatMap_append,List.take_append_drop]
 grind
section
variable (d1 d2 d3:Int) (d4:qaW) (td t4:Bool) (d5 d6:qaV)
abbrev zeroV:List X:=[num 0,num 0,num 0,noText,.sl true 6 [],.sl true 7 []]
theorem zbK (k:Int)(N:Nat):callF tab ext (N+1) (.fn 194) [.ptr 0 0 0,num k] [.var [num d1,num d2,num d3,strX d4,.sl td 6 d5,.sl t4 7 d6,num 0]]=some (.agg zeroV,[.var [num d1,num d2,num d3,strX d4,.sl td 6 d5,.sl t4 7 d6,num k]]):=by kernel_rfl
variable (a1 a2 a3 b1 b2 b3 c1 c2 c3 e:Int) (a4 b4 c4:qaW) (a5 a6 b5 b6 c5 c6:qaV) (ta tb tc t1 t2 t3:Bool)
theorem VN (ha:a4.size<=1000000)(he:0<=e/\e<=100):∃(y:List X) (e2:Int),(0<=e2/\e2<=100)/\(y=zeroV\/∃r:qaW,r.size<=1000000/\y=[num 4,num 0,num 0,strX r,.sl false 6 [],.sl false 7 []])/\∃B,∀N,B<=N->callF tab ext N (.fn 200) [.ptr 0 0 0,.agg [num a1,num a2,num a3,strX a4,.sl ta 6 a5,.sl t1 7 a6],.agg [num b1,num b2,num b3,strX b4,.sl tb 6 b5,.sl t2 7 b6],.agg [num c1,num c2,num c3,strX c4,.sl tc 6 c5,.sl t3 7 c6]] [.var [num d1,num d2,num d3,strX d4,.sl td 6 d5,.sl t4 7 d6,num e]]=some (.agg y,[.var [num d1,num d2,num d3,strX d4,.sl td 6 d5,.sl t4 7 d6,num e2]]):=by
 have a:∀{y:List X} {e2:Int} {B:Nat},(∀M,B<=M->callF tab ext (M+1) (.fn 200) [.ptr 0 0 0,.agg [num a1,num a2,num a3,strX a4,.sl ta 6 a5,.sl t1 7 a6],.agg [num b1,num b2,num b3,strX b4,.sl tb 6 b5,.sl t2 7 b6],.agg [num c1,num c2,num c3,strX c4,.sl tc 6 c5,.sl t3 7 c6]] [.var [num d1,num d2,num d3,strX d4,.sl td 6 d5,.sl t4 7 d6,num e]]=some (.agg y,[.var [num d1,num d2,num d3,strX d4,.sl td 6 d5,.sl t4 7 d6,num e2]]))->∃B,∀N,B<=N->callF tab ext N (.fn 200) [.ptr 0 0 0,.agg [num a1,num a2,num a3,strX a4,.sl ta 6 a5,.sl t1 7 a6],.agg [num b1,num b2,num b3,strX b4,.sl tb 6 b5,.sl t2 7 b6],.agg [num c1,num c2,num c3,strX c4,.sl tc 6 c5,.sl t3 7 c6]] [.var [num d1,num d2,num d3,strX d4,.sl td 6 d5,.sl t4 7 d6,num e]]=some (.agg y,[.var [num d1,num d2,num d3,strX d4,.sl td 6 d5,.sl t4 7 d6,num e2]]):=fun {y e2 B} h=>⟨B+1,fun N hN=>by obtain ⟨M,rfl⟩:=pR_ N<;>simp_all⟩;cases m:(e !=0) with
 |true=>exact ⟨zeroV,e,he,.inl rfl,a (B:=0) fun M _=>caA [(20,.b true)] (pf1 m) (r:=some (.agg zeroV,[.var [num d1,num d2,num d3,strX d4,.sl td 6 d5,.sl t4 7 d6,num e]]))⟩
 |false=>
  have e0:e=0:=by simpa using m
  subst e0;have w:∀k M,1<=M->callF tab ext M (.fn 194) [.ptr 0 0 0,num k] [.var [num d1,num d2,num d3,strX d4,.sl td 6 d5,.sl t4 7 d6,num 0]]=some (.agg zeroV,[.var [num d1,num d2,num d3,strX d4,.sl td 6 d5,.sl t4 7 d6,num k]]):=fun k M l=>by obtain ⟨M,rfl⟩:∃M',M=M'+1:=⟨M-1,by omega⟩<;>simp_all[zbK]
  cases n:(a1 !=4) with
  |true=>exact ⟨zeroV,18,by decide,.inl rfl,a (B:=1) fun M l=>caA [(20,.b false),(25,.b true),(37,.r (.agg zeroV) [.var [num d1,num d2,num d3,strX d4,.sl td 6 d5,.sl t4 7 d6,num 18]])] (pf3 m n (w 18 M l)) (r:=some (.agg zeroV,[.var [num d1,num d2,num d3,strX d4,.sl td 6 d5,.sl t4 7 d6,num 18]]))⟩
  |false=>
   cases u:(b1 !=2) with
   |true=>exact ⟨zeroV,18,by decide,.inl rfl,a (B:=1) fun M l=>caA [(20,.b false),(25,.b false),(29,.b true),(37,.r (.agg zeroV) [.var [num d1,num d2,num d3,strX d4,.sl td 6 d5,.sl t4 7 d6,num 18]])] (pf4 m n u (w 18 M l)) (r:=some (.agg zeroV,[.var [num d1,num d2,num d3,strX d4,.sl td 6 d5,.sl t4 7 d6,num 18]]))⟩
   |false=>
    cases E:(c1 !=2) with
    |true=>exact ⟨zeroV,18,by decide,.inl rfl,a (B:=1) fun M l=>caA [(20,.b false),(25,.b false),(29,.b false),(34,.b true),(37,.r (.agg zeroV) [.var [num d1,num d2,num d3,strX d4,.sl td 6 d5,.sl t4 7 d6,num 18]])] (pf5 m n u E (w 18 M l)) (r:=some (.agg zeroV,[.var [num d1,num d2,num d3,strX d4,.sl td 6 d5,.sl t4 7 d6,num 18]]))⟩
    |false=>
     obtain ⟨A,Q,j,er,z1,z2,L,f⟩:=Qn a4 ha;have Y:(j.map fun z:Int=>[num z]).length=j.length:=qaB ..;cases P:(A !=0) with
     |true=>generalize (j.map fun z:Int=>[num z])=es at f;exact ⟨zeroV,16,by decide,.inl rfl,a (B:=L+1) fun M l=>caA [(20,.b false),(25,.b false),(29,.b false),(34,.b false),(41,.p (.tup [.sl Q 1 es,num A])),(46,.b true),(48,.r (.agg zeroV) [.var [num d1,num d2,num d3,strX d4,.sl td 6 d5,.sl t4 7 d6,num 16]])] (pf7 m n u E (f M (by omega)) P (w 16 M (by omega))) (r:=some (.agg zeroV,[.var [num d1,num d2,num d3,strX d4,.sl td 6 d5,.sl t4 7 d6,num 16]]))⟩
     |false=>
      cases O:decide (b2<0) with
      |true=>generalize (j.map fun z:Int=>[num z])=es at f;exact ⟨zeroV,2,by decide,.inl rfl,a (B:=L+1) fun M l=>caA [(20,.b false),(25,.b false),(29,.b false),(34,.b false),(41,.p (.tup [.sl Q 1 es,num A])),(46,.b false),(52,.b true),(61,.r (.agg zeroV) [.var [num d1,num d2,num d3,strX d4,.sl td 6 d5,.sl t4 7 d6,num 2]])] (pf8 m n u E (f M (by omega)) P O (w 2 M (by omega))) (r:=some (.agg zeroV,[.var [num d1,num d2,num d3,strX d4,.sl td 6 d5,.sl t4 7 d6,num 2]]))⟩
      |false=>
       cases W:decide (b2>c2) with
       |true=>generalize (j.map fun z:Int=>[num z])=es at f;exact ⟨zeroV,2,by decide,.inl rfl,a (B:=L+1) fun M l=>caA [(20,.b false),(25,.b false),(29,.b false),(34,.b false),(41,.p (.tup [.sl Q 1 es,num A])),(46,.b false),(52,.b false),(58,.b true),(61,.r (.agg zeroV) [.var [num d1,num d2,num d3,strX d4,.sl td 6 d5,.sl t4 7 d6,num 2]])] (pf9 m n u E (f M (by omega)) P O W (w 2 M (by omega))) (r:=some (.agg zeroV,[.var [num d1,num d2,num d3,strX d4,.sl td 6 d5,.sl t4 7 d6,num 2]]))⟩
       |false=>
        have k5:=of_decide_eq_false O;have k6:=of_decide_eq_false W;obtain ⟨lo,J⟩:∃lo:Nat,(lo:Int)=min b2 j.length:=⟨(min b2 j.length).toNat,by omega⟩;obtain ⟨hi,H⟩:∃hi:Nat,(hi:Int)=min c2 j.length:=⟨(min c2 j.length).toNat,by omega⟩;obtain ⟨r,e3,hr,B2,q⟩:=zhV false ((j.take hi).drop lo) (by grind) (by grind[zft]);have F:((j.map fun z:Int=>[num z]).take hi).drop lo=((j.take hi).drop lo).map fun z=>[num z]:=by rw [List.map_drop,List.map_take]
        rw [<-F] at q;rw [<-Y] at J H;have Z:(j.map fun z:Int=>[num z]).length<=1000000:=by omega
        clear F z2;generalize (j.map fun z:Int=>[num z])=es at f q J H Z;have S:(if false=true then if Int.ofNat es.length>b2 then Int.ofNat es.length else b2 else if Int.ofNat es.length<b2 then Int.ofNat es.length else b2)=Int.ofNat lo:=by rw [if_neg (by decide)];simp;split<;>omega
        have U:(if false=true then if Int.ofNat es.length>c2 then Int.ofNat es.length else c2 else if Int.ofNat es.length<c2 then Int.ofNat es.length else c2)=Int.ofNat hi:=by rw [if_neg (by decide)];simp;split<;>omega
        have V:(Int.ofNat lo).toNat<=(Int.ofNat hi).toNat/\(Int.ofNat hi).toNat<=es.length:=by show lo<=hi/\hi<=es.length;omega
        refine ⟨[num 4,num 0,num 0,strX r,.sl false 6 [],.sl false 7 []],0,by decide,.inr ⟨r,hr,rfl⟩,a (B:=L+B2+3) fun M l=>?_⟩;have zsj:Gam.pureD (callF tab ext M) 248 [strX r]=some (.agg [num 4,num 0,num 0,strX r,.sl false 6 [],.sl false 7 []]):=by obtain ⟨K,rfl⟩:∃K,M=K+2:=⟨M-2,by omega⟩;exact YO K r
        exact caA [(20,.b false),(25,.b false),(29,.b false),(34,.b false),(41,.p (.tup [.sl Q 1 es,num A])),(46,.b false),(52,.b false),(58,.b false),(66,.i (Int.ofNat lo)),(71,.i (Int.ofNat hi)),(76,.cut),(77,.p (.tup [strX r,num e3])),(81,.p (.agg [num 4,num 0,num 0,strX r,.sl false 6 [],.sl false 7 []]))] (zrg m n u E (f M (by omega)) P O W S U V (q M (by omega)) zsj) (r:=some (.agg [num 4,num 0,num 0,strX r,.sl false 6 [],.sl false 7 []],[.var [num d1,num d2,num d3,strX d4,.sl td 6 d5,.sl t4 7 d6,num 0]]))
end
def zu8:List Ctr:=[mkC 200 [.p 0,val,val,val] [.nI 0 6 pJ] none [(val,[.nI 0 6 pJ])]]
theorem Ei (hx:val.Is T 0 x):∃(a b c:Int) (s:qaW) (t:Bool) (l:qaV) (t':Bool) (f:qaV),x=.agg [num a,num b,num c,strX s,.sl t 6 l,.sl t' 7 f]/\s.size<=1000000:=by
 obtain ⟨h',xs,rfl,j,h⟩:∃h' xs,x=.agg xs/\0<=h'/\IsL T h' [int,int,int,.s,.slh 6 1,.slh 7 2] xs:=hx
 match xs,h with
 |[_,_,_,_,_,_],⟨⟨a,rfl⟩,⟨b,rfl⟩,⟨c,rfl⟩,⟨s,rfl,k1⟩,⟨t,l,rfl,k2,k3⟩,⟨t',f,rfl,k4,k5⟩,_⟩=>exact ⟨a,b,c,s,t,l,t',f,rfl,by grind[bW]⟩
theorem zkJ:ak T Gm zu8:=.one (dh (fun o W=>by rw [qaa.1 W];exact ⟨rfl,rfl⟩) fun xs J U V=>by
 match xs,J,U,V with
 |[_,_,_,_],[_],⟨rfl,h1,h2,h3,_⟩,⟨⟨h',ys,rfl,m0,m1,hi⟩,_⟩=>
  obtain ⟨j,l,m,n,ta,q,t1,u,rfl,Z⟩:=Ei h1;obtain ⟨w,A,B,E,tb,F,t2,H,rfl,_⟩:=Ei h2;obtain ⟨L,M,N,O,tc,P,t3,Q,rfl,_⟩:=Ei h3
  match ys,hi with
  |[_,_,_,_,_,_,_],⟨⟨d1,rfl⟩,⟨d2,rfl⟩,⟨d3,rfl⟩,⟨d4,rfl,k1⟩,⟨td,d5,rfl,k2⟩,⟨t4,d6,rfl,k3⟩,⟨e,rfl,er⟩,_⟩=>
   obtain ⟨y,h,a,Y,S⟩:=VN d1 d2 d3 d4 td t4 d5 d6 j l m w A B L M N e n E O q u F H P Q ta tb tc t1 t2 t3 Z er;refine ⟨_,qaa.2 rfl,.agg y,[.var [num d1,num d2,num d3,strX d4,.sl td 6 d5,.sl t4 7 d6,num h]],?_,⟨⟨h',_,rfl,m0,m1,⟨d1,rfl⟩,⟨d2,rfl⟩,⟨d3,rfl⟩,⟨d4,rfl,k1⟩,⟨td,d5,rfl,k2⟩,⟨t4,d6,rfl,k3⟩,⟨h,rfl,a⟩,trivial⟩,trivial⟩,S⟩;rcases Y with rfl|⟨r,hr,rfl⟩;·exact ⟨0,_,rfl,Int.le_refl _,⟨0,rfl⟩,⟨0,rfl⟩,⟨0,rfl⟩,⟨⟨#[]⟩,rfl,by decide⟩,⟨true,[],rfl,by decide,fun e f=>by grind⟩,⟨true,[],rfl,by decide,fun e f=>by grind⟩,trivial⟩
   exact ⟨0,_,rfl,Int.le_refl _,⟨4,rfl⟩,⟨0,rfl⟩,⟨0,rfl⟩,⟨r,rfl,by grind[bW]⟩,⟨false,[],rfl,by decide,fun e f=>by grind⟩,⟨false,[],rfl,by decide,fun e f=>by grind⟩,trivial⟩)
end Ct
end Go.Proofs.YtkeefpkcepodeaaGreatDoor
