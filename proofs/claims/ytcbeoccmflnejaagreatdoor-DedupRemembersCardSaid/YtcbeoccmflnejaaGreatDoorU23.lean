/-.-/
import Derived.Laws.Bits64
import Derived.Test.YtcbeoccmflnejaaGreatDoorU19
import Derived.Test.YtcbeoccmflnejaaGreatDoorU20
import Derived.Test.YtcbeoccmflnejaaGreatDoorU21
import Derived.Test.YtcbeoccmflnejaaGreatDoorU22
set_option linter.all false
namespace Go.Proofs.YtcbeoccmflnejaaGreatDoor
open Go Go.Em Go.Ab
set_option maxRecDepth 100000
variable {h h':Int}{outs:List (Sh×List BSh)}{e x xs:List X}{P:Nat->List X->Prop}{mu:Option (Nat×Nat)}{ρ:Rho}{t1:Sh}{τ:St}{a b c x1:X}
namespace Ct
abbrev zhm:List Sh:=[int,int,int,.s,.zG 6 11 0 6,.zG 7 12 0 6]
theorem mM {x:X}(h:yU P (.i .i64 none none) x):∃z,x=num z:=by
 match x,h with
 |.v (.int _ z),⟨rfl,_⟩=>exact ⟨z,rfl⟩
theorem zgr {x:X}{lo hi:Nat}(h:yU P (.s lo hi) x):∃s:qaX,x=strX s/\lo<=s.size/\s.size<=hi:=by
 match x,h with
 |.v (.string s),⟨h1,h2⟩=>exact ⟨s,rfl,h1,h2⟩
theorem Gg {x:X}{sz k lo hi:Nat}(h:yU P (.sl sz k lo hi) x):∃t es,x=.sl t sz es/\lo<=es.length/\es.length<=hi/\∀e,e∈es->P k e:=by
 match x,h with
 |.sl t _ es,⟨rfl,h1,h2,h3⟩=>grind
theorem d11 (hd:D T (h+1) 11 x):0<=h/\∃a b c s t l t' f,x=[num a,num b,num c,strX s,.sl t 6 l,.sl t' 7 f]/\s.size<=1000000/\l.length<=6/\f.length<=6/\(∀e,e∈l->D T h 11 e)/\∀e,e∈f->D T h 12 e:=by
 obtain ⟨w,m,n,j⟩:=oN hd;rw [qaa.1 n,Int.add_sub_cancel] at j
 match x,j with
 |[_,_,_,_,_,_],⟨k1,k2,k3,k4,k5,k6,_⟩=>
  obtain ⟨a,rfl⟩:=mM k1;obtain ⟨b,rfl⟩:=mM k2;obtain ⟨c,rfl⟩:=mM k3;obtain ⟨s,rfl,_,j⟩:=zgr k4;obtain ⟨t,l,rfl,_,A,u⟩:=Gg k5;obtain ⟨t',f,rfl,_,y,q⟩:=Gg k6
  grind
theorem TP (hd:D T (h+1) 11 x):0<=h/\IsL T h zhm x:=by obtain ⟨j,a,b,c,s,t,l,q,f,rfl,u,w,y,m,n⟩:=d11 hd;exact ⟨j,⟨a,rfl⟩,⟨b,rfl⟩,⟨c,rfl⟩,⟨s,rfl,by grind[dW]⟩,⟨t,l,rfl,by omega,by omega,m⟩,⟨q,f,rfl,by omega,by omega,n⟩,trivial⟩
theorem yh {d:X}{u v:Bool}{l f:qaW}(hd:D T h 11 [a,b,c,d,.sl u 6 l,.sl v 7 f]):D T h 11 [a,b,c,d,.sl false 6 l,.sl false 7 f]:=by obtain ⟨m,j,n,q⟩:=oN hd;obtain rfl:=qaa.1 n;obtain ⟨w,y,A,B,E,F,H⟩:=q;exact eX m (qaa.2 rfl) ⟨w,y,A,B,E,F,H⟩
theorem zbH (h0:0<=h)(hx:IsL T h zhm x):D T (h+1) 11 x:=by
 match x,hx with
 |[_,_,_,_,_,_],⟨⟨a,rfl⟩,⟨b,rfl⟩,⟨c,rfl⟩,⟨s,rfl,k1⟩,⟨t,l,rfl,k2,k3,k4⟩,⟨t',f,rfl,k5,k6,k7⟩,_⟩=>unfold dW at k1;refine eX (by omega) (qaa.2 rfl) ?_;rw [Int.add_sub_cancel];exact ⟨⟨rfl,(fun a e=>by cases e),(fun a e=>by cases e)⟩,⟨rfl,(fun a e=>by cases e),(fun a e=>by cases e)⟩,⟨rfl,(fun a e=>by cases e),(fun a e=>by cases e)⟩,⟨by omega,by omega⟩,⟨rfl,by omega,by omega,k4⟩,⟨rfl,by omega,by omega,k7⟩,trivial⟩
theorem zmC {T:Tab}{f:FuncId}{l:List Sh}(h1:t1.own=true)(ho:BX l=true)(hx:t1.Is T 0 x1)(hh:0<=h')(ha:IsL T h' l xs):
  ∃ρ,ρ (t1.bld (.k 0) 1).2.1=h'/\(mkC f [t1,.rc l] [] mu outs).Sat T ρ [x1,.agg xs] []:=by
 obtain ⟨ρ0,A,E,F⟩:=Sh.fwd t1 (h:=.k 0) (n:=1) (ρ:=fun _=>(0:Int)) h1 (by omega) rfl (by decide) hx;have J:=A.zero (by omega) rfl;generalize w:(t1.bld (.k 0) 1).2.1=n at A E F;have j:0<n:=Nat.lt_of_lt_of_le (by omega) A.le;have q:=aY ρ0 n h';obtain ⟨ρ1,a,N,O⟩:=eH l (h:=⟨n,0⟩) (n:=n+1) (ρ:=lu ρ0 n h') ho (Nat.succ_pos _) (q.zero j J) (qaf _) (by rw [bP];omega);have H:=a.zero (Nat.succ_pos _) (q.zero j J);have y:=Nat.lt_of_lt_of_le (Nat.succ_pos _) a.le;have u:=Nat.lt_of_lt_of_le (qaf _) a.le;have B:(mkC f [t1,.rc l] [] mu outs).m=(qK ⟨n,0⟩ (n+1) l).2.1:=by rw [<-w];rfl
 have M:(mkC f [t1,.rc l] [] mu outs).pre=((t1.bld (.k 0) 1).2.2++((au (.k 0) ⟨n,0⟩::(qK ⟨n,0⟩ (n+1) l).2.2)++[]))++[]:=by rw [<-w];rfl
 have L:(mkC f [t1,.rc l] [] mu outs).args=[(t1.bld (.k 0) 1).1,.agg (qK ⟨n,0⟩ (n+1) l).1]:=by rw [<-w];rfl
 refine ⟨ρ1,?_,H,by grind,?_,⟨[],qaa.2 rfl,.nil⟩,?_,.nil⟩;·rw [a.same n (qaf _)]<;>simp_all[lu]
 ·rw [B,M];refine aV.append (aV.append ((q.trans a).facts E) (aV.append (aV.cons (aF.2 ⟨y,u,?_⟩) N) .nil)) .nil;rw [Lin.k_v H,a.lin (show (⟨n,0⟩:Lin).s<n+1 from qaf _),bP]<;>simp_all
 rw [B,L];exact .cons (F.more (q.trans a)) (.cons (.agg O) .nil)
theorem zik {T:Tab}{f:FuncId}{l:List Sh}{outs:List OW}(h1:t1.own=true)(ho:BX l=true)(hx:t1.Is T 0 x1)(hh:0<=h')(ha:IsL T h' l xs):
  ∃ρ,ρ (t1.bld (.k 0) 1).2.1=h'/\(dF f [t1,.rc l] [] mu outs).Sat T ρ [x1,.agg xs] []:=by
 obtain ⟨ρ,h,a⟩:=zmC (f:=f) (mu:=mu) (outs:=outs.map fun o=>(o.1,o.2.1)) h1 ho hx hh ha;exact ⟨ρ,h,a.zero,a.pos,a.pre,a.alts,a.args,a.inb⟩
theorem zkV {k i:Int}{nm:qaX}(h1:0<=i)(h2:i<=1000000)(h3:nm.size<=1000000):QJ.Is T h (.agg [num k,num i,strX nm]):=⟨_,rfl,⟨k,rfl⟩,⟨i,rfl,h1,h2⟩,⟨nm,rfl,by grind[dW]⟩,trivial⟩
theorem uF {k i:Int}{nm:qaX}(h1:0<=i)(h2:i<=1000000)(h3:nm.size<=1000000)(hd:D T (h+1) 11 x):∃b,∃B,∀N,B<=N->Gam.pureD (callF tab ext N) 224 [.agg [num k,num i,strX nm],.agg x]=some (boolX b):=by
 obtain ⟨n,q⟩:=TP hd;obtain ⟨o,j,r,bx,a,m,B,l⟩:=fU (zce _ (qaa.2 rfl)) rfl rfl (xs:=[.agg [num k,num i,strX nm],.agg x]) ⟨zkV h1 h2 h3,⟨h,x,rfl,n,q⟩,trivial⟩ (bx:=[]) trivial;rcases qal.1 j with rfl|j;·obtain rfl:=yQ m;have a:r=boolX true:=a;subst a;exact ⟨true,B,fun N f=>pureD_of (l N f) rfl⟩
 obtain rfl:=qaa.1 j;obtain rfl:=yQ m;have a:r=boolX false:=a;subst a;exact ⟨false,B,fun N f=>pureD_of (l N f) rfl⟩
theorem FK {k i:Int}{nm:qaX}(h1:0<=i)(h2:i<=1000000)(h3:nm.size<=1000000)(hd:D T (h+1) 11 x):∃ys,ys.length<=6/\(∀y,y∈ys->D T h 11 y)/\∃B,∀N,B<=N->Gam.pureD (callF tab ext N) 225 [.agg [num k,num i,strX nm],.agg x]=some (.sl false 6 ys):=by
 obtain ⟨u,S⟩:=TP hd;obtain ⟨ρ,m,j⟩:=zik (f:=225) (t1:=QJ) (l:=zhm) (mu:=none) (outs:=[(.slr 6 11 0 6,[],[lt 11 0 4])]) rfl rfl (zkV h1 h2 h3) u S;obtain ⟨q,Q,Z,ρ',r,n,P,z,E,L,O,H,B,A⟩:=wK j.zero j.pos (zcd _ (qaa.2 rfl) ρ _ _ j);obtain rfl:=qaa.1 Q;obtain rfl:=yQ H;obtain ⟨t,ys,V,rfl,_,_,W,_⟩:=O;have Y:=P.same 4 (by decide);have m:ρ 4=h:=m;have M:=Tv E (qaa.2 rfl);have a:∀e,e∈ys->D T (ρ' 11) 11 e:=by
  cases L with
  |sl _ _ _ _ w=>intro e J;have:=w e J;unfold Lin.v at this;dsimp only at this;rw [show ρ' 11=ρ' 11+0 by omega];exact this
 exact ⟨ys,by omega,fun y U=>iF (by omega) (a y U),B,fun N F=>pureD_of (A N F) rfl⟩
theorem zgi {T:Tab}{n:Nat}{cs:List AX}{x:X}(h:G T n ρ (.agg cs) x):∃xs,x=.agg xs/\GL T n ρ cs xs:=by
 cases h<;>simp_all
theorem jh {T:Tab}{n:Nat}{a:AX}{l:List AX}{m:List X}(h:GL T n ρ (a::l) m):∃x r,m=x::r/\G T n ρ a x/\GL T n ρ l r:=by
 cases h with
 |cons h1 h2=>grind
end Ct
namespace Ct
def okE:Nat->List X->Prop
 |0,_=>False
 |h+1,x=>∃(op n:Int) (s:qaX) (u:Bool) (vs:qaW) (v:Bool) (ar:qaW),x=[num op,num n,strX s,.sl u 6 vs,.sl v 5 ar]/\s.size<=1000000/\vs.length<=1000000/\ar.length<=1000000/\(∀e,e∈vs->D T 9 1 e)/\
  (op=1->∃c:Int,((c=0->1<=vs.length)/\0<=c/\c<=100)/\∃B,∀N,B<=N->Gam.pureD (callF tab ext N) 169 [.sl false 6 vs]=some (num c))/\∀e,e∈ar->okE h e
abbrev fnB:Bx:=.var [.fn 135 [.ptr 0 0 0,.ptr 1 0 0]]
def Vis (H:Int)(x:List X)(lev k:Int):Prop:=∃c k':Int,(0<=c/\c<=100)/\0<=k'/\k'<=256/\(c=0->D T H 10 x)/\∃B,∀N,B<=N->callF tab ext N (.fn 135) [.agg x,num lev,.ptr 0 0 0,.ptr 1 0 0] [.var [num k],fnB]=some (num c,[.var [num k'],fnB])
section
variable (lev:Int) (t:Bool) (ar:qaW) (m:Nat)
abbrev vsH (k:Int) (j:Nat):St:=⟨[(1,num lev),(3,.ptr 1 0 0),(23,.sl t 5 ar),(24,nat m),(25,nat j)],[.var [num k],fnB]⟩
end
theorem Gp {u v u' v':Bool}{l f:qaW}(hd:D T h 10 [a,b,c,.sl u 6 l,.sl v 5 f]):D T h 10 [a,b,c,.sl u' 6 l,.sl v' 5 f]:=by obtain ⟨n,j,m,w⟩:=oN hd;obtain ⟨q,J,rfl⟩:=qam.1 (show j∈List.map _ _ from m);obtain ⟨y,A,B,E,F,H⟩:=w;exact eX n m ⟨y,A,B,E,F,H⟩
theorem UY {H:Int}(lev:Int)(t:Bool)(ar:qaW)(m:Nat)(hm:m=ar.length)(hlen:m<=1000000)(h0:0<=lev)(h1:lev<=1000)(hok:∀x,x∈ar->∃(op n:Int) (s:qaX) (u:Bool) (vs:qaW) (v:Bool) (ar2:qaW),x=[num op,num n,strX s,.sl u 6 vs,.sl v 5 ar2]/\∀k,0<=k->k<=256->Vis H [num op,num n,strX s,.sl false 6 vs,.sl false 5 ar2] (lev+1) k)
  {k0:Int} (hk0:0<=k0) (hk1:k0<=256) {τ:St} (hτ:canon 2 τ=some (vsH lev t ar m k0 0)):
  ∃e σ' B,((∃(c k:Int) (y:List X),(c≠0/\0<=c/\c<=100)/\0<=k/\k<=256/\e=.ret/\σ'=⟨[(6,num c)],[.var [num k],fnB,.var y]⟩)\/(∃k:Int,0<=k/\k<=256/\e=.exit 0/\σ'=⟨[(1,num lev),(3,.ptr 1 0 0),(23,.sl t 5 ar),(24,nat m),(25,nat m),(26,boolX false)],[.var [num k],fnB]⟩/\∀x,x∈ar->D T H 10 x))/\∀M,B<=M->run (callF tab ext M) 2 M (.loop (loopAt 135 0)) τ=some (e,σ'):=by
 refine jO (nIn:=2) (b:=loopAt 135 0) (H:=fun p:Int×Nat=>vsH lev t ar m p.1 p.2) (I:=fun p=>0<=p.1/\p.1<=256/\p.2<=m/\∀i (hi:i<ar.length),i<p.2->D T H 10 ar[i]) (μ:=fun p=>m-p.2)
  (Q:=fun e σ'=>(∃(c k:Int) (y:List X),(c≠0/\0<=c/\c<=100)/\0<=k/\k<=256/\e=.ret/\σ'=⟨[(6,num c)],[.var [num k],fnB,.var y]⟩)\/(∃k:Int,0<=k/\k<=256/\e=.exit 0/\σ'=⟨[(1,num lev),(3,.ptr 1 0 0),(23,.sl t 5 ar),(24,nat m),(25,nat m),(26,boolX false)],[.var [num k],fnB]⟩/\∀x,x∈ar->D T H 10 x))
  (fun p hp=>?_) (a:=(k0,0)) ⟨hk0,hk1,Nat.zero_le _,fun i hi L=>absurd L (Nat.not_lt_zero _)⟩ hτ
 obtain ⟨k,j⟩:=p;obtain ⟨N,O,i3,i4⟩:=hp;dsimp only at N O i3 i4 ⊢;by_cases L:j<m
 ·have l:=aI L;have h:j<ar.length:=by omega
  have A:=qad h;have q:=qae h;obtain ⟨op,n,s,u,vs,v,f,e,P⟩:=hok _ q;obtain ⟨c,E,Y,S,U,W,B,V⟩:=P k N O;have w:IntKind.i64.wrap (lev+1)=lev+1:=by rw [IntKind.wrap_i64];omega
  rw [e] at A;by_cases h0:c=0
  ·subst h0;refine .inl ⟨⟨[(1,num lev),(3,.ptr 1 0 0),(23,.sl t 5 ar),(24,nat m),(25,nat (j+1))],[.var [num E],fnB,.var [num op,num n,strX s,.sl u 6 vs,.sl v 5 f]]⟩,(E,j+1),B,fun M F=>?_,by kernel_rfl,⟨S,U,by grind,fun i hi J=>?_⟩,by grind⟩;·exact ruA [(26,.b true),(27,.e [num op,num n,strX s,.sl u 6 vs,.sl v 5 f]),(32,.i (lev+1)),(33,.r (num 0) [.var [num E],fnB]),(37,.i (Int.ofNat (j+1)))] (pf5 l A w (V M F) (ay (j:=j) (by omega)))
   dsimp only at J;by_cases pa:i<j
   ·grind
   obtain rfl:i=j:=by omega
   rw [e];exact Gp (W rfl)
  have Z:(c !=0)=true:=by simpa using h0
  exact .inr ⟨_,_,B,(by grind),.inl ⟨c,E,[num op,num n,strX s,.sl u 6 vs,.sl v 5 f],⟨h0,Y⟩,S,U,rfl,rfl⟩,fun M F=>ruA [(26,.b true),(27,.e [num op,num n,strX s,.sl u 6 vs,.sl v 5 f]),(32,.i (lev+1)),(33,.r (num c) [.var [num E],fnB]),(35,.b true)] (pf5 l A w (V M F) Z)⟩
 obtain rfl:j=m:=by omega
 refine .inr ⟨_,_,0,(by grind),.inr ⟨k,N,O,rfl,rfl,fun x A=>?_⟩,fun M _=>ruA [(26,.b false)] (pf1 (aG (qan j)))⟩;obtain ⟨i,hi,rfl⟩:=qaT A
 grind
end Ct
namespace Ct
abbrev zlw (o na:Int):Ctr:=(dF 136 [exp] [] none [(.k .i64 0,[],bd 2 o o++[au (.k na) ⟨6,0⟩]),(.ir .i64 1 100,[],[])]).with [bd 2 o o]
theorem zfS {o na H n:Int}{s:qaX}{u v:Bool}{vs ar:qaW}(hC:(zlw o na).Holds T Gm)(h0:0<=H)(hs:s.size<=1000000)(hvl:vs.length<=1000000)(hal:ar.length<=1000000)(hv:∀e,e∈vs->D T H 1 e)(ha:∀e,e∈ar->D T H 8 e):
  ∃c:Int,((c=0->na<=ar.length)/\0<=c/\c<=100)/\∃B,∀N,B<=N->Gam.pureD (callF tab ext N) 136 [.agg [num o,num n,strX s,.sl u 6 vs,.sl v 5 ar]]=some (num c):=by
 obtain ⟨ρ,a⟩:=KJ (T:=T) (f:=136) (args:=[exp]) (inb:=[]) (mu:=none) (outs:=[(.k .i64 0,[],bd 2 o o++[au (.k na) ⟨6,0⟩]),(.ir .i64 1 100,[],[])]) (xs:=[.agg [num o,num n,strX s,.sl u 6 vs,.sl v 5 ar]]) (bx:=[]) rfl rfl
  ⟨⟨H,_,rfl,h0,⟨o,rfl⟩,⟨n,rfl⟩,⟨s,rfl,by unfold dW;omega⟩,⟨u,vs,rfl,by unfold dW;omega,hv⟩,⟨v,ar,rfl,by unfold dW;omega,ha⟩,trivial⟩,trivial⟩ trivial
 have M:GL T _ ρ [.agg [.i .i64 ⟨2,0⟩,.i .i64 ⟨3,0⟩,.s ⟨4,0⟩,.sl none 6 1 ⟨1,0⟩ ⟨5,0⟩,.sl none 5 8 ⟨1,0⟩ ⟨6,0⟩]] [.agg [num o,num n,strX s,.sl u 6 vs,.sl v 5 ar]]:=a.args;obtain ⟨_,_,e,w,_⟩:=jh M;cases e;obtain ⟨_,e,w⟩:=zgi w;cases e;obtain ⟨_,_,e,S,w⟩:=jh w;cases e;obtain ⟨_,_,e,v2,w⟩:=jh w;cases e;obtain ⟨_,_,e,v3,w⟩:=jh w;cases e;obtain ⟨_,_,e,v4,w⟩:=jh w;cases e;obtain ⟨_,_,e,U,w⟩:=jh w;cases e;have Y:o=ρ 2:=sI S;have Z:(ar.length:Int)=ρ 6:=by
  cases U with
  |sl _ _ _ q _=>rw [q];unfold Lin.v;show ρ 6+0=_;omega
 have z:=a.zero;have Q:aV (dF 136 [exp] [] none [(.k .i64 0,[],bd 2 o o++[au (.k na) ⟨6,0⟩]),(.ir .i64 1 100,[],[])]).m ρ (bd 2 o o):=by
  refine .cons (aF.2 ⟨by show 0<7;decide,by show 2<7;decide,?_⟩) (.cons (aF.2 ⟨by show 2<7;decide,by show 0<7;decide,?_⟩) .nil);·rw [Lin.k_v z];unfold Lin.v;dsimp only;omega
  rw [Lin.k_v z];unfold Lin.v;dsimp only;omega
 obtain ⟨q,y,n',ρ',r,F,P,V,L,O,h,E,B,A⟩:=wK a.zero a.pos (hC ρ _ _ (Ctr.Sat.with a Q));rcases qal.1 y with rfl|y;·obtain rfl:=yQ E;have h:r=num 0:=h;subst h;have k6:ρ' 6=ρ 6:=P.same 6 (by show 6<7;decide);have l:=(aF.1 (L (au (.k na) ⟨6,0⟩) (List.mem_append_right _ (qaa.2 rfl)))).2.2;rw [Lin.k_v V] at l;unfold Lin.v at l;dsimp only at l;exact ⟨0,⟨fun _=>by omega,by decide,by decide⟩,B,fun N j=>pureD_of (A N j) rfl⟩
 obtain rfl:=qaa.1 y;obtain rfl:=yQ E;obtain ⟨c,rfl,W,J⟩:=zf7 h;exact ⟨c,⟨fun e=>by omega,by omega,J⟩,B,fun N j=>pureD_of (A N j) rfl⟩
end Ct
namespace Ct
abbrev Kv:List (Int×Int×Nat×Nat):=[(1,1,1,0),(2,2,0,0),(3,3,0,1),(4,15,0,2),(16,16,0,1),(17,17,0,2),(18,20,0,1),(21,21,0,3),(22,22,0,0),(23,23,0,2),(24,24,0,3),(25,25,0,2),(26,26,0,0),(27,28,0,1)]
theorem zim {H op n:Int}{s:qaX}{u v:Bool}{vs ar:qaW}{q:Int×Int×Nat×Nat}(hq:q∈Kv)(h0:0<=H)(h1:q.1<=op)(h2:op<=q.2.1)(hs:s.size<=1000000)(hvl:vs.length<=1000000)(hal:ar.length<=1000000)(h3:q.2.2.1<=vs.length)(h4:q.2.2.2<=ar.length)(hv:∀e,e∈vs->D T H 1 e)(ha:∀e,e∈ar->D T H 10 e):D T (H+1) 10 [num op,num n,strX s,.sl u 6 vs,.sl v 5 ar]:=by refine eX (by omega) (qam.2 ⟨q,hq,rfl⟩) ?_;rw [Int.add_sub_cancel];exact ⟨⟨rfl,(fun a e=>by cases e;exact h1),(fun a e=>by cases e;exact h2)⟩,⟨rfl,(fun a e=>by cases e),(fun a e=>by cases e)⟩,⟨Nat.zero_le _,hs⟩,⟨rfl,h3,hvl,hv⟩,⟨rfl,h4,hal,ha⟩,trivial⟩
theorem Zw:∀(h:Nat) {x:List X},okE h x->D T (9+(h:Int)) 8 x
 |0,_,hx=>hx.elim
 |h+1,x,hx=>by obtain ⟨op,n,s,u,vs,v,ar,rfl,h1,h2,h3,h4,_,h6⟩:=hx;rw [show (9:Int)+((h+1:Nat):Int)=9+(h:Int)+1 by omega];refine eX (by omega) (qaa.2 rfl) ?_;rw [Int.add_sub_cancel];exact ⟨⟨rfl,(fun a e=>by cases e),(fun a e=>by cases e)⟩,⟨rfl,(fun a e=>by cases e),(fun a e=>by cases e)⟩,⟨Nat.zero_le _,h1⟩,⟨rfl,Nat.zero_le _,h2,fun e he=>iF (by omega) (h4 e he)⟩,⟨rfl,Nat.zero_le _,h3,fun e he=>Zw h (h6 e he)⟩,trivial⟩
end Ct
namespace Ct
theorem one_one {n:Int}{s:qaX}{vs ar:qaW}(zgh:∃c:Int,((c=0->1<=vs.length)/\0<=c/\c<=100)/\∃B,∀N,B<=N->Gam.pureD (callF tab ext N) 169 [.sl false 6 vs]=some (num c)):
  ∃c:Int,((c=0->1<=vs.length)/\0<=c/\c<=100)/\∃B,∀N,B<=N->Gam.pureD (callF tab ext N) 136 [.agg [num 1,num n,strX s,.sl false 6 vs,.sl false 5 ar]]=some (num c):=by
 obtain ⟨c,y,B,zgh⟩:=zgh;have f:∀{c':Int} {B:Nat},(∀M,B<=M->Gam.pureD (callF tab ext (M+1)) 136 [.agg [num 1,num n,strX s,.sl false 6 vs,.sl false 5 ar]]=some (num c'))->∃B,∀N,B<=N->Gam.pureD (callF tab ext N) 136 [.agg [num 1,num n,strX s,.sl false 6 vs,.sl false 5 ar]]=some (num c'):=fun {c'} {B} h=>⟨B+1,fun N A=>by obtain ⟨M,rfl⟩:=pR_ N<;>simp_all⟩;have j:∀M,1<=M->Gam.pureD (callF tab ext M) 166 [num 1]=some (.tup [num 0,num 0]):=fun M a=>by obtain ⟨M,rfl⟩:∃M',M=M'+1:=⟨M-1,by omega⟩;exact pureD_of (ar1 M) rfl
 have l:∀M,1<=M->Gam.pureD (callF tab ext M) 167 [num 1]=some (boolX false):=fun M a=>by obtain ⟨M,rfl⟩:∃M',M=M'+1:=⟨M-1,by omega⟩;exact puA [] pf0 (boolX false)
 have m:∀M,1<=M->Gam.pureD (callF tab ext M) 168 [num 1]=some (boolX false):=fun M a=>by obtain ⟨M,rfl⟩:∃M',M=M'+1:=⟨M-1,by omega⟩;exact puA [] pf0 (boolX false)
 cases q:(!s.toList==(⟨#[]⟩:qaX).toList) with
 |true=>exact ⟨3,⟨(fun e=>by cases e),by decide,by decide⟩,f (B:=1) fun M a=>puA [(19,.p (.tup [num 0,num 0])),(35,.p (boolX false)),(40,.b true)] (pf3 (j M a) (l M a) q) (num 3)⟩
 |false=>
  cases u:(n !=0) with
  |true=>exact ⟨3,⟨(fun e=>by cases e),by decide,by decide⟩,f (B:=1) fun M a=>puA [(19,.p (.tup [num 0,num 0])),(35,.p (boolX false)),(40,.b false),(46,.p (boolX false)),(51,.b true)] (pf5 (j M a) (l M a) q (m M a) u) (num 3)⟩
  |false=>
   cases w:decide (Int.ofNat ar.length>0) with
   |true=>exact ⟨3,⟨(fun e=>by cases e),by decide,by decide⟩,f (B:=1) fun M a=>puA [(19,.p (.tup [num 0,num 0])),(35,.p (boolX false)),(40,.b false),(46,.p (boolX false)),(51,.b false),(61,.b true)] (pf6 (j M a) (l M a) q (m M a) u w) (num 3)⟩
   |false=>exact ⟨c,y,f (B:=B+1) fun M a=>puA [(19,.p (.tup [num 0,num 0])),(35,.p (boolX false)),(40,.b false),(46,.p (boolX false)),(51,.b false),(61,.b false),(74,.b false),(86,.p (num c))] (pf8 (j M (by omega)) (l M (by omega)) q (m M (by omega)) u w w (zgh M (by omega))) (num c)⟩
theorem Wv {H op n:Int}{s:qaX}{vs ar:qaW}(h0:0<=H)(hs:s.size<=1000000)(hvl:vs.length<=1000000)(hal:ar.length<=1000000)(hv:∀e,e∈vs->D T H 1 e)(ha:∀e,e∈ar->D T H 8 e)(zgh:op=1->∃c:Int,((c=0->1<=vs.length)/\0<=c/\c<=100)/\∃B,∀N,B<=N->Gam.pureD (callF tab ext N) 169 [.sl false 6 vs]=some (num c)):
  ∃c:Int,((c=0->∃q,q∈Kv/\q.1<=op/\op<=q.2.1/\q.2.2.1<=vs.length/\q.2.2.2<=ar.length)/\0<=c/\c<=100)/\∃B,∀N,B<=N->Gam.pureD (callF tab ext N) 136 [.agg [num op,num n,strX s,.sl false 6 vs,.sl false 5 ar]]=some (num c):=by
 by_cases f:op<1;·exact ⟨11,⟨(fun e=>by cases e),by decide,by decide⟩,1,fun N w=>by obtain ⟨M,rfl⟩:=pR_ N;exact puA [(10,.b true)] (pf1 (decide_eq_true f)) (num 11)⟩
 by_cases m:op>28;·exact ⟨11,⟨(fun e=>by cases e),by decide,by decide⟩,1,fun N w=>by obtain ⟨M,rfl⟩:=pR_ N;exact puA [(10,.b false),(14,.b true)] (pf2 (decide_eq_false f) (decide_eq_true m)) (num 11)⟩
 have a:∀{o na:Int} {q:Int×Int×Nat×Nat},op=o->q∈Kv->q.1<=o->o<=q.2.1->q.2.2.1=0->(q.2.2.2:Int)=na->(zlw o na).Holds T Gm->∃c:Int,((c=0->∃q,q∈Kv/\q.1<=op/\op<=q.2.1/\q.2.2.1<=vs.length/\q.2.2.2<=ar.length)/\0<=c/\c<=100)/\∃B,∀N,B<=N->Gam.pureD (callF tab ext N) 136 [.agg [num op,num n,strX s,.sl false 6 vs,.sl false 5 ar]]=some (num c):=fun {o na q} ho hq k1 k2 k3 k4 hC=>by subst ho;obtain ⟨c,j,l⟩:=zfS (n:=n) (u:=false) (v:=false) hC h0 hs hvl hal hv ha;exact ⟨c,⟨fun e=>⟨q,hq,k1,k2,by omega,by grind⟩,j.2⟩,l⟩
 rcases zfN (op:=op) (by omega) (by omega) with h|h|h|h|h|h|h|h|h|h|h|h|h|h|h|h|h|h|h|h|h|h|h|h|h|h|h|h;·subst h;obtain ⟨c,j,l⟩:=one_one (n:=n) (s:=s) (ar:=ar) (zgh rfl);exact ⟨c,⟨fun e=>⟨(1,1,1,0),by simp,by decide,by decide,j.1 e,Nat.zero_le _⟩,j.2⟩,l⟩
 ·exact a (q:=(2,2,0,0)) h (by simp) (by decide) (by decide) rfl rfl (Oq _ (qaa.2 rfl))
 ·exact a (q:=(3,3,0,1)) h (by simp) (by decide) (by decide) rfl rfl (Oo _ (qaa.2 rfl))
 ·exact a (q:=(4,15,0,2)) h (by simp) (by decide) (by decide) rfl rfl (Om _ (qaa.2 rfl))
 ·exact a (q:=(4,15,0,2)) h (by simp) (by decide) (by decide) rfl rfl (Ol _ (qaa.2 rfl))
 ·exact a (q:=(4,15,0,2)) h (by simp) (by decide) (by decide) rfl rfl (Oj _ (qaa.2 rfl))
 ·exact a (q:=(4,15,0,2)) h (by simp) (by decide) (by decide) rfl rfl (Oi _ (qaa.2 rfl))
 ·exact a (q:=(4,15,0,2)) h (by simp) (by decide) (by decide) rfl rfl (Oh _ (qaa.2 rfl))
 ·exact a (q:=(4,15,0,2)) h (by simp) (by decide) (by decide) rfl rfl (Og _ (qaa.2 rfl))
 ·exact a (q:=(4,15,0,2)) h (by simp) (by decide) (by decide) rfl rfl (Ja _ (qaa.2 rfl))
 ·exact a (q:=(4,15,0,2)) h (by simp) (by decide) (by decide) rfl rfl (I9 _ (qaa.2 rfl))
 ·exact a (q:=(4,15,0,2)) h (by simp) (by decide) (by decide) rfl rfl (I8 _ (qaa.2 rfl))
 ·exact a (q:=(4,15,0,2)) h (by simp) (by decide) (by decide) rfl rfl (I7 _ (qaa.2 rfl))
 ·exact a (q:=(4,15,0,2)) h (by simp) (by decide) (by decide) rfl rfl (I5 _ (qaa.2 rfl))
 ·exact a (q:=(4,15,0,2)) h (by simp) (by decide) (by decide) rfl rfl (I4 _ (qaa.2 rfl))
 ·exact a (q:=(16,16,0,1)) h (by simp) (by decide) (by decide) rfl rfl (IZ _ (qaa.2 rfl))
 ·exact a (q:=(17,17,0,2)) h (by simp) (by decide) (by decide) rfl rfl (IY _ (qaa.2 rfl))
 ·exact a (q:=(18,20,0,1)) h (by simp) (by decide) (by decide) rfl rfl (IX _ (qaa.2 rfl))
 ·exact a (q:=(18,20,0,1)) h (by simp) (by decide) (by decide) rfl rfl (IW _ (qaa.2 rfl))
 ·exact a (q:=(18,20,0,1)) h (by simp) (by decide) (by decide) rfl rfl (IV _ (qaa.2 rfl))
 ·exact a (q:=(21,21,0,3)) h (by simp) (by decide) (by decide) rfl rfl (IU _ (qaa.2 rfl))
 ·exact a (q:=(22,22,0,0)) h (by simp) (by decide) (by decide) rfl rfl (IQ _ (qaa.2 rfl))
 ·exact a (q:=(23,23,0,2)) h (by simp) (by decide) (by decide) rfl rfl (IL _ (qaa.2 rfl))
 ·exact a (q:=(24,24,0,3)) h (by simp) (by decide) (by decide) rfl rfl (IK _ (qaa.2 rfl))
 ·exact a (q:=(25,25,0,2)) h (by simp) (by decide) (by decide) rfl rfl (IJ _ (qaa.2 rfl))
 ·exact a (q:=(26,26,0,0)) h (by simp) (by decide) (by decide) rfl rfl (II _ (qaa.2 rfl))
 ·exact a (q:=(27,28,0,1)) h (by simp) (by decide) (by decide) rfl rfl (IG _ (qaa.2 rfl))
 exact a (q:=(27,28,0,1)) h (by simp) (by decide) (by decide) rfl rfl (IE _ (qaa.2 rfl))
end Ct
namespace Ct
theorem JY:∀(h:Nat) (op n:Int) (s:qaX) (u v:Bool) (vs ar:qaW),okE h [num op,num n,strX s,.sl u 6 vs,.sl v 5 ar]->∀lev k:Int,0<=lev->lev+h<=1000->0<=k->k<=256->Vis (9+(h:Int)) [num op,num n,strX s,.sl false 6 vs,.sl false 5 ar] lev k
 |0,_,_,_,_,_,_,_,hx=>hx.elim
 |h+1,op,n,s,u,v,vs,ar,hx=>fun lev k l0 l1 k0 k1=>by
  obtain ⟨op',n',s',u',vs',v',ar',e,a1,a2,a3,a4,a5,a6⟩:=hx;simp only [num,strX,List.cons.injEq,X.v.injEq,Value.int.injEq,Value.string.injEq,X.sl.injEq,and_true,true_and] at e;obtain ⟨rfl,rfl,rfl,⟨_,rfl⟩,⟨_,rfl⟩⟩:=e;have lift:∀{c k':Int} {B:Nat},(∀M,B<=M->callF tab ext (M+1) (.fn 135) [.agg [num op,num n,strX s,.sl false 6 vs,.sl false 5 ar],num lev,.ptr 0 0 0,.ptr 1 0 0] [.var [num k],fnB]=some (num c,[.var [num k'],fnB]))->∃B,∀N,B<=N->callF tab ext N (.fn 135) [.agg [num op,num n,strX s,.sl false 6 vs,.sl false 5 ar],num lev,.ptr 0 0 0,.ptr 1 0 0] [.var [num k],fnB]=some (num c,[.var [num k'],fnB]):=fun {c k' B} h=>⟨B+1,fun N hN=>by obtain ⟨M,rfl⟩:=pR_ N<;>simp_all⟩;have hD8:∀e,e∈ar->D T (9+(h:Int)) 8 e:=fun e he=>Zw h (a6 e he);have hv:∀e,e∈vs->D T (9+(h:Int)) 1 e:=fun e he=>iF (by omega) (a4 e he);obtain ⟨c,hc,B1,zi3⟩:=Wv (H:=9+(h:Int)) (op:=op) (n:=n) (by omega) a1 a2 a3 hv hD8 a5;cases h1:(k==256) with
  |true=>exact ⟨9,k,by decide,k0,k1,(fun e=>by cases e),lift (B:=0) fun M _=>caA [(12,.b true)] (pf1 h1) (r:=some (num 9,[.var [num k],fnB]))⟩
  |false=>
   have kne:k≠256:=by simpa using h1
   have hk:IntKind.i64.wrap (k+1)=k+1:=by rw [IntKind.wrap_i64];omega
   cases h2:decide (lev>8) with
   |true=>exact ⟨23,k+1,by decide,by omega,by omega,(fun e=>by cases e),lift (B:=0) fun M _=>caA [(12,.b false),(14,.i (k+1)),(16,.b true)] (pf3 h1 hk h2) (r:=some (num 23,[.var [num (k+1)],fnB]))⟩
   |false=>
    by_cases c0:c=0
    ·subst c0;obtain ⟨q,hq,q1,q2,q3,q4⟩:=hc.1 rfl;obtain ⟨e,σ',B2,hr,hl⟩:=UY (H:=9+(h:Int)) lev false ar ar.length rfl a3 l0 (by omega) (fun x hx=>by
      cases h with
      |zero=>exact (a6 x hx).elim
      |succ h'=>obtain ⟨op2,n2,s2,u2,vs2,v2,ar2,e,_⟩:=a6 x hx;exact ⟨op2,n2,s2,u2,vs2,v2,ar2,e,fun k' k2 k3=>JY (h'+1) op2 n2 s2 u2 v2 vs2 ar2 (e▸a6 x hx) (lev+1) k' (by omega) (by omega) k2 k3⟩) (k0:=k+1) (by omega) (by omega)
      (τ:=⟨[(1,num lev),(3,.ptr 1 0 0),(23,.sl false 5 ar),(24,nat ar.length),(25,num 0)],[.var [num (k+1)],fnB,.var [num op,num n,strX s,.sl false 6 vs,.sl false 5 ar]]⟩) (by kernel_rfl)
     rcases hr with ⟨c,k',y,c1,c2,c3,rfl,rfl⟩|⟨k',c2,c3,rfl,rfl,hall⟩;·exact ⟨c,k',c1.2,c2,c3,fun e=>absurd e c1.1,lift (B:=max B1 B2) fun M hM=>caB [(12,.b false),(14,.i (k+1)),(16,.b false),(18,.p (num 0))] [(.ret,⟨[(6,num c)],[.var [num k'],fnB,.var y]⟩)] (pf5 h1 hk h2 (zi3 M (by omega)) (hl M (by omega))) (r:=some (num c,[.var [num k'],fnB]))⟩
     refine ⟨0,k',by decide,c2,c3,fun _=>?_,lift (B:=max B1 B2) fun M hM=>?_⟩;·rw [show (9:Int)+((h+1:Nat):Int)=9+(h:Int)+1 by omega];exact zim hq (by omega) q1 q2 a1 a2 a3 q3 q4 hv hall
     have hl:=hl M (by omega);generalize ar.length=m at hl;exact caB [(12,.b false),(14,.i (k+1)),(16,.b false),(18,.p (num 0))] [(.exit 0,⟨[(1,num lev),(3,.ptr 1 0 0),(23,.sl false 5 ar),(24,nat m),(25,nat m),(26,boolX false)],[.var [num k'],fnB]⟩)] (pf5 h1 hk h2 (zi3 M (by omega)) hl) (r:=some (num 0,[.var [num k'],fnB]))
    have hb:(c !=0)=true:=by simpa using c0
    exact ⟨c,k+1,hc.2,by omega,by omega,fun e=>absurd e c0,lift (B:=B1) fun M hM=>caA [(12,.b false),(14,.i (k+1)),(16,.b false),(18,.p (num c)),(20,.b true)] (pf5 h1 hk h2 (zi3 M hM) hb) (r:=some (num c,[.var [num (k+1)],fnB]))⟩
theorem OJ {h:Nat}(hh:h<=900){op n:Int}{s:qaX}{u v:Bool}{vs ar:qaW}(hx:okE h [num op,num n,strX s,.sl u 6 vs,.sl v 5 ar]):∃c:Int,((c=0->D T (9+(h:Int)) 10 [num op,num n,strX s,.sl u 6 vs,.sl v 5 ar])/\0<=c/\c<=100)/\Back 91 [.agg [num op,num n,strX s,.sl u 6 vs,.sl v 5 ar]] (num c):=by obtain ⟨c,l,f,m,q,a,B,j⟩:=JY h op n s u v vs ar hx 1 0 (by decide) (by omega) (by decide) (by decide);refine ⟨c,⟨fun e=>Gp (a e),f⟩,B+1,fun N w=>?_⟩;obtain ⟨M,rfl⟩:=pR_ N;exact caA [(8,.r (num c) [.var [num l],fnB])] (pf1 (j M (by omega))) (r:=some (num c,[]))
end Ct
namespace Ct
def znK:List Ctr:=[mkC 255 [.ir .i64 0 12] [] none [(.ir .i64 1 1000000000000,[])]]
theorem zeX (n:Nat)(h:n<=12):∃z:Int,1<=z/\z<=1000000000000/\∀N,callF tab ext (N+20) (.fn 255) [.v (.int .i64 n)] []=some (.v (.int .i64 z),[]):=by
 have:n=0\/n=1\/n=2\/n=3\/n=4\/n=5\/n=6\/n=7\/n=8\/n=9\/n=10\/n=11\/n=12:=by omega
 rcases this with rfl|rfl|rfl|rfl|rfl|rfl|rfl|rfl|rfl|rfl|rfl|rfl|rfl;·exact ⟨1,by omega,by omega,fun N=>caA [] pf0 (r:=some (.v (.int .i64 1),[]))⟩
 ·exact ⟨10,by omega,by omega,fun N=>caA [] pf0 (r:=some (.v (.int .i64 10),[]))⟩
 ·exact ⟨100,by omega,by omega,fun N=>caA [] pf0 (r:=some (.v (.int .i64 100),[]))⟩
 ·exact ⟨1000,by omega,by omega,fun N=>caA [] pf0 (r:=some (.v (.int .i64 1000),[]))⟩
 ·exact ⟨10000,by omega,by omega,fun N=>caA [] pf0 (r:=some (.v (.int .i64 10000),[]))⟩
 ·exact ⟨100000,by omega,by omega,fun N=>caA [] pf0 (r:=some (.v (.int .i64 100000),[]))⟩
 ·exact ⟨1000000,by omega,by omega,fun N=>caA [] pf0 (r:=some (.v (.int .i64 1000000),[]))⟩
 ·exact ⟨10000000,by omega,by omega,fun N=>caA [] pf0 (r:=some (.v (.int .i64 10000000),[]))⟩
 ·exact ⟨100000000,by omega,by omega,fun N=>caA [] pf0 (r:=some (.v (.int .i64 100000000),[]))⟩
 ·exact ⟨1000000000,by omega,by omega,fun N=>caA [] pf0 (r:=some (.v (.int .i64 1000000000),[]))⟩
 ·exact ⟨10000000000,by omega,by omega,fun N=>caA [] pf0 (r:=some (.v (.int .i64 10000000000),[]))⟩
 ·exact ⟨100000000000,by omega,by omega,fun N=>caA [] pf0 (r:=some (.v (.int .i64 100000000000),[]))⟩
 exact ⟨1000000000000,by omega,by omega,fun N=>caA [] pf0 (r:=some (.v (.int .i64 1000000000000),[]))⟩
theorem SB:aB T Gm znK:=.one (bY (fun o m=>by rw [qaa.1 m];exact ⟨rfl,rfl⟩) fun u a j l=>by
 match u,a,j,l with
 |[_],[],⟨⟨z,rfl,h1,h2⟩,_⟩,_=>obtain ⟨n,rfl⟩:∃n:Nat,z=n:=⟨z.toNat,by omega⟩;obtain ⟨y,f,h,q⟩:=zeX n (by omega);refine ⟨_,qaa.2 rfl,.v (.int .i64 y),[],⟨y,rfl,f,h⟩,trivial,20,fun N w=>?_⟩;obtain ⟨M,rfl⟩:∃M,N=M+20:=⟨N-20,by omega⟩;exact q M)
end Ct
set_option linter.all false
namespace Ct
def zk2:List Ctr:=[mkC 229 [.ir .i64 (-999999999999999) (-1)] [] none [(.ir .i64 1 999999999999999,[])],mkC 229 [.ir .i64 0 0] [] none [(.ir .i64 0 0,[])],mkC 229 [.ir .i64 1 999999999999999] [] none [(.ir .i64 1 999999999999999,[])],dF 229 [int] [] none [(int,[],[lt 1 0 2])]]
theorem rP:aB T Gm zk2:=hoA K .nil
def zm3:List Ctr:=[dF 237 [mP] [] none [(.k .i64 0,[],bd 1 (-999999999999999) 999999999999999++bd 2 0 12),(.ir .i64 1 100,[],[])]]
theorem Jb:aB T Gm zm3:=hoA K rP
def zm9:List Ctr:=[mkC 216 [.sl 2 9] [] none [(err,[])]]
theorem rQ:aB T Gm zm9:=hoB K ((pU [⟨[6,7,8],fun e n=>(n+1,[au (.k 0) ⟨n+0,0⟩,au ⟨n+0,0⟩ (e 1)],[(6,.sl none 2 9 (e 0) (e 1)),(7,.i .i64 (e 1)),(8,.i .i64 ⟨n+0,0⟩)],[],(e 1,⟨n+0,0⟩))⟩])) Jb
def zm8:List Ctr:=[mkC 217 [KF] [] none [(.tu [int,int],[])]]
theorem RP:aB T Gm zm8:=hoA K SB
def znB:List Ctr:=[mkC 97 [int] [] none [((.kb true),[]),((.kb false),[])]]
theorem zcu:aB T Gm znB:=hoA K .nil
def znF:List Ctr:=[mkC 55 [int,int] [] none [((int),[])]]
theorem Jh:aB T Gm znF:=hoA K zcu
def znG:List Ctr:=[mkC 66 [.sl 1 3] [] none [((int),[])]]
theorem Sj:aB T Gm znG:=hoB K ((pU [⟨[3,6,7,8],fun e n=>(n+1,[au (.k 0) ⟨n+0,0⟩,au ⟨n+0,0⟩ (e 2)],[(3,.i .i64 (.k 0)),(6,.sl none 1 3 (e 1) (e 2)),(7,.i .i64 (e 2)),(8,.i .i64 ⟨n+0,0⟩)],[],(e 2,⟨n+0,0⟩))⟩])) .nil
def znp:List Ctr:=[mkC 177 [KF,KF] [] none [(.tu [int,err],[])]]
theorem zcc:aB T Gm znp:=hoA K (hpA rQ (hpA RP (hpA Jh Sj)))
def zm5:List Ctr:=[mkC 230 [int,int] [] none [(((.tu [mP,err])),[])]]
theorem Jc:aB T Gm zm5:=hoA K rP
def zm7:List Ctr:=[mkC 227 [.sl 2 9,.ir .i64 0 12] [] none [(.tu [mP,err],[])]]
theorem RN:aB T Gm zm7:=hoB K ((pU [⟨[1,4,6,7,8,14,15,16],fun e n=>(n+3,[au (.k 0) ⟨n+2,0⟩,au ⟨n+2,0⟩ (e 6)],[(1,.i .i64 (e 0)),(4,.ptr 0 (.k 0) 0),(6,.i .i64 (e 2)),(7,.i .i64 ⟨n+0,0⟩),(8,.i .i64 ⟨n+1,0⟩),(14,.sl none 2 9 (e 5) (e 6)),(15,.i .i64 (e 6)),(16,.i .i64 ⟨n+2,0⟩)],[.var [.i .i64 (.k 0),.i .i64 (.k 0)]],(e 6,⟨n+2,0⟩))⟩])) (hpA SB (hpA RP (hpA rP Jc)))
def znn:List Ctr:=[mkC 183 [.sl 2 9] [] none [(.tu [mP,err],[])]]
theorem zcb:aB T Gm znn:=hoB K ((pU [⟨[0,2,5,18,19,20],fun e n=>(n+2,[au (.k 0) ⟨n+0,0⟩,au (.k 0) ⟨n+1,0⟩,au ⟨n+1,0⟩ (e 1),au ⟨n+0,0⟩ (.k 12)],[(0,.sl none 2 9 (e 0) (e 1)),(2,.ptr 0 (.k 0) 0),(5,.i .i64 ⟨n+0,0⟩),(18,.sl none 2 9 (e 0) (e 1)),(19,.i .i64 (e 1)),(20,.i .i64 ⟨n+1,0⟩)],[.var [.i .i64 (.k 0),.i .i64 (.k 0)]],(e 1,⟨n+1,0⟩))⟩])) (hpA rQ RN)
def znl:List Ctr:=[mkC 185 [KF,KF] [] none [(.tu [mP,err],[])]]
theorem RQ:aB T Gm znl:=hoA K (hpA rQ RN)
def znk:List Ctr:=[mkC 186 [KF,KF] [] none [(.tu [mP,err],[])]]
theorem zca:aB T Gm znk:=hoA K (hpA rQ RQ)
def znj:List Ctr:=[mkC 187 [KF,.ag [.ir .i64 (-999999999999999) (-1),.ir .i64 0 12]] [] none [(.tu [mP,err],[])],mkC 187 [KF,.ag [.ir .i64 0 0,.ir .i64 0 12]] [] none [(.tu [mP,err],[])],mkC 187 [KF,.ag [.ir .i64 1 999999999999999,.ir .i64 0 12]] [] none [(.tu [mP,err],[])]]
theorem Jf:aB T Gm znj:=hoA K (hpA rQ (hpA rP Jc))
def zm4:List Ctr:=[mkC 231 [.ir .i64 (-999999999999999) 999999999999999,.ir .i64 (-999999999999999) (-1),.ir .i64 (-24) 24] [] none [(int,[])],mkC 231 [.ir .i64 (-999999999999999) 999999999999999,.ir .i64 1 999999999999999,.ir .i64 (-24) 24] [] none [(int,[])]]
theorem zb1:aB T Gm zm4:=hoB K ((pU [⟨[0,1,2],fun e n=>(n+2,[au (.k 0) ⟨n+0,-1⟩,au ⟨n+1,0⟩ (.k 24),au (e 2) ⟨n+1,0⟩,au ⟨n+0,0⟩ (.k 39999999999999960)],[(0,.i .i64 (e 0)),(1,.i .i64 ⟨n+0,0⟩),(2,.i .i64 ⟨n+1,0⟩)],[],(e 1,⟨n+1,0⟩))⟩,⟨[1,2,7,8],fun e n=>(n+3,[au (.k 0) ⟨n+0,0⟩,au ⟨n+0,0⟩ (e 1),au ⟨n+1,0⟩ (.k 9223372036854775807),au (.k 0) ⟨n+1,9223372036854775808⟩,au (.k 0) ⟨n+2,39999999999999959⟩,au ⟨n+2,0⟩ ((e 0).up (-1))],[(1,.i .i64 (e 0)),(2,.i .i64 ⟨n+0,0⟩),(7,.i .i64 ⟨n+1,0⟩),(8,.i .i64 ⟨n+2,0⟩)],[],(⟨n+0,0⟩,.k 0))⟩,⟨[0,1,2],fun e n=>(n+2,[au (.k 0) ⟨n+0,-1⟩,au ⟨n+1,0⟩ (.k 24),au (e 2) ⟨n+1,0⟩,au ⟨n+0,0⟩ (.k 39999999999999960)],[(0,.i .i64 (e 0)),(1,.i .i64 ⟨n+0,0⟩),(2,.i .i64 ⟨n+1,0⟩)],[],(e 1,⟨n+1,0⟩))⟩,⟨[1,2,7,8],fun e n=>(n+3,[au (.k 0) ⟨n+0,0⟩,au ⟨n+0,0⟩ (e 1),au ⟨n+1,0⟩ (.k 9223372036854775807),au (.k 0) ⟨n+1,9223372036854775808⟩,au (.k 0) ⟨n+2,39999999999999959⟩,au ⟨n+2,0⟩ ((e 0).up (-1))],[(1,.i .i64 (e 0)),(2,.i .i64 ⟨n+0,0⟩),(7,.i .i64 ⟨n+1,0⟩),(8,.i .i64 ⟨n+2,0⟩)],[],(⟨n+0,0⟩,.k 0))⟩])) rP
def zni:List Ctr:=[mkC 188 [KF,.ag [.ir .i64 (-999999999999999) (-1),.ir .i64 0 12],int] [] none [(.tu [mP,err],[])],mkC 188 [KF,.ag [.ir .i64 0 0,.ir .i64 0 12],int] [] none [(.tu [mP,err],[])],mkC 188 [KF,.ag [.ir .i64 1 999999999999999,.ir .i64 0 12],int] [] none [(.tu [mP,err],[])]]
theorem Je:aB T Gm zni:=hoA K (hpA rQ (hpA zb1 Jc))
def zng:List Ctr:=[mkC 192 [mP] [] none [(((.tu [mP,err])),[])]]
theorem zb9:aB T Gm zng:=hoA K Jb
end Ct
namespace Ct
def okN (a s:Int):Prop:=-999999999999999<=a/\a<=999999999999999/\0<=s/\s<=12
theorem ZL (a s:Int):∃e:Int,((e=0->okN a s)/\0<=e/\e<=100)/\∃B,∀N,B<=N->callF tab ext N (.fn 237) [.agg [num a,num s]] []=some (num e,[]):=by
 have h:=Jb _ (qaa.2 rfl);obtain ⟨o,q,ρ',r,w,u,j,l,m,B,y⟩:=h (fun n=>match n with|1=>a|2=>s|_=>0) [.agg [num a,num s]] [] ⟨rfl,by decide,(fun f A=>by cases A),⟨[],qaa.2 rfl,(fun f A=>by grind)⟩,
  .cons (.agg (.cons (.i (by decide) (by show _=_+(0:Int)<;>simp_all)) (.cons (.i (by decide) (by show _=_+(0:Int)<;>simp_all)) .nil))) .nil,.nil⟩
 have z:ρ' 0=0:=u.same 0 (by decide);have J:ρ' 1=a:=u.same 1 (by decide);have L:ρ' 2=s:=u.same 2 (by decide);rcases qal.1 q with rfl|q
 ·have l:G T _ ρ' (.i .i64 (.k 0)) r:=l;have m:GBs T _ ρ' [] w:=m;cases m;cases l with
  |i q1 q2=>rw [Lin.k_v z] at q2;subst q2;refine ⟨0,⟨fun _=>?_,by decide,by decide⟩,B,y⟩;have E:=aF.1 (j (au (.k (-999999999999999)) ⟨1,0⟩) (by grind[bd]));have F:=aF.1 (j (au ⟨1,0⟩ (.k 999999999999999)) (by grind[bd]));have M:=aF.1 (j (au (.k 0) ⟨2,0⟩) (by grind[bd]));have O:=aF.1 (j (au ⟨2,0⟩ (.k 12)) (by simp [dF,mkC,Wu,bd]))<;>grind[Lin.k_v,Lin.v,okN]
 rcases qal.1 q with rfl|q
 ·have l:G T _ ρ' (.i .i64 ⟨3,0⟩) r:=l;have m:GBs T _ ρ' [] w:=m;cases m;cases l with
  |i q1 q2=>rename_i H;have E:=aF.1 (j (au (.k 1) ⟨3,0⟩) (by grind[Wu,bnd,Sh.bld]));have F:=aF.1 (j (au ⟨3,0⟩ (.k 100)) (by grind[Wu,bnd,Sh.bld]));rw [Lin.k_v z,<-q2] at E F;exact ⟨H,⟨fun e=>by omega,by omega,by omega⟩,B,y⟩
 simp_all
def nc (p:Int×Int):List X:=[num p.1,num p.2]
theorem AQ (t:Bool)(l:List (Int×Int))(hl:l.length<=2000000):∃e:Int,((e=0->∀p,p∈l->okN p.1 p.2)/\0<=e/\e<=100)/\Back 216 [.sl t 2 (l.map nc)] (num e):=by
 obtain ⟨E,B,y⟩:=yK l (R:=fun p (e:Int)=>(e=0->okN p.1 p.2)/\0<=e/\e<=100) (Q:=fun p e N=>Gam.pureD (callF tab ext N) 237 [.agg [num p.1,num p.2]]=some (num e)) (fun p _=>by obtain ⟨e,O,S⟩:=ZL p.1 p.2;exact ⟨e,O,jo S rfl⟩);have L:(l.map nc).length=l.length:=qaB ..;have J:=VP (nIn:=0) (b:=loopAt 216 0) (H:=fun j=>⟨[(6,.sl t 2 (l.map nc)),(7,nat (l.map nc).length),(8,nat j)],[]⟩) (P:=fun j=>E (l.getD j (0,0))!=0) (r:=fun j=>⟨[(2,num (E (l.getD j (0,0))))],[.var (nc (l.getD j (0,0)))]⟩)
  (υ:=fun j=>⟨[(6,.sl t 2 (l.map nc)),(7,nat (l.map nc).length),(8,nat (j+1))],[.var (nc (l.getD j (0,0)))]⟩) (τ:=⟨[(6,.sl t 2 (l.map nc)),(7,nat (l.map nc).length),(8,nat 0)],[]⟩) (n:=l.length) (B:=B) (e:=.exit 0)
  (fin:=⟨[(6,.sl t 2 (l.map nc)),(7,nat (l.map nc).length),(8,nat l.length),(9,boolX false)],[]⟩) (by kernel_rfl)
  (fun j f m M A=>by
   have u:(l.map nc)[j]?=some (nc (l.getD j (0,0))):=by rw [qaA,qav,qad f];rfl
   have w:l.getD j (0,0)∈l:=by rw [qav,qad f];exact qae f
   have q:=(y _ w).2 M A;generalize l.getD j (0,0)=p at u q m ⊢;generalize E p=e at q m ⊢;obtain ⟨a,s⟩:=p;exact ruA [(9,.b true),(10,.e ([num a,num s])),(13,.p (num e)),(15,.b true)] (pf4 (aI (j:=j) (k:=(l.map nc).length) (by omega)) u q m))
  (fun j f m=>⟨by kernel_rfl,fun M A=>by
   have u:(l.map nc)[j]?=some (nc (l.getD j (0,0))):=by rw [qaA,qav,qad f];rfl
   have w:l.getD j (0,0)∈l:=by rw [qav,qad f];exact qae f
   have q:=(y _ w).2 M A;generalize l.getD j (0,0)=p at u q m ⊢;generalize E p=e at q m ⊢;obtain ⟨a,s⟩:=p;exact ruA [(9,.b true),(10,.e ([num a,num s])),(13,.p (num e)),(15,.b false),(17,.i (Int.ofNat (j+1)))] (pf5 (aI (j:=j) (k:=(l.map nc).length) (by omega)) u q m (ay (j:=j) (by omega)))⟩)
  (fun M _=>ruA [(9,.b false)] (pf1 (aG (j:=l.length) (k:=(l.map nc).length) (by omega)))) (by simp)
 rcases J with ⟨j,f,m,_,h⟩|⟨Y,h⟩
 ·have w:l.getD j (0,0)∈l:=by rw [qav,qad f];exact qae f
  have F:=(y _ w).1.2;generalize l.getD j (0,0)=p at m h F;obtain ⟨a,s⟩:=p;generalize E (a,s)=e at m h F;refine ⟨e,⟨fun W=>by grind,F⟩,B+l.length+2,fun N U=>?_⟩;obtain ⟨M,rfl⟩:=pR_ N;exact caB [] [(.ret,⟨[(2,num e)],[.var (nc (a,s))]⟩)] (pf1 (h M (by omega) (by omega))) (r:=some (num e,[]))
 refine ⟨0,⟨fun _ p V=>?_,by decide,by decide⟩,B+l.length+2,fun N U=>?_⟩
 ·obtain ⟨j,f,rfl⟩:=qaT V
  grind
 obtain ⟨M,rfl⟩:=pR_ N;exact caB [] [(.exit 0,⟨[(6,.sl t 2 (l.map nc)),(7,nat (l.map nc).length),(8,nat l.length),(9,boolX false)],[]⟩)] (pf1 (h M (by omega) (by omega))) (r:=some (num 0,[]))
end Ct
namespace Ct
theorem isN {T:Tab}{x:X}(hx:mP.Is T h x):∃a s,x=.agg [num a,num s]:=by
 match x,hx with
 |_,⟨xs,rfl,hx⟩=>
  match xs,hx with
  |[_,_],⟨⟨a,rfl⟩,⟨s,rfl⟩,_⟩=>exact ⟨a,s,rfl⟩
theorem Aq {T:Tab}(a s:Int):mP.Is T h (.agg [num a,num s]):=⟨_,rfl,⟨a,rfl⟩,⟨s,rfl⟩,trivial⟩
theorem O1 {T:Tab}{a s:Int}(hk:okN a s):KF.Is T h (.agg [num a,num s]):=⟨_,rfl,⟨a,rfl,hk.1,hk.2.1⟩,⟨s,rfl,hk.2.2.1,hk.2.2.2⟩,trivial⟩
theorem oq {f:FuncId}{args:List X}{o:Sh}{x:X}(ho:(o,[])∈outs)(hx:o.Is T 0 x){B:Nat}(h:∀M,B<=M->callF tab ext (M+1) (.fn f) args []=some (x,[])):Says T Gm f args [] outs:=
 ⟨_,ho,x,[],hx,trivial,B+1,fun N a=>by obtain ⟨M,rfl⟩:=pR_ N<;>simp_all⟩
theorem GI (t:Bool)(a s b u:Int):(okN a s/\okN b u)\/∃e:Int,((e !=0)=true/\0<=e/\e<=100)/\∃B,∀N,B<=N->Gam.pureD (callF tab ext N) 216 [.sl t 2 [[num a,num s],[num b,num u]]]=some (num e):=by
 obtain ⟨e,⟨j,h⟩,f⟩:=AQ t [(a,s),(b,u)] (by simp);by_cases l:e=0;·simp_all
 exact .inr ⟨e,⟨by grind,h⟩,jo f rfl⟩
def znU:List Ctr:=[mkC 177 [mP,mP] [] none [(.tu [int,err],[])]]
theorem SG:aB T Gm znU:=.one (bY (fun o w=>by rw [qaa.1 w];exact ⟨rfl,rfl⟩) fun E f m n=>by
 match E,f,m,n with
 |[_,_],[],⟨h1,h2,_⟩,_=>
  obtain ⟨a,s,rfl⟩:=isN h1;obtain ⟨b,u,rfl⟩:=isN h2;rcases GI false a s b u with ⟨y,A⟩|⟨e,⟨q,h⟩,B,j⟩;·exact fU (zcc _ (qaa.2 rfl)) rfl rfl ⟨O1 y,O1 A,trivial⟩ trivial
  exact oq (x:=.tup [num 0,num e]) (qaa.2 rfl) ⟨_,rfl,⟨0,rfl⟩,⟨e,rfl,h⟩,trivial⟩ (B:=B) fun M l=>caA [(14,.p (num e)),(16,.b true)] (pf2 (j M l) q) (r:=some (.tup [num 0,num e],[])))
def znS:List Ctr:=[mkC 185 [mP,mP] [] none [(.tu [mP,err],[])]]
theorem SE:aB T Gm znS:=.one (bY (fun o w=>by rw [qaa.1 w];exact ⟨rfl,rfl⟩) fun E f m n=>by
 match E,f,m,n with
 |[_,_],[],⟨h1,h2,_⟩,_=>
  obtain ⟨a,s,rfl⟩:=isN h1;obtain ⟨b,u,rfl⟩:=isN h2;rcases GI false a s b u with ⟨y,A⟩|⟨e,⟨q,h⟩,B,j⟩;·exact fU (RQ _ (qaa.2 rfl)) rfl rfl ⟨O1 y,O1 A,trivial⟩ trivial
  exact oq (x:=.tup [.agg [num 0,num 0],num e]) (qaa.2 rfl) ⟨_,rfl,Aq 0 0,⟨e,rfl,h⟩,trivial⟩ (B:=B) fun M l=>caA [(10,.p (num e)),(12,.b true)] (pf2 (j M l) q) (r:=some (.tup [.agg [num 0,num 0],num e],[])))
def znR:List Ctr:=[mkC 186 [mP,mP] [] none [(.tu [mP,err],[])]]
theorem zcH:aB T Gm znR:=.one (bY (fun o w=>by rw [qaa.1 w];exact ⟨rfl,rfl⟩) fun E f m n=>by
 match E,f,m,n with
 |[_,_],[],⟨h1,h2,_⟩,_=>
  obtain ⟨a,s,rfl⟩:=isN h1;obtain ⟨b,u,rfl⟩:=isN h2;rcases GI false a s b u with ⟨y,A⟩|⟨e,⟨q,h⟩,B,j⟩;·exact fU (zca _ (qaa.2 rfl)) rfl rfl ⟨O1 y,O1 A,trivial⟩ trivial
  exact oq (x:=.tup [.agg [num 0,num 0],num e]) (qaa.2 rfl) ⟨_,rfl,Aq 0 0,⟨e,rfl,h⟩,trivial⟩ (B:=B) fun M l=>caA [(10,.p (num e)),(12,.b true)] (pf2 (j M l) q) (r:=some (.tup [.agg [num 0,num 0],num e],[])))
def znQ:List Ctr:=[mkC 187 [mP,mP] [] none [(.tu [mP,err],[])]]
theorem zcG:aB T Gm znQ:=.one (bY (fun o F=>by rw [qaa.1 F];exact ⟨rfl,rfl⟩) fun H n A f=>by
 match H,n,A,f with
 |[_,_],[],⟨h1,h2,_⟩,_=>
  obtain ⟨a,s,rfl⟩:=isN h1;obtain ⟨b,u,rfl⟩:=isN h2;rcases GI false a s b u with ⟨j,h⟩|⟨e,⟨E,q⟩,B,w⟩
  ·have f:∀lo hi:Int,lo<=b->b<=hi->(Sh.ag [.ir .i64 lo hi,.ir .i64 0 12]).Is T 0 (.agg [num b,num u]):=fun lo hi l m=>⟨_,rfl,⟨b,rfl,l,m⟩,⟨u,rfl,h.2.2.1,h.2.2.2⟩,trivial⟩;have J:=h.1;have L:=h.2.1;by_cases l:b<=-1;·exact fU (Jf _ (qay ..)) rfl rfl ⟨O1 j,f _ _ (by omega) (by omega),trivial⟩ trivial
   by_cases m:b=0;·exact fU (Jf _ (qaD _ (qay ..))) rfl rfl ⟨O1 j,f _ _ (by omega) (by omega),trivial⟩ trivial
   exact fU (Jf _ (qaD _ (qaD _ (qay ..)))) rfl rfl ⟨O1 j,f _ _ (by omega) (by omega),trivial⟩ trivial
  exact oq (x:=.tup [.agg [num 0,num 0],num e]) (qaa.2 rfl) ⟨_,rfl,Aq 0 0,⟨e,rfl,q⟩,trivial⟩ (B:=B) fun M y=>caA [(11,.p (num e)),(13,.b true)] (pf2 (w M y) E) (r:=some (.tup [.agg [num 0,num 0],num e],[])))
def znP:List Ctr:=[mkC 188 [mP,mP,int] [] none [(.tu [mP,err],[])]]
theorem zcF:aB T Gm znP:=.one (bY (fun o H=>by rw [qaa.1 H];exact ⟨rfl,rfl⟩) fun J n E f=>by
 match J,n,E,f with
 |[_,_,_],[],⟨h1,h2,⟨w,hw⟩,_⟩,_=>
  obtain ⟨a,s,rfl⟩:=isN h1;obtain ⟨b,u,rfl⟩:=isN h2;subst hw;rcases GI false a s b u with ⟨j,h⟩|⟨e,⟨F,q⟩,B,y⟩
  ·have f:∀lo hi:Int,lo<=b->b<=hi->(Sh.ag [.ir .i64 lo hi,.ir .i64 0 12]).Is T 0 (.agg [num b,num u]):=fun lo hi l m=>⟨_,rfl,⟨b,rfl,l,m⟩,⟨u,rfl,h.2.2.1,h.2.2.2⟩,trivial⟩;have L:=h.1;have N:=h.2.1;by_cases l:b<=-1;·exact fU (Je _ (qay ..)) rfl rfl ⟨O1 j,f _ _ (by omega) (by omega),⟨w,rfl⟩,trivial⟩ trivial
   by_cases m:b=0;·exact fU (Je _ (qaD _ (qay ..))) rfl rfl ⟨O1 j,f _ _ (by omega) (by omega),⟨w,rfl⟩,trivial⟩ trivial
   exact fU (Je _ (qaD _ (qaD _ (qay ..)))) rfl rfl ⟨O1 j,f _ _ (by omega) (by omega),⟨w,rfl⟩,trivial⟩ trivial
  exact oq (x:=.tup [.agg [num 0,num 0],num e]) (qaa.2 rfl) ⟨_,rfl,Aq 0 0,⟨e,rfl,q⟩,trivial⟩ (B:=B) fun M A=>caA [(13,.p (num e)),(15,.b true)] (pf2 (y M A) F) (r:=some (.tup [.agg [num 0,num 0],num e],[])))
theorem QY:∀{es:qaW} {h:Int},(∀e,e∈es->D T h 6 e)->∃l:List (Int×Int),es=l.map nc
 |[],_,_=>⟨[],rfl⟩
 |e::r,h,hd=>by
  obtain ⟨l,hl⟩:=QY (es:=r) fun x hx=>hd x (qaD _ hx);obtain ⟨_,alt,ha,hs⟩:=oN (hd e (qay ..));rw [qaa.1 ha] at hs
  match e,hs with
  |[x,y],⟨hx,hy,_⟩=>
   match x,y,hx,hy with
   |.v (.int _ a),.v (.int _ b),⟨rfl,_⟩,⟨rfl,_⟩=>exact ⟨(a,b)::l,by rw [hl];rfl⟩
def znT:List Ctr:=[mkC 183 [.sl 2 6] [] none [(.tu [mP,err],[])]]
theorem zcI:aB T Gm znT:=.one (bY (fun o H=>by rw [qaa.1 H];exact ⟨rfl,rfl⟩) fun N u F f=>by
 match N,u,F,f with
 |[_],[],⟨⟨t,es,h',rfl,hh,hl,hd⟩,_⟩,_=>
  obtain ⟨l,rfl⟩:=QY hd;have q:(l.map nc).length=l.length:=qaB ..;have j:l.length<=2000000:=by unfold dW at hl;omega
  obtain ⟨e,⟨y,w⟩,A⟩:=AQ false l j;obtain ⟨B,E⟩:=jo A rfl;by_cases n:e=0;·refine fU (zcb _ (qaa.2 rfl)) rfl rfl ⟨⟨t,l.map nc,1,rfl,by omega,hl,fun x L=>?_⟩,trivial⟩ trivial;obtain ⟨p,J,rfl⟩:=qam.1 L;obtain ⟨O,P,Q,S⟩:=y n p J;exact eX (by omega) (qaa.2 rfl) ⟨⟨rfl,fun a e=>by grind,fun a e=>by grind⟩,⟨rfl,fun a e=>by grind,fun a e=>by grind⟩,trivial⟩
  have h:(e !=0)=true:=by simpa using n
  cases f:decide (Int.ofNat (l.map nc).length>256) with
  |true=>exact oq (x:=.tup [.agg [num 0,num 0],num 9]) (qaa.2 rfl) ⟨_,rfl,Aq 0 0,⟨9,rfl,by decide,by decide⟩,trivial⟩ (B:=B) fun M m=>caA [(10,.b true)] (pf1 f) (r:=some (.tup [.agg [num 0,num 0],num 9],[]))
  |false=>exact oq (x:=.tup [.agg [num 0,num 0],num e]) (qaa.2 rfl) ⟨_,rfl,Aq 0 0,⟨e,rfl,w⟩,trivial⟩ (B:=B) fun M m=>caA [(10,.b false),(13,.p (num e)),(15,.b true)] (pf3 f (E M m) h) (r:=some (.tup [.agg [num 0,num 0],num e],[])))
end Ct
namespace Ct
abbrev Ed (bx:List Bx):St:=⟨[(4,.sl true 6 []),(5,num 22)],bx⟩
section
variable (t2:Bool) (ps es:qaW) (np j n:Nat) (k i:Int) (nm:qaX)
abbrev inS (ns:qaW) (q m:Nat):St:=⟨[(1,.sl t2 3 ps),(9,.ptr 0 0 0),(10,.bs 1 0 q),(23,.sl t2 3 ps),(24,nat np),(25,nat j),(29,.sl true 6 es),(30,nat n),(31,nat m)],[.var [num k,num i,strX nm],.row 6 ns]⟩
abbrev inR (ns:qaW) (q m:Nat):St:=⟨[(1,.sl t2 3 ps),(9,.ptr 0 0 0),(10,.bs 1 0 q),(23,.sl t2 3 ps),(24,nat np),(25,nat j),(29,.bs 2 0 n),(30,nat n),(31,nat m)],[.var [num k,num i,strX nm],.row 6 ns,.row 6 es]⟩
abbrev eiS (ns:qaW) (q m:Nat):St:=⟨[(1,.sl t2 3 ps),(9,.ptr 0 0 0),(10,.bs 1 0 q),(23,.sl t2 3 ps),(24,nat np),(25,nat j),(29,.sl true 6 es),(30,nat n),(31,nat m),(32,boolX false)],[.var [num k,num i,strX nm],.row 6 ns]⟩
abbrev eiR (ns:qaW) (q m:Nat):St:=⟨[(1,.sl t2 3 ps),(9,.ptr 0 0 0),(10,.bs 1 0 q),(23,.sl t2 3 ps),(24,nat np),(25,nat j),(29,.bs 2 0 n),(30,nat n),(31,nat m),(32,boolX false)],[.var [num k,num i,strX nm],.row 6 ns,.row 6 es]⟩
end
def zeJ (bx:List Bx):Prop:=(∃a ns b,bx=[.var a,.row 6 ns,.var b])\/(∃a ns es b,bx=[.var a,.row 6 ns,.row 6 es,.var b])
theorem hz {es:qaW}{m:Nat}(h:es[m]?=some x):es[0+m]?=some x:=by grind
theorem innerS (t2:Bool)(ps es:qaW)(np j n:Nat){k i:Int}{nm:qaX}(p1:0<=i)(p2:i<=1000000)(p3:nm.size<=1000000)(hn:n=es.length)(hes:∀e,e∈es->D T (h+1) 11 e)(hl:es.length<=50000)(hτ:canon 0 τ=some (inS t2 ps es np j n k i nm [] 0 0)):
  ∃e σ' B,((e=.ret/\∃bx,σ'=Ed bx/\zeJ bx)\/(∃ns:qaW,e=.exit 2/\σ'=eiS t2 ps es np j n k i nm ns ns.length n/\ns.length<=6*n/\∀y,y∈ns->D T h 11 y))/\∀M,B<=M->run (callF tab ext M) 0 M (.loop (loopAt 181 1)) τ=some (e,σ'):=by
 refine jO (nIn:=0) (b:=loopAt 181 1) (H:=fun p:qaW×Nat×Nat=>inS t2 ps es np j n k i nm p.1 p.2.1 p.2.2) (I:=fun p=>p.2.1=p.1.length/\p.2.2<=n/\p.1.length<=6*p.2.2/\∀y,y∈p.1->D T h 11 y) (μ:=fun p=>n-p.2.2)
  (Q:=fun e σ'=>(e=.ret/\∃bx,σ'=Ed bx/\zeJ bx)\/(∃ns:qaW,e=.exit 2/\σ'=eiS t2 ps es np j n k i nm ns ns.length n/\ns.length<=6*n/\∀y,y∈ns->D T h 11 y))
  (fun p hp=>?_) (a:=([],0,0)) ⟨rfl,Nat.zero_le _,Nat.zero_le _,fun y hy=>by grind⟩ hτ
 obtain ⟨ns,q,m⟩:=p;obtain ⟨U,i2,V,W⟩:=hp;dsimp only at U i2 V W ⊢;by_cases hm:m<n
 ·have P:=aI hm;have F:m<es.length:=by omega
  obtain ⟨x,N⟩:∃x,es[m]?=some x:=⟨_,qad F⟩;have E:=hes x (qap N);obtain ⟨h0,a,b,c,s,u,l,v,f,rfl,_⟩:=d11 E;have E:=yh E;obtain ⟨g,O,S⟩:=uF (k:=k) p1 p2 p3 E;obtain ⟨A,y1,y2,Y,J⟩:=FK (k:=k) p1 p2 p3 E;cases g with
  |false=>exact .inr ⟨.ret,Ed [.var [num k,num i,strX nm],.row 6 ns,.var [num a,num b,num c,strX s,.sl u 6 l,.sl v 7 f]],O,(by grind),.inl ⟨rfl,_,rfl,.inl ⟨_,_,_,rfl⟩⟩,fun M Z=>ruA [(32,.b true),(33,.e [num a,num b,num c,strX s,.sl u 6 l,.sl v 7 f]),(37,.p (boolX false)),(38,.b true)] (pf4 P N (S M (by omega)) (show (!false)=true from rfl))⟩
  |true=>
   have w:0+q=ns.length/\roomOk (q+A.length) (87+1)=true/\memN 1 (X.sl false 6 A).rows=false:=⟨by omega,fP (by omega) (by omega),rfl⟩;refine .inl ⟨⟨[(1,.sl t2 3 ps),(9,.ptr 0 0 0),(10,.bs 3 0 (q+A.length)),(23,.sl t2 3 ps),(24,nat np),(25,nat j),(29,.sl true 6 es),(30,nat n),(31,nat (m+1))],[.var [num k,num i,strX nm],.dead,.var [num a,num b,num c,strX s,.sl u 6 l,.sl v 7 f],.row 6 (ns++A)]⟩,(ns++A,q+A.length,m+1),max O Y,fun M Z=>?_,by kernel_rfl,⟨by grind,by grind,by grind,fun y hy=>?_⟩,by grind⟩;·exact ruA [(32,.b true),(33,.e [num a,num b,num c,strX s,.sl u 6 l,.sl v 7 f]),(37,.p (boolX true)),(38,.b false),(42,.p (.sl false 6 A)),(43,.app),(44,.i (Int.ofNat (m+1)))] (pf7 P N (S M (by omega)) (show (!true)=false from rfl) (J M (by omega)) w (ay (j:=m) (by omega)))
   grind
 have L:m=n:=by omega
 subst L;subst U;exact .inr ⟨_,_,0,(by grind),.inr ⟨ns,rfl,rfl,V,W⟩,fun M _=>ruA [(32,.b false)] (pf1 (aG (qan m)))⟩
theorem zf9 (t2:Bool)(ps es:qaW)(np j n:Nat){k i:Int}{nm:qaX}(p1:0<=i)(p2:i<=1000000)(p3:nm.size<=1000000)(hn:n=es.length)(hes:∀e,e∈es->D T (h+1) 11 e)(hl:es.length<=50000)(hτ:canon 0 τ=some (inR t2 ps es np j n k i nm [] 0 0)):
  ∃e σ' B,((e=.ret/\∃bx,σ'=Ed bx/\zeJ bx)\/(∃ns:qaW,e=.exit 2/\σ'=eiR t2 ps es np j n k i nm ns ns.length n/\ns.length<=6*n/\∀y,y∈ns->D T h 11 y))/\∀M,B<=M->run (callF tab ext M) 0 M (.loop (loopAt 181 1)) τ=some (e,σ'):=by
 refine jO (nIn:=0) (b:=loopAt 181 1) (H:=fun p:qaW×Nat×Nat=>inR t2 ps es np j n k i nm p.1 p.2.1 p.2.2) (I:=fun p=>p.2.1=p.1.length/\p.2.2<=n/\p.1.length<=6*p.2.2/\∀y,y∈p.1->D T h 11 y) (μ:=fun p=>n-p.2.2)
  (Q:=fun e σ'=>(e=.ret/\∃bx,σ'=Ed bx/\zeJ bx)\/(∃ns:qaW,e=.exit 2/\σ'=eiR t2 ps es np j n k i nm ns ns.length n/\ns.length<=6*n/\∀y,y∈ns->D T h 11 y))
  (fun p hp=>?_) (a:=([],0,0)) ⟨rfl,Nat.zero_le _,Nat.zero_le _,fun y hy=>by grind⟩ hτ
 obtain ⟨ns,q,m⟩:=p;obtain ⟨V,i2,W,Y⟩:=hp;dsimp only at V i2 W Y ⊢;by_cases L:m<n
 ·have S:=aI L;have F:m<es.length:=by omega
  obtain ⟨x,O⟩:∃x,es[m]?=some x:=⟨_,qad F⟩;have E:=hes x (qap O);obtain ⟨h0,a,b,c,s,u,l,v,f,rfl,_⟩:=d11 E;have E:=yh E;obtain ⟨g,P,U⟩:=uF (k:=k) p1 p2 p3 E;obtain ⟨A,y1,y2,Z,J⟩:=FK (k:=k) p1 p2 p3 E;cases g with
  |false=>exact .inr ⟨.ret,Ed [.var [num k,num i,strX nm],.row 6 ns,.row 6 es,.var [num a,num b,num c,strX s,.sl u 6 l,.sl v 7 f]],P,(by grind),.inl ⟨rfl,_,rfl,.inr ⟨_,_,_,_,rfl⟩⟩,fun M hM=>ruA [(32,.b true),(33,.at),(34,.ld [num a,num b,num c,strX s,.sl u 6 l,.sl v 7 f]),(37,.p (boolX false)),(38,.b true)] (pf5 S L (hz O) (U M (by omega)) (show (!false)=true from rfl))⟩
  |true=>
   have w:0+q=ns.length/\roomOk (q+A.length) (87+1)=true/\memN 1 (X.sl false 6 A).rows=false:=⟨by omega,fP (by omega) (by omega),rfl⟩;refine .inl ⟨⟨[(1,.sl t2 3 ps),(9,.ptr 0 0 0),(10,.bs 4 0 (q+A.length)),(23,.sl t2 3 ps),(24,nat np),(25,nat j),(29,.bs 2 0 n),(30,nat n),(31,nat (m+1))],[.var [num k,num i,strX nm],.dead,.row 6 es,.var [num a,num b,num c,strX s,.sl u 6 l,.sl v 7 f],.row 6 (ns++A)]⟩,(ns++A,q+A.length,m+1),max P Z,fun M hM=>?_,by kernel_rfl,⟨by grind,by grind,by grind,fun y hy=>?_⟩,by grind⟩;·exact ruA [(32,.b true),(33,.at),(34,.ld [num a,num b,num c,strX s,.sl u 6 l,.sl v 7 f]),(37,.p (boolX true)),(38,.b false),(42,.p (.sl false 6 A)),(43,.app),(44,.i (Int.ofNat (m+1)))] (pf8 S L (hz O) (U M (by omega)) (show (!true)=false from rfl) (J M (by omega)) w (ay (j:=m) (by omega)))
   grind
 have N:m=n:=by omega
 subst N;subst V;exact .inr ⟨_,_,0,(by grind),.inr ⟨ns,rfl,rfl,W,Y⟩,fun M _=>ruA [(32,.b false)] (pf1 (aG (qan m)))⟩
end Ct
section
variable (N:Nat) (k i s:Int) (t:qaX) (l f acc JM:qaW) (n j m:Nat) (v:Val) (nm:qaX) (a1 a2 a3:Int) (a4:qaX) (u w:Bool) (a5 a6:qaW)
theorem LP (hv:Gam.pureD (callF tab ext N) 56 [.agg [num a1,num a2,num a3,strX a4,.sl false 6 a5,.sl false 7 a6]]=some (.agg v.cells))(hi:l[j]?=some [num a1,num a2,num a3,strX a4,.sl u 6 a5,.sl w 7 a6])(hj:j<n)(hn:n<2999999)(ha:j=acc.length):
  run (callF tab ext N) 0 N (loopAt 56 0) (clH k i s t l f acc n j)=some (.norm,zj3 k i s t l f acc n j [num a1,num a2,num a3,strX a4,.sl u 6 a5,.sl w 7 a6] v.cells):=by
 obtain ⟨a,h,m,q,y,A⟩:=v;exact ruA [(15,.b true),(16,.e [num a1,num a2,num a3,strX a4,.sl u 6 a5,.sl w 7 a6]),(21,.p (.agg (Val.mk a h m q y A).cells)),(23,.app),(25,.i (Int.ofNat (j+1)))] (pf5 (aI hj) hi hv (Ea j 3 88 ha (by omega) (by omega)) (ay (j:=j) (by omega)))
theorem LQ (hv:Gam.pureD (callF tab ext N) 56 [.agg [num a1,num a2,num a3,strX a4,.sl false 6 a5,.sl false 7 a6]]=some (.agg v.cells))(hi:f[j]?=some [strX nm,num a1,num a2,num a3,strX a4,.sl u 6 a5,.sl w 7 a6])(hj:j<n)(hn:n<2999999)(ha:j=JM.length):
  run (callF tab ext N) 0 N (loopAt 56 1) (cfH k i s t f acc JM n j m)=some (.norm,zj4 k i s t f acc JM n j m [strX nm,num a1,num a2,num a3,strX a4,.sl u 6 a5,.sl w 7 a6] (strX nm::v.cells)):=by
 obtain ⟨a,h,l,q,y,A⟩:=v;exact ruA [(30,.b true),(31,.e [strX nm,num a1,num a2,num a3,strX a4,.sl u 6 a5,.sl w 7 a6]),(39,.p (.agg (Val.mk a h l q y A).cells)),(42,.app),(44,.i (Int.ofNat (j+1)))] (pf5 (aI hj) hi hv (Ea j 3 104 ha (by omega) (by omega)) (ay (j:=j) (by omega)))
end
namespace Ct
theorem vO:∀{l:List Val},(∀v,v∈l->v.wide)->vP l
 |[],_=>by grind[vP]
 |v::r,h=>by simp only [vP];exact ⟨h v (qay ..),vO fun u hu=>h u (qaD _ hu)⟩
theorem vS:∀{l:List (qaX×Val)},(∀p,p∈l->p.2.wide)->vT l
 |[],_=>by grind[vT]
 |(n,v)::r,h=>by simp only [vT];exact ⟨h (n,v) (qay ..),vS fun u hu=>h u (qaD _ hu)⟩
instance:Inhabited Val:=⟨.mk 0 0 0 ⟨#[]⟩ [] []⟩
end Ct
namespace Ct
theorem Gx {k kf:Nat}(P:Nat->Val->Prop)
  (i1:∀{n e},DN T (n+1) k e->∃(a b c:Int) (s:qaX) (t:Bool) (l:qaW) (t':Bool) (f:qaW),e=[num a,num b,num c,strX s,.sl t 6 l,.sl t' 7 f]/\l.length<=1000000/\f.length<=1000100/\(∀x,x∈l->DN T n k x)/\(∀x,x∈f->DN T n kf x)/\
   ∀vl vf,vl.length=l.length->vf.length=f.length->(∀v,v∈vl->P n v)->(∀p,p∈vf->p.1.size<=1000000/\P n p.2)->P (n+1) (.mk a b c s vl vf))
  (i2:∀{n e},DN T n kf e->∃(nm:qaX) (x:List X),e=strX nm::x/\nm.size<=1000000/\DN T n k x):
  ∀(n:Nat) {x:List X},DN T n k x->∃v:Val,P n v/\∃(a b c:Int) (s:qaX) (t:Bool) (l:qaW) (t':Bool) (f:qaW),x=[num a,num b,num c,strX s,.sl t 6 l,.sl t' 7 f]/\∃B,∀N,B<=N->Gam.pureD (callF tab ext N) 56 [.agg [num a,num b,num c,strX s,.sl false 6 l,.sl false 7 f]]=some (.agg v.cells):=by
 intro n;induction n with
 |zero=>exact fun h=>h.elim
 |succ n ih=>
  intro x W;obtain ⟨a,b,c,s,t,l,t',f,rfl,hl,hf,dl,df,hP⟩:=i1 W;have hL:∃(g:Nat->Val) (B:Nat),∀j,j∈List.range l.length->P n (g j)/\∀N,B<=N->∃(a1 a2 a3:Int) (a4:qaX) (u w:Bool) (a5 a6:qaW),l[j]?=some [num a1,num a2,num a3,strX a4,.sl u 6 a5,.sl w 7 a6]/\Gam.pureD (callF tab ext N) 56 [.agg [num a1,num a2,num a3,strX a4,.sl false 6 a5,.sl false 7 a6]]=some (.agg (g j).cells):=
   yK (List.range l.length) (R:=fun _ v=>P n v) (Q:=fun j v N=>∃(a1 a2 a3:Int) (a4:qaX) (u w:Bool) (a5 a6:qaW),l[j]?=some [num a1,num a2,num a3,strX a4,.sl u 6 a5,.sl w 7 a6]/\Gam.pureD (callF tab ext N) 56 [.agg [num a1,num a2,num a3,strX a4,.sl false 6 a5,.sl false 7 a6]]=some (.agg v.cells)) fun j m=>by have m:=List.mem_range.1 m;obtain ⟨v,y,a1,a2,a3,a4,u,a5,w,a6,e,B,J⟩:=ih (dl _ (qae m));exact ⟨v,y,B,fun N H=>⟨a1,a2,a3,a4,u,w,a5,a6,by grind,J N H⟩⟩
  have L:∃(g:Nat->qaX×Val) (B:Nat),∀j,j∈List.range f.length->((g j).1.size<=1000000/\P n (g j).2)/\∀N,B<=N->∃(a1 a2 a3:Int) (a4:qaX) (u w:Bool) (a5 a6:qaW),f[j]?=some [strX (g j).1,num a1,num a2,num a3,strX a4,.sl u 6 a5,.sl w 7 a6]/\Gam.pureD (callF tab ext N) 56 [.agg [num a1,num a2,num a3,strX a4,.sl false 6 a5,.sl false 7 a6]]=some (.agg (g j).2.cells):=
   yK (List.range f.length) (R:=fun _ (p:qaX×Val)=>p.1.size<=1000000/\P n p.2) (Q:=fun j p N=>∃(a1 a2 a3:Int) (a4:qaX) (u w:Bool) (a5 a6:qaW),f[j]?=some [strX p.1,num a1,num a2,num a3,strX a4,.sl u 6 a5,.sl w 7 a6]/\Gam.pureD (callF tab ext N) 56 [.agg [num a1,num a2,num a3,strX a4,.sl false 6 a5,.sl false 7 a6]]=some (.agg p.2.cells)) fun j m=>by have m:=List.mem_range.1 m;obtain ⟨nm,x,e0,U,W⟩:=i2 (df _ (qae m));obtain ⟨v,y,a1,a2,a3,a4,u,a5,w,a6,e,B,J⟩:=ih W;exact ⟨(nm,v),⟨U,y⟩,B,fun N H=>⟨a1,a2,a3,a4,u,w,a5,a6,by grind,J N H⟩⟩
  obtain ⟨g,Z,O⟩:=hL;obtain ⟨q,B2,V⟩:=L
  let vl:=(List.range l.length).map g
  let vf:=(List.range f.length).map q
  have el:vl.length=l.length:=by simp [vl]
  have Y:vf.length=f.length:=by simp [vf]
  have cl:=aK vl;have cf:=aT vf;have gl:∀j,j<l.length->(ah vl)[j]?=some (g j).cells:=fun j m=>by grind[fA]
  have gf:∀j,j<f.length->(aj vf)[j]?=some (strX (q j).1::(q j).2.cells):=fun j m=>by rw [kL];grind
  refine ⟨.mk a b c s vl vf,hP vl vf el Y (fun v y=>?_) (fun p hp=>?_),a,b,c,s,t,l,t',f,rfl,Z+B2+3000100,fun N H=>?_⟩;·obtain ⟨j,m,rfl⟩:=qam.1 y;exact (O j m).1
  ·obtain ⟨j,m,rfl⟩:=qam.1 hp;exact (V j m).1
  obtain ⟨M,rfl⟩:=pR_ N;have A:run (callF tab ext M) 0 M (.loop (loopAt 56 0)) (clH a b c s l f [] l.length 0)=some (.exit 0,clE a b c s l f (ah vl) l.length l.length):=by
   refine loop_for (σ:=fun j=>clH a b c s l f ((ah vl).take j) l.length j) (k:=l.length) (D7 _ _ _ _ _ _ _ _ _) (fun j m=>?_) ?_ (by simp) (by omega)
   ·obtain ⟨a1,a2,a3,a4,u,w,a5,a6,S,y⟩:=(O j (List.mem_range.2 m)).2 M (by omega);refine ⟨_,LP M a b c s l f _ l.length j (g j) a1 a2 a3 a4 u w a5 a6 y S m (by omega) (by grind),?_⟩
    grind[yJ,bI]
   ·grind[TY]
  have E:run (callF tab ext M) 0 M (.loop (loopAt 56 1)) ⟨[(2,.ptr 1 0 0),(3,.ptr 2 0 0),(27,.sl false 7 f),(28,nat f.length),(29,nat 0)],[.var [num a,num b,num c,strX s,.sl false 6 l,.sl false 7 f],.var G5,.var [num a,num b,num c,strX s,.bs 3 0 l.length,.bs 4 0 0],.row 6 (ah vl),.row 7 []]⟩=some (.exit 2,cfE a b c s f (ah vl) (aj vf) f.length f.length l.length):=by
   refine loop_for (σ:=fun j=>cfH a b c s f (ah vl) ((aj vf).take j) f.length j l.length) (k:=f.length) (by kernel_rfl) (fun j m=>?_) ?_ (by simp) (by omega)
   ·obtain ⟨a1,a2,a3,a4,u,w,a5,a6,S,y⟩:=(V j (List.mem_range.2 m)).2 M (by omega);refine ⟨_,LQ M a b c s f _ _ f.length j l.length (q j).2 (q j).1 a1 a2 a3 a4 u w a5 a6 y S m (by omega) (by grind),?_⟩
    grind[yN,bI]
   ·grind[Ud]
  have F:(X.agg [num a,num b,num c,strX s,.bs 0 0 l.length,.bs 1 0 f.length]).data [.row 6 (ah vl),.row 7 (aj vf)] false=some (.agg (Val.mk a b c s vl vf).cells):=by
   have e1:l.length=(ah vl).length:=by omega
   have e2:f.length=(aj vf).length:=by omega
   rw [e1,e2];simp [X.data,dataL,rowOf,Val.cells,num,strX]
  clear O V gl gf el Y;generalize ah vl=CL at A E F;generalize aj vf=CF at A E F;generalize l.length=n1 at A E F;generalize f.length=n2 at A E F;exact pure_of [] [(.exit 0,clE a b c s l f CL n1 n1),(.exit 2,cfE a b c s f CL CF n2 n2 n1)] (pf2 A E) (bx:=[.row 6 CL,.row 7 CF]) (by kernel_rfl) F
theorem LH {n:Nat}(h:DN T (n+1) 11 e):∃(a b c:Int) (s:qaX) (t:Bool) (l:qaW) (t':Bool) (f:qaW),e=[num a,num b,num c,strX s,.sl t 6 l,.sl t' 7 f]/\s.size<=1000000/\l.length<=6/\f.length<=6/\(∀x,x∈l->DN T n 11 x)/\∀x,x∈f->DN T n 12 x:=by
 obtain ⟨j,m,q⟩:=h;obtain rfl:=qaa.1 m
 match e,q with
 |[.v (.int _ a),.v (.int _ b),.v (.int _ c),.v (.string s),.sl t _ l,.sl t' _ f],⟨⟨rfl,_⟩,⟨rfl,_⟩,⟨rfl,_⟩,h4,⟨rfl,_,h5,h6⟩,⟨rfl,_,h7,h8⟩,_⟩=>exact ⟨a,b,c,s,t,l,t',f,rfl,h4.2,h5,h7,h6,h8⟩
theorem LG {n:Nat}(h:DN T n 12 e):∃(nm:qaX) (x:List X),e=strX nm::x/\nm.size<=1000000/\DN T n 11 x:=by
 cases n with
 |zero=>exact h.elim
 |succ n=>
  obtain ⟨a,f,j⟩:=h;obtain rfl:=qaa.1 f
  match e,j with
  |.v (.string s)::x,⟨h1,h2⟩=>exact ⟨s,x,rfl,h1.2,_,qaa.2 rfl,h2⟩
theorem zn7 {n:Nat}{nm:qaX}{v:Val}(hn:nm.size<=1000000)(h:DN T n 11 v.cells):DN T n 12 (strX nm::v.cells):=by
 cases n with
 |zero=>exact h.elim
 |succ n=>obtain ⟨a,f,j⟩:=h;obtain rfl:=qaa.1 f;exact ⟨_,qaa.2 rfl,⟨by omega,hn⟩,j⟩
theorem Yr {n:Nat}(h:DN T n 11 x):∃v:Val,(v.wide/\DN T n 11 v.cells)/\∃(a b c:Int) (s:qaX) (t:Bool) (l:qaW) (t':Bool) (f:qaW),x=[num a,num b,num c,strX s,.sl t 6 l,.sl t' 7 f]/\∃B,∀N,B<=N->Gam.pureD (callF tab ext N) 56 [.agg [num a,num b,num c,strX s,.sl false 6 l,.sl false 7 f]]=some (.agg v.cells):=
 Gx (k:=11) (kf:=12) (fun n v=>v.wide/\DN T n 11 v.cells) (fun h=>by
  obtain ⟨a,b,c,s,t,l,t',f,rfl,u,F,H,w,y⟩:=LH h;refine ⟨a,b,c,s,t,l,t',f,rfl,by omega,by omega,w,y,fun L J A E q m=>⟨?_,?_⟩⟩;·simp only [Val.wide];exact ⟨⟨by omega,by omega⟩,vO fun v h=>(q v h).1,vS fun p h=>(m p h).2.1⟩
  refine ⟨_,qaa.2 rfl,⟨rfl,(fun a e=>by cases e),(fun a e=>by cases e)⟩,⟨rfl,(fun a e=>by cases e),(fun a e=>by cases e)⟩,⟨rfl,(fun a e=>by cases e),(fun a e=>by cases e)⟩,⟨by omega,u⟩,⟨rfl,by omega,by rw [aK];omega,fun e j=>?_⟩,⟨rfl,by omega,by rw [aT];omega,fun e j=>?_⟩,trivial⟩;·rw [fA] at j;obtain ⟨v,h,rfl⟩:=qam.1 j;exact (q v h).2
  rw [kL] at j;obtain ⟨p,h,rfl⟩:=qam.1 j;exact zn7 (m p h).1 (m p h).2.2) LG n h
theorem zgC {n:Nat}{nm:qaX}(hn:nm.size<=1000000)(h:DN T n 1 x):DN T n 2 (strX nm::x):=by
 cases n with
 |zero=>exact h.elim
 |succ n=>obtain ⟨a,f,j⟩:=h;obtain rfl:=qaa.1 f;exact ⟨_,qaa.2 rfl,⟨by omega,hn⟩,j⟩
theorem TM:∀(n:Nat) {x:List X},DN T n 11 x->DN T n 1 x
 |0,_,h=>h.elim
 |n+1,_,h=>by obtain ⟨a,b,c,s,t,l,t',f,rfl,h1,h2,h3,h4,h5⟩:=LH h;refine ⟨_,qaa.2 rfl,⟨rfl,(fun a e=>by cases e),(fun a e=>by cases e)⟩,⟨rfl,(fun a e=>by cases e),(fun a e=>by cases e)⟩,⟨rfl,(fun a e=>by cases e),(fun a e=>by cases e)⟩,⟨by omega,h1⟩,⟨rfl,by omega,by omega,fun e he=>TM n (h4 e he)⟩,⟨rfl,by omega,by omega,fun e he=>?_⟩,trivial⟩;obtain ⟨nm,x,rfl,q,hx⟩:=LG (h5 e he);exact zgC q (TM n hx)
def Sm (y:List X):Prop:=D T 7 1 y/\∃v:Val,v.wide/\y=v.cells/\D T 7 11 y
theorem LM {a b c:Int}{s:qaX}{u w:Bool}{l f:qaW}(hd:D T 7 11 [num a,num b,num c,strX s,.sl u 6 l,.sl w 7 f]):∃(a' b' c':Int) (s':qaX) (t:Bool) (l':qaW) (t':Bool) (f':qaW),Sm [num a',num b',num c',strX s',.sl t 6 l',.sl t' 7 f']/\∃B,∀N,B<=N->Gam.pureD (callF tab ext N) 56 [.agg [num a,num b,num c,strX s,.sl false 6 l,.sl false 7 f]]=some (.agg [num a',num b',num c',strX s',.sl t 6 l',.sl t' 7 f']):=by obtain ⟨⟨a',b',c',s',y,q⟩,⟨m,h⟩,_,_,_,_,_,_,_,_,e,j⟩:=Yr (n:=7) hd;cases e;exact ⟨a',b',c',s',false,ah y,false,aj q,⟨TM 7 h,_,m,rfl,h⟩,j⟩
end Ct
namespace Ct
theorem d7 (hd:D T h 7 x):∃(k i:Int) (nm:qaX),x=[num k,num i,strX nm]/\0<=i/\i<=1000000/\nm.size<=1000000:=by
 obtain ⟨m,a,j,l⟩:=oN hd;obtain rfl:=qaa.1 j
 match x,l with
 |[_,y,_],⟨k1,k2,k3,_⟩=>
  obtain ⟨k,rfl⟩:=mM k1;obtain ⟨nm,rfl,_,f⟩:=zgr k3
  match y,k2 with
  |.v (.int _ i),⟨rfl,q1,q2⟩=>exact ⟨k,i,nm,rfl,q1 0 rfl,q2 1000000 rfl,f⟩
section
variable (t2:Bool) (ps:qaW) (np:Nat)
abbrev ouH (p:Bool×qaW×Nat×Nat):St:=match p.1 with
 |true=>⟨[(1,.sl t2 3 ps),(7,.sl true 6 p.2.1),(23,.sl t2 3 ps),(24,nat np),(25,nat p.2.2.2)],[]⟩
 |false=>⟨[(1,.sl t2 3 ps),(7,.bs 0 0 p.2.2.1),(23,.sl t2 3 ps),(24,nat np),(25,nat p.2.2.2)],[.row 6 p.2.1]⟩
abbrev ouE (p:Bool×qaW×Nat×Nat):St:=match p.1 with
 |true=>⟨[(1,.sl t2 3 ps),(7,.sl true 6 p.2.1),(23,.sl t2 3 ps),(24,nat np),(25,nat p.2.2.2),(26,boolX false)],[]⟩
 |false=>⟨[(1,.sl t2 3 ps),(7,.bs 0 0 p.2.2.1),(23,.sl t2 3 ps),(24,nat np),(25,nat p.2.2.2),(26,boolX false)],[.row 6 p.2.1]⟩
end
def OuI (np:Nat)(p:Bool×qaW×Nat×Nat):Prop:=p.2.2.1=p.2.1.length/\p.2.2.2<=np/\(∀e,e∈p.2.1->D T (7-(p.2.2.2:Int)) 11 e)/\(p.2.2.2<=6->p.2.1.length<=6^p.2.2.2)
theorem zfM {np:Nat}{p:Bool×qaW×Nat×Nat}(h:OuI np p):p.2.1.length<=50000:=by
 obtain ⟨l,m,f,j⟩:=h;by_cases a:p.2.2.2<=6
 ·have:=j a;have:6^p.2.2.2<=6^6:=Nat.pow_le_pow_right (by decide) a
  grind
 cases n:p.2.1 with
 |nil=>simp
 |cons x r=>have:=(oN (f x (by grind))).1;omega
theorem outer (t2:Bool)(ps:qaW){hp:Int}(hps:∀e,e∈ps->D T hp 7 e)(hlen:ps.length<=1000000){x0:List X}(hx0:D T 7 11 x0)(hτ:canon 0 τ=some (ouH t2 ps ps.length (true,[x0],1,0))):
  ∃e σ' B,((e=.ret/\∃bx,σ'=Ed bx/\zeJ bx)\/(∃p,e=.exit 0/\σ'=ouE t2 ps ps.length p/\p.2.2.1=p.2.1.length/\(∀y,y∈p.2.1->D T 7 11 y)/\p.2.1.length<=50000))/\∀M,B<=M->run (callF tab ext M) 0 M (.loop (loopAt 181 0)) τ=some (e,σ'):=by
 refine jO (nIn:=0) (b:=loopAt 181 0) (H:=ouH t2 ps ps.length) (I:=OuI ps.length) (μ:=fun p=>ps.length-p.2.2.2)
  (Q:=fun e σ'=>(e=.ret/\∃bx,σ'=Ed bx/\zeJ bx)\/(∃p,e=.exit 0/\σ'=ouE t2 ps ps.length p/\p.2.2.1=p.2.1.length/\(∀y,y∈p.2.1->D T 7 11 y)/\p.2.1.length<=50000))
  (fun p S=>?_) (a:=(true,[x0],1,0)) ⟨rfl,Nat.zero_le _,(fun e he=>by grind),fun _=>Nat.le_refl _⟩ hτ
 have P:=zfM S;obtain ⟨w,l,n,j⟩:=p;obtain ⟨L,i2,i3,i4⟩:=S;dsimp only at L i2 i3 i4 P ⊢;by_cases hj:j<ps.length
 ·have J:=aI hj;obtain ⟨x,F⟩:∃x,ps[j]?=some x:=⟨_,qad hj⟩;obtain ⟨k,i,m,rfl,p1,p2,p3⟩:=d7 (hps x (qap F));have O:∀e,e∈l->D T ((6-(j:Int))+1) 11 e:=fun e he=>by grind
  generalize W:ps.length=np at*;have next:∀{ns:qaW},ns.length<=6*n->(∀y,y∈ns->D T (6-(j:Int)) 11 y)->OuI np (false,ns,ns.length,j+1):=fun {ns} U V=>by
   refine ⟨rfl,by grind,fun y hy=>?_,fun pa=>?_⟩
   ·grind
   grind
  cases w with
  |true=>
   obtain ⟨e,σ',B,Y,f⟩:=innerS t2 ps l np j n (k:=k) (h:=6-(j:Int)) p1 p2 p3 L O P (τ:=⟨[(1,.sl t2 3 ps),(9,.ptr 0 0 0),(10,.bs 1 0 0),(23,.sl t2 3 ps),(24,nat np),(25,nat j),(29,.sl true 6 l),(30,nat n),(31,num 0)],[.var [num k,num i,strX m],.row 6 []]⟩) (by kernel_rfl);subst L;rcases Y with ⟨rfl,bx,rfl,E⟩|⟨ns,rfl,rfl,U,V⟩
   ·rcases E with ⟨a,ns,b,rfl⟩|⟨a,ns,u,b,rfl⟩;·exact .inr ⟨.ret,Ed [.var a,.row 6 ns,.var b],B,(by grind),.inl ⟨rfl,_,rfl,.inl ⟨_,_,_,rfl⟩⟩,fun M A=>ruB [(26,.b true),(27,.e [num k,num i,strX m])] [(.ret,Ed [.var a,.row 6 ns,.var b])] (pf3 J F (f M A))⟩
    exact .inr ⟨.ret,Ed [.var a,.row 6 ns,.row 6 u,.var b],B,(by grind),.inl ⟨rfl,_,rfl,.inr ⟨_,_,_,_,rfl⟩⟩,fun M A=>ruB [(26,.b true),(27,.e [num k,num i,strX m])] [(.ret,Ed [.var a,.row 6 ns,.row 6 u,.var b])] (pf3 J F (f M A))⟩
   have N:=next U V
   generalize ns.length=q at f N;refine .inl ⟨⟨[(1,.sl t2 3 ps),(7,.bs 1 0 q),(23,.sl t2 3 ps),(24,nat np),(25,nat (j+1))],[.var [num k,num i,strX m],.row 6 ns]⟩,(false,ns,q,j+1),B,fun M A=>?_,by kernel_rfl,N,by grind⟩;exact ruB [(26,.b true),(27,.e [num k,num i,strX m]),(46,.i (Int.ofNat (j+1)))] [(.exit 2,eiS t2 ps l np j l.length k i m ns q l.length)] (pf4 J F (f M A) (ay (j:=j) (by omega)))
  |false=>
   obtain ⟨e,σ',B,Y,f⟩:=zf9 t2 ps l np j n (k:=k) (h:=6-(j:Int)) p1 p2 p3 L O P (τ:=⟨[(1,.sl t2 3 ps),(9,.ptr 1 0 0),(10,.bs 2 0 0),(23,.sl t2 3 ps),(24,nat np),(25,nat j),(29,.bs 0 0 n),(30,nat n),(31,num 0)],[.row 6 l,.var [num k,num i,strX m],.row 6 []]⟩) (by kernel_rfl);rcases Y with ⟨rfl,bx,rfl,E⟩|⟨ns,rfl,rfl,U,V⟩
   ·rcases E with ⟨a,ns,b,rfl⟩|⟨a,ns,u,b,rfl⟩;·exact .inr ⟨.ret,Ed [.var a,.row 6 ns,.var b],B,(by grind),.inl ⟨rfl,_,rfl,.inl ⟨_,_,_,rfl⟩⟩,fun M A=>ruB [(26,.b true),(27,.e [num k,num i,strX m])] [(.ret,Ed [.var a,.row 6 ns,.var b])] (pf3 J F (f M A))⟩
    exact .inr ⟨.ret,Ed [.var a,.row 6 ns,.row 6 u,.var b],B,(by grind),.inl ⟨rfl,_,rfl,.inr ⟨_,_,_,_,rfl⟩⟩,fun M A=>ruB [(26,.b true),(27,.e [num k,num i,strX m])] [(.ret,Ed [.var a,.row 6 ns,.row 6 u,.var b])] (pf3 J F (f M A))⟩
   have N:=next U V
   generalize ns.length=q at f N;refine .inl ⟨⟨[(1,.sl t2 3 ps),(7,.bs 1 0 q),(23,.sl t2 3 ps),(24,nat np),(25,nat (j+1))],[.var [num k,num i,strX m],.row 6 ns,.row 6 l]⟩,(false,ns,q,j+1),B,fun M A=>?_,by kernel_rfl,N,by grind⟩;exact ruB [(26,.b true),(27,.e [num k,num i,strX m]),(46,.i (Int.ofNat (j+1)))] [(.exit 2,eiR t2 ps l np j n k i m ns q n)] (pf4 J F (f M A) (ay (j:=j) (by omega)))
 have pb:j=ps.length:=by omega
 have Z:∀y,y∈l->D T 7 11 y:=fun y hy=>iF (by omega) (i3 y hy);generalize W:ps.length=np at*;cases w with
 |true=>exact .inr ⟨_,_,0,(by grind),.inr ⟨(true,l,n,j),rfl,rfl,L,Z,P⟩,fun M _=>ruA [(26,.b false)] (pf1 (aG (j:=j) (k:=np) (by omega)))⟩
 |false=>exact .inr ⟨_,_,0,(by grind),.inr ⟨(false,l,n,j),rfl,rfl,L,Z,P⟩,fun M _=>ruA [(26,.b false)] (pf1 (aG (j:=j) (k:=np) (by omega)))⟩
section
variable (es:qaW) (n:Nat)
abbrev coS (ns:qaW) (q m:Nat):St:=⟨[(13,.bs 0 0 q),(55,.sl true 6 es),(56,nat n),(57,nat m)],[.row 6 ns]⟩
abbrev coR (ns:qaW) (q m:Nat):St:=⟨[(13,.bs 0 0 q),(55,.bs 1 0 n),(56,nat n),(57,nat m)],[.row 6 ns,.row 6 es]⟩
abbrev ceS (ns:qaW) (q m:Nat):St:=⟨[(13,.bs 0 0 q),(55,.sl true 6 es),(56,nat n),(57,nat m),(58,boolX false)],[.row 6 ns]⟩
abbrev ceR (ns:qaW) (q m:Nat):St:=⟨[(13,.bs 0 0 q),(55,.bs 1 0 n),(56,nat n),(57,nat m),(58,boolX false)],[.row 6 ns,.row 6 es]⟩
end
theorem copyS (es:qaW)(n:Nat)(hn:n=es.length)(hes:∀e,e∈es->D T 7 11 e)(hl:es.length<=50000)(hτ:canon 0 τ=some (coS es n [] 0 0)):
  ∃e σ' B,(∃ns:qaW,e=.exit 4/\σ'=ceS es n ns ns.length n/\ns.length=n/\∀y,y∈ns->Sm y)/\∀M,B<=M->run (callF tab ext M) 0 M (.loop (loopAt 181 2)) τ=some (e,σ'):=by
 refine jO (nIn:=0) (b:=loopAt 181 2) (H:=fun p:qaW×Nat×Nat=>coS es n p.1 p.2.1 p.2.2) (I:=fun p=>p.2.1=p.1.length/\p.2.2<=n/\p.1.length=p.2.2/\∀y,y∈p.1->Sm y) (μ:=fun p=>n-p.2.2)
  (Q:=fun e σ'=>∃ns:qaW,e=.exit 4/\σ'=ceS es n ns ns.length n/\ns.length=n/\∀y,y∈ns->Sm y)
  (fun p hp=>?_) (a:=([],0,0)) ⟨rfl,Nat.zero_le _,rfl,fun y hy=>by grind⟩ hτ
 obtain ⟨ns,q,m⟩:=p;obtain ⟨W,i2,Y,Z⟩:=hp;dsimp only at W i2 Y Z ⊢;by_cases hm:m<n
 ·have h1:=aI hm;have L:m<es.length:=by omega
  obtain ⟨x,V⟩:∃x,es[m]?=some x:=⟨_,qad L⟩;have U:=hes x (qap V);obtain ⟨h0,a,b,c,s,u,l,v,f,rfl,_⟩:=d11 (h:=6) U;obtain ⟨A,E,F,O,t,N,P,J,y1,B1,hc⟩:=LM U;have w:0+q=ns.length/\roomOk (q+[[num A,num E,num F,strX O,X.sl t 6 N,X.sl P 7 J]].length) (87+1)=true/\memN 0 (X.sl true 6 [[num A,num E,num F,strX O,X.sl t 6 N,X.sl P 7 J]]).rows=false:=⟨by omega,fP (by grind) (by grind),rfl⟩;refine .inl ⟨⟨[(13,.bs 2 0 (q+1)),(55,.sl true 6 es),(56,nat n),(57,nat (m+1))],[.dead,.var [num a,num b,num c,strX s,.sl u 6 l,.sl v 7 f],.row 6 (ns++[[num A,num E,num F,strX O,.sl t 6 N,.sl P 7 J]])]⟩,(ns++[[num A,num E,num F,strX O,.sl t 6 N,.sl P 7 J]],q+1,m+1),B1,fun M hM=>?_,by kernel_rfl,⟨by grind,by grind,by grind,fun y hy=>?_⟩,by grind⟩;·exact ruA [(58,.b true),(59,.e [num a,num b,num c,strX s,.sl u 6 l,.sl v 7 f]),(63,.p (.agg [num A,num E,num F,strX O,.sl t 6 N,.sl P 7 J])),(65,.app),(66,.i (Int.ofNat (m+1)))] (pf5 h1 V (hc M hM) w (ay (j:=m) (by omega)))
  grind
 have S:m=n:=by omega
 subst S;subst W;exact .inr ⟨_,_,0,(by grind),⟨ns,rfl,rfl,Y,Z⟩,fun M _=>ruA [(58,.b false)] (pf1 (aG (qan m)))⟩
theorem zjY (es:qaW)(n:Nat)(hn:n=es.length)(hes:∀e,e∈es->D T 7 11 e)(hl:es.length<=50000)(hτ:canon 0 τ=some (coR es n [] 0 0)):
  ∃e σ' B,(∃ns:qaW,e=.exit 4/\σ'=ceR es n ns ns.length n/\ns.length=n/\∀y,y∈ns->Sm y)/\∀M,B<=M->run (callF tab ext M) 0 M (.loop (loopAt 181 2)) τ=some (e,σ'):=by
 refine jO (nIn:=0) (b:=loopAt 181 2) (H:=fun p:qaW×Nat×Nat=>coR es n p.1 p.2.1 p.2.2) (I:=fun p=>p.2.1=p.1.length/\p.2.2<=n/\p.1.length=p.2.2/\∀y,y∈p.1->Sm y) (μ:=fun p=>n-p.2.2)
  (Q:=fun e σ'=>∃ns:qaW,e=.exit 4/\σ'=ceR es n ns ns.length n/\ns.length=n/\∀y,y∈ns->Sm y)
  (fun p hp=>?_) (a:=([],0,0)) ⟨rfl,Nat.zero_le _,rfl,fun y hy=>by grind⟩ hτ
 obtain ⟨ns,q,m⟩:=p;obtain ⟨Y,i2,Z,i4⟩:=hp;dsimp only at Y i2 Z i4 ⊢;by_cases V:m<n
 ·have h1:=aI V;have L:m<es.length:=by omega
  obtain ⟨x,W⟩:∃x,es[m]?=some x:=⟨_,qad L⟩;have U:=hes x (qap W);obtain ⟨h0,a,b,c,s,u,l,v,f,rfl,_⟩:=d11 (h:=6) U;obtain ⟨A,E,F,O,t,N,P,J,y1,B1,hc⟩:=LM U;have w:0+q=ns.length/\roomOk (q+[[num A,num E,num F,strX O,X.sl t 6 N,X.sl P 7 J]].length) (87+1)=true/\memN 0 (X.sl true 6 [[num A,num E,num F,strX O,X.sl t 6 N,X.sl P 7 J]]).rows=false:=⟨by omega,fP (by grind) (by grind),rfl⟩;refine .inl ⟨⟨[(13,.bs 3 0 (q+1)),(55,.bs 1 0 n),(56,nat n),(57,nat (m+1))],[.dead,.row 6 es,.var [num a,num b,num c,strX s,.sl u 6 l,.sl v 7 f],.row 6 (ns++[[num A,num E,num F,strX O,.sl t 6 N,.sl P 7 J]])]⟩,(ns++[[num A,num E,num F,strX O,.sl t 6 N,.sl P 7 J]],q+1,m+1),B1,fun M hM=>?_,by kernel_rfl,⟨by grind,by grind,by grind,fun y hy=>?_⟩,by grind⟩;·exact ruA [(58,.b true),(59,.at),(60,.ld [num a,num b,num c,strX s,.sl u 6 l,.sl v 7 f]),(63,.p (.agg [num A,num E,num F,strX O,.sl t 6 N,.sl P 7 J])),(65,.app),(66,.i (Int.ofNat (m+1)))] (pf6 h1 V (hz W) (hc M hM) w (ay (j:=m) (by omega)))
  grind
 have S:m=n:=by omega
 subst S;subst Y;exact .inr ⟨_,_,0,(by grind),⟨ns,rfl,rfl,Z,i4⟩,fun M _=>ruA [(58,.b false)] (pf1 (aG (qan m)))⟩
end Ct
open Go.Em
def uw:Slt:=⟨.mk 0 0 0 ⟨#[]⟩ [] [],0,0,[],[]⟩
theorem TU (N:Nat)(hN:180020<=N)(x:Slt)(key:Val)(hx:x.key.ok):Gam.pureD (callF tab ext N) 132 [.agg x.cells,.agg key.cells]=some (num (cu x.key key)):=by obtain ⟨M,rfl⟩:=pR_ N;have h:=yw 60000 M x.key key hx (by omega) (by unfold Val.ok at hx;omega);obtain ⟨⟨k,i,s,u,w,l⟩,A,c,y,B⟩:=x;obtain ⟨n,m,q,f,j,a⟩:=key;dsimp only at h ⊢;generalize cu (.mk k i s u w l) (.mk n m q f j a)=r at h;exact puA [(8,.p (num r))] (pf1 h) (num r)
theorem Xy {s:Nat}(h:s<4294967296):IntKind.i64.wrap (Int.ofNat (s /2))=Int.ofNat (s /2):=by grind[IntKind.wrap_i64]
theorem zas {s:Nat}(h:s<4294967296):IntKind.u64.wrap (Int.ofNat s)=Int.ofNat s:=by grind[IntKind.wrap_u64]
theorem zaN {s:Nat}:(Int.ofNat s).fdiv (2^min (Int.toNat 1) IntKind.u64.bits)=Int.ofNat (s /2):=by
 have e:(2:Int)^min (Int.toNat 1) IntKind.u64.bits=2:=by decide
 grind
theorem zee {a b:Nat}(h:a<4294967296)(h':b<4294967296):IntKind.i64.wrap (Int.ofNat a+Int.ofNat b)=Int.ofNat (a+b):=by grind[IntKind.wrap_i64]
inductive UM (ss:List Slt) (key:Val):Nat->Nat->Nat->Prop
 |stop (lo:Nat):UM ss key lo lo lo
 |lt {lo hi r:Nat} (h:lo<hi) (hc:cu (ss.getD ((lo+hi) /2) uw).key key<0) (hr:UM ss key ((lo+hi) /2+1) hi r):UM ss key lo hi r
 |ge {lo hi r:Nat} (h:lo<hi) (hc:¬cu (ss.getD ((lo+hi) /2) uw).key key<0) (hr:UM ss key lo ((lo+hi) /2) r):UM ss key lo hi r
theorem vY (ss:List Slt)(key:Val):∀(d lo hi:Nat),lo<=hi->hi-lo<=d->∃r,lo<=r/\r<=hi/\UM ss key lo hi r
 |0,lo,hi,h,hd=>by
  obtain rfl:lo=hi:=by omega
  exact ⟨lo,Nat.le_refl _,Nat.le_refl _,.stop lo⟩
 |d+1,lo,hi,h,hd=>by
  by_cases hlt:lo<hi
  ·by_cases hc:cu (ss.getD ((lo+hi) /2) uw).key key<0;·obtain ⟨r,h1,h2,h3⟩:=vY ss key d ((lo+hi) /2+1) hi (by omega) (by omega);exact ⟨r,by omega,h2,.lt hlt hc h3⟩
   obtain ⟨r,h1,h2,h3⟩:=vY ss key d lo ((lo+hi) /2) (by omega) (by omega);exact ⟨r,h1,by omega,.ge hlt hc h3⟩
  obtain rfl:lo=hi:=by omega
  exact ⟨lo,Nat.le_refl _,Nat.le_refl _,.stop lo⟩
structure zep (ss:List Slt) (key:Val) (i:Nat):Prop where
 before:0<i->cu (ss.getD (i-1) uw).key key<0
 behind:i<ss.length->¬cu (ss.getD i uw).key key<0
theorem vX {ss:List Slt}{key:Val}{lo hi r:Nat}(h:UM ss key lo hi r)(h1:0<lo->cu (ss.getD (lo-1) uw).key key<0)(h2:hi<ss.length->¬cu (ss.getD hi uw).key key<0):zep ss key r:=by
 induction h with
 |stop lo=>exact ⟨h1,h2⟩
 |lt _ hc _ ih=>exact ih (fun _=>by simpa using hc) h2
 |ge _ hc _ ih=>exact ih h1 (fun _=>hc)
section
variable (l:qaW) (k i s:Int) (tx:qaX) (vl fl:qaW) (n lo hi:Nat)
def WY:List X:=[num k,num i,num s,strX tx,.sl false 6 vl,.sl false 7 fl]
def seH:St:=⟨[(0,.sl false 10 l),(2,.fn 132 []),(4,.ptr 0 0 0),(8,nat n),(9,nat lo),(10,nat hi)],[.var (WY k i s tx vl fl)]⟩
def seE:St:=⟨[(0,.sl false 10 l),(2,.fn 132 []),(4,.ptr 0 0 0),(8,nat n),(9,nat lo),(10,nat hi),(17,boolX false)],[.var (WY k i s tx vl fl)]⟩
theorem ng:canon 0 (seH l k i s tx vl fl n lo hi)=some (seH l k i s tx vl fl n lo hi):=by kernel_rfl
theorem Qs (h:¬lo<hi)(M:Nat):run (callF tab ext M) 0 M (loopAt 131 0) (seH l k i s tx vl fl n lo hi)=some (.exit 0,seE l k i s tx vl fl n lo hi):=
 ruA [(17,.b false)] (pf1 (aG h))
theorem qV (x:Slt)(r:Int)(hlt:lo<hi)(hh:hi<4294967)(hg:l[(lo+hi) /2]?=some x.cells)(M:Nat)(hc:Gam.pureD (callF tab ext M) 132 [.agg x.cells,.agg (WY k i s tx vl fl)]=some (num r)):
  (r<0->run (callF tab ext M) 0 M (loopAt 131 0) (seH l k i s tx vl fl n lo hi)=some (.norm,seH l k i s tx vl fl n ((lo+hi) /2+1) hi))/\
  (¬r<0->run (callF tab ext M) 0 M (loopAt 131 0) (seH l k i s tx vl fl n lo hi)=some (.norm,seH l k i s tx vl fl n lo ((lo+hi) /2))):=by
 have w:=aI hlt;have y:=zee (a:=lo) (b:=hi) (by omega) (by omega);have A:=zas (s:=lo+hi) (by omega);have B:=zaN (s:=lo+hi);have E:=Xy (s:=lo+hi) (by omega);have P:=ay (j:=(lo+hi) /2) (by omega);obtain ⟨⟨H,F,N,h,m,f⟩,L,c,J,O⟩:=x;constructor;·intro u;have q:decide (r<0)=true:=decide_eq_true u;exact ruA [(17,.b true),(20,.i (Int.ofNat (lo+hi))),(21,.i (Int.ofNat (lo+hi))),(22,.i (Int.ofNat ((lo+hi) /2))),(23,.i (Int.ofNat ((lo+hi) /2))),(27,.e (aJ H F N h (ah m) (aj f) L c (aA J) (ah O))),(30,.p (num r)),(31,.b true),(33,.i (Int.ofNat ((lo+hi) /2+1)))] (pf9 w y A B E hg hc q P)
 intro u;have q:decide (r<0)=false:=decide_eq_false u;exact ruA [(17,.b true),(20,.i (Int.ofNat (lo+hi))),(21,.i (Int.ofNat (lo+hi))),(22,.i (Int.ofNat ((lo+hi) /2))),(23,.i (Int.ofNat ((lo+hi) /2))),(27,.e (aJ H F N h (ah m) (aj f) L c (aA J) (ah O))),(30,.p (num r)),(31,.b false)] (pf8 w y A B E hg hc q)
end
theorem X6 (s:Stt)(hs:s.small)(key:Val):∃(i:Nat) (b:Bool),i<=s.slots.length/\(b=true->∃h:i<s.slots.length,cu s.slots[i].key key=0)/\(b=false->zep s.slots key i/\∀h:i<s.slots.length,¬cu s.slots[i].key key=0)/\∀N,190040<=N->Gam.pureD (callF tab ext N) 83 [.agg s.cells,.agg key.cells]=some (.tup [nat i,boolX b]):=by
 obtain ⟨a,b0,ss⟩:=s;have hl:ss.length<=100:=hs.slots;have hx:∀x,x∈ss->x.ok:=fun x h=>(hs.slot x h).1;have P:=aN ss;obtain ⟨r,_,hr,hS⟩:=vY ss key ss.length 0 ss.length (by omega) (by omega);have H:=vX hS (fun h=>absurd h (by omega)) (fun h=>absurd h (by omega));have n:∀(j:Nat) (hj:j<ss.length) (N:Nat),180020<=N->Gam.pureD (callF tab ext N) 132 [.agg ss[j].cells,.agg key.cells]=some (num (cu ss[j].key key)):=fun j hj N W=>TU N W _ _ (hx _ (qae hj)).key;have O:∀(j:Nat) (hj:j<ss.length),ss.getD j uw=ss[j]:=fun j hj=>by rw [qav,qad hj];rfl
 obtain ⟨k,i,s,l,m,f⟩:=key;have q:∀M,190000<=M->∀τ,canon 0 τ=some (seH (ak ss) k i s l (ah m) (aj f) (ak ss).length 0 (ak ss).length)->run (callF tab ext M) 0 M (.loop (loopAt 131 0)) τ=some (.exit 0,seE (ak ss) k i s l (ah m) (aj f) (ak ss).length r r):=fun M hM τ hτ=>by
  refine loop_dec (α:=Nat×Nat) (σ:=fun a=>seH (ak ss) k i s l (ah m) (aj f) (ak ss).length a.1 a.2) (I:=fun a=>a.2<=ss.length/\UM ss (.mk k i s l m f) a.1 a.2 r) (μ:=fun a=>a.2-a.1) (fun a ha=>?_) (by simp) (a:=(0,(ak ss).length)) ⟨by dsimp only;omega,by rw [P];exact hS⟩ hτ (by dsimp only;omega);obtain ⟨B,w⟩:=a;obtain ⟨J,L⟩:=ha;dsimp only at J L ⊢;cases L with
  |stop=>right;exact Qs _ _ _ _ _ _ _ _ _ _ (qan _) M
  |lt h u hr'=>
   left;have E:(B+w) /2<ss.length:=by omega
   rw [O _ E] at u;have:=(qV (ak ss) k i s l (ah m) (aj f) (ak ss).length B w ss[(B+w) /2] _ h (by omega) (aW E) M (n _ E M (by omega))).1 u;exact ⟨_,((B+w) /2+1,w),this,ng ..,⟨J,hr'⟩,by dsimp only;omega⟩
  |ge h u hr'=>
   left;have E:(B+w) /2<ss.length:=by omega
   rw [O _ E] at u;have:=(qV (ak ss) k i s l (ah m) (aj f) (ak ss).length B w ss[(B+w) /2] _ h (by omega) (aW E) M (n _ E M (by omega))).2 u;exact ⟨_,(B,(B+w) /2),this,ng ..,⟨by dsimp only;omega,hr'⟩,by dsimp only;omega⟩
 by_cases A:r<ss.length
 ·refine ⟨r,cu ss[r].key (.mk k i s l m f)==0,hr,fun h=>⟨A,eq_of_beq h⟩,fun h=>⟨H,fun _ hz=>by rw [hz] at h;cases h⟩,fun N W=>?_⟩;obtain ⟨M,rfl⟩:∃M,N=M+2:=⟨N-2,by omega⟩;have u:=n r A M (by omega);have Y:=aW A;generalize cu ss[r].key (.mk k i s l m f)=z at u ⊢;generalize ss[r]=x at u Y;have y:=q M (by omega) ⟨[(0,.sl false 10 (ak ss)),(2,.fn 132 []),(4,.ptr 0 0 0),(8,nat (ak ss).length),(9,num 0),(10,nat (ak ss).length)],[.var (WY k i s l (ah m) (aj f))]⟩ (by kernel_rfl);have U:decide (Int.ofNat r<Int.ofNat (ak ss).length)=true:=aI (by omega);have V:Gam.pureD (callF tab ext (M+1)) 131 [.sl false 10 (ak ss),.agg (Val.mk k i s l m f).cells,.fn 132 []]=some (.tup [nat r,boolX (z==0)]):=by
   obtain ⟨⟨k',i',s',Q,S,F⟩,n2,c,ms,vs⟩:=x;cases Z:(z==0) with
   |true=>exact puB [(38,.b true),(43,.e (aJ k' i' s' Q (ah S) (aj F) n2 c (aA ms) (ah vs))),(46,.p (num z)),(47,.b true)] [(.exit 0,seE (ak ss) k i s l (ah m) (aj f) (ak ss).length r r)] (pf5 y U Y u Z) (.tup [nat r,boolX true])
   |false=>exact puB [(38,.b true),(43,.e (aJ k' i' s' Q (ah S) (aj F) n2 c (aA ms) (ah vs))),(46,.p (num z)),(47,.b false)] [(.exit 0,seE (ak ss) k i s l (ah m) (aj f) (ak ss).length r r)] (pf5 y U Y u Z) (.tup [nat r,boolX false])
  exact puA [(9,.p (.tup [nat r,boolX (z==0)]))] (pf1 V) (.tup [nat r,boolX (z==0)])
 refine ⟨r,false,hr,fun h=>(by cases h),fun _=>⟨H,fun h=>absurd h A⟩,fun N W=>?_⟩;obtain ⟨M,rfl⟩:∃M,N=M+2:=⟨N-2,by omega⟩;have y:=q M (by omega) ⟨[(0,.sl false 10 (ak ss)),(2,.fn 132 []),(4,.ptr 0 0 0),(8,nat (ak ss).length),(9,num 0),(10,nat (ak ss).length)],[.var (WY k i s l (ah m) (aj f))]⟩ (by kernel_rfl);have U:decide (Int.ofNat r<Int.ofNat (ak ss).length)=false:=aG (by omega);have V:Gam.pureD (callF tab ext (M+1)) 131 [.sl false 10 (ak ss),.agg (Val.mk k i s l m f).cells,.fn 132 []]=some (.tup [nat r,boolX false]):=
  puB [(38,.b false)] [(.exit 0,seE (ak ss) k i s l (ah m) (aj f) (ak ss).length r r)] (pf2 y U) (.tup [nat r,boolX false])
 exact puA [(9,.p (.tup [nat r,boolX false]))] (pf1 V) (.tup [nat r,boolX false])
end Go.Proofs.YtcbeoccmflnejaaGreatDoor
