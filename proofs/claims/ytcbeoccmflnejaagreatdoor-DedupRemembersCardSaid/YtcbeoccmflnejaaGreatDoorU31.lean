/-.-/
import Derived.Test.YtcbeoccmflnejaaGreatDoorU27
import Derived.Test.YtcbeoccmflnejaaGreatDoorU28
import Derived.Test.YtcbeoccmflnejaaGreatDoorU29
import Derived.Test.YtcbeoccmflnejaaGreatDoorU30
set_option linter.all false
namespace Go.Proofs.YtcbeoccmflnejaaGreatDoor
open Go Go.Em Go.Ab
set_option maxRecDepth 100000
variable {c:Ctr}{args:List X}{s:Nat}{ρ:Rho}
namespace Ct
abbrev vsE:List Sh:=[int,int,.s,.zG 6 1 0 1000000,.zG 5 10 0 1000000]
theorem zin {h:Int}{xs:List X}(hd:D T h 10 xs):1<=h/\∃q:Int×Int×Nat×Nat,q∈[((1:Int),(1:Int),1,0),(2,2,0,0),(3,3,0,1),(4,15,0,2),(16,16,0,1),(17,17,0,2),(18,20,0,1),(21,21,0,3),(22,22,0,0),(23,23,0,2),(24,24,0,3),(25,25,0,2),(26,26,0,0),(27,28,0,1)]/\
  ∃op i s t l t' ar,xs=[num op,num i,strX s,.sl t 6 l,.sl t' 5 ar]/\q.1<=op/\op<=q.2.1/\s.size<=1000000/\q.2.2.1<=l.length/\l.length<=1000000/\(∀e,e∈l->D T (h-1) 1 e)/\q.2.2.2<=ar.length/\ar.length<=1000000/\∀e,e∈ar->D T (h-1) 10 e:=by
 obtain ⟨n,a,u,y⟩:=oN hd;obtain ⟨q,w,rfl⟩:=qam.1 (show a∈List.map _ _ from u);refine ⟨n,q,w,?_⟩
 match xs,y with
 |[x,_,_,_,_],⟨k1,k2,k3,k4,k5,_⟩=>
  obtain ⟨i,rfl⟩:=mM k2;obtain ⟨s,rfl,_,A⟩:=zgr k3;obtain ⟨t,l,rfl,B,E,F⟩:=Gg k4;obtain ⟨t',ar,rfl,f,j,m⟩:=Gg k5
  match x,k1 with
  |.v (.int _ op),⟨rfl,w1,w2⟩=>exact ⟨op,i,s,t,l,t',ar,rfl,w1 _ rfl,w2 _ rfl,A,B,E,F,f,j,m⟩
theorem zjP {lo hi:Int}(h0:ρ 0=0)(hp:0<c.m)(hs:s<c.m)(h1:lo<=ρ s)(h2:ρ s<=hi):aV c.m ρ (bd s lo hi):=by
 refine .cons (aF.2 ⟨hp,hs,?_⟩) (.cons (aF.2 ⟨hs,hp,?_⟩) .nil);·rw [Lin.k_v h0];unfold Lin.v;dsimp only;omega
 rw [Lin.k_v h0];unfold Lin.v;dsimp only;omega
theorem zgo {k:Int}(h0:ρ 0=0)(hp:0<c.m)(hs:s<c.m)(h1:k<=ρ s):(au (.k k) ⟨s,0⟩).ok c.m ρ:=aF.2 ⟨hp,hs,by rw [Lin.k_v h0];unfold Lin.v;dsimp only;omega⟩
theorem Un:∀k,k<14->k≠3->ig (evP k)=true:=fun k f a=>by
 match k with
 |0=>exact tP0
 |1=>exact tP1
 |2=>exact tP2
 |3=>exact absurd rfl a
 |4=>exact tP4
 |5=>exact tP5
 |6=>exact tP6
 |7=>exact tP7
 |8=>exact tP8
 |9=>exact tP9
 |10=>exact zmB
 |11=>exact zmA
 |12=>exact zmz
 |13=>exact zmy
 |k+14=>omega
theorem zea:∀k,k<12->ig (evQ k)=true:=fun k a=>by
 match k with
 |0=>exact tQ0
 |1=>exact tQ1
 |2=>exact tQ2
 |3=>exact tQ3
 |4=>exact tQ4
 |5=>exact tQ5
 |6=>exact tQ6
 |7=>exact tQ7
 |8=>exact tQ8
 |9=>exact tQ9
 |10=>exact zmx
 |11=>exact zmw
 |k+12=>omega
theorem zgv (hc:c.args=[.ptr 0 (.k 0) 0,.el 10 ⟨1,0⟩])(h0:ρ 0=0)(h:GL T c.m ρ c.args args):∃xs,args=[.ptr 0 0 0,.agg xs]/\D T (ρ 1) 10 xs:=by
 rw [hc] at h;cases h with
 |cons w1 h=>cases h with
  |cons w2 h=>cases h with
   |nil=>
    match w1,w2 with
    |.ptr (e':=e') _ e,.el (xs:=xs) _ d=>
     rw [Lin.k_v h0] at e;obtain rfl:e'=0:=by omega
     refine ⟨xs,rfl,?_⟩;unfold Lin.v at d;dsimp only at d;rw [Int.add_zero] at d;exact d
theorem zdk {inb:List Bx}(hs:evA.Sat T ρ args inb):∃q:Part,q.1.f=evA.f/\(∃orc,AP tab ⟨T,K,evL,evG,some q.2,evA.rank⟩ orc q.1=true)/\Nat.blt q.2.s q.1.m=true/\∃ρ',q.1.Sat T ρ' args inb/\(∀l,evA.mu=some l->q.2.v ρ'<=l.v ρ)/\(q.1.Res T (callF tab ext) ρ' args inb->evA.Res T (callF tab ext) ρ args inb):=by
 obtain ⟨xs,rfl,W⟩:=zgv rfl hs.zero hs.args;have J:BIs T [.jD 0 6 kM] inb:=dR hs.zero [.jD 0 6 kM] (k:=2) (aV.right (F:=(qK (.k 0) 1 [.p 0,.el 10]).2.2) hs.pre) hs.inb;obtain ⟨h1,q,P,n,i,s,t,l,B,y,rfl,Q,S,q3,q4,q5,q6,q7,q8,q9⟩:=zin W;have hx:IsL T (ρ 1-1) vsE [num n,num i,strX s,.sl t 6 l,.sl B 5 y]:=⟨⟨n,rfl⟩,⟨i,rfl⟩,⟨s,rfl,by unfold dW;omega⟩,⟨t,l,rfl,by omega,by omega,q6⟩,⟨B,y,rfl,by omega,by omega,q9⟩,trivial⟩;obtain ⟨ρ',r1,A⟩:=zfl (f:=92) (l:=vsE) (inb:=[.jD 0 6 kM]) (mu:=none) (outs:=[(val,[.jD 0 6 kM])]) (i:=0) rfl rfl (by omega) hx J;have V:GL T ev0.m ρ' [.ptr 0 (.k 0) 0,.agg [.i .i64 ⟨2,0⟩,.i .i64 ⟨3,0⟩,.s ⟨4,0⟩,.sl none 6 1 ⟨1,0⟩ ⟨5,0⟩,.sl none 5 10 ⟨1,0⟩ ⟨6,0⟩]] [.ptr 0 0 0,.agg [num n,num i,strX s,.sl t 6 l,.sl B 5 y]]:=A.args;obtain ⟨_,w⟩:=gl2 V;obtain ⟨_,e,w⟩:=zgi w;cases e;obtain ⟨_,_,e,v1,w⟩:=jh w;cases e;obtain ⟨_,_,e,v2,w⟩:=jh w;cases e;obtain ⟨_,_,e,v3,w⟩:=jh w;cases e;obtain ⟨_,_,e,v4,w⟩:=jh w;cases e;obtain ⟨_,_,e,v5,w⟩:=jh w;cases e;have e2:n=ρ' 2:=sI v1;have e5:(l.length:Int)=ρ' 5:=by
  cases v4 with
  |sl _ _ _ q _=>rw [q];unfold Lin.v;show ρ' 5+0=_;omega
 have e6:(y.length:Int)=ρ' 6:=by
  cases v5 with
  |sl _ _ _ q _=>rw [q];unfold Lin.v;show ρ' 6+0=_;omega
 have H:=A.zero;have Y:(6:Nat)<ev0.m:=by decide
 have N:(5:Nat)<ev0.m:=by decide
 have M:(2:Nat)<ev0.m:=by decide
 have u:0<ev0.m:=by decide
 have E:∀(p:List Fact),aV ev0.m ρ' p->(∃orc,AP tab ⟨T,K,evL,evG,some ⟨1,1⟩,0⟩ orc (ev0.with [p])=true)->∃q:Part,q.1.f=evA.f/\(∃orc,AP tab ⟨T,K,evL,evG,some q.2,evA.rank⟩ orc q.1=true)/\Nat.blt q.2.s q.1.m=true/\∃ρ',q.1.Sat T ρ' [.ptr 0 0 0,.agg [num n,num i,strX s,.sl t 6 l,.sl B 5 y]] inb/\(∀l,evA.mu=some l->q.2.v ρ'<=l.v ρ)/\(q.1.Res T (callF tab ext) ρ' [.ptr 0 0 0,.agg [num n,num i,strX s,.sl t 6 l,.sl B 5 y]] inb->evA.Res T (callF tab ext) ρ [.ptr 0 0 0,.agg [num n,num i,strX s,.sl t 6 l,.sl B 5 y]] inb):=fun p hp L=>
  ⟨(ev0.with [p],⟨1,1⟩),rfl,L,by kernel_rfl,ρ',Ctr.Sat.with A hp,(fun l' e=>by
   cases e;unfold Lin.v;dsimp only;omega),fun hr=>VQ (fun o Z=>by rw [qaa.1 Z];exact ⟨rfl,rfl⟩) hs.zero hs.pos (VX (mu:=none) H u hr)⟩
 have U:q=(4,15,0,2)\/∃k,k<14/\k≠3/\O9.getD k []=bd 2 q.1 q.2.1++[au (.k (q.2.2.1:Int)) ⟨5,0⟩,au (.k (q.2.2.2:Int)) ⟨6,0⟩]:=by
  simp only [qal,List.not_mem_nil,or_false] at P;rcases P with rfl|rfl|rfl|rfl|rfl|rfl|rfl|rfl|rfl|rfl|rfl|rfl|rfl|rfl;·exact .inr ⟨0,by decide,by decide,rfl⟩
  ·exact .inr ⟨1,by decide,by decide,rfl⟩
  ·exact .inr ⟨2,by decide,by decide,rfl⟩
  ·exact .inl rfl
  ·exact .inr ⟨4,by decide,by decide,rfl⟩
  ·exact .inr ⟨5,by decide,by decide,rfl⟩
  ·exact .inr ⟨6,by decide,by decide,rfl⟩
  ·exact .inr ⟨7,by decide,by decide,rfl⟩
  ·exact .inr ⟨8,by decide,by decide,rfl⟩
  ·exact .inr ⟨9,by decide,by decide,rfl⟩
  ·exact .inr ⟨10,by decide,by decide,rfl⟩
  ·exact .inr ⟨11,by decide,by decide,rfl⟩
  ·exact .inr ⟨12,by decide,by decide,rfl⟩
  exact .inr ⟨13,by decide,by decide,rfl⟩
 have h:∀(lo hi:Int) (a b:Int),lo<=n->n<=hi->a<=l.length->b<=y.length->aV ev0.m ρ' (bd 2 lo hi++[au (.k a) ⟨5,0⟩,au (.k b) ⟨6,0⟩]):=fun lo hi a b c1 c2 c3 c4=>aV.append (zjP (c:=ev0) H u M (by omega) (by omega)) (.cons (zgo (c:=ev0) H u N (by omega)) (.cons (zgo (c:=ev0) H u Y (by omega)) .nil));rcases U with rfl|⟨k,k1,k2,L⟩
 ·dsimp only at Q S q4 q7;obtain ⟨j,O,pa⟩:∃j:Nat,j<12/\n=(j:Int)+4:=⟨(n-4).toNat,by omega,by omega⟩;have hw:Bf.getD j []=bd 2 ((j:Int)+4) ((j:Int)+4)++[au (.k 0) ⟨5,0⟩,au (.k 2) ⟨6,0⟩]:=by unfold Bf;rw [qav,qaA,List.getElem?_range O];rfl
  refine E (Bf.getD j []) (by rw [hw];exact h _ _ _ _ (by omega) (by omega) (by omega) (by omega)) ⟨evO,zea j O⟩
 exact E (O9.getD k []) (by rw [L];exact h _ _ _ _ Q S (by omega) (by omega)) ⟨evO,Un k k1 k2⟩
theorem ziu:evB.rank=1:=by kernel_rfl
theorem zit:evC.rank=2:=by kernel_rfl
theorem muB:evB.mu=some ⟨1,0⟩:=by kernel_rfl
theorem muC:evC.mu=some ⟨1,0⟩:=by kernel_rfl
theorem zof:Nat.blt (⟨1,0⟩:Lin).s evB.m=true:=by kernel_rfl
theorem zoe:Nat.blt (⟨1,0⟩:Lin).s evC.m=true:=by kernel_rfl
theorem zob:AP tab ⟨T,K,evL,evG,some ⟨1,0⟩,evB.rank⟩ evO evB=true:=by rw [ziu];exact zid
theorem zoa:AP tab ⟨T,K,evL,evG,some ⟨1,0⟩,evC.rank⟩ evO evC=true:=by rw [zit];exact zeW
theorem noE:FC ext evG=true:=by kernel_rfl
theorem muE:evG.all Gy=true:=by kernel_rfl
theorem zgq:aB T Gm evG:=Oc (L:=evL) (K:=K) zgp noE muE fun c a ρ j l f=>by
 rcases qal.1 (show c∈[evA,evB,evC] from a) with h|a;·subst h;exact zdk f
 rcases qal.1 a with h|a;·subst h;exact Fe (c:=evB) (orc:=evO) muB zof zob f
 have h:=qaa.1 a;subst h;exact Fe (c:=evC) (orc:=evO) muC zoe zoa f
end Ct
end Go.Proofs.YtcbeoccmflnejaaGreatDoor
