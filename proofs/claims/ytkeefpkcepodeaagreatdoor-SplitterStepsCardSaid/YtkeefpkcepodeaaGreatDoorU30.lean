/-.-/
import Derived.Test.YtkeefpkcepodeaaGreatDoorU26
import Derived.Test.YtkeefpkcepodeaaGreatDoorU27
import Derived.Test.YtkeefpkcepodeaaGreatDoorU28
import Derived.Test.YtkeefpkcepodeaaGreatDoorU29
set_option linter.all false
namespace Go.Proofs.YtkeefpkcepodeaaGreatDoor
open Go Go.Em Go.Ab
set_option maxRecDepth 100000
variable {c:Ctr}{args:List X}{s:Nat}{ρ:Rho}
namespace Ct
abbrev vsE:List Sh:=[int,int,.s,.zQ 6 1 0 1000000,.zQ 5 10 0 1000000]
theorem zq6 {h:Int}{xs:List X}(hd:D T h 10 xs):1<=h/\∃q:Int×Int×Nat×Nat,q∈[((1:Int),(1:Int),1,0),(2,2,0,0),(3,3,0,1),(4,15,0,2),(16,16,0,1),(17,17,0,2),(18,20,0,1),(21,21,0,3),(22,22,0,0),(23,23,0,2),(24,24,0,3),(25,25,0,2),(26,26,0,0),(27,28,0,1)]/\
  ∃op i s t l t' ar,xs=[num op,num i,strX s,.sl t 6 l,.sl t' 5 ar]/\q.1<=op/\op<=q.2.1/\s.size<=1000000/\q.2.2.1<=l.length/\l.length<=1000000/\(∀e,e∈l->D T (h-1) 1 e)/\q.2.2.2<=ar.length/\ar.length<=1000000/\∀e,e∈ar->D T (h-1) 10 e:=by
 obtain ⟨n,a,u,y⟩:=mP hd;obtain ⟨q,w,rfl⟩:=qah.1 (show a∈List.map _ _ from u);refine ⟨n,q,w,?_⟩
 match xs,y with
 |[x,_,_,_,_],⟨k1,k2,k3,k4,k5,_⟩=>
  obtain ⟨i,rfl⟩:=jX k2;obtain ⟨s,rfl,_,A⟩:=zhd k3;obtain ⟨t,l,rfl,B,E,F⟩:=Dv k4;obtain ⟨t',ar,rfl,f,j,m⟩:=Dv k5
  match x,k1 with
  |.v (.int _ op),⟨rfl,w1,w2⟩=>exact ⟨op,i,s,t,l,t',ar,rfl,w1 _ rfl,w2 _ rfl,A,B,E,F,f,j,m⟩
theorem ztd {lo hi:Int}(h0:ρ 0=0)(hp:0<c.m)(hs:s<c.m)(h1:lo<=ρ s)(h2:ρ s<=hi):aV c.m ρ (bd s lo hi):=by
 refine .cons (aC.2 ⟨hp,hs,?_⟩) (.cons (aC.2 ⟨hs,hp,?_⟩) .nil);·rw [Lin.k_v h0];unfold Lin.v;dsimp only;omega
 rw [Lin.k_v h0];unfold Lin.v;dsimp only;omega
theorem zoV {k:Int}(h0:ρ 0=0)(hp:0<c.m)(hs:s<c.m)(h1:k<=ρ s):(aj (.k k) ⟨s,0⟩).ok c.m ρ:=aC.2 ⟨hp,hs,by rw [Lin.k_v h0];unfold Lin.v;dsimp only;omega⟩
theorem zcq:∀k,k<14->k≠3->jH (evP k)=true:=fun k f a=>by
 match k with
 |0=>exact tP0
 |1=>exact tP1
 |2=>exact tP2
 |3=>exact absurd rfl a
 |4=>exact tP4
 |5=>exact tP5
 |6=>exact tP6
 |7=>exact tP7
 |8=>exact tP8
 |9=>exact tP9
 |10=>exact zwp
 |11=>exact zwo
 |12=>exact zwn
 |13=>exact zwm
 |k+14=>omega
theorem zmf:∀k,k<12->jH (evQ k)=true:=fun k a=>by
 match k with
 |0=>exact tQ0
 |1=>exact tQ1
 |2=>exact tQ2
 |3=>exact tQ3
 |4=>exact tQ4
 |5=>exact tQ5
 |6=>exact tQ6
 |7=>exact tQ7
 |8=>exact tQ8
 |9=>exact tQ9
 |10=>exact zwl
 |11=>exact zwk
 |k+12=>omega
theorem zo2 (hc:c.args=[.ptr 0 (.k 0) 0,.el 10 ⟨1,0⟩])(h0:ρ 0=0)(h:GL T c.m ρ c.args args):∃xs,args=[.ptr 0 0 0,.agg xs]/\D T (ρ 1) 10 xs:=by
 rw [hc] at h;cases h with
 |cons w1 h=>cases h with
  |cons w2 h=>cases h with
   |nil=>
    match w1,w2 with
    |.ptr (e':=e') _ e,.el (xs:=xs) _ d=>
     rw [Lin.k_v h0] at e;obtain rfl:e'=0:=by omega
     refine ⟨xs,rfl,?_⟩;unfold Lin.v at d;dsimp only at d;rw [Int.add_zero] at d;exact d
theorem zln {inb:List Bx}(hs:evA.Sat T ρ args inb):∃q:Part,q.1.f=evA.f/\(∃orc,Ie tab ⟨T,K,evL,evG,some q.2,evA.rank⟩ orc q.1=true)/\Nat.blt q.2.s q.1.m=true/\∃ρ',q.1.Sat T ρ' args inb/\(∀l,evA.mu=some l->q.2.v ρ'<=l.v ρ)/\(q.1.Res T (callF tab ext) ρ' args inb->evA.Res T (callF tab ext) ρ args inb):=by
 obtain ⟨xs,rfl,W⟩:=zo2 rfl hs.zero hs.args;have J:BIs T [.nI 0 6 pJ] inb:=gK hs.zero [.nI 0 6 pJ] (k:=2) (aV.right (F:=(vg (.k 0) 1 [.p 0,.el 10]).2.2) hs.pre) hs.inb;obtain ⟨h1,q,P,n,i,s,t,l,B,y,rfl,Q,S,q3,q4,q5,q6,q7,q8,q9⟩:=zq6 W;have hx:IsL T (ρ 1-1) vsE [num n,num i,strX s,.sl t 6 l,.sl B 5 y]:=⟨⟨n,rfl⟩,⟨i,rfl⟩,⟨s,rfl,by unfold bW;omega⟩,⟨t,l,rfl,by omega,by omega,q6⟩,⟨B,y,rfl,by omega,by omega,q9⟩,trivial⟩;obtain ⟨ρ',r1,A⟩:=znI (f:=145) (l:=vsE) (inb:=[.nI 0 6 pJ]) (mu:=none) (outs:=[(val,[.nI 0 6 pJ])]) (i:=0) rfl rfl (by omega) hx J;have V:GL T ev0.m ρ' [.ptr 0 (.k 0) 0,.agg [.i .i64 ⟨2,0⟩,.i .i64 ⟨3,0⟩,.s ⟨4,0⟩,.sl none 6 1 ⟨1,0⟩ ⟨5,0⟩,.sl none 5 10 ⟨1,0⟩ ⟨6,0⟩]] [.ptr 0 0 0,.agg [num n,num i,strX s,.sl t 6 l,.sl B 5 y]]:=A.args;obtain ⟨_,w⟩:=gl2 V;obtain ⟨_,e,w⟩:=zfs w;cases e;obtain ⟨_,_,e,v1,w⟩:=dW w;cases e;obtain ⟨_,_,e,v2,w⟩:=dW w;cases e;obtain ⟨_,_,e,v3,w⟩:=dW w;cases e;obtain ⟨_,_,e,v4,w⟩:=dW w;cases e;obtain ⟨_,_,e,v5,w⟩:=dW w;cases e;have e2:n=ρ' 2:=sI v1;have e5:(l.length:Int)=ρ' 5:=by
  cases v4 with
  |sl _ _ _ q _=>rw [q];unfold Lin.v;show ρ' 5+0=_;omega
 have e6:(y.length:Int)=ρ' 6:=by
  cases v5 with
  |sl _ _ _ q _=>rw [q];unfold Lin.v;show ρ' 6+0=_;omega
 have H:=A.zero;have Y:(6:Nat)<ev0.m:=by decide
 have N:(5:Nat)<ev0.m:=by decide
 have M:(2:Nat)<ev0.m:=by decide
 have u:0<ev0.m:=by decide
 have E:∀(p:List Fact),aV ev0.m ρ' p->(∃orc,Ie tab ⟨T,K,evL,evG,some ⟨1,1⟩,0⟩ orc (ev0.with [p])=true)->∃q:Part,q.1.f=evA.f/\(∃orc,Ie tab ⟨T,K,evL,evG,some q.2,evA.rank⟩ orc q.1=true)/\Nat.blt q.2.s q.1.m=true/\∃ρ',q.1.Sat T ρ' [.ptr 0 0 0,.agg [num n,num i,strX s,.sl t 6 l,.sl B 5 y]] inb/\(∀l,evA.mu=some l->q.2.v ρ'<=l.v ρ)/\(q.1.Res T (callF tab ext) ρ' [.ptr 0 0 0,.agg [num n,num i,strX s,.sl t 6 l,.sl B 5 y]] inb->evA.Res T (callF tab ext) ρ [.ptr 0 0 0,.agg [num n,num i,strX s,.sl t 6 l,.sl B 5 y]] inb):=fun p hp L=>
  ⟨(ev0.with [p],⟨1,1⟩),rfl,L,by kernel_rfl,ρ',Ctr.Sat.with A hp,(fun l' e=>by
   cases e;unfold Lin.v;dsimp only;omega),fun hr=>zdZ (fun o Z=>by rw [qaa.1 Z];exact ⟨rfl,rfl⟩) hs.zero hs.pos (zd3 (mu:=none) H u hr)⟩
 have U:q=(4,15,0,2)\/∃k,k<14/\k≠3/\YD.getD k []=bd 2 q.1 q.2.1++[aj (.k (q.2.2.1:Int)) ⟨5,0⟩,aj (.k (q.2.2.2:Int)) ⟨6,0⟩]:=by
  simp only [qal,List.not_mem_nil,or_false] at P;rcases P with rfl|rfl|rfl|rfl|rfl|rfl|rfl|rfl|rfl|rfl|rfl|rfl|rfl|rfl;·exact .inr ⟨0,by decide,by decide,rfl⟩
  ·exact .inr ⟨1,by decide,by decide,rfl⟩
  ·exact .inr ⟨2,by decide,by decide,rfl⟩
  ·exact .inl rfl
  ·exact .inr ⟨4,by decide,by decide,rfl⟩
  ·exact .inr ⟨5,by decide,by decide,rfl⟩
  ·exact .inr ⟨6,by decide,by decide,rfl⟩
  ·exact .inr ⟨7,by decide,by decide,rfl⟩
  ·exact .inr ⟨8,by decide,by decide,rfl⟩
  ·exact .inr ⟨9,by decide,by decide,rfl⟩
  ·exact .inr ⟨10,by decide,by decide,rfl⟩
  ·exact .inr ⟨11,by decide,by decide,rfl⟩
  ·exact .inr ⟨12,by decide,by decide,rfl⟩
  exact .inr ⟨13,by decide,by decide,rfl⟩
 have h:∀(lo hi:Int) (a b:Int),lo<=n->n<=hi->a<=l.length->b<=y.length->aV ev0.m ρ' (bd 2 lo hi++[aj (.k a) ⟨5,0⟩,aj (.k b) ⟨6,0⟩]):=fun lo hi a b c1 c2 c3 c4=>aV.append (ztd (c:=ev0) H u M (by omega) (by omega)) (.cons (zoV (c:=ev0) H u N (by omega)) (.cons (zoV (c:=ev0) H u Y (by omega)) .nil));rcases U with rfl|⟨k,k1,k2,L⟩
 ·dsimp only at Q S q4 q7;obtain ⟨j,O,pa⟩:∃j:Nat,j<12/\n=(j:Int)+4:=⟨(n-4).toNat,by omega,by omega⟩;have hw:JH.getD j []=bd 2 ((j:Int)+4) ((j:Int)+4)++[aj (.k 0) ⟨5,0⟩,aj (.k 2) ⟨6,0⟩]:=by unfold JH;rw [qaF,qav,List.getElem?_range O];rfl
  refine E (JH.getD j []) (by rw [hw];exact h _ _ _ _ (by omega) (by omega) (by omega) (by omega)) ⟨evO,zmf j O⟩
 exact E (YD.getD k []) (by rw [L];exact h _ _ _ _ Q S (by omega) (by omega)) ⟨evO,zcq k k1 k2⟩
theorem zrb:evB.rank=1:=by kernel_rfl
theorem zra:evC.rank=2:=by kernel_rfl
theorem muB:evB.mu=some ⟨1,0⟩:=by kernel_rfl
theorem muC:evC.mu=some ⟨1,0⟩:=by kernel_rfl
theorem zyw:Nat.blt (⟨1,0⟩:Lin).s evB.m=true:=by kernel_rfl
theorem zyv:Nat.blt (⟨1,0⟩:Lin).s evC.m=true:=by kernel_rfl
theorem zys:Ie tab ⟨T,K,evL,evG,some ⟨1,0⟩,evB.rank⟩ evO evB=true:=by rw [zrb];exact zqU
theorem zyr:Ie tab ⟨T,K,evL,evG,some ⟨1,0⟩,evC.rank⟩ evO evC=true:=by rw [zra];exact znb
theorem noE:N9 ext evG=true:=by kernel_rfl
theorem muE:evG.all O5=true:=by kernel_rfl
theorem zoX:ak T Gm evG:=Jg (L:=evL) (K:=K) zoW noE muE fun c a ρ j l f=>by
 rcases qal.1 (show c∈[evA,evB,evC] from a) with h|a;·subst h;exact zln f
 rcases qal.1 a with h|a;·subst h;exact NV (c:=evB) (orc:=evO) muB zyw zys f
 have h:=qaa.1 a;subst h;exact NV (c:=evC) (orc:=evO) muC zyv zyr f
end Ct
end Go.Proofs.YtkeefpkcepodeaaGreatDoor
