/-.-/
import Derived.Test.YtpcjeobkehmhpaaGreatDoorU19
import Derived.Test.YtpcjeobkehmhpaaGreatDoorU37
import Derived.Test.YtpcjeobkehmhpaaGreatDoorU38
import Derived.Test.YtpcjeobkehmhpaaGreatDoorU39
import Derived.Test.YtpcjeobkehmhpaaGreatDoorU40
set_option linter.unusedSimpArgs false
set_option linter.unusedVariables false
namespace Go.Proofs.YtpcjeobkehmhpaaGreatDoor
open Go Go.Em Go.Ab
set_option maxRecDepth 100000
variable {c:Ctr}{args:List X}{s:Nat}{ρ:Rho}
namespace Ct
abbrev vsE:List Sh:=[int,int,.s,.wW 6 1 0 1000000,.wW 5 10 0 1000000]
theorem zpL {h:Int}{xs:List X}(hd:D T h 10 xs):1<=h/\∃q:Int×Int×Nat×Nat,q∈[((1:Int),(1:Int),1,0),(2,2,0,0),(3,3,0,1),(4,15,0,2),(16,16,0,1),(17,17,0,2),(18,20,0,1),(21,21,0,3),(22,22,0,0),(23,23,0,2),(24,24,0,3),(25,25,0,2),(26,26,0,0),(27,28,0,1)]/\
  ∃op i s t l t' ar,xs=[num op,num i,aC s,.sl t 6 l,.sl t' 5 ar]/\q.1<=op/\op<=q.2.1/\s.size<=1000000/\q.2.2.1<=l.length/\l.length<=1000000/\(∀e,e∈l->D T (h-1) 1 e)/\q.2.2.2<=ar.length/\ar.length<=1000000/\∀e,e∈ar->D T (h-1) 10 e:=by
 obtain ⟨h1,alt,ha,hs⟩:=lT hd;obtain ⟨q,hq,rfl⟩:=qal.1 (show alt∈List.map _ _ from ha);refine ⟨h1,q,hq,?_⟩
 match xs,hs with
 |[x,_,_,_,_],⟨k1,k2,k3,k4,k5,_⟩=>
  obtain ⟨i,rfl⟩:=jV k2;obtain ⟨s,rfl,_,k6⟩:=zge k3;obtain ⟨t,l,rfl,k7,k8,k9⟩:=zN k4;obtain ⟨t',ar,rfl,k10,k11,k12⟩:=zN k5
  match x,k1 with
  |.v (.int _ op),⟨rfl,w1,w2⟩=>exact ⟨op,i,s,t,l,t',ar,rfl,w1 _ rfl,w2 _ rfl,k6,k7,k8,k9,k10,k11,k12⟩
theorem zrC {lo hi:Int}(h0:ρ 0=0)(hp:0<c.m)(hs:s<c.m)(h1:lo<=ρ s)(h2:ρ s<=hi):aX c.m ρ (bd s lo hi):=by
 refine .cons (aJ.2 ⟨hp,hs,?_⟩) (.cons (aJ.2 ⟨hs,hp,?_⟩) .nil);·rw [Lin.k_v h0];unfold Lin.v;dsimp only;omega
 rw [Lin.k_v h0];unfold Lin.v;dsimp only;omega
theorem znM {k:Int}(h0:ρ 0=0)(hp:0<c.m)(hs:s<c.m)(h1:k<=ρ s):(aj (.k k) ⟨s,0⟩).ok c.m ρ:=aJ.2 ⟨hp,hs,by rw [Lin.k_v h0];unfold Lin.v;dsimp only;omega⟩
theorem zbF:∀k,k<14->k≠3->jI (evP k)=true:=fun k hk h3=>by
 match k with
 |0=>exact tP0
 |1=>exact tP1
 |2=>exact tP2
 |3=>exact absurd rfl h3
 |4=>exact tP4
 |5=>exact tP5
 |6=>exact tP6
 |7=>exact tP7
 |8=>exact tP8
 |9=>exact tP9
 |10=>exact zuP
 |11=>exact zuO
 |12=>exact zuN
 |13=>exact zuM
 |k+14=>omega
theorem zlf:∀k,k<12->jI (evQ k)=true:=fun k hk=>by
 match k with
 |0=>exact tQ0
 |1=>exact tQ1
 |2=>exact tQ2
 |3=>exact tQ3
 |4=>exact tQ4
 |5=>exact tQ5
 |6=>exact tQ6
 |7=>exact tQ7
 |8=>exact tQ8
 |9=>exact tQ9
 |10=>exact zuL
 |11=>exact zuK
 |k+12=>omega
theorem znR (hc:c.args=[.ptr 0 (.k 0) 0,.el 10 ⟨1,0⟩])(h0:ρ 0=0)(h:GL T c.m ρ c.args args):∃xs,args=[.ptr 0 0 0,.agg xs]/\D T (ρ 1) 10 xs:=by
 rw [hc] at h;cases h with
 |cons w1 h=>cases h with
  |cons w2 h=>cases h with
   |nil=>
    match w1,w2 with
    |.ptr (e':=e') _ e,.el (xs:=xs) _ d=>
     rw [Lin.k_v h0] at e;obtain rfl:e'=0:=by omega
     refine ⟨xs,rfl,?_⟩;unfold Lin.v at d;dsimp only at d;rw [Int.add_zero] at d;exact d
theorem zkn {inb:List Bx}(hs:evA.Sat T ρ args inb):∃q:Part,q.1.f=evA.f/\(∃orc,ER tab ⟨T,K,evL,evG,some q.2,evA.rank⟩ orc q.1=true)/\Nat.blt q.2.s q.1.m=true/\∃ρ',q.1.Sat T ρ' args inb/\(∀l,evA.mu=some l->q.2.v ρ'<=l.v ρ)/\(q.1.Res T (ah tab ext) ρ' args inb->evA.Res T (ah tab ext) ρ args inb):=by
 obtain ⟨xs,rfl,hd⟩:=znR rfl hs.zero hs.args;have hin:BIs T [.l9 0 6 oL] inb:=gI hs.zero [.l9 0 6 oL] (k:=2) (aX.right (F:=(mO (.k 0) 1 [.p 0,.el 10]).2.2) hs.pre) hs.inb;obtain ⟨h1,q,hq,op,i,s,t,l,t',ar,rfl,q1,q2,q3,q4,q5,q6,q7,q8,q9⟩:=zpL hd;have hx:IsL T (ρ 1-1) vsE [num op,num i,aC s,.sl t 6 l,.sl t' 5 ar]:=⟨⟨op,rfl⟩,⟨i,rfl⟩,⟨s,rfl,by unfold bT;omega⟩,⟨t,l,rfl,by omega,by omega,q6⟩,⟨t',ar,rfl,by omega,by omega,q9⟩,trivial⟩;obtain ⟨ρ',r1,hs'⟩:=zmA (f:=120) (l:=vsE) (inb:=[.l9 0 6 oL]) (mu:=none) (outs:=[(val,[.l9 0 6 oL])]) (i:=0) rfl rfl (by omega) hx hin;have ha:GL T ev0.m ρ' [.ptr 0 (.k 0) 0,.agg [.i .i64 ⟨2,0⟩,.i .i64 ⟨3,0⟩,.s ⟨4,0⟩,.sl none 6 1 ⟨1,0⟩ ⟨5,0⟩,.sl none 5 10 ⟨1,0⟩ ⟨6,0⟩]] [.ptr 0 0 0,.agg [num op,num i,aC s,.sl t 6 l,.sl t' 5 ar]]:=hs'.args;obtain ⟨_,w⟩:=gl2 ha;obtain ⟨_,e,w⟩:=zay w;cases e;obtain ⟨_,_,e,v1,w⟩:=cZ w;cases e;obtain ⟨_,_,e,v2,w⟩:=cZ w;cases e;obtain ⟨_,_,e,v3,w⟩:=cZ w;cases e;obtain ⟨_,_,e,v4,w⟩:=cZ w;cases e;obtain ⟨_,_,e,v5,w⟩:=cZ w;cases e;have e2:op=ρ' 2:=sI v1;have e5:(l.length:Int)=ρ' 5:=by
  cases v4 with
  |sl _ _ _ q _=>rw [q];unfold Lin.v;show ρ' 5+0=_;omega
 have e6:(ar.length:Int)=ρ' 6:=by
  cases v5 with
  |sl _ _ _ q _=>rw [q];unfold Lin.v;show ρ' 6+0=_;omega
 have z':=hs'.zero;have hm:(6:Nat)<ev0.m:=by decide
 have hm5:(5:Nat)<ev0.m:=by decide
 have hm2:(2:Nat)<ev0.m:=by decide
 have hm0:0<ev0.m:=by decide
 have fin:∀(p:List Fact),aX ev0.m ρ' p->(∃orc,ER tab ⟨T,K,evL,evG,some ⟨1,1⟩,0⟩ orc (ev0.with [p])=true)->∃q:Part,q.1.f=evA.f/\(∃orc,ER tab ⟨T,K,evL,evG,some q.2,evA.rank⟩ orc q.1=true)/\Nat.blt q.2.s q.1.m=true/\∃ρ',q.1.Sat T ρ' [.ptr 0 0 0,.agg [num op,num i,aC s,.sl t 6 l,.sl t' 5 ar]] inb/\(∀l,evA.mu=some l->q.2.v ρ'<=l.v ρ)/\(q.1.Res T (ah tab ext) ρ' [.ptr 0 0 0,.agg [num op,num i,aC s,.sl t 6 l,.sl t' 5 ar]] inb->evA.Res T (ah tab ext) ρ [.ptr 0 0 0,.agg [num op,num i,aC s,.sl t 6 l,.sl t' 5 ar]] inb):=fun p hp hk=>
  ⟨(ev0.with [p],⟨1,1⟩),rfl,hk,by kernel_rfl,ρ',Ctr.Sat.with hs' hp,(fun l' e=>by
   cases e;unfold Lin.v;dsimp only;omega),fun hr=>zcZ (fun o ho=>by rw [qaa.1 ho];exact ⟨rfl,rfl⟩) hs.zero hs.pos (zc5 (mu:=none) z' hm0 hr)⟩
 have h3:q=(4,15,0,2)\/∃k,k<14/\k≠3/\Xw.getD k []=bd 2 q.1 q.2.1++[aj (.k (q.2.2.1:Int)) ⟨5,0⟩,aj (.k (q.2.2.2:Int)) ⟨6,0⟩]:=by
  simp only [qaj,List.not_mem_nil,or_false] at hq;rcases hq with rfl|rfl|rfl|rfl|rfl|rfl|rfl|rfl|rfl|rfl|rfl|rfl|rfl|rfl;·exact .inr ⟨0,by decide,by decide,rfl⟩
  ·exact .inr ⟨1,by decide,by decide,rfl⟩
  ·exact .inr ⟨2,by decide,by decide,rfl⟩
  ·exact .inl rfl
  ·exact .inr ⟨4,by decide,by decide,rfl⟩
  ·exact .inr ⟨5,by decide,by decide,rfl⟩
  ·exact .inr ⟨6,by decide,by decide,rfl⟩
  ·exact .inr ⟨7,by decide,by decide,rfl⟩
  ·exact .inr ⟨8,by decide,by decide,rfl⟩
  ·exact .inr ⟨9,by decide,by decide,rfl⟩
  ·exact .inr ⟨10,by decide,by decide,rfl⟩
  ·exact .inr ⟨11,by decide,by decide,rfl⟩
  ·exact .inr ⟨12,by decide,by decide,rfl⟩
  exact .inr ⟨13,by decide,by decide,rfl⟩
 have hbase:∀(lo hi:Int) (a b:Int),lo<=op->op<=hi->a<=l.length->b<=ar.length->aX ev0.m ρ' (bd 2 lo hi++[aj (.k a) ⟨5,0⟩,aj (.k b) ⟨6,0⟩]):=fun lo hi a b c1 c2 c3 c4=>aX.append (zrC (c:=ev0) z' hm0 hm2 (by omega) (by omega)) (.cons (znM (c:=ev0) z' hm0 hm5 (by omega)) (.cons (znM (c:=ev0) z' hm0 hm (by omega)) .nil));rcases h3 with rfl|⟨k,k1,k2,hk⟩
 ·dsimp only at q1 q2 q4 q7;obtain ⟨j,hj,hop⟩:∃j:Nat,j<12/\op=(j:Int)+4:=⟨(op-4).toNat,by omega,by omega⟩;have hw:Hw.getD j []=bd 2 ((j:Int)+4) ((j:Int)+4)++[aj (.k 0) ⟨5,0⟩,aj (.k 2) ⟨6,0⟩]:=by unfold Hw;rw [qax,qaw,List.getElem?_range hj];rfl
  refine fin (Hw.getD j []) (by rw [hw];exact hbase _ _ _ _ (by omega) (by omega) (by omega) (by omega)) ⟨evO,zlf j hj⟩
 exact fin (Xw.getD k []) (by rw [hk];exact hbase _ _ _ _ q1 q2 (by omega) (by omega)) ⟨evO,zbF k k1 k2⟩
theorem zpQ:evB.rank=1:=by kernel_rfl
theorem zpP:evC.rank=2:=by kernel_rfl
theorem muB:evB.mu=some ⟨1,0⟩:=by kernel_rfl
theorem muC:evC.mu=some ⟨1,0⟩:=by kernel_rfl
theorem zwU:Nat.blt (⟨1,0⟩:Lin).s evB.m=true:=by kernel_rfl
theorem zwT:Nat.blt (⟨1,0⟩:Lin).s evC.m=true:=by kernel_rfl
theorem zwQ:ER tab ⟨T,K,evL,evG,some ⟨1,0⟩,evB.rank⟩ evO evB=true:=by rw [zpQ];exact zpC
theorem zwP:ER tab ⟨T,K,evL,evG,some ⟨1,0⟩,evC.rank⟩ evO evC=true:=by rw [zpP];exact zma
theorem noE:MB ext evG=true:=by kernel_rfl
theorem muE:evG.all NH=true:=by kernel_rfl
theorem znO:ay T Gm evG:=Gw (L:=evL) (K:=K) znN noE muE fun c hc ρ args inb hs=>by
 rcases qaj.1 (show c∈[evA,evB,evC] from hc) with h|hc;·subst h;exact zkn hs
 rcases qaj.1 hc with h|hc;·subst h;exact Mc (c:=evB) (orc:=evO) muB zwU zwQ hs
 have h:=qaa.1 hc;subst h;exact Mc (c:=evC) (orc:=evO) muC zwT zwP hs
end Ct
end Go.Proofs.YtpcjeobkehmhpaaGreatDoor
