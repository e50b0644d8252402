/- expr.eval: the parts joined. -/
import Derived.Test.YtjbndifenhihhaaGreatDoorP22
import Derived.Test.YtjbndifenhihhaaGreatDoorP26
import Derived.Test.YtjbndifenhihhaaGreatDoorP27
import Derived.Test.YtjbndifenhihhaaGreatDoorP28
import Derived.Test.YtjbndifenhihhaaGreatDoorP29
namespace Go.Proofs.YtjbndifenhihhaaGreatDoor
open Go Go.Em Go.Ab
set_option maxRecDepth 100000
namespace Ct
abbrev vsE:List Sh:=[int,int,.s,.FY 6 1 0 1000000,.FY 5 10 0 1000000]
theorem zjD {h:Int}{xs:List X}(hd:D T h 10 xs):1≤h∧∃q:Int×Int×Nat×Nat,q∈[((1:Int),(1:Int),1,0),(2,2,0,0),(3,3,0,1),(4,15,0,2),(16,16,0,1),(17,17,0,2),(18,20,0,1),(21,21,0,3),(22,22,0,0),(23,23,0,2),(24,24,0,3),(25,25,0,2),(26,26,0,0),(27,28,0,1)]∧
  ∃op i s t l t' ar,xs=[num op,num i,strX s,.sl t 6 l,.sl t' 5 ar]∧q.1≤op∧op≤q.2.1∧s.size≤1000000∧q.2.2.1≤l.length∧l.length≤1000000∧(∀e,e∈l→D T (h-1) 1 e)∧q.2.2.2≤ar.length∧ar.length≤1000000∧∀e,e∈ar→D T (h-1) 10 e:=by
 obtain ⟨h1,alt,ha,hs⟩:=qG hd
 obtain ⟨q,hq,rfl⟩:=List.mem_map.1 (show alt∈List.map _ _ from ha)
 refine ⟨h1,q,hq,?_⟩
 match xs,hs with
 |[x,_,_,_,_],⟨k1,k2,k3,k4,k5,_⟩=>
  obtain ⟨i,rfl⟩:=lG k2
  obtain ⟨s,rfl,_,k6⟩:=zf3 k3
  obtain ⟨t,l,rfl,k7,k8,k9⟩:=Bj k4
  obtain ⟨t',ar,rfl,k10,k11,k12⟩:=Bj k5
  match x,k1 with
  |.v (.int _ op),⟨rfl,w1,w2⟩=>exact ⟨op,i,s,t,l,t',ar,rfl,w1 _ rfl,w2 _ rfl,k6,k7,k8,k9,k10,k11,k12⟩
theorem zlq {c:Ctr}{ρ:Rho}{s:Nat}{lo hi:Int}(h0:ρ 0=0)(hp:0<c.m)(hs:s<c.m)(h1:lo≤ρ s)(h2:ρ s≤hi):aW c.m ρ (bd s lo hi):=by
 refine .cons (aC.2 ⟨hp,hs,?_⟩) (.cons (aC.2 ⟨hs,hp,?_⟩) .nil)
 ·rw [Lin.k_v h0];unfold Lin.v;dsimp only;omega
 ·rw [Lin.k_v h0];unfold Lin.v;dsimp only;omega
theorem zhJ {c:Ctr}{ρ:Rho}{s:Nat}{k:Int}(h0:ρ 0=0)(hp:0<c.m)(hs:s<c.m)(h1:k≤ρ s):(ak (.k k) ⟨s,0⟩).ok c.m ρ:=aC.2 ⟨hp,hs,by rw [Lin.k_v h0];unfold Lin.v;dsimp only;omega⟩
theorem Xt:∀k,k<14→k≠3→iU (evP k)=true:=fun k hk h3=>by
 match k with
 |0=>exact tP0
 |1=>exact tP1
 |2=>exact tP2
 |3=>exact absurd rfl h3
 |4=>exact tP4
 |5=>exact tP5
 |6=>exact tP6
 |7=>exact tP7
 |8=>exact tP8
 |9=>exact tP9
 |10=>exact zol
 |11=>exact zok
 |12=>exact zoj
 |13=>exact zoi
 |k+14=>omega
theorem zfA:∀k,k<12→iU (evQ k)=true:=fun k hk=>by
 match k with
 |0=>exact tQ0
 |1=>exact tQ1
 |2=>exact tQ2
 |3=>exact tQ3
 |4=>exact tQ4
 |5=>exact tQ5
 |6=>exact tQ6
 |7=>exact tQ7
 |8=>exact tQ8
 |9=>exact tQ9
 |10=>exact zoh
 |11=>exact zog
 |k+12=>omega
theorem zhN {c:Ctr}{ρ:Rho}{args:List X}(hc:c.args=[.ptr 0 (.k 0) 0,.el 10 ⟨1,0⟩])(h0:ρ 0=0)(h:GL T c.m ρ c.args args):∃xs,args=[.ptr 0 0 0,.agg xs]∧D T (ρ 1) 10 xs:=by
 rw [hc] at h
 cases h with
 |cons w1 h=>cases h with
  |cons w2 h=>cases h with
   |nil=>
    match w1,w2 with
    |.ptr (e':=e') _ e,.el (xs:=xs) _ d=>
     rw [Lin.k_v h0] at e
     obtain rfl:e'=0:=by omega
     refine ⟨xs,rfl,?_⟩
     unfold Lin.v at d
     dsimp only at d
     rw [Int.add_zero] at d
     exact d
theorem zeV {ρ:Rho}{args:List X}{inb:List Bx}(hs:evA.Sat T ρ args inb):∃q:Part,q.1.f=evA.f∧(∃orc,Ji tab ⟨T,K,evL,evG,some q.2,evA.rank⟩ orc q.1=true)∧Nat.blt q.2.s q.1.m=true∧∃ρ',q.1.Sat T ρ' args inb∧(∀l,evA.mu=some l→q.2.v ρ'≤l.v ρ)∧(q.1.Res T (callF tab ext) ρ' args inb→evA.Res T (callF tab ext) ρ args inb):=by
 obtain ⟨xs,rfl,hd⟩:=zhN rfl hs.zero hs.args
 have hin:BIs T [.lq 0 6 mZ] inb:=fQ hs.zero [.lq 0 6 mZ] (k:=2) (aW.right (F:=(lI (.k 0) 1 [.p 0,.el 10]).2.2) hs.pre) hs.inb
 obtain ⟨h1,q,hq,op,i,s,t,l,t',ar,rfl,q1,q2,q3,q4,q5,q6,q7,q8,q9⟩:=zjD hd
 have hx:IsL T (ρ 1-1) vsE [num op,num i,strX s,.sl t 6 l,.sl t' 5 ar]:=⟨⟨op,rfl⟩,⟨i,rfl⟩,⟨s,rfl,by unfold dX;omega⟩,⟨t,l,rfl,by omega,by omega,q6⟩,⟨t',ar,rfl,by omega,by omega,q9⟩,trivial⟩
 obtain ⟨ρ',r1,hs'⟩:=zgB (f:=97) (l:=vsE) (inb:=[.lq 0 6 mZ]) (mu:=none) (outs:=[(val,[.lq 0 6 mZ])]) (i:=0) rfl rfl (by omega) hx hin
 have ha:GL T ev0.m ρ' [.ptr 0 (.k 0) 0,.agg [.i .i64 ⟨2,0⟩,.i .i64 ⟨3,0⟩,.s ⟨4,0⟩,.sl none 6 1 ⟨1,0⟩ ⟨5,0⟩,.sl none 5 10 ⟨1,0⟩ ⟨6,0⟩]] [.ptr 0 0 0,.agg [num op,num i,strX s,.sl t 6 l,.sl t' 5 ar]]:=hs'.args
 obtain ⟨_,w⟩:=gl2 ha
 obtain ⟨_,e,w⟩:=Z5 w
 cases e
 obtain ⟨_,_,e,v1,w⟩:=dH w
 cases e
 obtain ⟨_,_,e,v2,w⟩:=dH w
 cases e
 obtain ⟨_,_,e,v3,w⟩:=dH w
 cases e
 obtain ⟨_,_,e,v4,w⟩:=dH w
 cases e
 obtain ⟨_,_,e,v5,w⟩:=dH w
 cases e
 have e2:op=ρ' 2:=sI v1
 have e5:(l.length:Int)=ρ' 5:=by
  cases v4 with
  |sl _ _ _ q _=>rw [q];unfold Lin.v;show ρ' 5+0=_;omega
 have e6:(ar.length:Int)=ρ' 6:=by
  cases v5 with
  |sl _ _ _ q _=>rw [q];unfold Lin.v;show ρ' 6+0=_;omega
 have z':=hs'.zero
 have hm:(6:Nat)<ev0.m:=by decide
 have hm5:(5:Nat)<ev0.m:=by decide
 have hm2:(2:Nat)<ev0.m:=by decide
 have hm0:0<ev0.m:=by decide
 have fin:∀(p:List Fact),aW ev0.m ρ' p→(∃orc,Ji tab ⟨T,K,evL,evG,some ⟨1,1⟩,0⟩ orc (ev0.with [p])=true)→∃q:Part,q.1.f=evA.f∧(∃orc,Ji tab ⟨T,K,evL,evG,some q.2,evA.rank⟩ orc q.1=true)∧Nat.blt q.2.s q.1.m=true∧∃ρ',q.1.Sat T ρ' [.ptr 0 0 0,.agg [num op,num i,strX s,.sl t 6 l,.sl t' 5 ar]] inb∧(∀l,evA.mu=some l→q.2.v ρ'≤l.v ρ)∧(q.1.Res T (callF tab ext) ρ' [.ptr 0 0 0,.agg [num op,num i,strX s,.sl t 6 l,.sl t' 5 ar]] inb→evA.Res T (callF tab ext) ρ [.ptr 0 0 0,.agg [num op,num i,strX s,.sl t 6 l,.sl t' 5 ar]] inb):=fun p hp hk=>
  ⟨(ev0.with [p],⟨1,1⟩),rfl,hk,by kernel_rfl,ρ',Ctr.Sat.with hs' hp,(fun l' e=>by
   cases e
   unfold Lin.v
   dsimp only
   omega),fun hr=>YF (fun o ho=>by rw [List.mem_singleton.1 ho];exact ⟨rfl,rfl⟩) hs.zero hs.pos (YJ (mu:=none) z' hm0 hr)⟩
 have h3:q=(4,15,0,2)∨∃k,k<14∧k≠3∧Tt.getD k []=bd 2 q.1 q.2.1++[ak (.k (q.2.2.1:Int)) ⟨5,0⟩,ak (.k (q.2.2.2:Int)) ⟨6,0⟩]:=by
  simp only [List.mem_cons,List.not_mem_nil,or_false] at hq
  rcases hq with rfl|rfl|rfl|rfl|rfl|rfl|rfl|rfl|rfl|rfl|rfl|rfl|rfl|rfl
  ·exact .inr ⟨0,by decide,by decide,rfl⟩
  ·exact .inr ⟨1,by decide,by decide,rfl⟩
  ·exact .inr ⟨2,by decide,by decide,rfl⟩
  ·exact .inl rfl
  ·exact .inr ⟨4,by decide,by decide,rfl⟩
  ·exact .inr ⟨5,by decide,by decide,rfl⟩
  ·exact .inr ⟨6,by decide,by decide,rfl⟩
  ·exact .inr ⟨7,by decide,by decide,rfl⟩
  ·exact .inr ⟨8,by decide,by decide,rfl⟩
  ·exact .inr ⟨9,by decide,by decide,rfl⟩
  ·exact .inr ⟨10,by decide,by decide,rfl⟩
  ·exact .inr ⟨11,by decide,by decide,rfl⟩
  ·exact .inr ⟨12,by decide,by decide,rfl⟩
  ·exact .inr ⟨13,by decide,by decide,rfl⟩
 have hbase:∀(lo hi:Int) (a b:Int),lo≤op→op≤hi→a≤l.length→b≤ar.length→aW ev0.m ρ' (bd 2 lo hi++[ak (.k a) ⟨5,0⟩,ak (.k b) ⟨6,0⟩]):=fun lo hi a b c1 c2 c3 c4=>
  aW.append (zlq (c:=ev0) z' hm0 hm2 (by omega) (by omega)) (.cons (zhJ (c:=ev0) z' hm0 hm5 (by omega)) (.cons (zhJ (c:=ev0) z' hm0 hm (by omega)) .nil))
 rcases h3 with rfl|⟨k,k1,k2,hk⟩
 ·dsimp only at q1 q2 q4 q7
  obtain ⟨j,hj,hop⟩:∃j:Nat,j<12∧op=(j:Int)+4:=⟨(op-4).toNat,by omega,by omega⟩
  have hw:DT.getD j []=bd 2 ((j:Int)+4) ((j:Int)+4)++[ak (.k 0) ⟨5,0⟩,ak (.k 2) ⟨6,0⟩]:=by
   unfold DT
   rw [List.getD_eq_getElem?_getD,List.getElem?_map,List.getElem?_range hj]
   rfl
  refine fin (DT.getD j []) (by rw [hw];exact hbase _ _ _ _ (by omega) (by omega) (by omega) (by omega)) ⟨evO,zfA j hj⟩
 ·exact fin (Tt.getD k []) (by rw [hk];exact hbase _ _ _ _ q1 q2 (by omega) (by omega)) ⟨evO,Xt k k1 k2⟩
theorem zjI:evB.rank=1:=by kernel_rfl
theorem zjH:evC.rank=2:=by kernel_rfl
theorem muB:evB.mu=some ⟨1,0⟩:=by kernel_rfl
theorem muC:evC.mu=some ⟨1,0⟩:=by kernel_rfl
theorem zoX:Nat.blt (⟨1,0⟩:Lin).s evB.m=true:=by kernel_rfl
theorem zoW:Nat.blt (⟨1,0⟩:Lin).s evC.m=true:=by kernel_rfl
theorem zoT:Ji tab ⟨T,K,evL,evG,some ⟨1,0⟩,evB.rank⟩ evO evB=true:=by rw [zjI];exact zjv
theorem zoS:Ji tab ⟨T,K,evL,evG,some ⟨1,0⟩,evC.rank⟩ evO evC=true:=by rw [zjH];exact zgi
theorem noE:Vk ext evG=true:=by kernel_rfl
theorem muE:evG.all MO=true:=by kernel_rfl
theorem zhL:ah T Gm evG:=QW (L:=evL) (K:=K) zhK noE muE fun c hc ρ args inb hs=>by
 rcases List.mem_cons.1 (show c∈[evA,evB,evC] from hc) with h|hc
 ·subst h
  exact zeV hs
 ·rcases List.mem_cons.1 hc with h|hc
  ·subst h
   exact Ib (c:=evB) (orc:=evO) muB zoX zoT hs
  ·have h:=List.mem_singleton.1 hc
   subst h
   exact Ib (c:=evC) (orc:=evO) muC zoW zoS hs
end Ct
end Go.Proofs.YtjbndifenhihhaaGreatDoor
