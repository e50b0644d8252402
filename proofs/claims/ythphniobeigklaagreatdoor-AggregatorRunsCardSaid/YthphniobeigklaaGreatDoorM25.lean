/- The groups whose time has come, taken one after the other: each time the first of those with the least time. -/
import Derived.Test.YthphniobeigklaaGreatDoorM19
set_option linter.all false
namespace Go.Proofs.YthphniobeigklaaGreatDoor.Ag
open Go Go.Em Go.Proofs.YthphniobeigklaaGreatDoor
set_option maxRecDepth 100000
def lxG (a b:Ga):Prop:=a.t<b.t∨(a.t=b.t∧a.g<b.g)
theorem bub_srt:∀(n:Nat) (A:List Ga) (x:Ga) (r:List Ga),A.length=n→A.Pairwise lxG→(∀a,a∈A→a.g<x.g)→∃R,bubG n (A++x::r)=R++r∧R.Pairwise lxG∧R.Perm (A++[x])
 |0,A,x,r,hA,_,_=>by
  have:A=[]:=List.length_eq_zero_iff.1 hA
  subst this
  exact ⟨[x],rfl,List.pairwise_singleton ..,List.Perm.refl _⟩
 |n+1,A,x,r,hA,hp,hx=>by
  obtain ⟨B,a,rfl⟩:∃B a,A=B++[a]:=⟨A.dropLast,A.getLast (by intro h;subst h;simp at hA),(List.dropLast_concat_getLast _).symm⟩
  have hB:B.length=n:=by simpa using hA
  subst hB
  have hp':=List.pairwise_append.1 hp
  have g1:(B++[a]++x::r).getD (B.length+1) dG=x:=by
   rw [List.getD_eq_getElem?_getD,List.getElem?_append_right (by simp)]
   simp
  have g2:(B++[a]++x::r).getD B.length dG=a:=by
   rw [List.append_assoc,List.getD_eq_getElem?_getD,List.getElem?_append_right (Nat.le_refl _)]
   simp
  unfold bubG
  rw [g1,g2]
  split
  ·rename_i hlt
   have e:((B++[a]++x::r).set (B.length+1) a).set B.length x=B++x::(a::r):=by
    rw [List.append_assoc,List.set_append_right _ _ (by omega),List.set_append_right _ _ (by omega)]
    simp
   rw [e]
   obtain ⟨R,h1,h2,h3⟩:=bub_srt B.length B x (a::r) rfl hp'.1 (fun b hb=>hx b (List.mem_append.2 (.inl hb)))
   refine ⟨R++[a],by rw [h1,List.append_assoc];rfl,List.pairwise_append.2 ⟨h2,List.pairwise_singleton ..,fun b hb c hc=>?_⟩,?_⟩
   ·rw [List.mem_singleton.1 hc]
    rcases List.mem_append.1 (h3.mem_iff.1 hb) with h|h
    ·exact hp'.2.2 b h a (List.mem_singleton.2 rfl)
    ·rw [List.mem_singleton.1 h];exact .inl hlt
   ·refine (h3.append_right [a]).trans ?_
    rw [List.append_assoc,List.append_assoc]
    exact List.Perm.append_left B (List.Perm.swap a x [])
  ·rename_i hge
   refine ⟨B++[a]++[x],by simp,List.pairwise_append.2 ⟨hp,List.pairwise_singleton ..,fun b hb c hc=>?_⟩,List.Perm.refl _⟩
   rw [List.mem_singleton.1 hc]
   have hbx:=hx b hb
   have hle:b.t≤x.t:=by
    rcases List.mem_append.1 hb with h|h
    ·have h2:=hp'.2.2 b h a (List.mem_singleton.2 rfl)
     unfold lxG at h2
     omega
    ·rw [List.mem_singleton.1 h];omega
   unfold lxG
   omega
theorem isort_srt:∀(k:Nat) (L:List Ga),(L.Pairwise fun a b=>a.g<b.g)→k<L.length→∃R,isortG k L=R++L.drop (k+1)∧R.Pairwise lxG∧R.Perm (L.take (k+1))
 |0,L,_,hk=>by
  refine ⟨L.take 1,(List.take_append_drop 1 L).symm,?_,List.Perm.refl _⟩
  cases L with
  |nil=>simp at hk
  |cons a r=>simp
 |k+1,L,hp,hk=>by
  obtain ⟨R,h1,h2,h3⟩:=isort_srt k L hp (by omega)
  have hl:R.length=k+1:=by rw [h3.length_eq,List.length_take];omega
  unfold isortG
  rw [h1,List.drop_eq_getElem_cons hk]
  obtain ⟨R2,e1,e2,e3⟩:=bub_srt (k+1) R L[k+1] (L.drop (k+1+1)) hl h2 (fun a ha=>by
   obtain ⟨j,hj,rfl⟩:=List.getElem_of_mem (h3.mem_iff.1 ha)
   rw [List.length_take] at hj
   rw [List.getElem_take]
   exact List.pairwise_iff_getElem.1 hp j (k+1) (by omega) hk (by omega))
  refine ⟨R2,e1,e2,e3.trans ?_⟩
  rw [List.take_succ_eq_append_getElem hk]
  exact h3.append_right _
theorem exG_srt {now:Int}{gs:List Ga}(h:SrtG gs):(exG now gs).Pairwise lxG:=by
 unfold exG
 have hf:(gs.filter (expB now)).Pairwise fun a b=>a.g<b.g:=List.Pairwise.filter _ h
 generalize gs.filter (expB now)=L at*
 by_cases h0:L.length=0
 ·rw [List.length_eq_zero_iff.1 h0]
  exact .nil
 ·obtain ⟨R,h1,h2,h3⟩:=isort_srt (L.length-1) L hf (by omega)
  rw [h1,List.drop_of_length_le (by omega),List.append_nil]
  exact h2
theorem lx_eq {A B:List Ga}(ha:A.Pairwise lxG)(hb:B.Pairwise lxG)(h:A.Perm B):A=B:=
 List.Perm.eq_of_pairwise (fun a b _ _ h1 h2=>by unfold lxG at h1 h2;omega) ha hb h
def slcG (now:Int)(gs:List Ga):Nat→Option Nat
 |0=>none
 |i+1=>if expB now (gs.getD i dG)=true∧(∀k,slcG now gs i=some k→(gs.getD i dG).t<(gs.getD k dG).t) then some i else slcG now gs i
theorem slcG_lt (now:Int)(gs:List Ga):∀i k,slcG now gs i=some k→k<i∧expB now (gs.getD k dG)=true
 |0,_,h=>nomatch h
 |i+1,k,h=>by
  unfold slcG at h
  split at h
  ·rename_i h2
   cases h
   exact ⟨Nat.lt_succ_self _,h2.1⟩
  ·have:=slcG_lt now gs i k h
   exact ⟨by omega,this.2⟩
theorem slcG_none (now:Int)(gs:List Ga):∀i,slcG now gs i=none→∀j,j<i→expB now (gs.getD j dG)=false
 |0,_,_,hj=>absurd hj (Nat.not_lt_zero _)
 |i+1,h,j,hj=>by
  unfold slcG at h
  split at h
  ·cases h
  ·rename_i h2
   by_cases e:j=i
   ·subst e
    cases hb:expB now (gs.getD j dG) with
    |false=>rfl
    |true=>exact absurd ⟨hb,fun k hk=>by rw [h] at hk;cases hk⟩ h2
   ·exact slcG_none now gs i h j (by omega)
theorem slcG_some (now:Int)(gs:List Ga):∀i k,slcG now gs i=some k→∀j,j<i→expB now (gs.getD j dG)=true→(gs.getD k dG).t≤(gs.getD j dG).t∧(j<k→(gs.getD k dG).t<(gs.getD j dG).t)
 |0,_,h,_,_,_=>nomatch h
 |i+1,k,h,j,hj,hb=>by
  unfold slcG at h
  split at h
  ·rename_i h2
   cases h
   by_cases e:j=i
   ·subst e
    exact ⟨Int.le_refl _,fun h=>absurd h (Nat.lt_irrefl _)⟩
   ·cases hs:slcG now gs i with
    |none=>have:=slcG_none now gs i hs j (by omega);rw [hb] at this;cases this
    |some m=>
     have h3:=h2.2 m hs
     have h4:=(slcG_some now gs i m hs j (by omega) hb).1
     exact ⟨by omega,fun _=>by omega⟩
  ·rename_i h2
   by_cases e:j=i
   ·subst e
    have hk:=slcG_lt now gs j k h
    refine ⟨?_,fun h=>by omega⟩
    by_cases hlt:(gs.getD j dG).t<(gs.getD k dG).t
    ·exact absurd ⟨hb,fun m hm=>by rw [h] at hm;cases hm;exact hlt⟩ h2
    ·omega
   ·exact slcG_some now gs i k h j (by omega) hb
theorem getD_G {gs:List Ga}{j:Nat}(h:j<gs.length):gs.getD j dG=gs[j]:=by
 rw [List.getD_eq_getElem?_getD,List.getElem?_eq_getElem h]
 rfl
theorem exG_nil {now:Int}{gs:List Ga}(h:slcG now gs gs.length=none):exG now gs=[]:=by
 have hf:gs.filter (expB now)=[]:=List.filter_eq_nil_iff.2 fun x hx=>by
  obtain ⟨j,hj,rfl⟩:=List.getElem_of_mem hx
  have:=slcG_none now gs gs.length h j hj
  rw [getD_G hj] at this
  rw [this]
  simp
 have:=exG_perm now gs
 rw [hf] at this
 exact this.eq_nil
theorem low_at {gs:List Ga}(hs:SrtG gs){j:Nat}(hj:j<gs.length):lowG gs[j].g gs=j:=
 lowG_eq _ gs j (by omega) (fun k hk hkj=>srtG_get hs hkj hj) (fun _=>by omega)
theorem exG_cons {now:Int}{gs:List Ga}(hs:SrtG gs){k:Nat}(h:slcG now gs gs.length=some k)(hk:k<gs.length):exG now gs=gs[k]::exG now (delG gs[k].g gs):=by
 have hlow:=low_at hs hk
 have hlt:=slcG_lt now gs gs.length k h
 rw [getD_G hk] at hlt
 have hd:delG gs[k].g gs=gs.take k++gs.drop (k+1):=by unfold delG;rw [hlow]
 have hds:SrtG (delG gs[k].g gs):=delG_srt hs
 refine lx_eq (exG_srt hs) (List.pairwise_cons.2 ⟨fun y hy=>?_,exG_srt hds⟩) ?_
 ·obtain ⟨hm,h1,h2⟩:=exG_mem y hy
  obtain ⟨hyg,hne⟩:=(del_mem hs (List.getElem_mem hk)).1 hm
  obtain ⟨j,hj,rfl⟩:=List.getElem_of_mem hyg
  have h3:=slcG_some now gs gs.length k h j hj (by rw [getD_G hj];exact decide_eq_true ⟨h1,h2⟩)
  rw [getD_G hj,getD_G hk] at h3
  unfold lxG
  by_cases hjk:j<k
  ·have:=h3.2 hjk
   omega
  ·have hkj:k<j:=by
    rcases Nat.lt_or_ge k j with h|h
    ·exact h
    ·exact absurd (show gs[j].g=gs[k].g by congr 2;omega) hne
   have:=srtG_get hs hkj hj
   omega
 ·refine (exG_perm now gs).trans ?_
  refine List.Perm.trans ?_ (List.Perm.cons _ (exG_perm now _).symm)
  have e:gs=gs.take k++gs[k]::gs.drop (k+1):=by rw [←List.drop_eq_getElem_cons hk,List.take_append_drop]
  rw [hd,List.filter_append]
  have e2:gs.filter (expB now)=(gs.take k).filter (expB now)++gs[k]::(gs.drop (k+1)).filter (expB now):=by
   have:=congrArg (List.filter (expB now)) e
   rw [List.filter_append,List.filter_cons,if_pos hlt.2] at this
   exact this
  rw [e2]
  exact List.perm_middle
theorem exG_fold {now most:Int}{s:Stp}:∀(E:List Ga) (c:Rs),SrtG c.gs→exG now c.gs=E→∀j,j≤E.length→SrtG ((E.take j).foldl (clk1 most s) c).gs∧exG now ((E.take j).foldl (clk1 most s) c).gs=E.drop j
 |E,c,hs,he,0,_=>⟨hs,he⟩
 |[],_,_,_,j+1,hj=>absurd hj (by simp)
 |x::E,c,hs,he,j+1,hj=>by
  have hx:∃k,slcG now c.gs c.gs.length=some k:=by
   cases h:slcG now c.gs c.gs.length with
   |none=>rw [exG_nil h] at he;cases he
   |some k=>exact ⟨k,rfl⟩
  obtain ⟨k,hk⟩:=hx
  have hkl:=(slcG_lt now c.gs _ k hk).1
  have hc:=exG_cons hs hk hkl
  rw [he] at hc
  obtain ⟨rfl,hE⟩:=List.cons.inj hc
  have hg:=clk1_gs most s c c.gs[k]
  have ih:=exG_fold (most:=most) (s:=s) E (clk1 most s c c.gs[k]) (by rw [hg];exact delG_srt hs) (by rw [hg];exact hE.symm) j (by simpa using hj)
  simpa using ih
theorem sel_at {now:Int}{gs:List Ga}(hs:SrtG gs){x:Ga}{E:List Ga}(he:exG now gs=x::E):∃k,∃hk:k<gs.length,slcG now gs gs.length=some k∧gs[k]=x:=by
 cases h:slcG now gs gs.length with
 |none=>rw [exG_nil h] at he;cases he
 |some k=>
  have hkl:=(slcG_lt now gs _ k h).1
  have hc:=exG_cons hs h hkl
  rw [he] at hc
  exact ⟨k,hkl,rfl,((List.cons.inj hc).1).symm⟩
theorem sel_end {now:Int}{gs:List Ga}(hs:SrtG gs)(he:exG now gs=[]):slcG now gs gs.length=none:=by
 cases h:slcG now gs gs.length with
 |none=>rfl
 |some k=>
  have hc:=exG_cons hs h (slcG_lt now gs _ k h).1
  rw [he] at hc
  cases hc
end Go.Proofs.YthphniobeigklaaGreatDoor.Ag
namespace Go.Proofs.YthphniobeigklaaGreatDoor.Ag
open Go Go.Em Go.Proofs.YthphniobeigklaaGreatDoor
set_option maxRecDepth 100000
def groupFsG (g:Bool)(es:List (List X))(c k:Int):List (List X):=[strX countNm::(kv c).cells,strX itemsNm::itemsG g es,strX keyNm::(kv k).cells]
theorem ev_keyG (g:Bool)(k c:Int)(es:List (List X))(N:Nat):Gam.pureD (callF tab ext (N+300)) 55 [.agg keyX,envX (groupFsG g es c k)]=some (.tup [.agg (kv k).cells,num 0]):=by kernel_rfl
theorem ev_countG (g:Bool)(k c:Int)(es:List (List X))(N:Nat):Gam.pureD (callF tab ext (N+300)) 55 [.agg countX,envX (groupFsG g es c k)]=some (.tup [.agg (kv c).cells,num 0]):=by kernel_rfl
theorem groupEnvG (g w:Bool)(l:List Bd)(c k:Int):EnvOk g w (groupFsG g (bdG w l) c k) l:=
 ⟨fun M hM=>by
  obtain ⟨K,rfl⟩:∃K,M=K+60:=⟨M-60,by omega⟩
  generalize bdG w l=es
  kernel_rfl,fun M hM=>by
  obtain ⟨K,rfl⟩:∃K,M=K+60:=⟨M-60,by omega⟩
  generalize bdG w l=es
  kernel_rfl⟩
section
variable (most c k s:Int) (env:List (List X)) (N:Nat)
variable (hk:Gam.pureD (callF tab ext (N+300)) 55 [.agg keyX,envX env]=some (.tup [.agg (kv k).cells,num 0]))
variable (hc:Gam.pureD (callF tab ext (N+300)) 55 [.agg countX,envX env]=some (.tup [.agg (kv c).cells,num 0]))
variable (hs:Gam.pureD (callF tab ext (N+300)) 55 [.agg sumX,envX env]=some (.tup [.agg (kv s).cells,num 0]))
include hk hc hs
theorem it166E:callF tab ext (N+301) (.fn 166) [.yl 0,.dp [.sl false 6 ruX],.dp (recV env),.ptr 1 0 0] (gA most [])=some (.tup [],gA most (resFs c k s)):=by
 obtain ⟨υ0,a1,b1⟩:=it_0 most k env N hk
 obtain ⟨υ1,a2,b2⟩:=it_1 most c k env N hc
 obtain ⟨υ2,a3,b3⟩:=it_2 most c k s env N hs
 have hl:run (callF tab ext (N+300)) 7 (N+300) (.loop (loopAt 166 0)) (itA most env [] 0)=some (.exit 0,itE most env (resFs c k s)):=iter_step (it_canon0 ..) a1 (iter_step b1 a2 (iter_step b2 a3 (iter_end b3 (it_3 ..) (by simp))))
 exact callF_of [(11,.p (.sl false 1 tgX))] [(.exit 0,itE most env (resFs c k s))] (pf2 (tg167 N) hl) (by kernel_rfl)
theorem ap_rfE:run (callF tab ext (N+301)) 0 (N+301) (.rf (.t 30) [31,32] [5,10,11,12] (rfAt 89).1 (rfAt 89).2) (apS most env [])=some (.norm,apE most env (resFs c k s)):=by
 have h5:=it166E most c k s env N hk hc hs
 exact rf_of (g:=166) (caps:=[.dp [.sl false 6 ruX],.dp (recV env),.ptr 8 0 0]) (y:=.tup []) (outb:=gA most (resFs c k s))
   (q:=(.tup [],apB most env (resFs c k s)++[.loop .ready none [(5,.ptr 2 0 0),(10,.ptr 5 0 0),(11,.ptr 6 0 0),(12,.ptr 7 0 0)] [31,32] (rfAt 89).1 (rfAt 89).2],[9,8,2,5,6,7,4])) h5 (by kernel_rfl) (by kernel_rfl) (by kernel_rfl)
end
theorem apply_envE (most c k s:Int)(env:List (List X))(hc:1≤c∧c≤256)(hk:0≤k∧k≤255)(h0:0≤s∧s≤100000)(N:Nat)(hN:61000≤N)
  (hek:∀M,Gam.pureD (callF tab ext (M+300)) 55 [.agg keyX,envX env]=some (.tup [.agg (kv k).cells,num 0])) (hec:∀M,Gam.pureD (callF tab ext (M+300)) 55 [.agg countX,envX env]=some (.tup [.agg (kv c).cells,num 0]))
  (hs:∀M,5001≤M→Gam.pureD (callF tab ext M) 55 [.agg sumX,envX env]=some (.tup [.agg (kv s).cells,num 0])):
  Gam.pureD (callF tab ext N) 89 [.agg [.sl false 6 ruX],envX env,.agg (tyV most)]=some (if s≤most then .tup [.agg (resV c k s).cells,num 0] else .tup [.agg (Val.mk 0 0 0 ⟨#[]⟩ [] []).cells,num 18]):=by
 obtain ⟨M,rfl⟩:∃M,N=M+302:=⟨N-302,by omega⟩
 have h1:=ap_rfE most c k s env M (hek M) (hec M) (hs _ (by omega))
 have h2:=form115 (M+1)
 have h3:=complete119 c k s most hc hk h0.1 (M+301) (by omega)
 have h4:=chk_res c k s ⟨by omega,by omega⟩ ⟨by omega,by omega⟩ ⟨by omega,by omega⟩ (M+301) (by omega)
 by_cases hle:s≤most
 ·rw [if_pos hle] at h3 ⊢
  exact pure_of [(18,.p (num 0)),(68,.p (.tup [.agg (resV c k s).cells,num 0])),(76,.p (num 0))] [(.norm,apE most env (resFs c k s))] (pf4 h2 h1 h3 h4) (x:=.tup [.agg (resV c k s).cells,num 0]) (bx:=[]) (by kernel_rfl) rfl
 ·rw [if_neg hle] at h3 ⊢
  exact pure_of [(18,.p (num 0)),(68,.p (.tup [.agg (Val.mk 0 0 0 ⟨#[]⟩ [] []).cells,num 18]))] [(.norm,apE most env (resFs c k s))] (pf3 h2 h1 h3) (x:=.tup [.agg [num 0,num 0,num 0,strX ⟨#[]⟩,.sl true 6 [],.sl true 7 []],num 18]) (bx:=[]) (by kernel_rfl) rfl
theorem apply89G (g w:Bool)(most k:Int)(l:List Bd)(ht:Tiny (nsOf l))(h0:0<l.length)(hl:l.length≤256)(hk:0≤k∧k≤255)(N:Nat)(hN:61000≤N):
  Gam.pureD (callF tab ext N) 89 [.agg [.sl false 6 ruX],envX (groupFsG g (bdG w l) (l.length:Nat) k),.agg (tyV most)]=some (if ((sumN (nsOf l):Nat):Int)≤most then .tup [.agg (resV (l.length:Nat) k (sumN (nsOf l):Nat)).cells,num 0] else .tup [.agg (Val.mk 0 0 0 ⟨#[]⟩ [] []).cells,num 18]):=by
 have hle:=sumN_le ht
 rw [nsOf_len] at hle
 exact apply_envE most (l.length:Nat) k (sumN (nsOf l):Nat) _ ⟨by omega,by omega⟩ hk ⟨by omega,by omega⟩ N hN (ev_keyG g k _ _) (ev_countG g k _ _) fun M hM=>ev_sum (groupEnvG g w l (l.length:Nat) k) ht h0 hl M hM
end Go.Proofs.YthphniobeigklaaGreatDoor.Ag
namespace Go.Proofs.YthphniobeigklaaGreatDoor.Ag
open Go Go.Em Go.Proofs.YthphniobeigklaaGreatDoor
set_option maxRecDepth 100000
theorem without53 (ss:List (List X))(i:Nat)(hi:i<ss.length)(hl:ss.length≤1000)(N:Nat):Gam.pureD (callF tab ext (N+600)) 53 [.agg [num 0,num 0,.sl false 10 ss],nat i]=some (.agg [num 0,num 0,.sl false 10 (ss.take i++ss.drop (i+1))]):=by
 have h17:(Int.ofNat (i+1)).toNat≤ss.length∧ss.length≤ss.length:=⟨hi,Nat.le_refl _⟩
 have h16:=next_nat (j:=i) (by omega)
 cases i with
 |zero=>
  have e:([]:List (List X))++List.drop (Int.ofNat 1).toNat (List.take ss.length ss)=ss.take 0++ss.drop (0+1):=by
   rw [List.take_length];rfl
  have h18:roomOk (([]:List (List X)).length+(List.drop (Int.ofNat 1).toNat (List.take ss.length ss)).length) (151+1)=true:=
   have hh:(([]:List (List X)).length+(List.drop (Int.ofNat 1).toNat (List.take ss.length ss)).length)≤1000:=by rw [List.take_length,List.length_drop];simp only [List.length_nil];omega
   room_of (by omega) (by omega)
  rw [←e]
  exact pure_of [(17,.cut),(18,.fresh)] [] (pf2 h17 h18) (x:=.agg ([num 0,num 0,.sl false 10 ([]++List.drop (Int.ofNat 1).toNat (List.take ss.length ss))])) (bx:=[]) (by kernel_rfl) rfl
 |succ j=>
  generalize hij:j+1=i at*
  have hne:(List.drop 0 (List.take (Int.ofNat i).toNat ss)).length=i:=by
   show (List.take i ss).length=i
   rw [List.length_take];omega
  have h11:0≤(Int.ofNat i).toNat∧(Int.ofNat i).toNat≤ss.length:=⟨Nat.zero_le _,Nat.le_of_lt hi⟩
  have h12:(List.drop 0 (List.take (Int.ofNat i).toNat ss)).isEmpty=false∧roomOk (([]:List (List X)).length+(List.drop 0 (List.take (Int.ofNat i).toNat ss)).length) (151+1)=true:=
   ⟨by
    cases hx:List.drop 0 (List.take (Int.ofNat i).toNat ss) with
    |nil=>rw [hx] at hne;simp at hne;omega
    |cons a r=>rfl,
   room_of (by rw [hne];simp only [List.length_nil];omega) (by rw [hne];simp only [List.length_nil];omega)⟩
  have hd:(List.drop (Int.ofNat (i+1)).toNat (List.take ss.length ss)).length=ss.length-(i+1):=by
   rw [List.take_length,List.length_drop];rfl
  have h18:0+(0+(List.drop 0 (List.take (Int.ofNat i).toNat ss)).length)=(([]:List (List X))++List.drop 0 (List.take (Int.ofNat i).toNat ss)).length∧roomOk (0+(List.drop 0 (List.take (Int.ofNat i).toNat ss)).length+(List.drop (Int.ofNat (i+1)).toNat (List.take ss.length ss)).length) (151+1)=true∧memN 3 []=false:=
   ⟨by rw [List.nil_append];omega,room_of (by rw [hne,hd];omega) (by rw [hne,hd];omega),rfl⟩
  have e:List.drop 0 (([]:List (List X))++List.drop 0 (List.take (Int.ofNat i).toNat ss))++List.drop (Int.ofNat (i+1)).toNat (List.take ss.length ss)=ss.take i++ss.drop (i+1):=by
   rw [List.take_length];rfl
  have hn:(0+(List.drop 0 (List.take (Int.ofNat i).toNat ss)).length+(List.drop (Int.ofNat (i+1)).toNat (List.take ss.length ss)).length)=(List.drop 0 (([]:List (List X))++List.drop 0 (List.take (Int.ofNat i).toNat ss))++List.drop (Int.ofNat (i+1)).toNat (List.take ss.length ss)).length:=by
   rw [List.length_append]
   show 0+_+_=(List.drop 0 (List.take (Int.ofNat i).toNat ss)).length+_
   omega
  have hdt:(X.agg ([num 0,num 0,.bs 0 0 (0+(List.drop 0 (List.take (Int.ofNat i).toNat ss)).length+(List.drop (Int.ofNat (i+1)).toNat (List.take ss.length ss)).length)])).data [.row 10 (List.drop 0 ([]++List.drop 0 (List.take (Int.ofNat i).toNat ss))++List.drop (Int.ofNat (i+1)).toNat (List.take ss.length ss))] false=some (.agg [num 0,num 0,.sl false 10 (List.drop 0 ([]++List.drop 0 (List.take (Int.ofNat i).toNat ss))++List.drop (Int.ofNat (i+1)).toNat (List.take ss.length ss))]):=
   data_agg (dataL_cons rfl (dataL_cons rfl (dataL_cons (data_bs rfl hn) rfl)))
  rw [←e]
  exact pure_of [(11,.cut),(12,.fresh),(16,.i (Int.ofNat (i+1))),(17,.cut),(18,.app)] [] (pf5 h11 h12 h16 h17 h18) (x:=.agg ([num 0,num 0,.bs 0 0 (0+(List.drop 0 (List.take (Int.ofNat i).toNat ss)).length+(List.drop (Int.ofNat (i+1)).toNat (List.take ss.length ss)).length)])) (bx:=[.row 10 (List.drop 0 ([]++List.drop 0 (List.take (Int.ofNat i).toNat ss))++List.drop (Int.ofNat (i+1)).toNat (List.take ss.length ss))]) (by kernel_rfl) hdt
def oX (ss:List (List X))(i no j nf q nl:Nat):List X:=[num 0,num 0,.sl false 10 ss,.bs i 0 no,.sl true 11 [],.bs j 0 nf,.bs q 0 nl]
section
variable (nu ti li:Int) (ex ty ru ss O F L ms:List (List X)) (r:ByteArray) (no nf nl j:Nat) (v w:Bool) (N:Nat)
def rjB:List Bx:=if w then [.var (oX ss 1 no 2 nf 3 nl),.row 11 O,.row 6 F,.row 10 L,.var (nodX nu ti li ex ty ru)] else [.var (oX ss 1 no 5 nf 6 nl),.row 11 O,.dead,.dead,.var (nodX nu ti li ex ty ru),.row 6 F,.row 10 L]
def rjH:St:=⟨[(0,.ptr 0 0 0),(2,.sl v 10 ms),(3,strX r),(5,.ptr 4 0 0),(8,nat j)],rjB nu ti li ex ty ru ss O F L no nf nl w⟩
def rjE:St:=⟨[(0,.ptr 0 0 0),(2,.sl v 10 ms),(3,strX r),(5,.ptr 4 0 0),(8,nat j),(12,boolX false)],rjB nu ti li ex ty ru ss O F L no nf nl w⟩
theorem rj_canon:canon 4 (rjH nu ti li ex ty ru ss O F L ms r no nf nl j v w)=some (rjH nu ti li ex ty ru ss O F L ms r no nf nl j v w):=by
 cases w with
 |true=>kernel_rfl
 |false=>kernel_rfl
theorem rj_end (h:¬j<ms.length):run (callF tab ext N) 4 N (loopAt 59 0) (rjH nu ti li ex ty ru ss O F L ms r no nf nl j v false)=some (.exit 0,rjE nu ti li ex ty ru ss O F L ms r no nf nl j v false):=
 run_of [(12,.b false)] [] (pf1 (nlt_nat h)) (lo':=[]) (by kernel_rfl)
theorem rj_round (m:Msg)(hm:m.ok)(he:ms[j]?=some m.cells)(hj:j<ms.length)(hn:ms.length<5000)(hf:nf=F.length)(hl:nl=L.length)(hf2:nf<5000)(hl2:nl<5000)(hN:190100≤N):
  ∃υ,run (callF tab ext N) 4 N (loopAt 59 0) (rjH nu ti li ex ty ru ss O F L ms r no nf nl j v w)=some (.norm,υ)∧canon 4 υ=some (rjH nu ti li ex ty ru ss O (F++[(Fte.mk m.st 4 aggT [] r).cells]) (L++[m.cells]) ms r no (nf+1) (nl+1) (j+1) v false):=by
 have h98:=rejected_pure m hm aggT r N (by omega)
 have h1:=lt_nat hj
 have h2:=next_nat (j:=j) (by omega)
 have h3:=app_ok (acc:=F) nf 0 96 (by omega) (by omega) (by omega)
 have h4:=app_ok (acc:=L) nl 0 152 (by omega) (by omega) (by omega)
 obtain ⟨⟨e,p⟩,mm,o,⟨a1,a2,a3,a4,a5,a6⟩⟩:=m
 cases w with
 |true=>exact rd_of [(12,.b true),(22,.e (Msg.mk ⟨e,p⟩ mm o (.mk a1 a2 a3 a4 a5 a6)).cells),(27,.p (.agg (Fte.mk ⟨e,p⟩ 4 aggT [] r).cells)),(29,.app),(39,.e (Msg.mk ⟨e,p⟩ mm o (.mk a1 a2 a3 a4 a5 a6)).cells),(42,.app),(14,.i (Int.ofNat (j+1)))] (pf7 h1 he h98 h3 he h4 h2) (by kernel_rfl)
 |false=>exact rd_of [(12,.b true),(22,.e (Msg.mk ⟨e,p⟩ mm o (.mk a1 a2 a3 a4 a5 a6)).cells),(27,.p (.agg (Fte.mk ⟨e,p⟩ 4 aggT [] r).cells)),(29,.app),(39,.e (Msg.mk ⟨e,p⟩ mm o (.mk a1 a2 a3 a4 a5 a6)).cells),(42,.app),(14,.i (Int.ofNat (j+1)))] (pf7 h1 he h98 h3 he h4 h2) (by kernel_rfl)
end
def omB (ss:List (List X))(O:List Otp)(F:List Fte)(L:List Msg):List Bx:=[.var (oX ss 1 O.length 2 F.length 3 L.length),.row 11 (otpsC O),.row 6 (ftesC F),.row 10 (msgsC L)]
def omM (ss:List (List X))(O:List Otp)(F:List Fte)(L:List Msg):List Bx:=[.var (oX ss 4 O.length 5 F.length 3 L.length),.dead,.dead,.row 10 (msgsC L),.row 11 (otpsC O),.row 6 (ftesC F)]
def omR (ss:List (List X))(O:List Otp)(F:List Fte)(L:List Msg):List Bx:=[.var (oX ss 1 O.length 4 F.length 5 L.length),.row 11 (otpsC O),.dead,.dead,.row 6 (ftesC F),.row 10 (msgsC L)]
theorem rej59 (v:Bool)(nu ti li:Int)(ex ty ru ss:List (List X))(O:List Otp)(F:List Fte)(L ms:List Msg)(r:ByteArray)(h0:0<ms.length)(hm:∀m,m∈ms→m.ok)(hn:ms.length<1000)(hf:F.length<2000)(hl:L.length<2000)(N:Nat)(hN:190110≤N):
  callF tab ext N (.fn 59) [.ptr 0 0 0,.agg (nodX nu ti li ex ty ru),.sl v 10 (msgsC ms),strX r] (omB ss O F L)=some (.tup [],omR ss O (F++rejF ms r) (L++ms)):=by
 obtain ⟨M,rfl⟩:∃M,N=M+1:=⟨N-1,by omega⟩
 have hk:=msgsC_length ms
 have hlF:=ftesC_length F
 have hlL:=msgsC_length L
 have hrun:run (callF tab ext M) 4 M (.loop (loopAt 59 0)) (rjH nu ti li ex ty ru ss (otpsC O) (ftesC F) (msgsC L) (msgsC ms) r O.length F.length L.length 0 v true)=some (.exit 0,rjE nu ti li ex ty ru ss (otpsC O) (ftesC (F++rejF ms r)) (msgsC (L++ms)) (msgsC ms) r O.length (F++rejF ms r).length (L++ms).length (msgsC ms).length v false):=by
  refine loop_for (σ:=fun j=>rjH nu ti li ex ty ru ss (otpsC O) (ftesC (F++rejF (ms.take j) r)) (msgsC (L++ms.take j)) (msgsC ms) r O.length (F++rejF (ms.take j) r).length (L++ms.take j).length j v (decide (j=0))) (k:=(msgsC ms).length) ?_ (fun j hj=>?_) ?_ (by simp) (by omega)
  ·have:=rj_canon nu ti li ex ty ru ss (otpsC O) (ftesC F) (msgsC L) (msgsC ms) r O.length F.length L.length 0 v true
   simpa [rejF] using this
  ·have hj':j<ms.length:=by omega
   have e1:F++rejF (ms.take (j+1)) r=(F++rejF (ms.take j) r)++[Fte.mk ms[j].st 4 aggT [] r]:=by
    unfold rejF
    rw [List.take_succ_eq_append_getElem hj',List.map_append,List.append_assoc]
    rfl
   have e2:L++ms.take (j+1)=(L++ms.take j)++[ms[j]]:=by rw [List.take_succ_eq_append_getElem hj',List.append_assoc]
   have q1:(F++rejF (ms.take j) r).length≤F.length+j:=by simp [rejF];omega
   have q2:(L++ms.take j).length≤L.length+j:=by simp;omega
   rw [e1,e2,show decide (j+1=0)=false from decide_eq_false (by omega)]
   generalize F++rejF (ms.take j) r=Fj at*
   generalize L++ms.take j=Lj at*
   have:=rj_round nu ti li ex ty ru ss (otpsC O) (ftesC Fj) (msgsC Lj) (msgsC ms) r O.length Fj.length Lj.length j v (decide (j=0)) M ms[j] (hm _ (List.getElem_mem hj')) (msgsC_get hj') hj (by omega) (ftesC_length Fj).symm (msgsC_length Lj).symm (by omega) (by omega) (by omega)
   have a1:ftesC (Fj++[Fte.mk ms[j].st 4 aggT [] r])=ftesC Fj++[(Fte.mk ms[j].st 4 aggT [] r).cells]:=by simp [ftesC]
   have a2:msgsC (Lj++[ms[j]])=msgsC Lj++[ms[j].cells]:=by simp [msgsC]
   have a3:(Fj++[Fte.mk ms[j].st 4 aggT [] r]).length=Fj.length+1:=by simp
   have a4:(Lj++[ms[j]]).length=Lj.length+1:=by simp
   rw [a1,a2,a3,a4]
   exact this
  ·rw [List.take_of_length_le (by omega),show decide ((msgsC ms).length=0)=false from decide_eq_false (by omega)]
   exact rj_end nu ti li ex ty ru ss (otpsC O) _ _ _ r _ _ _ _ v M (by omega)
 unfold omB omR
 generalize ftesC (F++rejF ms r)=F2 at*
 generalize msgsC (L++ms)=L2 at*
 generalize (F++rejF ms r).length=nf2 at*
 generalize (L++ms).length=nl2 at*
 generalize ftesC F=F1 at*
 generalize msgsC L=L1 at*
 generalize msgsC ms=M1 at*
 generalize otpsC O=O1 at*
 generalize O.length=no at*
 exact callF_of [] [(.exit 0,rjE nu ti li ex ty ru ss O1 F2 L2 M1 r no nf2 nl2 M1.length v false)] (pf1 hrun) (by kernel_rfl)
section
variable (ms acc:List (List X)) (j:Nat) (N:Nat)
def b6H:St:=⟨[(0,.sl false 10 ms),(3,.bs 0 0 j),(4,nat j)],[.row 6 acc]⟩
def b6E:St:=⟨[(0,.sl false 10 ms),(3,.bs 0 0 j),(4,nat j),(8,boolX false)],[.row 6 acc]⟩
theorem b6_canon:canon 0 (b6H ms acc j)=some (b6H ms acc j):=by kernel_rfl
theorem b6_end (h:¬j<ms.length):run (callF tab ext N) 0 N (loopAt 61 0) (b6H ms acc j)=some (.exit 0,b6E ms acc j):=
 run_of [(8,.b false)] [] (pf1 (nlt_nat h)) (lo':=[]) (by kernel_rfl)
theorem b6_round (m:Msg)(he:ms[j]?=some m.cells)(hj:j<ms.length)(hn:ms.length<1000)(ha:j=acc.length):
  ∃υ,run (callF tab ext N) 0 N (loopAt 61 0) (b6H ms acc j)=some (.norm,υ)∧canon 0 υ=some (b6H ms (acc++[m.body.cells]) (j+1)):=by
 have h1:=lt_nat hj
 have h2:=next_nat (j:=j) (by omega)
 have h3:=app_ok (acc:=acc) j 0 88 ha (by omega) (by omega)
 obtain ⟨⟨e,p⟩,mm,o,⟨a1,a2,a3,a4,a5,a6⟩⟩:=m
 exact rd_of [(8,.b true),(14,.e (Msg.mk ⟨e,p⟩ mm o (.mk a1 a2 a3 a4 a5 a6)).cells),(18,.app),(10,.i (Int.ofNat (j+1)))] (pf4 h1 he h3 h2) (by kernel_rfl)
end
theorem bodies61 (ms:List Msg)(hl:ms.length<1000)(N:Nat)(hN:1100≤N):Gam.pureD (callF tab ext N) 61 [.sl false 10 (msgsC ms)]=some (.sl false 6 (bodC ms)):=by
 obtain ⟨M,rfl⟩:∃M,N=M+1:=⟨N-1,by omega⟩
 have hn:=msgsC_length ms
 have h1:run (callF tab ext M) 0 M (.loop (loopAt 61 0)) (b6H (msgsC ms) [] 0)=some (.exit 0,b6E (msgsC ms) (bodC ms) (msgsC ms).length):=by
  refine loop_for (σ:=fun j=>b6H (msgsC ms) (bodC (ms.take j)) j) (k:=(msgsC ms).length) (b6_canon ..) (fun j hj=>?_) ?_ (by simp) (by omega)
  ·have hj':j<ms.length:=by omega
   have e:bodC (ms.take (j+1))=bodC (ms.take j)++[ms[j].body.cells]:=by
    unfold bodC
    rw [List.take_succ_eq_append_getElem hj',List.map_append]
    rfl
   rw [e]
   exact b6_round _ _ j M ms[j] (msgsC_get hj') hj (by omega) (by simp [bodC];omega)
  ·rw [List.take_of_length_le (by omega)]
   exact b6_end _ _ _ M (by omega)
 have hlen:(msgsC ms).length=(bodC ms).length:=by simp [msgsC,bodC]
 generalize bodC ms=B at*
 generalize msgsC ms=L at*
 exact pure_of [] [(.exit 0,b6E L B L.length)] (pf1 h1) (x:=.bs 0 0 L.length) (bx:=[.row 6 B]) (by kernel_rfl) (data_bs rfl hlen)
end Go.Proofs.YthphniobeigklaaGreatDoor.Ag
namespace Go.Proofs.YthphniobeigklaaGreatDoor.Ag
open Go Go.Em Go.Proofs.YthphniobeigklaaGreatDoor
set_option maxRecDepth 100000
section
variable (nu ti li most:Int) (ex ss s2:List (List X)) (q now e mm t a:Int) (n k h j:Nat)
def shB:List Bx:=[.var (nodX nu ti li (eKey::ex) (tyX most) ruX),.var [num 0,num 0,.sl false 10 ss],.var (inpX e mm now (some q) n),.var zeO,.var (oX ss 7 0 8 0 9 0),.var (msgX e mm (some q) n),.var (kv q).cells,.row 11 [],.row 6 [],.row 10 []]
def shS:St:=⟨[(3,.ptr 0 0 0),(4,.ptr 1 0 0),(5,.ptr 2 0 0),(6,.ptr 3 0 0),(7,.ptr 4 0 0),(12,.ptr 8 0 0),(13,.ptr 9 0 0),(15,num (-1)),(16,num 0),(17,num 0)],[.var (nodX nu ti li (eKey::ex) (tyX most) ruX),.var [num 0,num 0,.sl false 10 ss],.var (inpX e mm now (some q) n),.var zeO,.var (oX ss 5 0 6 0 7 0),.row 11 [],.row 6 [],.row 10 [],.var (msgX e mm (some q) n),.var (kv q).cells]⟩
def shH:St:=⟨[(3,.ptr 0 0 0),(4,.ptr 1 0 0),(5,.ptr 2 0 0),(6,.ptr 3 0 0),(7,.ptr 4 0 0),(12,.ptr 5 0 0),(13,.ptr 6 0 0),(15,num a),(16,nat h),(17,nat j)],shB nu ti li most ex ss q now e mm n⟩
def shE:St:=⟨[(3,.ptr 0 0 0),(4,.ptr 1 0 0),(5,.ptr 2 0 0),(6,.ptr 3 0 0),(7,.ptr 4 0 0),(12,.ptr 5 0 0),(13,.ptr 6 0 0),(15,num a),(16,nat h),(17,nat j),(131,boolX false)],shB nu ti li most ex ss q now e mm n⟩
theorem sh_canonS:canon 0 (shS nu ti li most ex ss q now e mm n)=some (shH nu ti li most ex ss q now e mm (-1) n 0 0):=by kernel_rfl
variable (N:Nat)
theorem sh_end (hj:¬j<ss.length):run (callF tab ext N) 0 N (loopAt 30 2) (shH nu ti li most ex ss q now e mm a n h j)=some (.exit 5,shE nu ti li most ex ss q now e mm a n h j):=
 run_of [(131,.b false)] [] (pf1 (nlt_nat hj)) (lo':=[]) (by kernel_rfl)
variable (g u:Int) (ms:List (List X)) (h2:Nat) (hj:j<ss.length) (hj2:j<1000) (he:ss[j]?=some (slX g u ms)) (hh:IntKind.i64.wrap (Int.ofNat h+Int.ofNat ms.length)=Int.ofNat h2)
include hj hj2 he hh
theorem sh_no (h16:Gam.pureD (callF tab ext N) 16 [.agg (kv g).cells,.agg (kv q).cells]=some (boolX false)):
  ∃υ,run (callF tab ext N) 0 N (loopAt 30 2) (shH nu ti li most ex ss q now e mm a n h j)=some (.norm,υ)∧canon 0 υ=some (shH nu ti li most ex ss q now e mm a n h2 (j+1)):=
 rd_of [(131,.b true),(138,.e (slX g u ms)),(142,.i (Int.ofNat h2)),(146,.e (slX g u ms)),(150,.p (boolX false)),(133,.i (Int.ofNat (j+1)))] (pf6 (lt_nat hj) he hh he h16 (next_nat (j:=j) (by omega))) (by kernel_rfl)
theorem sh_yes (h16:Gam.pureD (callF tab ext N) 16 [.agg (kv g).cells,.agg (kv q).cells]=some (boolX true)):
  ∃υ,run (callF tab ext N) 0 N (loopAt 30 2) (shH nu ti li most ex ss q now e mm a n h j)=some (.norm,υ)∧canon 0 υ=some (shH nu ti li most ex ss q now e mm j n h2 (j+1)):=
 rd_of [(131,.b true),(138,.e (slX g u ms)),(142,.i (Int.ofNat h2)),(146,.e (slX g u ms)),(150,.p (boolX true)),(133,.i (Int.ofNat (j+1)))] (pf6 (lt_nat hj) he hh he h16 (next_nat (j:=j) (by omega))) (by kernel_rfl)
end
section
variable (nu ti li most:Int) (ex ss s2:List (List X)) (q now e mm t:Int) (n k h i:Nat) (m0:List X) (ms bds O F L:List (List X)) (N:Nat)
theorem n_full (hl:run (callF tab ext (N+600)) 0 (N+600) (.loop (loopAt 30 2)) (shS nu ti li most ex ss q now e mm n)=some (.exit 5,shE nu ti li most ex ss q now e mm (-1) n h k))(h160:decide (Int.ofNat ss.length≥li)=true):
  Gam.pureD (callF tab ext (N+601)) 30 [.agg (nodX nu ti li (eKey::ex) (tyX most) ruX),.agg [num 0,num 0,.sl false 10 ss],.agg (inpX e mm now (some q) n)]=some (.agg [num 0,num 0,.sl false 10 ss,.sl false 11 [],.sl false 11 [],.sl false 6 [rejC e fullT],.sl false 10 [msgX e mm (some q) n]]):=
 pure_of [(160,.b true)] [(.exit 5,shE nu ti li most ex ss q now e mm (-1) n h k)] (pf2 hl h160) (x:=.agg [num 0,num 0,.sl false 10 ss,.bs 0 0 0,.sl true 11 [],.bs 1 0 1,.bs 2 0 1]) (bx:=[.row 11 [],.row 6 [rejC e fullT],.row 10 [msgX e mm (some q) n]]) (by kernel_rfl) rfl
theorem n_none:Gam.pureD (callF tab ext (N+601)) 30 [.agg (nodX nu ti li (eKey::ex) (tyX most) ruX),.agg [num 0,num 0,.sl false 10 ss],.agg (inpX e mm now none n)]=some (.agg [num 0,num 0,.sl false 10 ss,.sl false 11 [],.sl false 11 [],.sl false 6 [rejC e (errT 49 57)],.sl false 10 [msgX e mm none n]]):=
 pure_of [] [] pf0 (x:=.agg [num 0,num 0,.sl false 10 ss,.bs 0 0 0,.sl true 11 [],.bs 1 0 1,.bs 2 0 1]) (bx:=[.row 11 [],.row 6 [rejC e (errT 49 57)],.row 10 [msgX e mm none n]]) (by kernel_rfl) rfl
end
end Go.Proofs.YthphniobeigklaaGreatDoor.Ag
namespace Go.Proofs.YthphniobeigklaaGreatDoor.Ag
open Go Go.Em Go.Proofs.YthphniobeigklaaGreatDoor
set_option maxRecDepth 100000
section
variable (nu ti li most:Int) (ex ss s2:List (List X)) (q now e mm t:Int) (n k h i:Nat) (m0:List X) (ms bds O F L:List (List X)) (N:Nat)
theorem nF_err (hl:run (callF tab ext (N+600)) 0 (N+600) (.loop (loopAt 30 2)) (shS nu ti li most ex ss q now e mm n)=some (.exit 5,shE nu ti li most ex ss q now e mm (-1) n h k))(h160:decide (Int.ofNat ss.length≥li)=false)(h164:decide (Int.ofNat h≥256)=false)(h175:decide (ti>0)=false)(h61:Gam.pureD (callF tab ext (N+600)) 61 [.sl false 10 [msgX e mm (some q) n]]=some (.sl false 6 bds))(h19:Gam.pureD (callF tab ext (N+600)) 19 [.agg (nodX nu ti li (eKey::ex) (tyX most) ruX),.agg (kv q).cells,.sl false 6 bds]=some (.tup [boolX false,num 15])):
  Gam.pureD (callF tab ext (N+601)) 30 [.agg (nodX nu ti li (eKey::ex) (tyX most) ruX),.agg [num 0,num 0,.sl false 10 ss],.agg (inpX e mm now (some q) n)]=some (.agg [num 0,num 0,.sl false 10 ss,.sl false 11 [],.sl false 11 [],.sl false 6 [rejC e (errT 49 53)],.sl false 10 [msgX e mm (some q) n]]):=
 pure_of [(160,.b false),(164,.b false),(175,.b false),(203,.p (.sl false 6 bds)),(204,.p (.tup [boolX false,num 15]))] [(.exit 5,shE nu ti li most ex ss q now e mm (-1) n h k)] (pf6 hl h160 h164 h175 h61 h19) (x:=.agg [num 0,num 0,.sl false 10 ss,.bs 0 0 0,.sl true 11 [],.bs 1 0 1,.bs 2 0 1]) (bx:=[.row 11 [],.row 6 [rejC e (errT 49 53)],.row 10 [msgX e mm (some q) n]]) (by kernel_rfl) rfl
theorem nF_putn (hl:run (callF tab ext (N+600)) 0 (N+600) (.loop (loopAt 30 2)) (shS nu ti li most ex ss q now e mm n)=some (.exit 5,shE nu ti li most ex ss q now e mm (-1) n h k))(h160:decide (Int.ofNat ss.length≥li)=false)(h164:decide (Int.ofNat h≥256)=false)(h175:decide (ti>0)=false)(h61:Gam.pureD (callF tab ext (N+600)) 61 [.sl false 10 [msgX e mm (some q) n]]=some (.sl false 6 bds))(h19:Gam.pureD (callF tab ext (N+600)) 19 [.agg (nodX nu ti li (eKey::ex) (tyX most) ruX),.agg (kv q).cells,.sl false 6 bds]=some (.tup [boolX false,num 0]))(h62:Gam.pureD (callF tab ext (N+600)) 62 [.agg [num 0,num 0,.sl false 10 ss],.agg (slX q 0 [msgX e mm (some q) n])]=some (.tup [.agg [num 0,num 0,.sl false 10 s2],num 0])):
  Gam.pureD (callF tab ext (N+601)) 30 [.agg (nodX nu ti li (eKey::ex) (tyX most) ruX),.agg [num 0,num 0,.sl false 10 ss],.agg (inpX e mm now (some q) n)]=some (.agg [num 0,num 0,.sl false 10 s2,.sl false 11 [],.sl false 11 [],.sl false 6 [],.sl false 10 []]):=
 pure_of [(160,.b false),(164,.b false),(175,.b false),(203,.p (.sl false 6 bds)),(204,.p (.tup [boolX false,num 0])),(210,.p (.tup [.agg [num 0,num 0,.sl false 10 s2],num 0]))] [(.exit 5,shE nu ti li most ex ss q now e mm (-1) n h k)] (pf7 hl h160 h164 h175 h61 h19 h62) (x:=.agg [num 0,num 0,.sl false 10 s2,.bs 0 0 0,.sl true 11 [],.bs 1 0 0,.bs 2 0 0]) (bx:=[.row 11 [],.row 6 [],.row 10 []]) (by kernel_rfl) rfl
theorem nF_doneM (hl:run (callF tab ext (N+600)) 0 (N+600) (.loop (loopAt 30 2)) (shS nu ti li most ex ss q now e mm n)=some (.exit 5,shE nu ti li most ex ss q now e mm (-1) n h k))(h160:decide (Int.ofNat ss.length≥li)=false)(h164:decide (Int.ofNat h≥256)=false)(h175:decide (ti>0)=false)(h61:Gam.pureD (callF tab ext (N+600)) 61 [.sl false 10 [msgX e mm (some q) n]]=some (.sl false 6 bds))(h19:Gam.pureD (callF tab ext (N+600)) 19 [.agg (nodX nu ti li (eKey::ex) (tyX most) ruX),.agg (kv q).cells,.sl false 6 bds]=some (.tup [boolX true,num 0]))(h54:callF tab ext (N+600) (.fn 54) [.ptr 0 0 0,.agg (nodX nu ti li (eKey::ex) (tyX most) ruX),.agg [num e,.sl false 1 [[num 1]]],.agg (kv q).cells,.sl false 10 [msgX e mm (some q) n]] [.var (oX ss 1 0 2 0 3 0),.row 11 [],.row 6 [],.row 10 []]=some (.tup [],[.var (oX ss 4 O.length 5 F.length 3 L.length),.dead,.dead,.row 10 L,.row 11 O,.row 6 F])):
  Gam.pureD (callF tab ext (N+601)) 30 [.agg (nodX nu ti li (eKey::ex) (tyX most) ruX),.agg [num 0,num 0,.sl false 10 ss],.agg (inpX e mm now (some q) n)]=some (.agg [num 0,num 0,.sl false 10 ss,.sl false 11 O,.sl false 11 [],.sl false 6 F,.sl false 10 L]):=
 pure_of [(160,.b false),(164,.b false),(175,.b false),(203,.p (.sl false 6 bds)),(204,.p (.tup [boolX true,num 0])),(237,.r (.tup []) [.var (oX ss 4 O.length 5 F.length 3 L.length),.dead,.dead,.row 10 L,.row 11 O,.row 6 F])] [(.exit 5,shE nu ti li most ex ss q now e mm (-1) n h k)] (pf7 hl h160 h164 h175 h61 h19 h54) (x:=.agg [num 0,num 0,.sl false 10 ss,.bs 0 0 O.length,.sl true 11 [],.bs 1 0 F.length,.bs 2 0 L.length]) (bx:=[.row 11 O,.row 6 F,.row 10 L]) (by kernel_rfl) (data_agg (dataL_cons rfl (dataL_cons rfl (dataL_cons rfl (dataL_cons (data_bs rfl rfl) (dataL_cons rfl (dataL_cons (data_bs rfl rfl) (dataL_cons (data_bs rfl rfl) rfl))))))))
theorem nF_doneR (hl:run (callF tab ext (N+600)) 0 (N+600) (.loop (loopAt 30 2)) (shS nu ti li most ex ss q now e mm n)=some (.exit 5,shE nu ti li most ex ss q now e mm (-1) n h k))(h160:decide (Int.ofNat ss.length≥li)=false)(h164:decide (Int.ofNat h≥256)=false)(h175:decide (ti>0)=false)(h61:Gam.pureD (callF tab ext (N+600)) 61 [.sl false 10 [msgX e mm (some q) n]]=some (.sl false 6 bds))(h19:Gam.pureD (callF tab ext (N+600)) 19 [.agg (nodX nu ti li (eKey::ex) (tyX most) ruX),.agg (kv q).cells,.sl false 6 bds]=some (.tup [boolX true,num 0]))(h54:callF tab ext (N+600) (.fn 54) [.ptr 0 0 0,.agg (nodX nu ti li (eKey::ex) (tyX most) ruX),.agg [num e,.sl false 1 [[num 1]]],.agg (kv q).cells,.sl false 10 [msgX e mm (some q) n]] [.var (oX ss 1 0 2 0 3 0),.row 11 [],.row 6 [],.row 10 []]=some (.tup [],[.var (oX ss 1 O.length 4 F.length 5 L.length),.row 11 O,.dead,.dead,.row 6 F,.row 10 L])):
  Gam.pureD (callF tab ext (N+601)) 30 [.agg (nodX nu ti li (eKey::ex) (tyX most) ruX),.agg [num 0,num 0,.sl false 10 ss],.agg (inpX e mm now (some q) n)]=some (.agg [num 0,num 0,.sl false 10 ss,.sl false 11 O,.sl false 11 [],.sl false 6 F,.sl false 10 L]):=
 pure_of [(160,.b false),(164,.b false),(175,.b false),(203,.p (.sl false 6 bds)),(204,.p (.tup [boolX true,num 0])),(237,.r (.tup []) [.var (oX ss 1 O.length 4 F.length 5 L.length),.row 11 O,.dead,.dead,.row 6 F,.row 10 L])] [(.exit 5,shE nu ti li most ex ss q now e mm (-1) n h k)] (pf7 hl h160 h164 h175 h61 h19 h54) (x:=.agg [num 0,num 0,.sl false 10 ss,.bs 0 0 O.length,.sl true 11 [],.bs 1 0 F.length,.bs 2 0 L.length]) (bx:=[.row 11 O,.row 6 F,.row 10 L]) (by kernel_rfl) (data_agg (dataL_cons rfl (dataL_cons rfl (dataL_cons rfl (dataL_cons (data_bs rfl rfl) (dataL_cons rfl (dataL_cons (data_bs rfl rfl) (dataL_cons (data_bs rfl rfl) rfl))))))))
end
end Go.Proofs.YthphniobeigklaaGreatDoor.Ag
namespace Go.Proofs.YthphniobeigklaaGreatDoor.Ag
open Go Go.Em Go.Proofs.YthphniobeigklaaGreatDoor
set_option maxRecDepth 100000
section
variable (nu ti li most:Int) (ex ss s2:List (List X)) (q now e mm t:Int) (n k h i:Nat) (m0:List X) (ms bds O F L:List (List X)) (N:Nat)
theorem nG_err (hl:run (callF tab ext (N+600)) 0 (N+600) (.loop (loopAt 30 2)) (shS nu ti li most ex ss q now e mm n)=some (.exit 5,shE nu ti li most ex ss q now e mm (-1) n h k))(h160:decide (Int.ofNat ss.length≥li)=false)(h164:decide (Int.ofNat h≥256)=false)(h175:decide (ti>0)=true)(h180:IntKind.i64.wrap (now+ti)=t)(h181:(if false=true then if (17592186044416:Int)>t then 17592186044416 else t else if (17592186044416:Int)<t then 17592186044416 else t)=t)(h61:Gam.pureD (callF tab ext (N+600)) 61 [.sl false 10 [msgX e mm (some q) n]]=some (.sl false 6 bds))(h19:Gam.pureD (callF tab ext (N+600)) 19 [.agg (nodX nu ti li (eKey::ex) (tyX most) ruX),.agg (kv q).cells,.sl false 6 bds]=some (.tup [boolX false,num 15])):
  Gam.pureD (callF tab ext (N+601)) 30 [.agg (nodX nu ti li (eKey::ex) (tyX most) ruX),.agg [num 0,num 0,.sl false 10 ss],.agg (inpX e mm now (some q) n)]=some (.agg [num 0,num 0,.sl false 10 ss,.sl false 11 [],.sl false 11 [],.sl false 6 [rejC e (errT 49 53)],.sl false 10 [msgX e mm (some q) n]]):=
 pure_of [(160,.b false),(164,.b false),(175,.b true),(180,.i t),(181,.i t),(203,.p (.sl false 6 bds)),(204,.p (.tup [boolX false,num 15]))] [(.exit 5,shE nu ti li most ex ss q now e mm (-1) n h k)] (pf8 hl h160 h164 h175 h180 h181 h61 h19) (x:=.agg [num 0,num 0,.sl false 10 ss,.bs 0 0 0,.sl true 11 [],.bs 1 0 1,.bs 2 0 1]) (bx:=[.row 11 [],.row 6 [rejC e (errT 49 53)],.row 10 [msgX e mm (some q) n]]) (by kernel_rfl) rfl
theorem nG_putn (hl:run (callF tab ext (N+600)) 0 (N+600) (.loop (loopAt 30 2)) (shS nu ti li most ex ss q now e mm n)=some (.exit 5,shE nu ti li most ex ss q now e mm (-1) n h k))(h160:decide (Int.ofNat ss.length≥li)=false)(h164:decide (Int.ofNat h≥256)=false)(h175:decide (ti>0)=true)(h180:IntKind.i64.wrap (now+ti)=t)(h181:(if false=true then if (17592186044416:Int)>t then 17592186044416 else t else if (17592186044416:Int)<t then 17592186044416 else t)=t)(h61:Gam.pureD (callF tab ext (N+600)) 61 [.sl false 10 [msgX e mm (some q) n]]=some (.sl false 6 bds))(h19:Gam.pureD (callF tab ext (N+600)) 19 [.agg (nodX nu ti li (eKey::ex) (tyX most) ruX),.agg (kv q).cells,.sl false 6 bds]=some (.tup [boolX false,num 0]))(h62:Gam.pureD (callF tab ext (N+600)) 62 [.agg [num 0,num 0,.sl false 10 ss],.agg (slX q t [msgX e mm (some q) n])]=some (.tup [.agg [num 0,num 0,.sl false 10 s2],num 0])):
  Gam.pureD (callF tab ext (N+601)) 30 [.agg (nodX nu ti li (eKey::ex) (tyX most) ruX),.agg [num 0,num 0,.sl false 10 ss],.agg (inpX e mm now (some q) n)]=some (.agg [num 0,num 0,.sl false 10 s2,.sl false 11 [],.sl false 11 [],.sl false 6 [],.sl false 10 []]):=
 pure_of [(160,.b false),(164,.b false),(175,.b true),(180,.i t),(181,.i t),(203,.p (.sl false 6 bds)),(204,.p (.tup [boolX false,num 0])),(210,.p (.tup [.agg [num 0,num 0,.sl false 10 s2],num 0]))] [(.exit 5,shE nu ti li most ex ss q now e mm (-1) n h k)] (pf9 hl h160 h164 h175 h180 h181 h61 h19 h62) (x:=.agg [num 0,num 0,.sl false 10 s2,.bs 0 0 0,.sl true 11 [],.bs 1 0 0,.bs 2 0 0]) (bx:=[.row 11 [],.row 6 [],.row 10 []]) (by kernel_rfl) rfl
theorem nG_doneM (hl:run (callF tab ext (N+600)) 0 (N+600) (.loop (loopAt 30 2)) (shS nu ti li most ex ss q now e mm n)=some (.exit 5,shE nu ti li most ex ss q now e mm (-1) n h k))(h160:decide (Int.ofNat ss.length≥li)=false)(h164:decide (Int.ofNat h≥256)=false)(h175:decide (ti>0)=true)(h180:IntKind.i64.wrap (now+ti)=t)(h181:(if false=true then if (17592186044416:Int)>t then 17592186044416 else t else if (17592186044416:Int)<t then 17592186044416 else t)=t)(h61:Gam.pureD (callF tab ext (N+600)) 61 [.sl false 10 [msgX e mm (some q) n]]=some (.sl false 6 bds))(h19:Gam.pureD (callF tab ext (N+600)) 19 [.agg (nodX nu ti li (eKey::ex) (tyX most) ruX),.agg (kv q).cells,.sl false 6 bds]=some (.tup [boolX true,num 0]))(h54:callF tab ext (N+600) (.fn 54) [.ptr 0 0 0,.agg (nodX nu ti li (eKey::ex) (tyX most) ruX),.agg [num e,.sl false 1 [[num 1]]],.agg (kv q).cells,.sl false 10 [msgX e mm (some q) n]] [.var (oX ss 1 0 2 0 3 0),.row 11 [],.row 6 [],.row 10 []]=some (.tup [],[.var (oX ss 4 O.length 5 F.length 3 L.length),.dead,.dead,.row 10 L,.row 11 O,.row 6 F])):
  Gam.pureD (callF tab ext (N+601)) 30 [.agg (nodX nu ti li (eKey::ex) (tyX most) ruX),.agg [num 0,num 0,.sl false 10 ss],.agg (inpX e mm now (some q) n)]=some (.agg [num 0,num 0,.sl false 10 ss,.sl false 11 O,.sl false 11 [],.sl false 6 F,.sl false 10 L]):=
 pure_of [(160,.b false),(164,.b false),(175,.b true),(180,.i t),(181,.i t),(203,.p (.sl false 6 bds)),(204,.p (.tup [boolX true,num 0])),(237,.r (.tup []) [.var (oX ss 4 O.length 5 F.length 3 L.length),.dead,.dead,.row 10 L,.row 11 O,.row 6 F])] [(.exit 5,shE nu ti li most ex ss q now e mm (-1) n h k)] (pf9 hl h160 h164 h175 h180 h181 h61 h19 h54) (x:=.agg [num 0,num 0,.sl false 10 ss,.bs 0 0 O.length,.sl true 11 [],.bs 1 0 F.length,.bs 2 0 L.length]) (bx:=[.row 11 O,.row 6 F,.row 10 L]) (by kernel_rfl) (data_agg (dataL_cons rfl (dataL_cons rfl (dataL_cons rfl (dataL_cons (data_bs rfl rfl) (dataL_cons rfl (dataL_cons (data_bs rfl rfl) (dataL_cons (data_bs rfl rfl) rfl))))))))
theorem nG_doneR (hl:run (callF tab ext (N+600)) 0 (N+600) (.loop (loopAt 30 2)) (shS nu ti li most ex ss q now e mm n)=some (.exit 5,shE nu ti li most ex ss q now e mm (-1) n h k))(h160:decide (Int.ofNat ss.length≥li)=false)(h164:decide (Int.ofNat h≥256)=false)(h175:decide (ti>0)=true)(h180:IntKind.i64.wrap (now+ti)=t)(h181:(if false=true then if (17592186044416:Int)>t then 17592186044416 else t else if (17592186044416:Int)<t then 17592186044416 else t)=t)(h61:Gam.pureD (callF tab ext (N+600)) 61 [.sl false 10 [msgX e mm (some q) n]]=some (.sl false 6 bds))(h19:Gam.pureD (callF tab ext (N+600)) 19 [.agg (nodX nu ti li (eKey::ex) (tyX most) ruX),.agg (kv q).cells,.sl false 6 bds]=some (.tup [boolX true,num 0]))(h54:callF tab ext (N+600) (.fn 54) [.ptr 0 0 0,.agg (nodX nu ti li (eKey::ex) (tyX most) ruX),.agg [num e,.sl false 1 [[num 1]]],.agg (kv q).cells,.sl false 10 [msgX e mm (some q) n]] [.var (oX ss 1 0 2 0 3 0),.row 11 [],.row 6 [],.row 10 []]=some (.tup [],[.var (oX ss 1 O.length 4 F.length 5 L.length),.row 11 O,.dead,.dead,.row 6 F,.row 10 L])):
  Gam.pureD (callF tab ext (N+601)) 30 [.agg (nodX nu ti li (eKey::ex) (tyX most) ruX),.agg [num 0,num 0,.sl false 10 ss],.agg (inpX e mm now (some q) n)]=some (.agg [num 0,num 0,.sl false 10 ss,.sl false 11 O,.sl false 11 [],.sl false 6 F,.sl false 10 L]):=
 pure_of [(160,.b false),(164,.b false),(175,.b true),(180,.i t),(181,.i t),(203,.p (.sl false 6 bds)),(204,.p (.tup [boolX true,num 0])),(237,.r (.tup []) [.var (oX ss 1 O.length 4 F.length 5 L.length),.row 11 O,.dead,.dead,.row 6 F,.row 10 L])] [(.exit 5,shE nu ti li most ex ss q now e mm (-1) n h k)] (pf9 hl h160 h164 h175 h180 h181 h61 h19 h54) (x:=.agg [num 0,num 0,.sl false 10 ss,.bs 0 0 O.length,.sl true 11 [],.bs 1 0 F.length,.bs 2 0 L.length]) (bx:=[.row 11 O,.row 6 F,.row 10 L]) (by kernel_rfl) (data_agg (dataL_cons rfl (dataL_cons rfl (dataL_cons rfl (dataL_cons (data_bs rfl rfl) (dataL_cons rfl (dataL_cons (data_bs rfl rfl) (dataL_cons (data_bs rfl rfl) rfl))))))))
end
end Go.Proofs.YthphniobeigklaaGreatDoor.Ag
namespace Go.Proofs.YthphniobeigklaaGreatDoor.Ag
open Go Go.Em Go.Proofs.YthphniobeigklaaGreatDoor
set_option maxRecDepth 100000
section
variable (nu ti li most:Int) (ex ss s2:List (List X)) (q now e mm t:Int) (n k h i:Nat) (m0:List X) (ms bds O F L:List (List X)) (N:Nat)
theorem nT_err (hl:run (callF tab ext (N+600)) 0 (N+600) (.loop (loopAt 30 2)) (shS nu ti li most ex ss q now e mm n)=some (.exit 5,shE nu ti li most ex ss q now e mm (i) n h k))(h164:decide (Int.ofNat h≥256)=false)(h175:decide (ti>0)=false)(he:ss[i]?=some (slX q t (m0::ms)))(hA:(m0::ms).isEmpty=false∧roomOk (([]:List (List X)).length+(m0::ms).length) (151+1)=true)(hB:0+(0+(m0::ms).length)=(([]:List (List X))++(m0::ms)).length∧roomOk (0+(m0::ms).length+1) 152=true∧memN 5 []=false)(hg:0+(0+(m0::ms).length+1)≤(List.drop 0 ([]++(m0::ms))++[msgX e mm (some q) n]).length)(h61:Gam.pureD (callF tab ext (N+600)) 61 [.sl false 10 (List.take (0+(m0::ms).length+1) (List.drop 0 ([]++(m0::ms))++[msgX e mm (some q) n]))]=some (.sl false 6 bds))(h19:Gam.pureD (callF tab ext (N+600)) 19 [.agg (nodX nu ti li (eKey::ex) (tyX most) ruX),.agg (kv q).cells,.sl false 6 bds]=some (.tup [boolX false,num 15])):
  Gam.pureD (callF tab ext (N+601)) 30 [.agg (nodX nu ti li (eKey::ex) (tyX most) ruX),.agg [num 0,num 0,.sl false 10 ss],.agg (inpX e mm now (some q) n)]=some (.agg [num 0,num 0,.sl false 10 ss,.sl false 11 [],.sl false 11 [],.sl false 6 [rejC e (errT 49 53)],.sl false 10 [msgX e mm (some q) n]]):=
 pure_of [(164,.b false),(175,.b false),(188,.e (slX q t (m0::ms))),(193,.fresh),(196,.app),(203,.p (.sl false 6 bds)),(204,.p (.tup [boolX false,num 15]))] [(.exit 5,shE nu ti li most ex ss q now e mm (i) n h k)] (pf9 hl h164 h175 he hA hB hg h61 h19) (x:=.agg [num 0,num 0,.sl false 10 ss,.bs 0 0 0,.sl true 11 [],.bs 1 0 1,.bs 2 0 1]) (bx:=[.row 11 [],.row 6 [rejC e (errT 49 53)],.row 10 [msgX e mm (some q) n]]) (by kernel_rfl) rfl
theorem nT_putn (hl:run (callF tab ext (N+600)) 0 (N+600) (.loop (loopAt 30 2)) (shS nu ti li most ex ss q now e mm n)=some (.exit 5,shE nu ti li most ex ss q now e mm (i) n h k))(h164:decide (Int.ofNat h≥256)=false)(h175:decide (ti>0)=false)(he:ss[i]?=some (slX q t (m0::ms)))(hA:(m0::ms).isEmpty=false∧roomOk (([]:List (List X)).length+(m0::ms).length) (151+1)=true)(hB:0+(0+(m0::ms).length)=(([]:List (List X))++(m0::ms)).length∧roomOk (0+(m0::ms).length+1) 152=true∧memN 5 []=false)(hg:0+(0+(m0::ms).length+1)≤(List.drop 0 ([]++(m0::ms))++[msgX e mm (some q) n]).length)(h61:Gam.pureD (callF tab ext (N+600)) 61 [.sl false 10 (List.take (0+(m0::ms).length+1) (List.drop 0 ([]++(m0::ms))++[msgX e mm (some q) n]))]=some (.sl false 6 bds))(h19:Gam.pureD (callF tab ext (N+600)) 19 [.agg (nodX nu ti li (eKey::ex) (tyX most) ruX),.agg (kv q).cells,.sl false 6 bds]=some (.tup [boolX false,num 0]))(h62:Gam.pureD (callF tab ext (N+600)) 62 [.agg [num 0,num 0,.sl false 10 ss],.agg (slX q t (List.take (0+(m0::ms).length+1) (List.drop 0 ([]++(m0::ms))++[msgX e mm (some q) n])))]=some (.tup [.agg [num 0,num 0,.sl false 10 s2],num 0])):
  Gam.pureD (callF tab ext (N+601)) 30 [.agg (nodX nu ti li (eKey::ex) (tyX most) ruX),.agg [num 0,num 0,.sl false 10 ss],.agg (inpX e mm now (some q) n)]=some (.agg [num 0,num 0,.sl false 10 s2,.sl false 11 [],.sl false 11 [],.sl false 6 [],.sl false 10 []]):=
 pure_of [(164,.b false),(175,.b false),(188,.e (slX q t (m0::ms))),(193,.fresh),(196,.app),(203,.p (.sl false 6 bds)),(204,.p (.tup [boolX false,num 0])),(210,.p (.tup [.agg [num 0,num 0,.sl false 10 s2],num 0]))] [(.exit 5,shE nu ti li most ex ss q now e mm (i) n h k)] (pf10 hl h164 h175 he hA hB hg h61 h19 h62) (x:=.agg [num 0,num 0,.sl false 10 s2,.bs 0 0 0,.sl true 11 [],.bs 1 0 0,.bs 2 0 0]) (bx:=[.row 11 [],.row 6 [],.row 10 []]) (by kernel_rfl) rfl
theorem nT_doneM (hl:run (callF tab ext (N+600)) 0 (N+600) (.loop (loopAt 30 2)) (shS nu ti li most ex ss q now e mm n)=some (.exit 5,shE nu ti li most ex ss q now e mm (i) n h k))(h164:decide (Int.ofNat h≥256)=false)(h175:decide (ti>0)=false)(he:ss[i]?=some (slX q t (m0::ms)))(hA:(m0::ms).isEmpty=false∧roomOk (([]:List (List X)).length+(m0::ms).length) (151+1)=true)(hB:0+(0+(m0::ms).length)=(([]:List (List X))++(m0::ms)).length∧roomOk (0+(m0::ms).length+1) 152=true∧memN 5 []=false)(hg:0+(0+(m0::ms).length+1)≤(List.drop 0 ([]++(m0::ms))++[msgX e mm (some q) n]).length)(h61:Gam.pureD (callF tab ext (N+600)) 61 [.sl false 10 (List.take (0+(m0::ms).length+1) (List.drop 0 ([]++(m0::ms))++[msgX e mm (some q) n]))]=some (.sl false 6 bds))(h19:Gam.pureD (callF tab ext (N+600)) 19 [.agg (nodX nu ti li (eKey::ex) (tyX most) ruX),.agg (kv q).cells,.sl false 6 bds]=some (.tup [boolX true,num 0]))(h53:Gam.pureD (callF tab ext (N+600)) 53 [.agg [num 0,num 0,.sl false 10 ss],nat i]=some (.agg [num 0,num 0,.sl false 10 s2]))(h54:callF tab ext (N+600) (.fn 54) [.ptr 0 0 0,.agg (nodX nu ti li (eKey::ex) (tyX most) ruX),.agg [num e,.sl false 1 [[num 1]]],.agg (kv q).cells,.sl false 10 (List.take (0+(m0::ms).length+1) (List.drop 0 ([]++(m0::ms))++[msgX e mm (some q) n]))] [.var (oX s2 1 0 2 0 3 0),.row 11 [],.row 6 [],.row 10 []]=some (.tup [],[.var (oX s2 4 O.length 5 F.length 3 L.length),.dead,.dead,.row 10 L,.row 11 O,.row 6 F])):
  Gam.pureD (callF tab ext (N+601)) 30 [.agg (nodX nu ti li (eKey::ex) (tyX most) ruX),.agg [num 0,num 0,.sl false 10 ss],.agg (inpX e mm now (some q) n)]=some (.agg [num 0,num 0,.sl false 10 s2,.sl false 11 O,.sl false 11 [],.sl false 6 F,.sl false 10 L]):=
 pure_of [(164,.b false),(175,.b false),(188,.e (slX q t (m0::ms))),(193,.fresh),(196,.app),(203,.p (.sl false 6 bds)),(204,.p (.tup [boolX true,num 0])),(229,.p (.agg [num 0,num 0,.sl false 10 s2])),(237,.r (.tup []) [.var (oX s2 4 O.length 5 F.length 3 L.length),.dead,.dead,.row 10 L,.row 11 O,.row 6 F])] [(.exit 5,shE nu ti li most ex ss q now e mm (i) n h k)] (pf11 hl h164 h175 he hA hB hg h61 h19 h53 h54) (x:=.agg [num 0,num 0,.sl false 10 s2,.bs 0 0 O.length,.sl true 11 [],.bs 1 0 F.length,.bs 2 0 L.length]) (bx:=[.row 11 O,.row 6 F,.row 10 L]) (by kernel_rfl) (data_agg (dataL_cons rfl (dataL_cons rfl (dataL_cons rfl (dataL_cons (data_bs rfl rfl) (dataL_cons rfl (dataL_cons (data_bs rfl rfl) (dataL_cons (data_bs rfl rfl) rfl))))))))
theorem nT_doneR (hl:run (callF tab ext (N+600)) 0 (N+600) (.loop (loopAt 30 2)) (shS nu ti li most ex ss q now e mm n)=some (.exit 5,shE nu ti li most ex ss q now e mm (i) n h k))(h164:decide (Int.ofNat h≥256)=false)(h175:decide (ti>0)=false)(he:ss[i]?=some (slX q t (m0::ms)))(hA:(m0::ms).isEmpty=false∧roomOk (([]:List (List X)).length+(m0::ms).length) (151+1)=true)(hB:0+(0+(m0::ms).length)=(([]:List (List X))++(m0::ms)).length∧roomOk (0+(m0::ms).length+1) 152=true∧memN 5 []=false)(hg:0+(0+(m0::ms).length+1)≤(List.drop 0 ([]++(m0::ms))++[msgX e mm (some q) n]).length)(h61:Gam.pureD (callF tab ext (N+600)) 61 [.sl false 10 (List.take (0+(m0::ms).length+1) (List.drop 0 ([]++(m0::ms))++[msgX e mm (some q) n]))]=some (.sl false 6 bds))(h19:Gam.pureD (callF tab ext (N+600)) 19 [.agg (nodX nu ti li (eKey::ex) (tyX most) ruX),.agg (kv q).cells,.sl false 6 bds]=some (.tup [boolX true,num 0]))(h53:Gam.pureD (callF tab ext (N+600)) 53 [.agg [num 0,num 0,.sl false 10 ss],nat i]=some (.agg [num 0,num 0,.sl false 10 s2]))(h54:callF tab ext (N+600) (.fn 54) [.ptr 0 0 0,.agg (nodX nu ti li (eKey::ex) (tyX most) ruX),.agg [num e,.sl false 1 [[num 1]]],.agg (kv q).cells,.sl false 10 (List.take (0+(m0::ms).length+1) (List.drop 0 ([]++(m0::ms))++[msgX e mm (some q) n]))] [.var (oX s2 1 0 2 0 3 0),.row 11 [],.row 6 [],.row 10 []]=some (.tup [],[.var (oX s2 1 O.length 4 F.length 5 L.length),.row 11 O,.dead,.dead,.row 6 F,.row 10 L])):
  Gam.pureD (callF tab ext (N+601)) 30 [.agg (nodX nu ti li (eKey::ex) (tyX most) ruX),.agg [num 0,num 0,.sl false 10 ss],.agg (inpX e mm now (some q) n)]=some (.agg [num 0,num 0,.sl false 10 s2,.sl false 11 O,.sl false 11 [],.sl false 6 F,.sl false 10 L]):=
 pure_of [(164,.b false),(175,.b false),(188,.e (slX q t (m0::ms))),(193,.fresh),(196,.app),(203,.p (.sl false 6 bds)),(204,.p (.tup [boolX true,num 0])),(229,.p (.agg [num 0,num 0,.sl false 10 s2])),(237,.r (.tup []) [.var (oX s2 1 O.length 4 F.length 5 L.length),.row 11 O,.dead,.dead,.row 6 F,.row 10 L])] [(.exit 5,shE nu ti li most ex ss q now e mm (i) n h k)] (pf11 hl h164 h175 he hA hB hg h61 h19 h53 h54) (x:=.agg [num 0,num 0,.sl false 10 s2,.bs 0 0 O.length,.sl true 11 [],.bs 1 0 F.length,.bs 2 0 L.length]) (bx:=[.row 11 O,.row 6 F,.row 10 L]) (by kernel_rfl) (data_agg (dataL_cons rfl (dataL_cons rfl (dataL_cons rfl (dataL_cons (data_bs rfl rfl) (dataL_cons rfl (dataL_cons (data_bs rfl rfl) (dataL_cons (data_bs rfl rfl) rfl))))))))
end
end Go.Proofs.YthphniobeigklaaGreatDoor.Ag
namespace Go.Proofs.YthphniobeigklaaGreatDoor.Ag
open Go Go.Em Go.Proofs.YthphniobeigklaaGreatDoor
set_option maxRecDepth 100000
section
variable (nu ti li most:Int) (ex ss s2:List (List X)) (q now e mm t:Int) (n k h i:Nat) (m0:List X) (ms bds O F L:List (List X)) (N:Nat)
theorem nU_err (hl:run (callF tab ext (N+600)) 0 (N+600) (.loop (loopAt 30 2)) (shS nu ti li most ex ss q now e mm n)=some (.exit 5,shE nu ti li most ex ss q now e mm (i) n h k))(h164:decide (Int.ofNat h≥256)=false)(h175:decide (ti>0)=true)(he:ss[i]?=some (slX q t (m0::ms)))(hA:(m0::ms).isEmpty=false∧roomOk (([]:List (List X)).length+(m0::ms).length) (151+1)=true)(hB:0+(0+(m0::ms).length)=(([]:List (List X))++(m0::ms)).length∧roomOk (0+(m0::ms).length+1) 152=true∧memN 5 []=false)(hg:0+(0+(m0::ms).length+1)≤(List.drop 0 ([]++(m0::ms))++[msgX e mm (some q) n]).length)(h61:Gam.pureD (callF tab ext (N+600)) 61 [.sl false 10 (List.take (0+(m0::ms).length+1) (List.drop 0 ([]++(m0::ms))++[msgX e mm (some q) n]))]=some (.sl false 6 bds))(h19:Gam.pureD (callF tab ext (N+600)) 19 [.agg (nodX nu ti li (eKey::ex) (tyX most) ruX),.agg (kv q).cells,.sl false 6 bds]=some (.tup [boolX false,num 15])):
  Gam.pureD (callF tab ext (N+601)) 30 [.agg (nodX nu ti li (eKey::ex) (tyX most) ruX),.agg [num 0,num 0,.sl false 10 ss],.agg (inpX e mm now (some q) n)]=some (.agg [num 0,num 0,.sl false 10 ss,.sl false 11 [],.sl false 11 [],.sl false 6 [rejC e (errT 49 53)],.sl false 10 [msgX e mm (some q) n]]):=
 pure_of [(164,.b false),(175,.b true),(188,.e (slX q t (m0::ms))),(193,.fresh),(196,.app),(203,.p (.sl false 6 bds)),(204,.p (.tup [boolX false,num 15]))] [(.exit 5,shE nu ti li most ex ss q now e mm (i) n h k)] (pf9 hl h164 h175 he hA hB hg h61 h19) (x:=.agg [num 0,num 0,.sl false 10 ss,.bs 0 0 0,.sl true 11 [],.bs 1 0 1,.bs 2 0 1]) (bx:=[.row 11 [],.row 6 [rejC e (errT 49 53)],.row 10 [msgX e mm (some q) n]]) (by kernel_rfl) rfl
theorem nU_putn (hl:run (callF tab ext (N+600)) 0 (N+600) (.loop (loopAt 30 2)) (shS nu ti li most ex ss q now e mm n)=some (.exit 5,shE nu ti li most ex ss q now e mm (i) n h k))(h164:decide (Int.ofNat h≥256)=false)(h175:decide (ti>0)=true)(he:ss[i]?=some (slX q t (m0::ms)))(hA:(m0::ms).isEmpty=false∧roomOk (([]:List (List X)).length+(m0::ms).length) (151+1)=true)(hB:0+(0+(m0::ms).length)=(([]:List (List X))++(m0::ms)).length∧roomOk (0+(m0::ms).length+1) 152=true∧memN 5 []=false)(hg:0+(0+(m0::ms).length+1)≤(List.drop 0 ([]++(m0::ms))++[msgX e mm (some q) n]).length)(h61:Gam.pureD (callF tab ext (N+600)) 61 [.sl false 10 (List.take (0+(m0::ms).length+1) (List.drop 0 ([]++(m0::ms))++[msgX e mm (some q) n]))]=some (.sl false 6 bds))(h19:Gam.pureD (callF tab ext (N+600)) 19 [.agg (nodX nu ti li (eKey::ex) (tyX most) ruX),.agg (kv q).cells,.sl false 6 bds]=some (.tup [boolX false,num 0]))(h62:Gam.pureD (callF tab ext (N+600)) 62 [.agg [num 0,num 0,.sl false 10 ss],.agg (slX q t (List.take (0+(m0::ms).length+1) (List.drop 0 ([]++(m0::ms))++[msgX e mm (some q) n])))]=some (.tup [.agg [num 0,num 0,.sl false 10 s2],num 0])):
  Gam.pureD (callF tab ext (N+601)) 30 [.agg (nodX nu ti li (eKey::ex) (tyX most) ruX),.agg [num 0,num 0,.sl false 10 ss],.agg (inpX e mm now (some q) n)]=some (.agg [num 0,num 0,.sl false 10 s2,.sl false 11 [],.sl false 11 [],.sl false 6 [],.sl false 10 []]):=
 pure_of [(164,.b false),(175,.b true),(188,.e (slX q t (m0::ms))),(193,.fresh),(196,.app),(203,.p (.sl false 6 bds)),(204,.p (.tup [boolX false,num 0])),(210,.p (.tup [.agg [num 0,num 0,.sl false 10 s2],num 0]))] [(.exit 5,shE nu ti li most ex ss q now e mm (i) n h k)] (pf10 hl h164 h175 he hA hB hg h61 h19 h62) (x:=.agg [num 0,num 0,.sl false 10 s2,.bs 0 0 0,.sl true 11 [],.bs 1 0 0,.bs 2 0 0]) (bx:=[.row 11 [],.row 6 [],.row 10 []]) (by kernel_rfl) rfl
theorem nU_doneM (hl:run (callF tab ext (N+600)) 0 (N+600) (.loop (loopAt 30 2)) (shS nu ti li most ex ss q now e mm n)=some (.exit 5,shE nu ti li most ex ss q now e mm (i) n h k))(h164:decide (Int.ofNat h≥256)=false)(h175:decide (ti>0)=true)(he:ss[i]?=some (slX q t (m0::ms)))(hA:(m0::ms).isEmpty=false∧roomOk (([]:List (List X)).length+(m0::ms).length) (151+1)=true)(hB:0+(0+(m0::ms).length)=(([]:List (List X))++(m0::ms)).length∧roomOk (0+(m0::ms).length+1) 152=true∧memN 5 []=false)(hg:0+(0+(m0::ms).length+1)≤(List.drop 0 ([]++(m0::ms))++[msgX e mm (some q) n]).length)(h61:Gam.pureD (callF tab ext (N+600)) 61 [.sl false 10 (List.take (0+(m0::ms).length+1) (List.drop 0 ([]++(m0::ms))++[msgX e mm (some q) n]))]=some (.sl false 6 bds))(h19:Gam.pureD (callF tab ext (N+600)) 19 [.agg (nodX nu ti li (eKey::ex) (tyX most) ruX),.agg (kv q).cells,.sl false 6 bds]=some (.tup [boolX true,num 0]))(h53:Gam.pureD (callF tab ext (N+600)) 53 [.agg [num 0,num 0,.sl false 10 ss],nat i]=some (.agg [num 0,num 0,.sl false 10 s2]))(h54:callF tab ext (N+600) (.fn 54) [.ptr 0 0 0,.agg (nodX nu ti li (eKey::ex) (tyX most) ruX),.agg [num e,.sl false 1 [[num 1]]],.agg (kv q).cells,.sl false 10 (List.take (0+(m0::ms).length+1) (List.drop 0 ([]++(m0::ms))++[msgX e mm (some q) n]))] [.var (oX s2 1 0 2 0 3 0),.row 11 [],.row 6 [],.row 10 []]=some (.tup [],[.var (oX s2 4 O.length 5 F.length 3 L.length),.dead,.dead,.row 10 L,.row 11 O,.row 6 F])):
  Gam.pureD (callF tab ext (N+601)) 30 [.agg (nodX nu ti li (eKey::ex) (tyX most) ruX),.agg [num 0,num 0,.sl false 10 ss],.agg (inpX e mm now (some q) n)]=some (.agg [num 0,num 0,.sl false 10 s2,.sl false 11 O,.sl false 11 [],.sl false 6 F,.sl false 10 L]):=
 pure_of [(164,.b false),(175,.b true),(188,.e (slX q t (m0::ms))),(193,.fresh),(196,.app),(203,.p (.sl false 6 bds)),(204,.p (.tup [boolX true,num 0])),(229,.p (.agg [num 0,num 0,.sl false 10 s2])),(237,.r (.tup []) [.var (oX s2 4 O.length 5 F.length 3 L.length),.dead,.dead,.row 10 L,.row 11 O,.row 6 F])] [(.exit 5,shE nu ti li most ex ss q now e mm (i) n h k)] (pf11 hl h164 h175 he hA hB hg h61 h19 h53 h54) (x:=.agg [num 0,num 0,.sl false 10 s2,.bs 0 0 O.length,.sl true 11 [],.bs 1 0 F.length,.bs 2 0 L.length]) (bx:=[.row 11 O,.row 6 F,.row 10 L]) (by kernel_rfl) (data_agg (dataL_cons rfl (dataL_cons rfl (dataL_cons rfl (dataL_cons (data_bs rfl rfl) (dataL_cons rfl (dataL_cons (data_bs rfl rfl) (dataL_cons (data_bs rfl rfl) rfl))))))))
theorem nU_doneR (hl:run (callF tab ext (N+600)) 0 (N+600) (.loop (loopAt 30 2)) (shS nu ti li most ex ss q now e mm n)=some (.exit 5,shE nu ti li most ex ss q now e mm (i) n h k))(h164:decide (Int.ofNat h≥256)=false)(h175:decide (ti>0)=true)(he:ss[i]?=some (slX q t (m0::ms)))(hA:(m0::ms).isEmpty=false∧roomOk (([]:List (List X)).length+(m0::ms).length) (151+1)=true)(hB:0+(0+(m0::ms).length)=(([]:List (List X))++(m0::ms)).length∧roomOk (0+(m0::ms).length+1) 152=true∧memN 5 []=false)(hg:0+(0+(m0::ms).length+1)≤(List.drop 0 ([]++(m0::ms))++[msgX e mm (some q) n]).length)(h61:Gam.pureD (callF tab ext (N+600)) 61 [.sl false 10 (List.take (0+(m0::ms).length+1) (List.drop 0 ([]++(m0::ms))++[msgX e mm (some q) n]))]=some (.sl false 6 bds))(h19:Gam.pureD (callF tab ext (N+600)) 19 [.agg (nodX nu ti li (eKey::ex) (tyX most) ruX),.agg (kv q).cells,.sl false 6 bds]=some (.tup [boolX true,num 0]))(h53:Gam.pureD (callF tab ext (N+600)) 53 [.agg [num 0,num 0,.sl false 10 ss],nat i]=some (.agg [num 0,num 0,.sl false 10 s2]))(h54:callF tab ext (N+600) (.fn 54) [.ptr 0 0 0,.agg (nodX nu ti li (eKey::ex) (tyX most) ruX),.agg [num e,.sl false 1 [[num 1]]],.agg (kv q).cells,.sl false 10 (List.take (0+(m0::ms).length+1) (List.drop 0 ([]++(m0::ms))++[msgX e mm (some q) n]))] [.var (oX s2 1 0 2 0 3 0),.row 11 [],.row 6 [],.row 10 []]=some (.tup [],[.var (oX s2 1 O.length 4 F.length 5 L.length),.row 11 O,.dead,.dead,.row 6 F,.row 10 L])):
  Gam.pureD (callF tab ext (N+601)) 30 [.agg (nodX nu ti li (eKey::ex) (tyX most) ruX),.agg [num 0,num 0,.sl false 10 ss],.agg (inpX e mm now (some q) n)]=some (.agg [num 0,num 0,.sl false 10 s2,.sl false 11 O,.sl false 11 [],.sl false 6 F,.sl false 10 L]):=
 pure_of [(164,.b false),(175,.b true),(188,.e (slX q t (m0::ms))),(193,.fresh),(196,.app),(203,.p (.sl false 6 bds)),(204,.p (.tup [boolX true,num 0])),(229,.p (.agg [num 0,num 0,.sl false 10 s2])),(237,.r (.tup []) [.var (oX s2 1 O.length 4 F.length 5 L.length),.row 11 O,.dead,.dead,.row 6 F,.row 10 L])] [(.exit 5,shE nu ti li most ex ss q now e mm (i) n h k)] (pf11 hl h164 h175 he hA hB hg h61 h19 h53 h54) (x:=.agg [num 0,num 0,.sl false 10 s2,.bs 0 0 O.length,.sl true 11 [],.bs 1 0 F.length,.bs 2 0 L.length]) (bx:=[.row 11 O,.row 6 F,.row 10 L]) (by kernel_rfl) (data_agg (dataL_cons rfl (dataL_cons rfl (dataL_cons rfl (dataL_cons (data_bs rfl rfl) (dataL_cons rfl (dataL_cons (data_bs rfl rfl) (dataL_cons (data_bs rfl rfl) rfl))))))))
end
end Go.Proofs.YthphniobeigklaaGreatDoor.Ag
namespace Go.Proofs.YthphniobeigklaaGreatDoor.Ag
open Go Go.Em Go.Proofs.YthphniobeigklaaGreatDoor
set_option maxRecDepth 100000
section
variable (nu ti li most:Int) (ex ss:List (List X)) (O:List Otp) (F:List Fte) (L:List Msg) (q:Int) (M:List (Nat×Nat)) (t:Stp)
variable (h:GrpOk q M) (ht:t.ok) (ht2:t.p.length<1000) (hO:O.length<2000) (hF:F.length<2000) (hL:L.length<2000)
include h
theorem env54 (N:Nat)(hN:61000≤N):Gam.pureD (callF tab ext N) 89 [.agg [.sl false 6 ruX],envX (groupFsG true (bdC (gB q M)) ((msgsC (M.map (msV q))).length:Nat) q),.agg (tyV most)]=some (if ((sumM M:Nat):Int)≤most then .tup [.agg (resV (M.length:Nat) q (sumM M:Nat)).cells,num 0] else .tup [.agg (Val.mk 0 0 0 ⟨#[]⟩ [] []).cells,num 18]):=by
 have hpos:=h.pos
 have hlen:=h.len
 have h89:=apply89G true false most q (gB q M) h.tiny (by rw [gB_len];omega) (by rw [gB_len];omega) h.key N hN
 rw [nsOf_gB,bdG_false,gB_len] at h89
 rw [msgsC_length,List.length_map]
 exact h89
include ht ht2 hO hF hL
omit hO ht ht2 in
theorem fin54_no (hs:most<(sumM M:Nat))(N:Nat)(hN:191000≤N):
  callF tab ext N (.fn 54) [.ptr 0 0 0,.agg (nodX nu ti li ex (tyX most) ruX),.agg t.cells,.agg (kv q).cells,.sl false 10 (msgsC (M.map (msV q)))] (omB ss O F L)=
   some (.tup [],omR ss O (F++rejF (M.map (msV q)) typT) (L++M.map (msV q))):=by
 obtain ⟨K,rfl⟩:∃K,N=K+601:=⟨N-601,by omega⟩
 have hpos:=h.pos
 have hlen:=h.len
 have h61:=bodies61 (M.map (msV q)) (by rw [List.length_map];omega) (K+600) (by omega)
 rw [bodC_ms] at h61
 have h89:=env54 most q M h (K+600) (by omega)
 rw [if_neg (by omega)] at h89
 have h59:=rej59 false nu ti li ex (tyX most) ruX ss O F L (M.map (msV q)) typT (by rw [List.length_map];omega) (fun m hm=>(h.ms m hm).1) (by rw [List.length_map];omega) hF hL (K+600) (by omega)
 unfold omB omR at*
 generalize bdC (gB q M)=bs at*
 generalize F++rejF (M.map (msV q)) typT=F2 at*
 generalize L++M.map (msV q)=L2 at*
 generalize F2.length=nf2 at*
 generalize L2.length=nl2 at*
 generalize ftesC F2=F2c at*
 generalize msgsC L2=L2c at*
 generalize msgsC (M.map (msV q))=ms at*
 generalize ftesC F=Fc at*
 generalize msgsC L=Lc at*
 generalize otpsC O=Oc at*
 generalize O.length=no at*
 generalize F.length=nf at*
 generalize L.length=nl at*
 obtain ⟨e,p⟩:=t
 exact callF_of [(20,.p (.sl false 6 bs)),(33,.p (.tup [.agg (Val.mk 0 0 0 ⟨#[]⟩ [] []).cells,num 18])),(43,.r (.tup []) [.var (oX ss 1 no 4 nf2 5 nl2),.row 11 Oc,.dead,.dead,.row 6 F2c,.row 10 L2c])] [] (pf3 h61 h89 h59) (by kernel_rfl)
omit hL in
theorem fin54_ok (hs:((sumM M:Nat):Int)≤most)(N:Nat)(hN:191000≤N):
  callF tab ext N (.fn 54) [.ptr 0 0 0,.agg (nodX nu ti li ex (tyX most) ruX),.agg t.cells,.agg (kv q).cells,.sl false 10 (msgsC (M.map (msV q)))] (omB ss O F L)=
   some (.tup [],omM ss (O++[⟨0,mrgM q M (undS t O.length)⟩]) (F++mrgF (M.map (msV q)) aggT (undS t O.length)) L):=by
 obtain ⟨K,rfl⟩:∃K,N=K+601:=⟨N-601,by omega⟩
 have hpos:=h.pos
 have hlen:=h.len
 have h61:=bodies61 (M.map (msV q)) (by rw [List.length_map];omega) (K+600) (by omega)
 rw [bodC_ms] at h61
 have h89:=env54 most q M h (K+600) (by omega)
 rw [if_pos hs] at h89
 have h22:=under22 t ht O.length (K+600) (by omega)
 have hu:(undS t O.length).ok:=⟨by simp [undS];omega⟩
 have h91:=merge91 (M.map (msV q)) (zsM M) (by rw [List.length_map];omega) (by unfold zsM;rw [List.length_map];omega) (fun m hm=>(h.ms m hm).2) (by simp [zsM,msV]) (zsM_inc h.srt) (undS t O.length) hu (resV (M.length:Nat) q (sumM M:Nat)) (by simp [resV,kv,Val.ok,Val.size,sizeL,sizeF]) (K+600) (by omega)
 have h92:=merged92 (M.map (msV q)) (fun m hm=>(h.ms m hm).1.st) (by rw [List.length_map];omega) aggT (undS t O.length) hu (K+600) (by omega)
 have e1:otpsC (O++[⟨0,mrgM q M (undS t O.length)⟩])=otpsC O++[num 0::(mrgM q M (undS t O.length)).cells]:=by simp [otpsC,Otp.cells]
 have e2:ftesC (F++mrgF (M.map (msV q)) aggT (undS t O.length))=ftesC F++ftesC (mrgF (M.map (msV q)) aggT (undS t O.length)):=by simp [ftesC]
 have e3:(F++mrgF (M.map (msV q)) aggT (undS t O.length)).length=F.length+(ftesC (mrgF (M.map (msV q)) aggT (undS t O.length))).length:=by rw [List.length_append,ftesC_length]
 have hml:(ftesC (mrgF (M.map (msV q)) aggT (undS t O.length))).length<1000:=by rw [ftesC_length];simp [mrgF];omega
 unfold omB omM
 rw [e1,e2,e3,List.length_append,List.length_singleton]
 have hA:=app_ok (acc:=otpsC O) O.length 1 160 (otpsC_length O).symm (by omega) (by omega)
 have hB:0+F.length=(ftesC F).length∧roomOk (F.length+(ftesC (mrgF (M.map (msV q)) aggT (undS t O.length))).length) 96=true∧memN 2 []=false:=
  ⟨by rw [ftesC_length];omega,room_of (by omega) (by omega),rfl⟩
 show _=some (X.tup [],([.var (oX ss 4 (O.length+1) 5 (F.length+(ftesC (mrgF (M.map (msV q)) aggT (undS t O.length))).length) 3 L.length),.dead,.dead,.row 10 (msgsC L),.row 11 (otpsC O++[num 0::(num (undS t O.length).e::.sl false 1 (intsC (undS t O.length).p)::num (massL (M.map (msV q)))::.sl false 1 (intsC (zsM M))::recV (resFs (M.length:Nat) q (sumM M:Nat)))]),.row 6 (ftesC F++ftesC (mrgF (M.map (msV q)) aggT (undS t O.length)))]:List Bx))
 have h91':Gam.pureD (callF tab ext (K+600)) 91 [.sl false 10 (msgsC (M.map (msV q))),.agg (undS t O.length).cells,.agg (resV (M.length:Nat) q (sumM M:Nat)).cells]=some (.tup [.agg (num (undS t O.length).e::.sl false 1 (intsC (undS t O.length).p)::num (massL (M.map (msV q)))::.sl false 1 (intsC (zsM M))::recV (resFs (M.length:Nat) q (sumM M:Nat))),num 0]):=h91
 clear h91 e1 e2 e3
 generalize bdC (gB q M)=bs at*
 generalize ftesC (mrgF (M.map (msV q)) aggT (undS t O.length))=fl at*
 generalize massL (M.map (msV q))=mz at*
 generalize intsC (zsM M)=oz at*
 generalize ((M.length:Nat):Int)=c at*
 generalize ((sumM M:Nat):Int)=s at*
 generalize msgsC (M.map (msV q))=ms at*
 generalize undS t O.length=u at*
 generalize ftesC F=Fc at*
 generalize msgsC L=Lc at*
 generalize otpsC O=Oc at*
 generalize O.length=no at*
 generalize F.length=nf at*
 generalize L.length=nl at*
 obtain ⟨e,p⟩:=t
 obtain ⟨ue,up⟩:=u
 exact callF_of [(20,.p (.sl false 6 bs)),(33,.p (.tup [.agg (resV c q s).cells,num 0])),(50,.p (.agg (Stp.mk ue up).cells)),(55,.p (.tup [.agg (num ue::.sl false 1 (intsC up)::num mz::.sl false 1 oz::recV (resFs c q s)),num 0])),(72,.app),(84,.p (.sl false 6 fl)),(85,.app)] [] (pf7 h61 h89 h22 h91' hA h92 hB) (by kernel_rfl)
end
theorem omM_rows (ss:List (List X))(O:List Otp)(F:List Fte)(L:List Msg):omM ss O F L=[.var (oX ss 4 (otpsC O).length 5 (ftesC F).length 3 (msgsC L).length),.dead,.dead,.row 10 (msgsC L),.row 11 (otpsC O),.row 6 (ftesC F)]:=by
 unfold omM
 rw [otpsC_length,ftesC_length,msgsC_length]
theorem omR_rows (ss:List (List X))(O:List Otp)(F:List Fte)(L:List Msg):omR ss O F L=[.var (oX ss 1 (otpsC O).length 4 (ftesC F).length 5 (msgsC L).length),.row 11 (otpsC O),.dead,.dead,.row 6 (ftesC F),.row 10 (msgsC L)]:=by
 unfold omR
 rw [otpsC_length,ftesC_length,msgsC_length]
theorem slg {gs:List Ga}{j:Nat}(hj:j<gs.length):(sltsC (gst gs).slots)[j]?=some (slX gs[j].g gs[j].t (msgsC (gs[j].M.map (msV gs[j].g)))):=by
 unfold sltsC gst
 rw [List.getElem?_map,List.getElem?_map,List.getElem?_eq_getElem hj]
 rfl
theorem slg_len (gs:List Ga):(sltsC (gst gs).slots).length=gs.length:=by rw [sltsC_length];simp [gst]
def atG (q:Int)(gs:List Ga)(j:Nat):Int:=if knG q gs=true∧lowG q gs<j then (lowG q gs:Int) else -1
theorem sh_loop (nu ti li most:Int)(ex:List (List X))(q now e mm:Int)(n:Nat)(gs:List Ga)(hs:SrtG gs)(hl:gs.length≤100)(hh:heldG gs<200)(N:Nat)(hN:200≤N):
  run (callF tab ext N) 0 N (.loop (loopAt 30 2)) (shS nu ti li most ex (sltsC (gst gs).slots) q now e mm n)=some (.exit 5,shE nu ti li most ex (sltsC (gst gs).slots) q now e mm (if knG q gs=true then (lowG q gs:Int) else -1) n (heldG gs) gs.length):=by
 have hsl:=slg_len gs
 have hlast:atG q gs gs.length=if knG q gs=true then (lowG q gs:Int) else -1:=by
  unfold atG
  by_cases hk:knG q gs=true
  ·rw [if_pos hk,if_pos ⟨hk,knG_lt hk⟩]
  ·rw [if_neg hk,if_neg (fun h=>hk h.1)]
 rw [←hlast]
 refine loop_for (σ:=fun j=>shH nu ti li most ex (sltsC (gst gs).slots) q now e mm (atG q gs j) n (heldG (gs.take j)) j) (k:=gs.length) ?_ (fun j hj=>?_) ?_ (by simp) (by omega)
 ·have h0:atG q gs 0=-1:=if_neg (fun h=>Nat.not_lt_zero _ h.2)
  rw [h0]
  exact sh_canonS ..
 ·have he:=slg hj
  have hsum:heldG (gs.take (j+1))=heldG (gs.take j)+gs[j].M.length:=by
   rw [List.take_succ_eq_append_getElem hj,heldG_app]
   simp [heldG]
  have hle:heldG (gs.take (j+1))≤heldG gs:=by
   have:=heldG_app (gs.take (j+1)) (gs.drop (j+1))
   rw [List.take_append_drop] at this
   omega
  have hw:IntKind.i64.wrap (Int.ofNat (heldG (gs.take j))+Int.ofNat (msgsC (gs[j].M.map (msV gs[j].g))).length)=Int.ofNat (heldG (gs.take (j+1))):=by
   rw [msgsC_length,List.length_map,IntKind.wrap_i64]
   simp only [Int.ofNat_eq_natCast]
   omega
  have h16:=eq_val N (kv gs[j].g) (kv q) (by simp [kv,Val.size,sizeL,sizeF];omega) (by simp [kv,Val.size,sizeL,sizeF])
  rw [cmp_kv] at h16
  by_cases hq:gs[j].g=q
  ·have hk:=(kn_mem hs (List.getElem_mem hj)).1
   have hlow:=low_at hs hj
   rw [hq] at hk hlow
   have e1:atG q gs (j+1)=(j:Int):=by
    unfold atG
    rw [if_pos ⟨hk,by omega⟩,hlow]
   rw [e1]
   have hb:(ordI gs[j].g q==0)=true:=by rw [hq,ordI_self];rfl
   rw [hb] at h16
   exact sh_yes nu ti li most ex _ q now e mm _ n _ j N gs[j].g gs[j].t _ _ (by omega) (by omega) he hw h16
  ·have e1:atG q gs (j+1)=atG q gs j:=by
    unfold atG
    by_cases hc:knG q gs=true∧lowG q gs<j
    ·rw [if_pos hc,if_pos ⟨hc.1,by omega⟩]
    ·rw [if_neg hc,if_neg]
     rintro ⟨h1,h2⟩
     have h3:lowG q gs=j:=by
      rcases Nat.lt_or_ge (lowG q gs) j with h|h
      ·exact absurd ⟨h1,h⟩ hc
      ·omega
     unfold knG at h1
     rw [h3,List.getElem?_eq_getElem hj] at h1
     exact hq (by simpa using h1)
   rw [e1]
   have hb:(ordI gs[j].g q==0)=false:=by
    unfold ordI
    split
    ·rfl
    ·split
     ·rfl
     ·omega
   rw [hb] at h16
   exact sh_no nu ti li most ex _ q now e mm _ n _ j N gs[j].g gs[j].t _ _ (by omega) (by omega) he hw h16
 ·rw [List.take_length]
  exact sh_end nu ti li most ex _ q now e mm _ n _ _ N (by omega)
end Go.Proofs.YthphniobeigklaaGreatDoor.Ag
namespace Go.Proofs.YthphniobeigklaaGreatDoor.Ag
open Go Go.Em Go.Proofs.YthphniobeigklaaGreatDoor
set_option maxRecDepth 100000
section
variable (nu ti li most:Int) (cd:Nat) (gs:List Ga) (q now:Int) (i n:Nat)
variable (hcd:cd<4) (h:GsI gs i) (hi:i<40) (hq:0≤q∧q≤3) (hn:n<4) (hnow:0≤now∧now≤100000) (hti:0≤ti∧ti≤100000) (hheld:heldG gs<200)
include hcd h hi hq hn hnow hti hheld
theorem step30_msg (N:Nat)(hN:193000≤N):Gam.pureD (callF tab ext N) 30 [.agg (nodX nu ti li (exN cd) (tyX most) ruX),.agg (gst gs).cells,.agg (inpX ((i:Int)+1) (100+(i:Int)) now (some q) n)]=some (.agg (stpM nu ti li most cd gs q now (i,n)).cells):=by
 obtain ⟨K,rfl⟩:∃K,N=K+601:=⟨N-601,by omega⟩
 have hsm:=h.sm (by omega)
 have hgrp:=h.grp hi q hq n hn
 have hgl:=hgrp.len
 have h164:decide (Int.ofNat (heldG gs)≥256)=false:=decide_eq_false (by simp only [Int.ofNat_eq_natCast];omega)
 have hsl:(sltsC (gst gs).slots).length=gs.length:=by rw [sltsC_length];simp [gst]
 have hl:=sh_loop nu ti li most (exR cd) q now ((i:Int)+1) (100+(i:Int)) n gs h.srt (by have:=h.few;omega) hheld (K+600) (by omega)
 have h19:=model19 nu ti li (tyX most) ruX (gB q (addM gs q (i,n))) (some q,n) q false cd hcd hgrp.tiny (by rw [gB_len];omega) (by rw [gB_len];exact hgrp.pos) (by simp [gB,addM]) (K+600) (by omega)
 rw [bdG_false] at h19
 have h61:=bodies61 ((addM gs q (i,n)).map (msV q)) (by rw [List.length_map];omega) (K+600) (by omega)
 rw [bodC_ms] at h61
 have hst:(msV q (i,n)).st.ok:=(msV_ok q (i,n)).st
 have hput:=putG_at gs h.srt hsm ⟨q,if knG q gs then (getG q gs).t else tNew ti now,addM gs q (i,n)⟩ (by show (addM gs q (i,n)).length≤101;omega) (K+600) (by omega)
 unfold stpM
 rw [exN_eq] at h19 ⊢
 change Gam.pureD (callF tab ext (K+601)) 30 [_,.agg [num 0,num 0,.sl false 10 (sltsC (gst gs).slots)],_]=_
 have hc:cmpM nu cd q (addM gs q (i,n)) (i,n)=compR nu cd (gB q (addM gs q (i,n))) (some q,n):=rfl
 rw [hc]
 have hcc:=compR_cases nu cd (gB q (addM gs q (i,n))) (some q,n)
 generalize compR nu cd (gB q (addM gs q (i,n))) (some q,n)=c at*
 have hM:(addM gs q (i,n)).map (msV q)=(getG q gs).M.map (msV q)++[msV q (i,n)]:=by simp [addM]
 have hMc:msgsC ((addM gs q (i,n)).map (msV q))=msgsC ((getG q gs).M.map (msV q))++[msgX ((i:Int)+1) (100+(i:Int)) (some q) n]:=by
  rw [hM];simp only [msgsC,List.map_append,List.map_cons,List.map_nil];rfl
 have fin:∀gs':List Ga,((((sumM (addM gs q (i,n)):Nat):Int)≤most)∧callF tab ext (K+600) (.fn 54) [.ptr 0 0 0,.agg (nodX nu ti li (eKey::exR cd) (tyX most) ruX),.agg [num ((i:Int)+1),.sl false 1 [[num 1]]],.agg (kv q).cells,.sl false 10 (msgsC ((addM gs q (i,n)).map (msV q)))] [.var (oX (sltsC (gst gs').slots) 1 0 2 0 3 0),.row 11 [],.row 6 [],.row 10 []]=
    some (.tup [],omM (sltsC (gst gs').slots) [⟨0,mrgM q (addM gs q (i,n)) (undS (msV q (i,n)).st 0)⟩] (mrgF ((addM gs q (i,n)).map (msV q)) aggT (undS (msV q (i,n)).st 0)) []))∨
   ((¬((sumM (addM gs q (i,n)):Nat):Int)≤most)∧callF tab ext (K+600) (.fn 54) [.ptr 0 0 0,.agg (nodX nu ti li (eKey::exR cd) (tyX most) ruX),.agg [num ((i:Int)+1),.sl false 1 [[num 1]]],.agg (kv q).cells,.sl false 10 (msgsC ((addM gs q (i,n)).map (msV q)))] [.var (oX (sltsC (gst gs').slots) 1 0 2 0 3 0),.row 11 [],.row 6 [],.row 10 []]=
    some (.tup [],omR (sltsC (gst gs').slots) [] (rejF ((addM gs q (i,n)).map (msV q)) typT) ((addM gs q (i,n)).map (msV q)))):=fun gs'=>by
  by_cases hs:((sumM (addM gs q (i,n)):Nat):Int)≤most
  ·exact .inl ⟨hs,fin54_ok nu ti li most (eKey::exR cd) (sltsC (gst gs').slots) [] [] [] q (addM gs q (i,n)) (msV q (i,n)).st hgrp hst (by simp [msV]) (by simp) (by simp) hs (K+600) (by omega)⟩
  ·exact .inr ⟨hs,fin54_no nu ti li most (eKey::exR cd) (sltsC (gst gs').slots) [] [] [] q (addM gs q (i,n)) (msV q (i,n)).st hgrp (by simp) (by simp) (by omega) (K+600) (by omega)⟩
 rcases getG_cases q gs with ⟨hk,hmem,hg⟩|⟨hk,hg⟩
 ·
  rw [hk] at hput hl ⊢
  rw [if_neg (by simp)]
  rw [if_pos rfl] at hl
  have hlt:=knG_lt hk
  have hel:gs[lowG q gs]=getG q gs:=by
   unfold getG
   rw [List.getElem?_eq_getElem hlt]
   unfold knG at hk
   rw [List.getElem?_eq_getElem hlt] at hk
   dsimp only at hk ⊢
   rw [if_pos (by simpa using hk)]
  have he:=slg hlt
  rw [hel,hg] at he
  have hne:(getG q gs).M≠[]:=h.ne _ hmem
  have hgm:=h.len _ hmem
  have hsp:=without53 (sltsC (gst gs).slots) (lowG q gs) (by omega) (by have:=h.few;omega) K
  have hsp2:(sltsC (gst gs).slots).take (lowG q gs)++(sltsC (gst gs).slots).drop (lowG q gs+1)=sltsC (gst (delG q gs)).slots:=by
   unfold delG sltsC gst
   simp only [List.map_append,List.map_take,List.map_drop]
  rw [hsp2] at hsp
  simp only [if_true] at hput ⊢
  have hml:(msgsC ((getG q gs).M.map (msV q))).length=(getG q gs).M.length:=by rw [msgsC_length,List.length_map]
  have hpos:=List.length_pos_iff.2 hne
  clear hel hsp2
  generalize hms:msgsC ((getG q gs).M.map (msV q))=ms0 at*
  cases ms0 with
  |nil=>simp at hml;omega
  |cons m0 ms=>
  have hA:(m0::ms).isEmpty=false∧roomOk (([]:List (List X)).length+(m0::ms).length) (151+1)=true:=
   ⟨rfl,room_of (by simp only [List.length_nil];omega) (by simp only [List.length_nil];omega)⟩
  have hB:0+(0+(m0::ms).length)=(([]:List (List X))++(m0::ms)).length∧roomOk (0+(m0::ms).length+1) 152=true∧memN 5 []=false:=
   ⟨by rw [List.nil_append];omega,room_of (by omega) (by omega),rfl⟩
  have hG:0+(0+(m0::ms).length+1)≤(List.drop 0 ([]++(m0::ms))++[msgX ((i:Int)+1) (100+(i:Int)) (some q) n]).length:=by simp
  have htk:List.take (0+(m0::ms).length+1) (List.drop 0 ([]++(m0::ms))++[msgX ((i:Int)+1) (100+(i:Int)) (some q) n])=msgsC ((addM gs q (i,n)).map (msV q)):=by
   rw [hMc,List.take_of_length_le (by simp)]
   rfl
  by_cases ht:0<ti
  ·have h175:decide (ti>0)=true:=decide_eq_true ht
   rcases hcc with rfl|rfl|rfl
   ·simp only [ne_eq,not_true_eq_false,if_false,if_true]
    unfold finR
    rcases fin (delG q gs) with ⟨hs,h54⟩|⟨hs,h54⟩
    ·rw [if_pos hs]
     rw [omM_rows] at h54
     exact nU_doneM nu ti li most (exR cd) (sltsC (gst gs).slots) (sltsC (gst (delG q gs)).slots) q now _ _ (getG q gs).t n gs.length (heldG gs) (lowG q gs) m0 ms (bdC (gB q (addM gs q (i,n)))) _ _ _ K hl h164 h175 he hA hB hG (by rw [htk];exact h61) h19 hsp (by rw [htk];exact h54)
    ·rw [if_neg hs]
     rw [omR_rows] at h54
     exact nU_doneR nu ti li most (exR cd) (sltsC (gst gs).slots) (sltsC (gst (delG q gs)).slots) q now _ _ (getG q gs).t n gs.length (heldG gs) (lowG q gs) m0 ms (bdC (gB q (addM gs q (i,n)))) _ _ _ K hl h164 h175 he hA hB hG (by rw [htk];exact h61) h19 hsp (by rw [htk];exact h54)
   ·simp only [ne_eq,not_true_eq_false,if_false,Bool.false_eq_true]
    exact nU_putn nu ti li most (exR cd) (sltsC (gst gs).slots) _ q now _ _ (getG q gs).t n gs.length (heldG gs) (lowG q gs) m0 ms (bdC (gB q (addM gs q (i,n)))) K hl h164 h175 he hA hB hG (by rw [htk];exact h61) h19 (by rw [htk];exact hput)
   ·rw [if_pos (by simp)]
    exact nU_err nu ti li most (exR cd) (sltsC (gst gs).slots) q now _ _ (getG q gs).t n gs.length (heldG gs) (lowG q gs) m0 ms (bdC (gB q (addM gs q (i,n)))) K hl h164 h175 he hA hB hG (by rw [htk];exact h61) h19
  ·have h175:decide (ti>0)=false:=decide_eq_false ht
   rcases hcc with rfl|rfl|rfl
   ·simp only [ne_eq,not_true_eq_false,if_false,if_true]
    unfold finR
    rcases fin (delG q gs) with ⟨hs,h54⟩|⟨hs,h54⟩
    ·rw [if_pos hs]
     rw [omM_rows] at h54
     exact nT_doneM nu ti li most (exR cd) (sltsC (gst gs).slots) (sltsC (gst (delG q gs)).slots) q now _ _ (getG q gs).t n gs.length (heldG gs) (lowG q gs) m0 ms (bdC (gB q (addM gs q (i,n)))) _ _ _ K hl h164 h175 he hA hB hG (by rw [htk];exact h61) h19 hsp (by rw [htk];exact h54)
    ·rw [if_neg hs]
     rw [omR_rows] at h54
     exact nT_doneR nu ti li most (exR cd) (sltsC (gst gs).slots) (sltsC (gst (delG q gs)).slots) q now _ _ (getG q gs).t n gs.length (heldG gs) (lowG q gs) m0 ms (bdC (gB q (addM gs q (i,n)))) _ _ _ K hl h164 h175 he hA hB hG (by rw [htk];exact h61) h19 hsp (by rw [htk];exact h54)
   ·simp only [ne_eq,not_true_eq_false,if_false,Bool.false_eq_true]
    exact nT_putn nu ti li most (exR cd) (sltsC (gst gs).slots) _ q now _ _ (getG q gs).t n gs.length (heldG gs) (lowG q gs) m0 ms (bdC (gB q (addM gs q (i,n)))) K hl h164 h175 he hA hB hG (by rw [htk];exact h61) h19 (by rw [htk];exact hput)
   ·rw [if_pos (by simp)]
    exact nT_err nu ti li most (exR cd) (sltsC (gst gs).slots) q now _ _ (getG q gs).t n gs.length (heldG gs) (lowG q gs) m0 ms (bdC (gB q (addM gs q (i,n)))) K hl h164 h175 he hA hB hG (by rw [htk];exact h61) h19
 ·
  rw [hk] at hput hl ⊢
  rw [if_neg (by simp)] at hl
  have hM1:addM gs q (i,n)=[(i,n)]:=by unfold addM;rw [hg];rfl
  have hMs:msgsC ((addM gs q (i,n)).map (msV q))=[msgX ((i:Int)+1) (100+(i:Int)) (some q) n]:=by rw [hM1];rfl
  by_cases hfull:li≤(gs.length:Int)
  ·rw [if_pos ⟨rfl,hfull⟩]
   exact n_full nu ti li most (exR cd) (sltsC (gst gs).slots) q now _ _ n gs.length (heldG gs) K hl (decide_eq_true (by simp only [Int.ofNat_eq_natCast];omega))
  ·rw [if_neg (by simp [hfull])]
   have h160:decide (Int.ofNat (sltsC (gst gs).slots).length≥li)=false:=decide_eq_false (by simp only [Int.ofNat_eq_natCast];omega)
   simp only [Bool.false_eq_true,if_false] at hput ⊢
   unfold tNew at hput ⊢
   rw [hMs] at h61 fin
   by_cases ht:0<ti
   ·have h175:decide (ti>0)=true:=decide_eq_true ht
    have h180:IntKind.i64.wrap (now+ti)=now+ti:=by rw [IntKind.wrap_i64];omega
    have h181:(if false=true then if (17592186044416:Int)>now+ti then 17592186044416 else now+ti else if (17592186044416:Int)<now+ti then 17592186044416 else now+ti)=now+ti:=by
     rw [if_neg (by simp),if_neg (by omega)]
    rw [if_pos ht] at hput ⊢
    rcases hcc with rfl|rfl|rfl
    ·simp only [ne_eq,not_true_eq_false,if_false,if_true]
     unfold finR
     rcases fin gs with ⟨hs,h54⟩|⟨hs,h54⟩
     ·rw [if_pos hs]
      rw [omM_rows] at h54
      exact nG_doneM nu ti li most (exR cd) (sltsC (gst gs).slots) q now _ _ (now+ti) n gs.length (heldG gs) (bdC (gB q (addM gs q (i,n)))) _ _ _ K hl h160 h164 h175 h180 h181 h61 h19 h54
     ·rw [if_neg hs]
      rw [omR_rows] at h54
      exact nG_doneR nu ti li most (exR cd) (sltsC (gst gs).slots) q now _ _ (now+ti) n gs.length (heldG gs) (bdC (gB q (addM gs q (i,n)))) _ _ _ K hl h160 h164 h175 h180 h181 h61 h19 h54
    ·simp only [ne_eq,not_true_eq_false,if_false,Bool.false_eq_true]
     exact nG_putn nu ti li most (exR cd) (sltsC (gst gs).slots) _ q now _ _ (now+ti) n gs.length (heldG gs) (bdC (gB q (addM gs q (i,n)))) K hl h160 h164 h175 h180 h181 h61 h19 (by rw [←hMs];exact hput)
    ·rw [if_pos (by simp)]
     exact nG_err nu ti li most (exR cd) (sltsC (gst gs).slots) q now _ _ (now+ti) n gs.length (heldG gs) (bdC (gB q (addM gs q (i,n)))) K hl h160 h164 h175 h180 h181 h61 h19
   ·have h175:decide (ti>0)=false:=decide_eq_false ht
    rw [if_neg ht] at hput ⊢
    rcases hcc with rfl|rfl|rfl
    ·simp only [ne_eq,not_true_eq_false,if_false,if_true]
     unfold finR
     rcases fin gs with ⟨hs,h54⟩|⟨hs,h54⟩
     ·rw [if_pos hs]
      rw [omM_rows] at h54
      exact nF_doneM nu ti li most (exR cd) (sltsC (gst gs).slots) q now _ _ n gs.length (heldG gs) (bdC (gB q (addM gs q (i,n)))) _ _ _ K hl h160 h164 h175 h61 h19 h54
     ·rw [if_neg hs]
      rw [omR_rows] at h54
      exact nF_doneR nu ti li most (exR cd) (sltsC (gst gs).slots) q now _ _ n gs.length (heldG gs) (bdC (gB q (addM gs q (i,n)))) _ _ _ K hl h160 h164 h175 h61 h19 h54
    ·simp only [ne_eq,not_true_eq_false,if_false,Bool.false_eq_true]
     exact nF_putn nu ti li most (exR cd) (sltsC (gst gs).slots) _ q now _ _ n gs.length (heldG gs) (bdC (gB q (addM gs q (i,n)))) K hl h160 h164 h175 h61 h19 (by rw [←hMs];exact hput)
    ·rw [if_pos (by simp)]
     exact nF_err nu ti li most (exR cd) (sltsC (gst gs).slots) q now _ _ n gs.length (heldG gs) (bdC (gB q (addM gs q (i,n)))) K hl h160 h164 h175 h61 h19
end
theorem step30_none (nu ti li most:Int)(cd:Nat)(gs:List Ga)(now:Int)(i n:Nat)(N:Nat)(hN:193000≤N):
  Gam.pureD (callF tab ext N) 30 [.agg (nodX nu ti li (exN cd) (tyX most) ruX),.agg (gst gs).cells,.agg (inpX ((i:Int)+1) (100+(i:Int)) now none n)]=some (.agg (stpN gs (i,n)).cells):=by
 obtain ⟨K,rfl⟩:∃K,N=K+601:=⟨N-601,by omega⟩
 rw [exN_eq]
 exact n_none nu ti li most (exR cd) (sltsC (gst gs).slots) now _ _ n K
end Go.Proofs.YthphniobeigklaaGreatDoor.Ag
