/- A run over events: what holds behind each step. -/
import Derived.Test.YthphniobeigklaaGreatDoorB15
set_option linter.all false
namespace Go.Proofs.YthphniobeigklaaGreatDoor.Ag
open Go Go.Em Go.Proofs.YthphniobeigklaaGreatDoor
set_option maxRecDepth 100000
structure Pr where
 nu:Int
 ti:Int
 li:Int
 most:Int
 cd:Nat
structure Pr.ok (P:Pr):Prop where
 cd:P.cd<4
 ti:0≤P.ti∧P.ti≤100
def Pr.node (P:Pr):X:=.agg (nodX P.nu P.ti P.li (exN P.cd) (tyX P.most) ruX)
def stpI (P:Pr)(gs:List Ga)(x:Iv):Rs:=match x.v with
 |.m (some q) n=>stpM P.nu P.ti P.li P.most P.cd gs q x.now (x.i,n)
 |.m none n=>stpN gs (x.i,n)
 |.c=>clkR P.most x.i x.now gs
structure Iv.ok (x:Iv):Prop where
 i:x.i<40
 now:0≤x.now∧x.now≤1000
 v:∀o n,x.v=.m o n→n<4∧∀q,o=some q→0≤q∧q≤3
theorem GsI.mono {gs:List Ga}{i k:Nat}(h:GsI gs i)(hik:i≤k):GsI gs k:=
 ⟨h.srt,h.few,h.key,h.ne,h.inc,fun x hx m hm=>by have:=h.place x hx m hm;omega,h.tim⟩
theorem GsI.del {gs:List Ga}{i:Nat}(h:GsI gs i)(g:Int):GsI (delG g gs) i:=
 ⟨delG_srt h.srt,by have:=delG_len g gs;have:=h.few;omega,fun x hx=>h.key x (delG_mem hx),fun x hx=>h.ne x (delG_mem hx),fun x hx=>h.inc x (delG_mem hx),fun x hx=>h.place x (delG_mem hx),fun x hx=>h.tim x (delG_mem hx)⟩
theorem GsI.get {gs:List Ga}{i:Nat}(h:GsI gs i)(q:Int):(getG q gs).M.length≤i∧((getG q gs).M.Pairwise fun a b=>a.1<b.1)∧(∀m,m∈(getG q gs).M→m.1<i∧m.2<4)∧0≤(getG q gs).t∧(getG q gs).t≤200000:=by
 rcases getG_cases q gs with ⟨_,hm,_⟩|⟨_,e⟩
 ·exact ⟨h.len _ hm,h.inc _ hm,h.place _ hm,h.tim _ hm⟩
 ·rw [e];exact ⟨Nat.zero_le _,.nil,by simp,Int.le_refl 0,(by show (0:Int)≤200000;decide)⟩
theorem GsI.put {gs:List Ga}{i:Nat}(h:GsI gs i){q t:Int}{n:Nat}(hq:0≤q∧q≤3)(hn:n<4)(ht:0≤t∧t≤200000):GsI (putG ⟨q,t,addM gs q (i,n)⟩ gs) (i+1):=by
 have hg:=h.get q
 have hlen:=putG_len ⟨q,t,addM gs q (i,n)⟩ gs
 have h4:=h.few4
 have hp:∀m,m∈addM gs q (i,n)→m.1<i+1∧m.2<4:=fun m hm=>by
  rcases List.mem_append.1 hm with hm|hm
  ·have:=hg.2.2.1 m hm;omega
  ·rw [List.mem_singleton.1 hm];exact ⟨by show i<i+1;omega,hn⟩
 refine ⟨putG_srt h.srt,by omega,fun x hx=>?_,fun x hx=>?_,fun x hx=>?_,fun x hx=>?_,fun x hx=>?_⟩
 ·rcases putG_mem hx with rfl|hx
  ·exact hq
  ·exact h.key x hx
 ·rcases putG_mem hx with rfl|hx
  ·simp [addM]
  ·exact h.ne x hx
 ·rcases putG_mem hx with rfl|hx
  ·show (addM gs q (i,n)).Pairwise _
   unfold addM
   exact List.pairwise_append.2 ⟨hg.2.1,List.pairwise_singleton ..,fun a ha b hb=>by rw [List.mem_singleton.1 hb];exact (hg.2.2.1 a ha).1⟩
  ·exact h.inc x hx
 ·rcases putG_mem hx with rfl|hx
  ·exact hp
  ·intro m hm;have:=h.place x hx m hm;omega
 ·rcases putG_mem hx with rfl|hx
  ·exact ht
  ·exact h.tim x hx
theorem GsI.nil:GsI [] 0:=⟨.nil,by simp,by simp,by simp,by simp,by simp,by simp⟩
structure StpOk (gs:List Ga) (i k:Nat) (r:Rs):Prop where
 I:GsI r.gs (i+1)
 fat:heldG r.gs+r.F.length=heldG gs+k
theorem clkR_I {gs:List Ga}{i:Nat}(h:GsI gs i)(most:Int)(k:Nat)(now:Int):CkI gs (clkR most k now gs)∧∀y,y∈(clkR most k now gs).gs↔y∈gs∧∀x,x∈exG now gs→y.g≠x.g:=
 clk_fold (most:=most) (s:=clS k) (g0:=gs) (exG now gs) ⟨gs,[],[],[]⟩ ⟨h.srt,fun x hx=>hx,Nat.le_refl _,rfl,Nat.le_refl 0,Nat.le_refl 0⟩ (fun x hx=>⟨(exG_mem x hx).1,h.ne x (exG_mem x hx).1⟩) (exG_ne h.srt)
theorem stpI_ok {P:Pr}(hP:P.ok){gs:List Ga}{x:Iv}(h:GsI gs x.i)(hx:x.ok):StpOk gs x.i (match x.v with|.c=>0|.m _ _=>1) (stpI P gs x):=by
 obtain ⟨i,now,v⟩:=x
 obtain ⟨hi,hnow,hv⟩:=hx
 dsimp only at hi hnow hv h
 unfold stpI
 cases v with
 |c=>
  dsimp only
  obtain ⟨hc,hm⟩:=clkR_I h P.most i now
  refine ⟨⟨hc.srt,by have:=hc.len;have:=h.few;omega,fun x hx=>h.key x (hc.sub x hx),fun x hx=>h.ne x (hc.sub x hx),fun x hx=>h.inc x (hc.sub x hx),fun x hx m hm=>by have:=h.place x (hc.sub x hx) m hm;omega,fun x hx=>h.tim x (hc.sub x hx)⟩,?_⟩
  have:=hc.fat
  omega
 |m o n=>
  obtain ⟨hn,hq⟩:=hv o n rfl
  cases o with
  |none=>exact ⟨h.mono (Nat.le_succ i),rfl⟩
  |some q=>
   have hq:=hq q rfl
   dsimp only
   have hg:=h.get q
   have hh:=heldG_put ⟨q,if knG q gs=true then (getG q gs).t else tNew P.ti now,addM gs q (i,n)⟩ gs
   have hal:(addM gs q (i,n)).length=(getG q gs).M.length+1:=by simp [addM]
   dsimp only at hh
   unfold stpM
   split
   ·exact ⟨h.mono (by omega),rfl⟩
   ·split
    ·exact ⟨h.mono (by omega),rfl⟩
    ·split
     ·unfold finR
      have hgs:GsI (if knG q gs=true then delG q gs else gs) (i+1):=by
       split
       ·exact (h.del q).mono (by omega)
       ·exact h.mono (by omega)
      have hfat:heldG (if knG q gs=true then delG q gs else gs)+(addM gs q (i,n)).length=heldG gs+1:=by
       rcases getG_cases q gs with ⟨hk,_,_⟩|⟨hk,e⟩
       ·rw [hk,if_pos rfl]
        have:=heldG_del hk
        omega
       ·rw [hk,if_neg (by simp)]
        rw [e] at hal
        simp only [List.length_nil] at hal
        omega
      split
      ·exact ⟨hgs,by simpa [mrgF] using hfat⟩
      ·exact ⟨hgs,by simpa [rejF] using hfat⟩
     ·refine ⟨h.put hq hn ?_,by simp only [List.length_nil];omega⟩
      split
      ·exact ⟨hg.2.2.2.1,hg.2.2.2.2⟩
      ·unfold tNew
       have:=hP.ti
       split<;>omega
theorem step27 {P:Pr}(hP:P.ok){gs:List Ga}{x:Iv}(h:GsI gs x.i)(hx:x.ok)(hh:heldG gs<200)(N:Nat)(hN:193000≤N):
  Gam.pureD (callF tab ext N) 27 [P.node,.agg (gst gs).cells,.agg (x.row false)]=some (.agg (stpI P gs x).cells):=by
 obtain ⟨i,now,v⟩:=x
 obtain ⟨hi,hnow,hv⟩:=hx
 dsimp only at hi hnow hv h
 have hti:=hP.ti
 cases v with
 |c=>exact step_clk P.nu P.ti P.li P.most P.cd gs now i h (by omega) hh N hN
 |m o n=>
  obtain ⟨hn,hq⟩:=hv o n rfl
  cases o with
  |none=>exact step_none P.nu P.ti P.li P.most P.cd gs now i n (h.sm (by omega)) N hN
  |some q=>exact step_msg P.nu P.ti P.li P.most P.cd gs q now i n hP.cd h hi (hq q rfl) hn ⟨by omega,by omega⟩ ⟨by omega,by omega⟩ hh N hN
structure IvsOk (xs:List Iv):Prop where
 ok:∀x,x∈xs→x.ok
 inc:xs.Pairwise fun a b=>a.i<b.i
theorem stL_ok {P:Pr}(hP:P.ok):∀(xs:List Iv) (gs:List Ga) (k:Nat),GsI gs k→heldG gs≤k→IvsOk xs→(∀x,x∈xs→k≤x.i)→∃k',GsI (stL (stpI P) gs xs) k'∧heldG (stL (stpI P) gs xs)≤k'∧(k'=k∨∃x,x∈xs∧k'=x.i+1)
 |[],gs,k,h,hh,_,_=>⟨k,h,hh,.inl rfl⟩
 |x::r,gs,k,h,hh,hx,hk=>by
  have hx0:=hx.ok x List.mem_cons_self
  have hk0:=hk x List.mem_cons_self
  have hs:=stpI_ok hP (h.mono hk0) hx0
  have hp:=List.pairwise_cons.1 hx.inc
  have hfat:=hs.fat
  obtain ⟨k',h1,h2,h3⟩:=stL_ok hP r (stpI P gs x).gs (x.i+1) hs.I (by
   revert hfat
   split<;>omega) ⟨fun y hy=>hx.ok y (List.mem_cons_of_mem _ hy),hp.2⟩ (fun y hy=>hp.1 y hy)
  refine ⟨k',h1,h2,.inr ?_⟩
  rcases h3 with rfl|⟨y,hy,rfl⟩
  ·exact ⟨x,List.mem_cons_self,rfl⟩
  ·exact ⟨y,List.mem_cons_of_mem _ hy,rfl⟩
theorem st_at {P:Pr}(hP:P.ok){xs:List Iv}(hx:IvsOk xs)(j:Nat)(hj:j<xs.length):GsI (stL (stpI P) [] (xs.take j)) xs[j].i∧heldG (stL (stpI P) [] (xs.take j))≤xs[j].i:=by
 obtain ⟨k',h1,h2,h3⟩:=stL_ok hP (xs.take j) [] 0 GsI.nil (Nat.le_refl 0) ⟨fun y hy=>hx.ok y (List.mem_of_mem_take hy),hx.inc.take⟩ (fun y _=>Nat.zero_le _)
 have hle:k'≤xs[j].i:=by
  rcases h3 with rfl|⟨x,hm,rfl⟩
  ·exact Nat.zero_le _
  ·obtain ⟨m,hm2,rfl⟩:=List.getElem_of_mem hm
   rw [List.length_take] at hm2
   rw [List.getElem_take]
   have:=List.pairwise_iff_getElem.1 hx.inc m j (by omega) hj (by omega)
   omega
 exact ⟨h1.mono hle,by omega⟩
theorem runAll {P:Pr}(hP:P.ok){xs:List Iv}(hx:IvsOk xs)(hl:xs.length≤40)(N:Nat)(hN:193001≤N):
  Gam.pureD (callF tab ext N) 14 [P.node,.sl false 23 (insC xs)]=some (.sl false 7 (rssC (rnL (stpI P) [] xs))):=by
 obtain ⟨M,rfl⟩:∃M,N=M+1:=⟨N-1,by omega⟩
 refine run14 (stpI P) P.nu P.ti P.li P.most (exN P.cd) xs (by omega) M (by omega) fun j hj=>?_
 have h:=st_at hP hx j hj
 have hxo:=hx.ok _ (List.getElem_mem hj)
 have:=hxo.i
 exact step27 hP h.1 hxo (by omega) M (by omega)
theorem evV_ok (e:Ev)(i now:Nat)(hi:i<40)(hn:now≤1000):Iv.ok ⟨i,(now:Int),evV e⟩:=by
 refine ⟨hi,⟨(by show 0≤(now:Int);omega),(by show (now:Int)≤1000;omega)⟩,fun o n h=>?_⟩
 unfold evV at h
 dsimp only at h
 split at h
 ·cases h
 ·cases h
  refine ⟨Nat.mod_lt _ (by omega),fun q hq=>?_⟩
  split at hq
  ·cases hq
  ·cases hq
   omega
theorem inL_ok (l:List Ev)(hl:l.length≤40):IvsOk (inL 0 0 l):=by
 refine ⟨fun x hx=>?_,List.pairwise_iff_getElem.2 fun a b ha hb hab=>?_⟩
 ·obtain ⟨j,hj,rfl⟩:=List.getElem_of_mem hx
  rw [inL_len] at hj
  rw [inL_get l 0 0 j hj]
  have:=nwL_le (l.take j) 0
  rw [List.length_take] at this
  exact evV_ok _ _ _ (by omega) (by omega)
 ·rw [inL_len] at ha hb
  rw [inL_get l 0 0 a ha,inL_get l 0 0 b hb]
  show 0+a<0+b
  omega
end Go.Proofs.YthphniobeigklaaGreatDoor.Ag
namespace Go.Proofs.YthphniobeigklaaGreatDoor
open Go.Em
set_option maxRecDepth 100000
section
variable (l items acc:List (List X)) (n j k m i:Nat) (x:List X)
end
end Go.Proofs.YthphniobeigklaaGreatDoor
namespace Go.Proofs.YthphniobeigklaaGreatDoor.Ag
open Go Go.Em Go.Proofs.YthphniobeigklaaGreatDoor
set_option maxRecDepth 100000
def AllMass (l:List Msg):Prop:=∀m,m∈l→0≤m.mass∧m.mass≤100000
def waitG (gs:List Ga):List Msg:=gs.flatMap fun x=>x.M.map (msV x.g)
theorem waitG_len (gs:List Ga):(waitG gs).length=heldG gs:=by simp [waitG,heldG,List.length_flatMap]
end Go.Proofs.YthphniobeigklaaGreatDoor.Ag
namespace Go.Proofs.YthphniobeigklaaGreatDoor.Ag
open Go Go.Em Go.Proofs.YthphniobeigklaaGreatDoor
set_option maxRecDepth 100000
theorem getG_g (q:Int)(gs:List Ga):(getG q gs).g=q:=by
 rcases getG_cases q gs with ⟨_,_,h⟩|⟨_,e⟩
 ·exact h
 ·rw [e]
end Go.Proofs.YthphniobeigklaaGreatDoor.Ag
namespace Go.Proofs.YthphniobeigklaaGreatDoor.Ag
open Go Go.Em Go.Proofs.YthphniobeigklaaGreatDoor
set_option maxRecDepth 100000
def skP (a b c d e:Int):Pr:=⟨nuOf a,tiOf b,liOf c,mostOf e,cdOf d⟩
theorem skP_ok (a b c d e:Int)(hb:0≤b∧b<256):(skP a b c d e).ok:=by
 refine ⟨?_,?_⟩
 ·show cdOf d<4
  unfold cdOf;split<;>(try split)<;>omega
 ·show 0≤tiOf b∧tiOf b≤100
  unfold tiOf
  obtain ⟨n,rfl⟩:=Int.eq_ofNat_of_zero_le hb.1
  have h4:IntKind.i64.wrap ((n:Int).tmod 4)=((n%4:Nat):Int):=by rw [Int.tmod_eq_emod_of_nonneg (Int.natCast_nonneg n),IntKind.wrap_i64];omega
  rw [h4]
  have:=Nat.mod_lt n (show 0<4 by omega)
  generalize n%4=k at*
  have hk:k=0∨k=1∨k=2∨k=3:=by omega
  rcases hk with rfl|rfl|rfl|rfl<;>decide
theorem sk12 (a b c d e:Int)(N:Nat)(hN:300≤N):Gam.pureD (callF tab ext N) 12 [skX a b c d e]=some (skP a b c d e).node:=by
 obtain ⟨K,rfl⟩:∃K,N=K+300:=⟨N-300,by omega⟩
 exact node12 a b c d e K
section
variable (ins rs:List (List X)) (i k:Nat) (bef sum acc:Int) (N:Nat)
end
theorem allMass_nil:AllMass []:=fun m hm=>nomatch hm
theorem massL_one {ms:List Msg}(h:AllMass ms)(hl:ms.length≤1000):0≤massL ms∧massL ms≤100000000:=by
 have:=massL_le h
 omega
structure Small (r:Rs):Prop where
 out:∀o,o∈r.O→0≤o.m.mass∧o.m.mass≤100000000
 no:r.O.length≤100
 let':AllMass r.L
 nl:r.L.length≤1000
theorem grp_mass {q:Int}{M:List (Nat×Nat)}(h:GrpOk q M):AllMass (M.map (msV q)):=fun m hm=>(h.ms m hm).2
theorem clk_small {gs:List Ga}{i:Nat}(h:GsI gs i)(hi:i≤40){most:Int}{s:Stp}:∀(E:List Ga) (c:Rs),(∀x,x∈E→x∈gs)→Small ⟨c.gs,c.O,c.F,[]⟩→c.O.length+E.length≤100→AllMass c.L→c.L.length+41*E.length≤1000→Small (E.foldl (clk1 most s) c)
 |[],c,_,hs,hO,hL,hl=>⟨hs.out,by simpa using hO,hL,by simpa using hl⟩
 |x::E,c,hE,hs,hO,hL,hl=>by
  have hgo:=h.grpOk hi (hE x List.mem_cons_self)
  have hlen:=h.len x (hE x List.mem_cons_self)
  simp only [List.length_cons] at hO hl
  refine clk_small h hi E (clk1 most s c x) (fun y hy=>hE y (List.mem_cons_of_mem _ hy)) ?_ ?_ ?_ ?_
  ·refine ⟨fun o ho=>?_,?_,allMass_nil,Nat.zero_le _⟩
   ·unfold clk1 at ho
    split at ho
    ·rcases List.mem_append.1 ho with ho|ho
     ·exact hs.out o ho
     ·rw [List.mem_singleton.1 ho]
      exact massL_one (grp_mass hgo) (by rw [List.length_map];omega)
    ·exact hs.out o ho
   ·unfold clk1
    split
    ·simp only [List.length_append,List.length_singleton];omega
    ·dsimp only;omega
  ·unfold clk1
   split
   ·simp only [List.length_append,List.length_singleton];omega
   ·dsimp only;omega
  ·unfold clk1
   split
   ·exact hL
   ·intro m hm
    rcases List.mem_append.1 hm with hm|hm
    ·exact hL m hm
    ·exact grp_mass hgo m hm
  ·unfold clk1
   split
   ·dsimp only;omega
   ·simp only [List.length_append,List.length_map];omega
theorem stp_small {P:Pr}{gs:List Ga}{x:Iv}(h:GsI gs x.i)(hx:x.ok):Small (stpI P gs x):=by
 obtain ⟨i,now,v⟩:=x
 obtain ⟨hi,hnow,hv⟩:=hx
 dsimp only at hi hnow hv h
 unfold stpI
 cases v with
 |c=>
  have h4:=h.few4
  have hEl:=exG_len now gs
  exact clk_small h (by omega) (exG now gs) ⟨gs,[],[],[]⟩ (fun x hx=>(exG_mem x hx).1) ⟨by simp,by simp,allMass_nil,by simp⟩ (by simp;omega) (allMass_nil) (by simp;omega)
 |m o n=>
  obtain ⟨hn,hq⟩:=hv o n rfl
  have one:∀(m:Msg),m.mass=100+(i:Int)→AllMass [m]:=fun m hm y hy=>by
   rw [List.mem_singleton.1 hy,hm]
   omega
  cases o with
  |none=>exact ⟨by simp [stpN],by simp [stpN],one (msN (i,n)) rfl,by simp [stpN]⟩
  |some q=>
   have hgo:=h.grp hi q (hq q rfl) n hn
   have hgl:=hgo.len
   have hrej:∀r,Small ⟨gs,[],rejF [msV q (i,n)] r,[msV q (i,n)]⟩:=fun r=>⟨by simp,by simp,one (msV q (i,n)) rfl,by simp⟩
   dsimp only
   unfold stpM
   split
   ·exact hrej _
   ·split
    ·exact hrej _
    ·split
     ·unfold finR
      split
      ·refine ⟨fun o ho=>?_,by simp,allMass_nil,by simp⟩
       rw [List.mem_singleton.1 ho]
       exact massL_one (grp_mass hgo) (by rw [List.length_map];omega)
      ·exact ⟨by simp,by simp,grp_mass hgo,by rw [List.length_map];omega⟩
     ·exact ⟨by simp,by simp,allMass_nil,by simp⟩
section
variable (a b c d e:Int) (hb:0≤b∧b<256) (l:List Ev)
include hb
end
end Go.Proofs.YthphniobeigklaaGreatDoor.Ag
