/- The model's step at a clock input. -/
import Derived.Test.YthphniobeigklaaGreatDoorM25
set_option linter.all false
namespace Go.Proofs.YthphniobeigklaaGreatDoor.Ag
open Go Go.Em Go.Proofs.YthphniobeigklaaGreatDoor
set_option maxRecDepth 100000
def bI:Option Nat→Int
 |none=>-1
 |some k=>(k:Int)
section
variable (nu ti li most:Int) (ex s0 ss s2:List (List X)) (i:Nat) (now:Int) (no nf nl no2 nf2 nl2:Nat) (O F L O2 F2 L2:List (List X)) (b:Int) (j k n:Nat) (N:Nat)
def kcB:List Bx:=[.var (nodX nu ti li ex (tyX most) ruX),.var (clR false i now),.var zeO,.var (oX ss 4 no 5 nf 6 nl),.row 11 O,.row 6 F,.row 10 L]
def kdH:St:=⟨[(3,.ptr 0 0 0),(5,.ptr 1 0 0),(6,.ptr 2 0 0),(7,.ptr 3 0 0)],kcB nu ti li most ex ss i now no nf nl O F L⟩
def kcS:St:=⟨[(3,.ptr 0 0 0),(4,.ptr 1 0 0),(5,.ptr 2 0 0),(6,.ptr 3 0 0),(7,.ptr 4 0 0),(24,boolX true)],[.var (nodX nu ti li ex (tyX most) ruX),.var [num 0,num 0,.sl false 10 ss],.var (clR false i now),.var zeO,.var (oX ss 5 0 6 0 7 0),.row 11 [],.row 6 [],.row 10 []]⟩
def kiH:St:=⟨[(3,.ptr 0 0 0),(5,.ptr 1 0 0),(6,.ptr 2 0 0),(7,.ptr 3 0 0),(8,num b),(9,nat j)],kcB nu ti li most ex ss i now no nf nl O F L⟩
def kiE:St:=⟨[(3,.ptr 0 0 0),(5,.ptr 1 0 0),(6,.ptr 2 0 0),(7,.ptr 3 0 0),(8,num b),(9,nat j),(30,boolX false)],kcB nu ti li most ex ss i now no nf nl O F L⟩
theorem kc_canonS:canon 0 (kcS nu ti li most ex ss i now)=some (kcS nu ti li most ex ss i now):=by kernel_rfl
theorem ki_canon:canon 0 (kiH nu ti li most ex ss i now no nf nl O F L b j)=some (kiH nu ti li most ex ss i now no nf nl O F L b j):=by kernel_rfl
theorem ki_end (h:¬j<ss.length):run (callF tab ext N) 0 N (loopAt 30 1) (kiH nu ti li most ex ss i now no nf nl O F L b j)=some (.exit 2,kiE nu ti li most ex ss i now no nf nl O F L b j):=
 run_of [(30,.b false)] [] (pf1 (nlt_nat h)) (lo':=[]) (by kernel_rfl)
variable (q t:Int) (ms:List (List X)) (hj:j<ss.length) (hj2:j<1000) (he:ss[j]?=some (slX q t ms))
include hj hj2 he
theorem ki_no (hx:¬(0<t∧t≤now)):∃υ,run (callF tab ext N) 0 N (loopAt 30 1) (kiH nu ti li most ex ss i now no nf nl O F L b j)=some (.norm,υ)∧canon 0 υ=some (kiH nu ti li most ex ss i now no nf nl O F L b (j+1)):=by
 have h1:=lt_nat hj
 have h2:=next_nat (j:=j) (by omega)
 by_cases ht:0<t
 ·have h3:decide (t>0)=true:=decide_eq_true ht
  have h4:decide (t≤now)=false:=decide_eq_false (fun h=>hx ⟨ht,h⟩)
  have h9:=pf5 h1 he h3 h4 h2
  exact rd_of [(30,.b true),(37,.e (slX q t ms)),(41,.b true),(47,.b false),(32,.i (Int.ofNat (j+1)))] h9 (by kernel_rfl)
 ·have h3:decide (t>0)=false:=decide_eq_false ht
  have h9:=pf4 h1 he h3 h2
  exact rd_of [(30,.b true),(37,.e (slX q t ms)),(41,.b false),(32,.i (Int.ofNat (j+1)))] h9 (by kernel_rfl)
theorem ki_first (hx:0<t∧t≤now):∃υ,run (callF tab ext N) 0 N (loopAt 30 1) (kiH nu ti li most ex ss i now no nf nl O F L (-1) j)=some (.norm,υ)∧canon 0 υ=some (kiH nu ti li most ex ss i now no nf nl O F L (j:Int) (j+1)):=by
 have h1:=lt_nat hj
 have h2:=next_nat (j:=j) (by omega)
 have h3:decide (t>0)=true:=decide_eq_true hx.1
 have h4:decide (t≤now)=true:=decide_eq_true hx.2
 have h9:=pf5 h1 he h3 h4 h2
 exact rd_of [(30,.b true),(37,.e (slX q t ms)),(41,.b true),(47,.b true),(32,.i (Int.ofNat (j+1)))] h9 (by kernel_rfl)
variable (q2 t2:Int) (ms2:List (List X)) (hk:ss[k]?=some (slX q2 t2 ms2))
include hk
theorem ki_less (hx:0<t∧t≤now)(hlt:t<t2):∃υ,run (callF tab ext N) 0 N (loopAt 30 1) (kiH nu ti li most ex ss i now no nf nl O F L (k:Int) j)=some (.norm,υ)∧canon 0 υ=some (kiH nu ti li most ex ss i now no nf nl O F L (j:Int) (j+1)):=by
 have h1:=lt_nat hj
 have h2:=next_nat (j:=j) (by omega)
 have h3:decide (t>0)=true:=decide_eq_true hx.1
 have h4:decide (t≤now)=true:=decide_eq_true hx.2
 have h5:decide (t<t2)=true:=decide_eq_true hlt
 have h9:=pf7 h1 he h3 h4 hk h5 h2
 exact rd_of [(30,.b true),(37,.e (slX q t ms)),(41,.b true),(47,.b true),(59,.e (slX q2 t2 ms2)),(62,.b true),(32,.i (Int.ofNat (j+1)))] h9 (by kernel_rfl)
theorem ki_more (hx:0<t∧t≤now)(hlt:¬t<t2):∃υ,run (callF tab ext N) 0 N (loopAt 30 1) (kiH nu ti li most ex ss i now no nf nl O F L (k:Int) j)=some (.norm,υ)∧canon 0 υ=some (kiH nu ti li most ex ss i now no nf nl O F L (k:Int) (j+1)):=by
 have h1:=lt_nat hj
 have h2:=next_nat (j:=j) (by omega)
 have h3:decide (t>0)=true:=decide_eq_true hx.1
 have h4:decide (t≤now)=true:=decide_eq_true hx.2
 have h5:decide (t<t2)=false:=decide_eq_false hlt
 have h9:=pf7 h1 he h3 h4 hk h5 h2
 exact rd_of [(30,.b true),(37,.e (slX q t ms)),(41,.b true),(47,.b true),(59,.e (slX q2 t2 ms2)),(62,.b false),(32,.i (Int.ofNat (j+1)))] h9 (by kernel_rfl)
end
theorem ki_loop (nu ti li most:Int)(ex:List (List X))(i:Nat)(now:Int)(no nf nl:Nat)(O F L:List (List X))(gs:List Ga)(hl:gs.length≤100)(N:Nat)(hN:200≤N):
  run (callF tab ext N) 0 N (.loop (loopAt 30 1)) (kiH nu ti li most ex (sltsC (gst gs).slots) i now no nf nl O F L (-1) 0)=some (.exit 2,kiE nu ti li most ex (sltsC (gst gs).slots) i now no nf nl O F L (bI (slcG now gs gs.length)) gs.length):=by
 have hsl:=slg_len gs
 refine loop_for (σ:=fun j=>kiH nu ti li most ex (sltsC (gst gs).slots) i now no nf nl O F L (bI (slcG now gs j)) j) (k:=gs.length) (ki_canon ..) (fun j hj=>?_) (ki_end nu ti li most ex _ i now no nf nl O F L _ _ N (by omega)) (by simp) (by omega)
 have he:=slg hj
 have hd:=getD_G hj
 have hstep:slcG now gs (j+1)=if expB now (gs.getD j dG)=true∧(∀k,slcG now gs j=some k→(gs.getD j dG).t<(gs.getD k dG).t) then some j else slcG now gs j:=by
  show slcG now gs (j+1)=_
  conv=>lhs;unfold slcG
 rw [hstep,hd]
 have hxe:expB now gs[j]=true↔0<gs[j].t∧gs[j].t≤now:=by unfold expB;exact decide_eq_true_iff
 by_cases hx:0<gs[j].t∧gs[j].t≤now
 ·cases hs:slcG now gs j with
  |none=>
   rw [if_pos ⟨hxe.2 hx,fun k h=>nomatch h⟩]
   exact ki_first nu ti li most ex _ i now no nf nl O F L j N gs[j].g gs[j].t _ (by omega) (by omega) he hx
  |some k=>
   have hk:=(slcG_lt now gs j k hs).1
   have hek:=slg (show k<gs.length by omega)
   have hdk:=getD_G (show k<gs.length by omega)
   by_cases hlt:gs[j].t<gs[k].t
   ·rw [if_pos ⟨hxe.2 hx,fun m h=>by cases h;rw [hdk];exact hlt⟩]
    exact ki_less nu ti li most ex _ i now no nf nl O F L j k N gs[j].g gs[j].t _ (by omega) (by omega) he _ _ _ hek hx hlt
   ·rw [if_neg (fun h=>hlt (by have:=h.2 k rfl;rw [hdk] at this;exact this))]
    exact ki_more nu ti li most ex _ i now no nf nl O F L j k N gs[j].g gs[j].t _ (by omega) (by omega) he _ _ _ hek hx hlt
 ·rw [if_neg (fun h=>hx (hxe.1 h.1))]
  exact ki_no nu ti li most ex _ i now no nf nl O F L _ j N gs[j].g gs[j].t _ (by omega) (by omega) he hx
section
variable (nu ti li most:Int) (ex ss s2:List (List X)) (i:Nat) (now:Int) (no nf nl no2 nf2 nl2:Nat) (O F L O2 F2 L2:List (List X)) (k n:Nat) (N:Nat) (q t:Int) (ms:List (List X))
theorem kc_ret (hl:run (callF tab ext N) 0 N (.loop (loopAt 30 1)) (kiH nu ti li most ex ss i now no nf nl O F L (-1) 0)=some (.exit 2,kiE nu ti li most ex ss i now no nf nl O F L (-1) n)):
  run (callF tab ext N) 0 N (loopAt 30 0) (kdH nu ti li most ex ss i now no nf nl O F L)=some (.ret,⟨[(6,.ptr 2 0 0)],[.var (nodX nu ti li ex (tyX most) ruX),.var (clR false i now),.var (oX ss 4 no 5 nf 6 nl),.var (oX ss 4 no 5 nf 6 nl),.row 11 O,.row 6 F,.row 10 L]⟩):=
 run_of [] [(.exit 2,kiE nu ti li most ex ss i now no nf nl O F L (-1) n)] (pf1 hl) (lo':=[]) (by kernel_rfl)
theorem ks_canon (hl:run (callF tab ext N) 0 N (.loop (loopAt 30 1)) (kiH nu ti li most ex ss i now 0 0 0 [] [] [] (-1) 0)=some (.exit 2,kiE nu ti li most ex ss i now 0 0 0 [] [] [] (k:Int) n)):
  run (callF tab ext N) 0 N (.loop (loopAt 30 1)) ⟨[(3,.ptr 0 0 0),(5,.ptr 2 0 0),(6,.ptr 3 0 0),(7,.ptr 4 0 0),(8,num (-1)),(9,num 0)],[.var (nodX nu ti li ex (tyX most) ruX),.var [num 0,num 0,.sl false 10 ss],.var (clR false i now),.var zeO,.var (oX ss 5 0 6 0 7 0),.row 11 [],.row 6 [],.row 10 []]⟩=some (.exit 2,kiE nu ti li most ex ss i now 0 0 0 [] [] [] (k:Int) n):=by
 rw [←hl]
 exact loop_canon (by kernel_rfl) (ki_canon ..)
theorem ks_canon0 (hl:run (callF tab ext N) 0 N (.loop (loopAt 30 1)) (kiH nu ti li most ex ss i now 0 0 0 [] [] [] (-1) 0)=some (.exit 2,kiE nu ti li most ex ss i now 0 0 0 [] [] [] (-1) n)):
  run (callF tab ext N) 0 N (.loop (loopAt 30 1)) ⟨[(3,.ptr 0 0 0),(5,.ptr 2 0 0),(6,.ptr 3 0 0),(7,.ptr 4 0 0),(8,num (-1)),(9,num 0)],[.var (nodX nu ti li ex (tyX most) ruX),.var [num 0,num 0,.sl false 10 ss],.var (clR false i now),.var zeO,.var (oX ss 5 0 6 0 7 0),.row 11 [],.row 6 [],.row 10 []]⟩=some (.exit 2,kiE nu ti li most ex ss i now 0 0 0 [] [] [] (-1) n):=by
 rw [←hl]
 exact loop_canon (by kernel_rfl) (ki_canon ..)
theorem ks_ret (hl:run (callF tab ext N) 0 N (.loop (loopAt 30 1)) (kiH nu ti li most ex ss i now 0 0 0 [] [] [] (-1) 0)=some (.exit 2,kiE nu ti li most ex ss i now 0 0 0 [] [] [] (-1) n)):
  run (callF tab ext N) 0 N (loopAt 30 0) (kcS nu ti li most ex ss i now)=some (.ret,⟨[(6,.ptr 2 0 0)],[.var (nodX nu ti li ex (tyX most) ruX),.var (clR false i now),.var (oX ss 4 0 5 0 6 0),.var (oX ss 4 0 5 0 6 0),.row 11 [],.row 6 [],.row 10 []]⟩):=by
 have h9:=pf1 (ks_canon0 nu ti li most ex ss i now n N hl)
 exact run_of [] [(.exit 2,kiE nu ti li most ex ss i now 0 0 0 [] [] [] (-1) n)] h9 (lo':=[]) (by kernel_rfl)
variable (he:ss[k]?=some (slX q t ms)) (h53:Gam.pureD (callF tab ext N) 53 [.agg [num 0,num 0,.sl false 10 ss],nat k]=some (.agg [num 0,num 0,.sl false 10 s2]))
include he h53
theorem kc_M (hl:run (callF tab ext N) 0 N (.loop (loopAt 30 1)) (kiH nu ti li most ex ss i now no nf nl O F L (-1) 0)=some (.exit 2,kiE nu ti li most ex ss i now no nf nl O F L (k:Int) n))
  (h54:callF tab ext N (.fn 54) [.ptr 0 0 0,.agg (nodX nu ti li ex (tyX most) ruX),.agg [nat (i+1),.sl false 1 [[num 0],[num 3]]],.agg (kv q).cells,.sl false 10 ms] [.var (oX s2 1 no 2 nf 3 nl),.row 11 O,.row 6 F,.row 10 L]=some (.tup [],[.var (oX s2 4 no2 5 nf2 3 nl),.dead,.dead,.row 10 L,.row 11 O2,.row 6 F2])):
  ∃υ,run (callF tab ext N) 0 N (loopAt 30 0) (kdH nu ti li most ex ss i now no nf nl O F L)=some (.norm,υ)∧canon 0 υ=some (kdH nu ti li most ex s2 i now no2 nf2 nl O2 F2 L):=by
 have h9:=pf4 hl he h53 h54
 exact rl_of [(73,.e (slX q t ms)),(78,.p (.agg [num 0,num 0,.sl false 10 s2])),(87,.r (.tup []) [.var (oX s2 4 no2 5 nf2 3 nl),.dead,.dead,.row 10 L,.row 11 O2,.row 6 F2])] [(.exit 2,kiE nu ti li most ex ss i now no nf nl O F L (k:Int) n)] h9 (by kernel_rfl)
theorem kc_R (hl:run (callF tab ext N) 0 N (.loop (loopAt 30 1)) (kiH nu ti li most ex ss i now no nf nl O F L (-1) 0)=some (.exit 2,kiE nu ti li most ex ss i now no nf nl O F L (k:Int) n))
  (h54:callF tab ext N (.fn 54) [.ptr 0 0 0,.agg (nodX nu ti li ex (tyX most) ruX),.agg [nat (i+1),.sl false 1 [[num 0],[num 3]]],.agg (kv q).cells,.sl false 10 ms] [.var (oX s2 1 no 2 nf 3 nl),.row 11 O,.row 6 F,.row 10 L]=some (.tup [],[.var (oX s2 1 no 4 nf2 5 nl2),.row 11 O,.dead,.dead,.row 6 F2,.row 10 L2])):
  ∃υ,run (callF tab ext N) 0 N (loopAt 30 0) (kdH nu ti li most ex ss i now no nf nl O F L)=some (.norm,υ)∧canon 0 υ=some (kdH nu ti li most ex s2 i now no nf2 nl2 O F2 L2):=by
 have h9:=pf4 hl he h53 h54
 exact rl_of [(73,.e (slX q t ms)),(78,.p (.agg [num 0,num 0,.sl false 10 s2])),(87,.r (.tup []) [.var (oX s2 1 no 4 nf2 5 nl2),.row 11 O,.dead,.dead,.row 6 F2,.row 10 L2])] [(.exit 2,kiE nu ti li most ex ss i now no nf nl O F L (k:Int) n)] h9 (by kernel_rfl)
theorem ks_M (hl:run (callF tab ext N) 0 N (.loop (loopAt 30 1)) (kiH nu ti li most ex ss i now 0 0 0 [] [] [] (-1) 0)=some (.exit 2,kiE nu ti li most ex ss i now 0 0 0 [] [] [] (k:Int) n))
  (h54:callF tab ext N (.fn 54) [.ptr 0 0 0,.agg (nodX nu ti li ex (tyX most) ruX),.agg [nat (i+1),.sl false 1 [[num 0],[num 3]]],.agg (kv q).cells,.sl false 10 ms] [.var (oX s2 1 0 2 0 3 0),.row 11 [],.row 6 [],.row 10 []]=some (.tup [],[.var (oX s2 4 no2 5 nf2 3 0),.dead,.dead,.row 10 [],.row 11 O2,.row 6 F2])):
  ∃υ,run (callF tab ext N) 0 N (loopAt 30 0) (kcS nu ti li most ex ss i now)=some (.norm,υ)∧canon 0 υ=some (kdH nu ti li most ex s2 i now no2 nf2 0 O2 F2 []):=by
 have h9:=pf4 (ks_canon nu ti li most ex ss i now k n N hl) he h53 h54
 exact rl_of [(73,.e (slX q t ms)),(78,.p (.agg [num 0,num 0,.sl false 10 s2])),(87,.r (.tup []) [.var (oX s2 4 no2 5 nf2 3 0),.dead,.dead,.row 10 [],.row 11 O2,.row 6 F2])] [(.exit 2,kiE nu ti li most ex ss i now 0 0 0 [] [] [] (k:Int) n)] h9 (by kernel_rfl)
theorem ks_R (hl:run (callF tab ext N) 0 N (.loop (loopAt 30 1)) (kiH nu ti li most ex ss i now 0 0 0 [] [] [] (-1) 0)=some (.exit 2,kiE nu ti li most ex ss i now 0 0 0 [] [] [] (k:Int) n))
  (h54:callF tab ext N (.fn 54) [.ptr 0 0 0,.agg (nodX nu ti li ex (tyX most) ruX),.agg [nat (i+1),.sl false 1 [[num 0],[num 3]]],.agg (kv q).cells,.sl false 10 ms] [.var (oX s2 1 0 2 0 3 0),.row 11 [],.row 6 [],.row 10 []]=some (.tup [],[.var (oX s2 1 0 4 nf2 5 nl2),.row 11 [],.dead,.dead,.row 6 F2,.row 10 L2])):
  ∃υ,run (callF tab ext N) 0 N (loopAt 30 0) (kcS nu ti li most ex ss i now)=some (.norm,υ)∧canon 0 υ=some (kdH nu ti li most ex s2 i now 0 nf2 nl2 [] F2 L2):=by
 have h9:=pf4 (ks_canon nu ti li most ex ss i now k n N hl) he h53 h54
 exact rl_of [(73,.e (slX q t ms)),(78,.p (.agg [num 0,num 0,.sl false 10 s2])),(87,.r (.tup []) [.var (oX s2 1 0 4 nf2 5 nl2),.row 11 [],.dead,.dead,.row 6 F2,.row 10 L2])] [(.exit 2,kiE nu ti li most ex ss i now 0 0 0 [] [] [] (k:Int) n)] h9 (by kernel_rfl)
end
section
variable (nu ti li most:Int) (ex s0 s2:List (List X)) (i:Nat) (now:Int) (O F L:List (List X)) (N:Nat)
theorem kc_fn (hl:run (callF tab ext (N+600)) 0 (N+600) (.loop (loopAt 30 0)) (kcS nu ti li most ex s0 i now)=some (.ret,⟨[(6,.ptr 2 0 0)],[.var (nodX nu ti li ex (tyX most) ruX),.var (clR false i now),.var (oX s2 4 O.length 5 F.length 6 L.length),.var (oX s2 4 O.length 5 F.length 6 L.length),.row 11 O,.row 6 F,.row 10 L]⟩)):
  Gam.pureD (callF tab ext (N+601)) 30 [.agg (nodX nu ti li ex (tyX most) ruX),.agg [num 0,num 0,.sl false 10 s0],.agg (clR false i now)]=some (.agg [num 0,num 0,.sl false 10 s2,.sl false 11 O,.sl false 11 [],.sl false 6 F,.sl false 10 L]):=by
 have h9:=pf1 hl
 have hd:(X.agg [num 0,num 0,.sl false 10 s2,.bs 0 0 O.length,.sl true 11 [],.bs 1 0 F.length,.bs 2 0 L.length]).data [.row 11 O,.row 6 F,.row 10 L] false=some (.agg [num 0,num 0,.sl false 10 s2,.sl false 11 O,.sl false 11 [],.sl false 6 F,.sl false 10 L]):=
  data_agg (dataL_cons rfl (dataL_cons rfl (dataL_cons rfl (dataL_cons (data_bs rfl rfl) (dataL_cons rfl (dataL_cons (data_bs rfl rfl) (dataL_cons (data_bs rfl rfl) rfl)))))))
 exact pure_of [] [(.ret,⟨[(6,.ptr 2 0 0)],[.var (nodX nu ti li ex (tyX most) ruX),.var (clR false i now),.var (oX s2 4 O.length 5 F.length 6 L.length),.var (oX s2 4 O.length 5 F.length 6 L.length),.row 11 O,.row 6 F,.row 10 L]⟩)] h9 (x:=.agg [num 0,num 0,.sl false 10 s2,.bs 0 0 O.length,.sl true 11 [],.bs 1 0 F.length,.bs 2 0 L.length]) (bx:=[.row 11 O,.row 6 F,.row 10 L]) (by kernel_rfl) hd
end
end Go.Proofs.YthphniobeigklaaGreatDoor.Ag
namespace Go.Proofs.YthphniobeigklaaGreatDoor.Ag
open Go Go.Em Go.Proofs.YthphniobeigklaaGreatDoor
set_option maxRecDepth 100000
theorem omB_rows (ss:List (List X))(O:List Otp)(F:List Fte)(L:List Msg):omB ss O F L=[.var (oX ss 1 (otpsC O).length 2 (ftesC F).length 3 (msgsC L).length),.row 11 (otpsC O),.row 6 (ftesC F),.row 10 (msgsC L)]:=by
 unfold omB
 rw [otpsC_length,ftesC_length,msgsC_length]
section
variable (nu ti li most:Int) (ex s0:List (List X)) (i:Nat) (now:Int)
def kcC (c:Rs):St:=kdH nu ti li most ex (sltsC (gst c.gs).slots) i now (otpsC c.O).length (ftesC c.F).length (msgsC c.L).length (otpsC c.O) (ftesC c.F) (msgsC c.L)
def kcG (c:Rs)(j:Nat):St:=match j with
 |0=>kcS nu ti li most ex s0 i now
 |_+1=>kcC nu ti li most ex i now c
end
structure RdOk (K:Nat) (most:Int) (i:Nat) (c:Rs) (x:Ga) (k:Nat):Prop where
 len:c.gs.length≤100
 sel:∃hk:k<c.gs.length,c.gs[k]=x
 srt:SrtG c.gs
 grp:GrpOk x.g x.M
 no:c.O.length<2000
 nf:c.F.length<2000
 nl:c.L.length<2000
theorem without_G (gs:List Ga)(hs:SrtG gs)(hl:gs.length≤100)(k:Nat)(hk:k<gs.length)(N:Nat):Gam.pureD (callF tab ext (N+600)) 53 [.agg [num 0,num 0,.sl false 10 (sltsC (gst gs).slots)],nat k]=some (.agg [num 0,num 0,.sl false 10 (sltsC (gst (delG gs[k].g gs)).slots)]):=by
 have h:=without53 (sltsC (gst gs).slots) k (by rw [slg_len];exact hk) (by rw [slg_len];omega) N
 have e:(sltsC (gst gs).slots).take k++(sltsC (gst gs).slots).drop (k+1)=sltsC (gst (delG gs[k].g gs)).slots:=by
  unfold delG
  rw [low_at hs hk]
  unfold sltsC gst
  simp only [List.map_append,List.map_take,List.map_drop]
 rw [e] at h
 exact h
theorem clS_ok (i:Nat):(clS i).ok∧(clS i).p.length<1000:=⟨⟨by simp [clS]⟩,by simp [clS]⟩
theorem kd_round (nu ti li most:Int)(ex:List (List X))(i:Nat)(now:Int)(c:Rs)(x:Ga)(k n:Nat)(K:Nat)(hK:192000≤K)(h:RdOk K most i c x k)
  (hl:run (callF tab ext (K+600)) 0 (K+600) (.loop (loopAt 30 1)) (kiH nu ti li most ex (sltsC (gst c.gs).slots) i now (otpsC c.O).length (ftesC c.F).length (msgsC c.L).length (otpsC c.O) (ftesC c.F) (msgsC c.L) (-1) 0)=some (.exit 2,kiE nu ti li most ex (sltsC (gst c.gs).slots) i now (otpsC c.O).length (ftesC c.F).length (msgsC c.L).length (otpsC c.O) (ftesC c.F) (msgsC c.L) (k:Int) n)):
  ∃υ,run (callF tab ext (K+600)) 0 (K+600) (loopAt 30 0) (kcC nu ti li most ex i now c)=some (.norm,υ)∧canon 0 υ=some (kcC nu ti li most ex i now (clk1 most (clS i) c x)):=by
 obtain ⟨hlen,⟨hk,rfl⟩,hsrt,hgo,hO,hF,hL⟩:=h
 have he:=slg hk
 have h53:=without_G c.gs hsrt hlen k hk K
 by_cases hs:((sumM c.gs[k].M:Nat):Int)≤most
 ·have h54:=fin54_ok nu ti li most ex (sltsC (gst (delG c.gs[k].g c.gs)).slots) c.O c.F c.L c.gs[k].g c.gs[k].M (clS i) hgo (clS_ok i).1 (clS_ok i).2 hO hF hs (K+600) (by omega)
  rw [omB_rows,omM_rows] at h54
  unfold clk1
  rw [if_pos hs]
  exact kc_M nu ti li most ex _ _ i now _ _ _ _ _ _ _ _ _ _ k n (K+600) _ _ _ he h53 hl h54
 ·have h54:=fin54_no nu ti li most ex (sltsC (gst (delG c.gs[k].g c.gs)).slots) c.O c.F c.L c.gs[k].g c.gs[k].M (clS i) hgo hF hL (by omega) (K+600) (by omega)
  rw [omB_rows,omR_rows] at h54
  unfold clk1
  rw [if_neg hs]
  exact kc_R nu ti li most ex _ _ i now _ _ _ _ _ _ _ _ _ _ k n (K+600) _ _ _ he h53 hl h54
theorem ks_round (nu ti li most:Int)(ex:List (List X))(i:Nat)(now:Int)(gs:List Ga)(x:Ga)(k n:Nat)(K:Nat)(hK:192000≤K)(h:RdOk K most i ⟨gs,[],[],[]⟩ x k)
  (hl:run (callF tab ext (K+600)) 0 (K+600) (.loop (loopAt 30 1)) (kiH nu ti li most ex (sltsC (gst gs).slots) i now 0 0 0 [] [] [] (-1) 0)=some (.exit 2,kiE nu ti li most ex (sltsC (gst gs).slots) i now 0 0 0 [] [] [] (k:Int) n)):
  ∃υ,run (callF tab ext (K+600)) 0 (K+600) (loopAt 30 0) (kcS nu ti li most ex (sltsC (gst gs).slots) i now)=some (.norm,υ)∧canon 0 υ=some (kcC nu ti li most ex i now (clk1 most (clS i) ⟨gs,[],[],[]⟩ x)):=by
 obtain ⟨hlen,⟨hk,rfl⟩,hsrt,hgo,hO,hF,hL⟩:=h
 dsimp only at hk hlen hsrt hgo hO hF hL ⊢
 have he:=slg hk
 have h53:=without_G gs hsrt hlen k hk K
 by_cases hs:((sumM gs[k].M:Nat):Int)≤most
 ·have h54:=fin54_ok nu ti li most ex (sltsC (gst (delG gs[k].g gs)).slots) [] [] [] gs[k].g gs[k].M (clS i) hgo (clS_ok i).1 (clS_ok i).2 hO hF hs (K+600) (by omega)
  rw [omM_rows] at h54
  unfold clk1
  rw [if_pos hs]
  exact ks_M nu ti li most ex _ _ i now _ _ _ _ k n (K+600) _ _ _ he h53 hl h54
 ·have h54:=fin54_no nu ti li most ex (sltsC (gst (delG gs[k].g gs)).slots) [] [] [] gs[k].g gs[k].M (clS i) hgo hF hL (by omega) (K+600) (by omega)
  rw [omR_rows] at h54
  unfold clk1
  rw [if_neg hs]
  exact ks_R nu ti li most ex _ _ i now _ _ _ _ k n (K+600) _ _ _ he h53 hl h54
theorem step30_clk (nu ti li most:Int)(cd:Nat)(gs:List Ga)(now:Int)(i:Nat)(h:GsI gs i)(hi:i≤40)(hheld:heldG gs<200)(N:Nat)(hN:193000≤N):
  Gam.pureD (callF tab ext N) 30 [.agg (nodX nu ti li (exN cd) (tyX most) ruX),.agg (gst gs).cells,.agg (clR false i now)]=some (.agg (clkR most i now gs).cells):=by
 obtain ⟨K,rfl⟩:∃K,N=K+601:=⟨N-601,by omega⟩
 have h4:=h.few4
 have hE:=exG_mem (now:=now) (gs:=gs)
 have hne:=exG_ne (now:=now) h.srt
 have hEl:=exG_len now gs
 have key:∀j,j≤(exG now gs).length→CkI gs (((exG now gs).take j).foldl (clk1 most (clS i)) ⟨gs,[],[],[]⟩):=fun j _=>
  (clk_fold (most:=most) (s:=clS i) (g0:=gs) ((exG now gs).take j) ⟨gs,[],[],[]⟩ ⟨h.srt,fun x hx=>hx,Nat.le_refl _,rfl,Nat.le_refl 0,Nat.le_refl 0⟩ (fun x hx=>⟨(hE x (List.mem_of_mem_take hx)).1,h.ne x (hE x (List.mem_of_mem_take hx)).1⟩) hne.take).1
 have hfold:=exG_fold (now:=now) (most:=most) (s:=clS i) (exG now gs) ⟨gs,[],[],[]⟩ h.srt rfl
 have hgo:∀x,x∈exG now gs→GrpOk x.g x.M:=fun x hx=>h.grpOk hi (hE x hx).1
 unfold clkR
 generalize hEE:exG now gs=E at*
 have hrd:∀j (hj:j<E.length),∃k,slcG now ((E.take j).foldl (clk1 most (clS i)) ⟨gs,[],[],[]⟩).gs ((E.take j).foldl (clk1 most (clS i)) ⟨gs,[],[],[]⟩).gs.length=some k∧RdOk K most i ((E.take j).foldl (clk1 most (clS i)) ⟨gs,[],[],[]⟩) E[j] k:=fun j hj=>by
  obtain ⟨hsj,hej⟩:=hfold j (by omega)
  have hc:=key j (by omega)
  rw [List.drop_eq_getElem_cons hj] at hej
  obtain ⟨k,hk,h1,h2⟩:=sel_at hsj hej
  have:=hc.len
  have hfat:=hc.fat
  have hout:=hc.out
  have hlt:=hc.let'
  exact ⟨k,h1,by omega,⟨hk,h2⟩,hsj,hgo _ (List.getElem_mem hj),by omega,by omega,by omega⟩
 have hend:slcG now (E.foldl (clk1 most (clS i)) ⟨gs,[],[],[]⟩).gs (E.foldl (clk1 most (clS i)) ⟨gs,[],[],[]⟩).gs.length=none:=by
  obtain ⟨hsj,hej⟩:=hfold E.length (Nat.le_refl _)
  rw [List.take_length,List.drop_length] at*
  exact sel_end hsj hej
 have hlen:(E.foldl (clk1 most (clS i)) ⟨gs,[],[],[]⟩).gs.length≤100:=by
  have:=(key E.length (Nat.le_refl _)).len
  rw [List.take_length] at this
  omega
 refine kc_fn nu ti li most (exN cd) (sltsC (gst gs).slots) (sltsC (gst (E.foldl (clk1 most (clS i)) ⟨gs,[],[],[]⟩).gs).slots) i now _ _ _ K ?_
 refine loop_for (σ:=fun j=>kcG nu ti li most (exN cd) (sltsC (gst gs).slots) i now ((E.take j).foldl (clk1 most (clS i)) ⟨gs,[],[],[]⟩) j) (k:=E.length) (kc_canonS ..) (fun j hj=>?_) ?_ (by simp) (by omega)
 ·obtain ⟨k,hsel,hok⟩:=hrd j hj
  have hil:=ki_loop nu ti li most (exN cd) i now (otpsC ((E.take j).foldl (clk1 most (clS i)) ⟨gs,[],[],[]⟩).O).length (ftesC ((E.take j).foldl (clk1 most (clS i)) ⟨gs,[],[],[]⟩).F).length (msgsC ((E.take j).foldl (clk1 most (clS i)) ⟨gs,[],[],[]⟩).L).length (otpsC ((E.take j).foldl (clk1 most (clS i)) ⟨gs,[],[],[]⟩).O) (ftesC ((E.take j).foldl (clk1 most (clS i)) ⟨gs,[],[],[]⟩).F) (msgsC ((E.take j).foldl (clk1 most (clS i)) ⟨gs,[],[],[]⟩).L) _ hok.len (K+600) (by omega)
  rw [hsel] at hil
  have hsn:(E.take (j+1)).foldl (clk1 most (clS i)) ⟨gs,[],[],[]⟩=clk1 most (clS i) ((E.take j).foldl (clk1 most (clS i)) ⟨gs,[],[],[]⟩) E[j]:=by
   rw [List.take_succ_eq_append_getElem hj,List.foldl_append]
   rfl
  cases j with
  |zero=>
   show ∃υ,run _ 0 _ _ (kcS nu ti li most (exN cd) (sltsC (gst gs).slots) i now)=_∧canon 0 υ=some (kcC nu ti li most (exN cd) i now ((E.take (0+1)).foldl (clk1 most (clS i)) ⟨gs,[],[],[]⟩))
   rw [hsn]
   exact ks_round nu ti li most (exN cd) i now gs E[0] k _ K (by omega) hok hil
  |succ j=>
   show ∃υ,run _ 0 _ _ (kcC nu ti li most (exN cd) i now ((E.take (j+1)).foldl (clk1 most (clS i)) ⟨gs,[],[],[]⟩))=_∧canon 0 υ=some (kcC nu ti li most (exN cd) i now ((E.take (j+1+1)).foldl (clk1 most (clS i)) ⟨gs,[],[],[]⟩))
   rw [hsn]
   exact kd_round nu ti li most (exN cd) i now _ _ k _ K (by omega) hok hil
 ·rw [List.take_length]
  generalize hcc:E.foldl (clk1 most (clS i)) ⟨gs,[],[],[]⟩=c at*
  have hil:=ki_loop nu ti li most (exN cd) i now (otpsC c.O).length (ftesC c.F).length (msgsC c.L).length (otpsC c.O) (ftesC c.F) (msgsC c.L) c.gs hlen (K+600) (by omega)
  rw [hend] at hil
  cases hEl2:E.length with
  |zero=>
   have hE0:E=[]:=List.length_eq_zero_iff.1 hEl2
   subst hE0
   subst hcc
   exact ks_ret nu ti li most (exN cd) _ i now _ (K+600) hil
  |succ m=>exact kc_ret nu ti li most (exN cd) _ i now _ _ _ _ _ _ _ (K+600) hil
theorem step30 {P:Pr}(hP:P.ok){gs:List Ga}{x:Iv}(h:GsI gs x.i)(hx:x.ok)(hh:heldG gs<200)(N:Nat)(hN:193000≤N):
  Gam.pureD (callF tab ext N) 30 [P.node,.agg (gst gs).cells,.agg (x.row false)]=some (.agg (stpI P gs x).cells):=by
 obtain ⟨i,now,v⟩:=x
 obtain ⟨hi,hnow,hv⟩:=hx
 dsimp only at hi hnow hv h
 have hti:=hP.ti
 cases v with
 |c=>exact step30_clk P.nu P.ti P.li P.most P.cd gs now i h (by omega) hh N hN
 |m o n=>
  obtain ⟨hn,hq⟩:=hv o n rfl
  cases o with
  |none=>exact step30_none P.nu P.ti P.li P.most P.cd gs now i n N hN
  |some q=>exact step30_msg P.nu P.ti P.li P.most P.cd gs q now i n hP.cd h hi (hq q rfl) hn ⟨by omega,by omega⟩ ⟨by omega,by omega⟩ hh N hN
end Go.Proofs.YthphniobeigklaaGreatDoor.Ag
namespace Go.Proofs.YthphniobeigklaaGreatDoor.Ag
open Go Go.Em Go.Proofs.YthphniobeigklaaGreatDoor
set_option maxRecDepth 100000
structure RsOk (r:Rs):Prop where
 out:∀o,o∈r.O→o.m.ok
 fat:∀f,f∈r.F→f.ok
 ltr:∀m,m∈r.L→m.ok
theorem rejF_ok {ms:List Msg}(h:∀m,m∈ms→m.ok)(t:ByteArray):∀f,f∈rejF ms t→f.ok:=fun f hf=>by
 obtain ⟨m,hm,rfl⟩:=List.mem_map.1 hf
 exact ⟨(h m hm).st,by simp,by simp⟩
theorem mrgF_ok {ms:List Msg}(h:∀m,m∈ms→m.ok)(nm:ByteArray){s:Stp}(hs:s.ok):∀f,f∈mrgF ms nm s→f.ok:=fun f hf=>by
 obtain ⟨m,hm,rfl⟩:=List.mem_map.1 hf
 exact ⟨(h m hm).st,by simp,fun a ha=>by rw [List.mem_singleton.1 ha];exact hs⟩
theorem mrgM_ok {q:Int}{M:List (Nat×Nat)}(h:GrpOk q M){s:Stp}(hs:s.ok):(mrgM q M s).ok:=
 ⟨hs,by have:=h.len;simp [mrgM,zsM];omega,by simp [mrgM,resV,kv,Val.ok,Val.size,sizeL,sizeF]⟩
theorem undS_ok {s:Stp}(hs:s.p.length≤100)(k:Nat):(undS s k).ok:=⟨by simp [undS];omega⟩
theorem msN_ok (m:Nat×Nat):(msN m).ok:=⟨⟨by simp [msN]⟩,by simp [msN],by
 have:=bodyV_size none m.2
 show (bodyV none m.2).size≤60000
 omega⟩
theorem nil_ok (gs:List Ga):RsOk ⟨gs,[],[],[]⟩:=⟨by simp,by simp,by simp⟩
theorem rej1_ok (gs:List Ga){m:Msg}(h:m.ok)(t:ByteArray):RsOk ⟨gs,[],rejF [m] t,[m]⟩:=
 have h1:∀x,x∈[m]→x.ok:=fun x hx=>by rw [List.mem_singleton.1 hx];exact h
 ⟨by simp,rejF_ok h1 t,h1⟩
theorem clk1_okR {most:Int}{s:Stp}(hs:s.p.length≤100){c:Rs}{x:Ga}(hx:GrpOk x.g x.M)(hc:RsOk c):RsOk (clk1 most s c x):=by
 have hm:∀m,m∈x.M.map (msV x.g)→m.ok:=fun m hm=>(hx.ms m hm).1
 unfold clk1
 split
 ·refine ⟨fun o ho=>?_,fun f hf=>?_,hc.ltr⟩
  ·rcases List.mem_append.1 ho with ho|ho
   ·exact hc.out o ho
   ·rw [List.mem_singleton.1 ho]
    exact mrgM_ok hx (undS_ok hs _)
  ·rcases List.mem_append.1 hf with hf|hf
   ·exact hc.fat f hf
   ·exact mrgF_ok hm _ (undS_ok hs _) f hf
 ·refine ⟨hc.out,fun f hf=>?_,fun m hl=>?_⟩
  ·rcases List.mem_append.1 hf with hf|hf
   ·exact hc.fat f hf
   ·exact rejF_ok hm _ f hf
  ·rcases List.mem_append.1 hl with hl|hl
   ·exact hc.ltr m hl
   ·exact hm m hl
theorem clk_okR {most:Int}{s:Stp}(hs:s.p.length≤100):∀(E:List Ga) (c:Rs),(∀x,x∈E→GrpOk x.g x.M)→RsOk c→RsOk (E.foldl (clk1 most s) c)
 |[],_,_,hc=>hc
 |x::E,_,hE,hc=>clk_okR hs E _ (fun y hy=>hE y (List.mem_cons_of_mem _ hy)) (clk1_okR hs (hE x List.mem_cons_self) hc)
theorem stp_okR {P:Pr}{gs:List Ga}{x:Iv}(h:GsI gs x.i)(hx:x.ok):RsOk (stpI P gs x):=by
 obtain ⟨i,now,v⟩:=x
 obtain ⟨hi,hnow,hv⟩:=hx
 dsimp only at hi hnow hv h
 unfold stpI
 cases v with
 |c=>exact clk_okR (by simp [clS]) (exG now gs) ⟨gs,[],[],[]⟩ (fun x hx=>h.grpOk (by omega) (exG_mem x hx).1) (nil_ok gs)
 |m o n=>
  obtain ⟨hn,hq⟩:=hv o n rfl
  cases o with
  |none=>exact rej1_ok gs (msN_ok (i,n)) _
  |some q=>
   have hg:=h.grp hi q (hq q rfl) n hn
   have hm:∀m,m∈(addM gs q (i,n)).map (msV q)→m.ok:=fun m hm=>(hg.ms m hm).1
   dsimp only
   unfold stpM
   split
   ·exact rej1_ok gs (msV_ok q (i,n)) _
   ·split
    ·exact rej1_ok gs (msV_ok q (i,n)) _
    ·split
     ·have hu:(undS (msV q (i,n)).st 0).ok:=undS_ok (by simp [msV]) 0
      unfold finR
      split
      ·refine ⟨fun o ho=>?_,mrgF_ok hm _ hu,by simp⟩
       rw [List.mem_singleton.1 ho]
       exact mrgM_ok hg hu
      ·exact ⟨by simp,rejF_ok hm _,hm⟩
     ·exact nil_ok _
section
variable (ss O F L:List (List X)) (j:Nat) (N:Nat)
def rc7:List X:=[num 0,num 0,.sl false 10 ss,.sl false 11 O,.sl false 11 [],.sl false 6 F,.sl false 10 L]
def soH:St:=⟨[(2,.ptr 0 0 0),(3,.ptr 1 0 0),(5,nat j)],[.var (rc7 ss O F L),.var (rc7 ss O F L)]⟩
def soE:St:=⟨[(2,.ptr 0 0 0),(3,.ptr 1 0 0),(5,nat j),(57,boolX false)],[.var (rc7 ss O F L),.var (rc7 ss O F L)]⟩
def sfH:St:=⟨[(2,.ptr 0 0 0),(3,.ptr 1 0 0),(6,nat j)],[.var (rc7 ss O F L),.var (rc7 ss O F L)]⟩
def sfE:St:=⟨[(2,.ptr 0 0 0),(3,.ptr 1 0 0),(6,nat j),(93,boolX false)],[.var (rc7 ss O F L),.var (rc7 ss O F L)]⟩
def slH:St:=⟨[(2,.ptr 0 0 0),(3,.ptr 1 0 0),(7,nat j)],[.var (rc7 ss O F L),.var (rc7 ss O F L)]⟩
def slE:St:=⟨[(2,.ptr 0 0 0),(3,.ptr 1 0 0),(7,nat j),(112,boolX false)],[.var (rc7 ss O F L),.var (rc7 ss O F L)]⟩
theorem so_canon:canon 0 (soH ss O F L j)=some (soH ss O F L j):=by kernel_rfl
theorem sf_canon:canon 0 (sfH ss O F L j)=some (sfH ss O F L j):=by kernel_rfl
theorem sl_canon:canon 0 (slH ss O F L j)=some (slH ss O F L j):=by kernel_rfl
theorem so_end (h:¬j<O.length):run (callF tab ext N) 0 N (loopAt 31 0) (soH ss O F L j)=some (.exit 0,soE ss O F L j):=
 run_of [(57,.b false)] [] (pf1 (nlt_nat h)) (lo':=[]) (by kernel_rfl)
theorem sf_end (h:¬j<F.length):run (callF tab ext N) 0 N (loopAt 31 1) (sfH ss O F L j)=some (.exit 2,sfE ss O F L j):=
 run_of [(93,.b false)] [] (pf1 (nlt_nat h)) (lo':=[]) (by kernel_rfl)
theorem sl_end (h:¬j<L.length):run (callF tab ext N) 0 N (loopAt 31 2) (slH ss O F L j)=some (.exit 4,slE ss O F L j):=
 run_of [(112,.b false)] [] (pf1 (nlt_nat h)) (lo':=[]) (by kernel_rfl)
theorem so_round (hj:j<O.length)(hj2:j<10000)(pt e mm a1 a2 a3:Int)(sp os a5 a6:List (List X))(a4:ByteArray)(he:O[j]?=some [num pt,num e,.sl false 1 sp,num mm,.sl false 1 os,num a1,num a2,num a3,strX a4,.sl false 6 a5,.sl false 7 a6])
  (h63:Gam.pureD (callF tab ext N) 63 [.agg [num e,.sl false 1 sp,num mm,.sl false 1 os,num a1,num a2,num a3,strX a4,.sl false 6 a5,.sl false 7 a6],.agg [num e,.sl false 1 sp,num mm,.sl false 1 os,num a1,num a2,num a3,strX a4,.sl false 6 a5,.sl false 7 a6]]=some (boolX true)):
  ∃υ,run (callF tab ext N) 0 N (loopAt 31 0) (soH ss O F L j)=some (.norm,υ)∧canon 0 υ=some (soH ss O F L (j+1)):=by
 have hpp:(pt !=pt)=false:=by simp
 exact rd_of [(57,.b true),(63,.e [num pt,num e,.sl false 1 sp,num mm,.sl false 1 os,num a1,num a2,num a3,strX a4,.sl false 6 a5,.sl false 7 a6]),(69,.e [num pt,num e,.sl false 1 sp,num mm,.sl false 1 os,num a1,num a2,num a3,strX a4,.sl false 6 a5,.sl false 7 a6]),(72,.b false),(77,.e [num pt,num e,.sl false 1 sp,num mm,.sl false 1 os,num a1,num a2,num a3,strX a4,.sl false 6 a5,.sl false 7 a6]),(83,.e [num pt,num e,.sl false 1 sp,num mm,.sl false 1 os,num a1,num a2,num a3,strX a4,.sl false 6 a5,.sl false 7 a6]),(86,.p (boolX true)),(59,.i (Int.ofNat (j+1)))]
  (pf8 (lt_nat hj) he he hpp he he h63 (next_nat (j:=j) (by omega))) (by kernel_rfl)
theorem sf_round (hj:j<F.length)(hj2:j<10000)(e kd:Int)(nm tx:ByteArray)(sp io:List (List X))(he:F[j]?=some [num e,.sl false 1 sp,num kd,strX nm,.sl false 2 io,strX tx])
  (h64:Gam.pureD (callF tab ext N) 64 [.agg [num e,.sl false 1 sp,num kd,strX nm,.sl false 2 io,strX tx],.agg [num e,.sl false 1 sp,num kd,strX nm,.sl false 2 io,strX tx]]=some (boolX true)):
  ∃υ,run (callF tab ext N) 0 N (loopAt 31 1) (sfH ss O F L j)=some (.norm,υ)∧canon 0 υ=some (sfH ss O F L (j+1)):=
 rd_of [(93,.b true),(99,.e [num e,.sl false 1 sp,num kd,strX nm,.sl false 2 io,strX tx]),(104,.e [num e,.sl false 1 sp,num kd,strX nm,.sl false 2 io,strX tx]),(106,.p (boolX true)),(95,.i (Int.ofNat (j+1)))]
  (pf5 (lt_nat hj) he he h64 (next_nat (j:=j) (by omega))) (by kernel_rfl)
theorem sl_round (hj:j<L.length)(hj2:j<10000)(e mm a1 a2 a3:Int)(sp os a5 a6:List (List X))(a4:ByteArray)(he:L[j]?=some [num e,.sl false 1 sp,num mm,.sl false 1 os,num a1,num a2,num a3,strX a4,.sl false 6 a5,.sl false 7 a6])
  (h63:Gam.pureD (callF tab ext N) 63 [.agg [num e,.sl false 1 sp,num mm,.sl false 1 os,num a1,num a2,num a3,strX a4,.sl false 6 a5,.sl false 7 a6],.agg [num e,.sl false 1 sp,num mm,.sl false 1 os,num a1,num a2,num a3,strX a4,.sl false 6 a5,.sl false 7 a6]]=some (boolX true)):
  ∃υ,run (callF tab ext N) 0 N (loopAt 31 2) (slH ss O F L j)=some (.norm,υ)∧canon 0 υ=some (slH ss O F L (j+1)):=
 rd_of [(112,.b true),(118,.e [num e,.sl false 1 sp,num mm,.sl false 1 os,num a1,num a2,num a3,strX a4,.sl false 6 a5,.sl false 7 a6]),(123,.e [num e,.sl false 1 sp,num mm,.sl false 1 os,num a1,num a2,num a3,strX a4,.sl false 6 a5,.sl false 7 a6]),(125,.p (boolX true)),(114,.i (Int.ofNat (j+1)))]
  (pf5 (lt_nat hj) he he h63 (next_nat (j:=j) (by omega))) (by kernel_rfl)
end
theorem same31 {r:Rs}(h:RsOk r)(hs:(gst r.gs).ok)(ho:r.O.length≤1000)(hf:r.F.length≤1000)(hl:r.L.length≤1000)(N:Nat)(hN:190020≤N):
  Gam.pureD (callF tab ext N) 31 [.agg r.cells,.agg r.cells]=some (boolX true):=by
 obtain ⟨M,rfl⟩:∃M,N=M+1:=⟨N-1,by omega⟩
 have h28:=stt_refl M (gst r.gs) hs (by omega)
 have lo:=otpsC_length r.O
 have lf:=ftesC_length r.F
 have ll:=msgsC_length r.L
 have l0:run (callF tab ext M) 0 M (.loop (loopAt 31 0)) (soH (sltsC (gst r.gs).slots) (otpsC r.O) (ftesC r.F) (msgsC r.L) 0)=some (.exit 0,soE (sltsC (gst r.gs).slots) (otpsC r.O) (ftesC r.F) (msgsC r.L) r.O.length):=by
  refine loop_for (σ:=fun j=>soH (sltsC (gst r.gs).slots) (otpsC r.O) (ftesC r.F) (msgsC r.L) j) (k:=r.O.length) (so_canon ..) (fun j hj=>?_) (so_end _ _ _ _ _ M (by omega)) (by simp) (by omega)
  have he:=otpsC_get hj
  have hr:=msg_refl M r.O[j].m (h.out _ (List.getElem_mem hj)) (by omega)
  generalize r.O[j]=o at*
  obtain ⟨pt,⟨⟨e,p⟩,mm,os,⟨a1,a2,a3,a4,a5,a6⟩⟩⟩:=o
  exact so_round _ _ _ _ j M (by omega) (by omega) pt e mm a1 a2 a3 (intsC p) (intsC os) (cellsL a5) (cellsF a6) a4 he hr
 have l1:run (callF tab ext M) 0 M (.loop (loopAt 31 1)) (sfH (sltsC (gst r.gs).slots) (otpsC r.O) (ftesC r.F) (msgsC r.L) 0)=some (.exit 2,sfE (sltsC (gst r.gs).slots) (otpsC r.O) (ftesC r.F) (msgsC r.L) r.F.length):=by
  refine loop_for (σ:=fun j=>sfH (sltsC (gst r.gs).slots) (otpsC r.O) (ftesC r.F) (msgsC r.L) j) (k:=r.F.length) (sf_canon ..) (fun j hj=>?_) (sf_end _ _ _ _ _ M (by omega)) (by simp) (by omega)
  have he:=ftesC_get hj
  have hr:=fte_refl M r.F[j] (h.fat _ (List.getElem_mem hj)) (by omega)
  generalize r.F[j]=f at*
  obtain ⟨⟨e,p⟩,kd,nm,io,tx⟩:=f
  exact sf_round _ _ _ _ j M (by omega) (by omega) e kd nm tx (intsC p) (stpsC io) he hr
 have l2:run (callF tab ext M) 0 M (.loop (loopAt 31 2)) (slH (sltsC (gst r.gs).slots) (otpsC r.O) (ftesC r.F) (msgsC r.L) 0)=some (.exit 4,slE (sltsC (gst r.gs).slots) (otpsC r.O) (ftesC r.F) (msgsC r.L) r.L.length):=by
  refine loop_for (σ:=fun j=>slH (sltsC (gst r.gs).slots) (otpsC r.O) (ftesC r.F) (msgsC r.L) j) (k:=r.L.length) (sl_canon ..) (fun j hj=>?_) (sl_end _ _ _ _ _ M (by omega)) (by simp) (by omega)
  have he:=msgsC_get hj
  have hr:=msg_refl M r.L[j] (h.ltr _ (List.getElem_mem hj)) (by omega)
  generalize r.L[j]=m at*
  obtain ⟨⟨e,p⟩,mm,os,⟨a1,a2,a3,a4,a5,a6⟩⟩:=m
  exact sl_round _ _ _ _ j M (by omega) (by omega) e mm a1 a2 a3 (intsC p) (intsC os) (cellsL a5) (cellsF a6) a4 he hr
 have q1:(Int.ofNat (otpsC r.O).length !=Int.ofNat (otpsC r.O).length)=false:=by simp
 have q2:(Int.ofNat (ftesC r.F).length !=Int.ofNat (ftesC r.F).length)=false:=by simp
 have q3:(Int.ofNat (msgsC r.L).length !=Int.ofNat (msgsC r.L).length)=false:=by simp
 change Gam.pureD (callF tab ext M) 28 [.agg [num 0,num 0,.sl false 10 (sltsC (gst r.gs).slots)],.agg [num 0,num 0,.sl false 10 (sltsC (gst r.gs).slots)]]=_ at h28
 unfold Rs.cells
 generalize sltsC (gst r.gs).slots=ss at*
 generalize otpsC r.O=O at*
 generalize ftesC r.F=F at*
 generalize msgsC r.L=L at*
 exact pure_of [(12,.p (boolX true)),(21,.b false),(42,.b false),(51,.b false)] [(.exit 0,soE ss O F L r.O.length),(.exit 2,sfE ss O F L r.F.length),(.exit 4,slE ss O F L r.L.length)] (pf7 h28 q1 q2 q3 l0 l1 l2) (x:=boolX true) (bx:=[]) (by kernel_rfl) rfl
end Go.Proofs.YthphniobeigklaaGreatDoor.Ag
namespace Go.Proofs.YthphniobeigklaaGreatDoor.Ag
open Go Go.Em Go.Proofs.YthphniobeigklaaGreatDoor
set_option maxRecDepth 100000
section
variable (a b c d e nu ti li most:Int) (ex ins rs ss:List (List X)) (j:Nat) (w:Bool) (N:Nat)
def ruH:St:=⟨[(2,.ptr 0 0 0),(5,.sl false 23 ins),(6,.sl false 7 rs),(7,.ptr 1 0 0),(8,nat j)],[.var [u8X a,u8X b,u8X c,u8X d,u8X e],.var [num 0,num 0,.sl w 10 ss]]⟩
def ruE:St:=⟨[(2,.ptr 0 0 0),(5,.sl false 23 ins),(6,.sl false 7 rs),(7,.ptr 1 0 0),(8,nat j),(21,boolX false)],[.var [u8X a,u8X b,u8X c,u8X d,u8X e],.var [num 0,num 0,.sl w 10 ss]]⟩
theorem ru_canon:canon 0 (ruH a b c d e ins rs ss j w)=some (ruH a b c d e ins rs ss j w):=by kernel_rfl
theorem ru_end (h:¬j<ins.length):run (callF tab ext N) 0 N (loopAt 9 0) (ruH a b c d e ins rs ss j w)=some (.exit 0,ruE a b c d e ins rs ss j w):=
 run_of [(21,.b false)] [] (pf1 (nlt_nat h)) (lo':=[]) (by kernel_rfl)
variable (s2 os F L:List (List X)) (hj:j<ins.length) (hj2:j<1000)
variable (h12:Gam.pureD (callF tab ext N) 12 [skX a b c d e]=some (.agg (nodX nu ti li ex (tyX most) ruX)))
variable (hr:rs[j]?=some [num 0,num 0,.sl false 10 s2,.sl false 11 os,.sl false 11 [],.sl false 6 F,.sl false 10 L])
variable (h31:Gam.pureD (callF tab ext N) 31 [.agg [num 0,num 0,.sl false 10 s2,.sl false 11 os,.sl false 11 [],.sl false 6 F,.sl false 10 L],.agg [num 0,num 0,.sl false 10 s2,.sl false 11 os,.sl false 11 [],.sl false 6 F,.sl false 10 L]]=some (boolX true))
include hj hj2 h12 hr h31
theorem ru_round (x:Iv)(he:ins[j]?=some (x.row true))(h30:Gam.pureD (callF tab ext N) 30 [.agg (nodX nu ti li ex (tyX most) ruX),.agg [num 0,num 0,.sl false 10 ss],.agg (x.row false)]=some (.agg [num 0,num 0,.sl false 10 s2,.sl false 11 os,.sl false 11 [],.sl false 6 F,.sl false 10 L])):
  ∃υ,run (callF tab ext N) 0 N (loopAt 9 0) (ruH a b c d e ins rs ss j w)=some (.norm,υ)∧canon 0 υ=some (ruH a b c d e ins rs s2 (j+1) false):=by
 have h1:=lt_nat hj
 have h2:=next_nat (j:=j) (by omega)
 obtain ⟨i,now,v⟩:=x
 cases v with
 |c=>
  have h9:=pf7 h1 h12 he h30 hr h31 h2
  exact rd_of [(21,.b true),(25,.p (.agg (nodX nu ti li ex (tyX most) ruX))),(29,.e (clR true i now)),(31,.p (.agg [num 0,num 0,.sl false 10 s2,.sl false 11 os,.sl false 11 [],.sl false 6 F,.sl false 10 L])),(34,.e [num 0,num 0,.sl false 10 s2,.sl false 11 os,.sl false 11 [],.sl false 6 F,.sl false 10 L]),(37,.p (boolX true)),(23,.i (Int.ofNat (j+1)))] h9 (by kernel_rfl)
 |m o n=>
  cases o with
  |none=>
   have h9:=pf7 h1 h12 he h30 hr h31 h2
   exact rd_of [(21,.b true),(25,.p (.agg (nodX nu ti li ex (tyX most) ruX))),(29,.e (inR true i now none n)),(31,.p (.agg [num 0,num 0,.sl false 10 s2,.sl false 11 os,.sl false 11 [],.sl false 6 F,.sl false 10 L])),(34,.e [num 0,num 0,.sl false 10 s2,.sl false 11 os,.sl false 11 [],.sl false 6 F,.sl false 10 L]),(37,.p (boolX true)),(23,.i (Int.ofNat (j+1)))] h9 (by kernel_rfl)
  |some q=>
   have h9:=pf7 h1 h12 he h30 hr h31 h2
   exact rd_of [(21,.b true),(25,.p (.agg (nodX nu ti li ex (tyX most) ruX))),(29,.e (inR true i now (some q) n)),(31,.p (.agg [num 0,num 0,.sl false 10 s2,.sl false 11 os,.sl false 11 [],.sl false 6 F,.sl false 10 L])),(34,.e [num 0,num 0,.sl false 10 s2,.sl false 11 os,.sl false 11 [],.sl false 6 F,.sl false 10 L]),(37,.p (boolX true)),(23,.i (Int.ofNat (j+1)))] h9 (by kernel_rfl)
end
theorem runs_all (a b c d e:Int)(hb:0≤b∧b<256)(l:List Ev)(N:Nat)(hN:194001≤N):Gam.pureD (callF tab ext N) 9 [skX a b c d e,.sl false 4 (evC l)]=some (boolX true):=by
 obtain ⟨M,rfl⟩:∃M,N=M+1:=⟨N-1,by omega⟩
 have hP:=skP_ok a b c d e hb
 have h11:=known11 M (by omega)
 have h13:=inputs13 l M (by omega)
 have h12:=sk12 a b c d e M (by omega)
 have hxs:=inL_ok (l.take 40) (by rw [List.length_take];omega)
 have hxl:(inL 0 0 (l.take 40)).length≤40:=by rw [inL_len,List.length_take];omega
 generalize skP a b c d e=P at*
 generalize inL 0 0 (l.take 40)=xs at*
 have h14:=runAll hP hxs hxl M (by omega)
 have hil:=insC_len xs
 have hnode:P.node=.agg (nodX P.nu P.ti P.li (exN P.cd) (tyX P.most) ruX):=rfl
 have hloop:run (callF tab ext M) 0 M (.loop (loopAt 9 0)) (ruH a b c d e (insC xs) (rssC (rnL (stpI P) [] xs)) [] 0 true)=some (.exit 0,ruE a b c d e (insC xs) (rssC (rnL (stpI P) [] xs)) (sltsC (gst (stL (stpI P) [] xs)).slots) xs.length (decide (xs.length=0))):=by
  refine loop_for (σ:=fun j=>ruH a b c d e (insC xs) (rssC (rnL (stpI P) [] xs)) (sltsC (gst (stL (stpI P) [] (xs.take j))).slots) j (decide (j=0))) (k:=xs.length) (ru_canon ..) (fun j hj=>?_) ?_ (by simp) (by omega)
  ·obtain ⟨hI,hH⟩:=st_at hP hxs j hj
   have hxo:=hxs.ok _ (List.getElem_mem hj)
   have hxi:=hxo.i
   have h30:=step30 hP hI hxo (by omega) M (by omega)
   have hok:=stp_okR (P:=P) hI hxo
   have hsp:=stpI_ok hP hI hxo
   have hsm:=stp_small (P:=P) hI hxo
   have hfat:=hsp.fat
   have hfl:(stpI P (stL (stpI P) [] (xs.take j)) xs[j]).F.length≤1000:=by
    revert hfat
    split<;>omega
   have h31:=same31 hok (gst_small _ (hsp.I.sm (by omega))).ok (by have:=hsm.no;omega) hfl hsm.nl M (by omega)
   have hrl:(rnL (stpI P) [] xs).length=xs.length:=rnL_len ..
   have hr:(rssC (rnL (stpI P) [] xs))[j]?=some (stpI P (stL (stpI P) [] (xs.take j)) xs[j]).cells:=by
    unfold rssC
    rw [List.getElem?_map,List.getElem?_eq_getElem (by omega),Option.map_some,rnL_get (stpI P) xs [] j hj]
   have hsn:stL (stpI P) [] (xs.take (j+1))=(stpI P (stL (stpI P) [] (xs.take j)) xs[j]).gs:=by
    rw [List.take_succ_eq_append_getElem hj,stL_snoc]
   rw [hsn,show decide (j+1=0)=false from decide_eq_false (by omega)]
   exact ru_round a b c d e P.nu P.ti P.li P.most (exN P.cd) (insC xs) _ _ j _ M _ _ _ _ (by omega) (by omega) h12 hr h31 xs[j] (insC_get hj) h30
  ·rw [List.take_length]
   exact ru_end a b c d e _ _ _ _ _ M (by omega)
 generalize sltsC (gst (stL (stpI P) [] xs)).slots=S at*
 generalize rssC (rnL (stpI P) [] xs)=R at*
 generalize decide (xs.length=0)=w at*
 generalize xs.length=n at*
 generalize insC xs=I at*
 have h9:=pf5 h11 h13 h12 h14 hloop
 exact pure_of [(10,.p (boolX true)),(13,.p (.sl false 23 I)),(15,.p P.node),(17,.p (.sl false 7 R))] [(.exit 0,ruE a b c d e I R S n w)] h9 (x:=boolX true) (bx:=[]) (by kernel_rfl) rfl
end Go.Proofs.YthphniobeigklaaGreatDoor.Ag
