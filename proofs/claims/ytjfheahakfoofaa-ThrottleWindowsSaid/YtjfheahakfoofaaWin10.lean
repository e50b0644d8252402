/- The runs: the loops over outputs and letters, and what one input does. -/
import Derived.WalkKit
import Derived.Test.YtjfheahakfoofaaWin9
namespace Go.Proofs.Ytjfheahakfoofaa
open Go.Em

theorem take_map_succ {α β : Type} (l : List α) (f : α → β) {j : Nat} (h : j < l.length) : (l.take (j + 1)).map f = (l.take j).map f ++ [f l[j]] := by
  rw [List.take_succ_eq_append_getElem h, List.map_append]; rfl

def nows (now : Nat) (os : List Ms) : List Int := os.map fun _ => Int.ofNat now
def fsts (os : List Ms) : List Int := os.map Ms.fst

section
variable (N : Nat) (kd : Int) (s : ByteArray) (n p l : Nat) (moves : List (List X)) (i k : Nat) (now : Nat) (tt : Bool) (ins : List (List X)) (ts lf rj : List Int) (c0 t0 c1 t1 : Int) (s0 : Bool × List (List X)) (s1 : List (List X)) (os ls : List Ms) (fates : List (List X))

noncomputable def roHj (j : Nat) : St := roH moves (nodeT kd s n p l) (ts.length + j) (lf.length + j) rj.length i k j now tt ins (rowI (ts ++ nows now (os.take j))) (rowI (lf ++ fsts (os.take j))) (rowI rj) (stF c0 t0 s0) (outcC c1 t1 s1 os fates ls)
noncomputable def rlHj (j : Nat) : St := rlH moves (nodeT kd s n p l) (ts.length + os.length) (lf.length + os.length) (rj.length + j) i k j now tt ins (rowI (ts ++ nows now os)) (rowI (lf ++ fsts os)) (rowI (rj ++ fsts (ls.take j))) (stF c0 t0 s0) (outcC c1 t1 s1 os fates ls)
noncomputable def roEnd : St := roE moves (nodeT kd s n p l) (ts.length + os.length) (lf.length + os.length) rj.length i k os.length now tt ins (rowI (ts ++ nows now os)) (rowI (lf ++ fsts os)) (rowI rj) (stF c0 t0 s0) (outcC c1 t1 s1 os fates ls)
noncomputable def rlEnd : St := rlE moves (nodeT kd s n p l) (ts.length + os.length) (lf.length + os.length) (rj.length + ls.length) i k ls.length now tt ins (rowI (ts ++ nows now os)) (rowI (lf ++ fsts os)) (rowI (rj ++ fsts ls)) (stF c0 t0 s0) (outcC c1 t1 s1 os fates ls)

theorem ro_loop (τ : St) (hτ : canon 0 τ = some (roHj kd s n p l moves i k now tt ins ts lf rj c0 t0 c1 t1 s0 s1 os ls fates 0)) (ho : os.length < N + 90) (ho2 : os.length < 1000) (h1 : ts.length < 2000) (h2 : lf.length < 2000) :
    run (callF tab ext (N + 90)) 0 (N + 90) (.loop (loopOf tab 7 2)) τ = some (.exit 4, roEnd kd s n p l moves i k now tt ins ts lf rj c0 t0 c1 t1 s0 s1 os ls fates) := by
  refine loop_for (σ := roHj kd s n p l moves i k now tt ins ts lf rj c0 t0 c1 t1 s0 s1 os ls fates) (k := os.length) hτ (fun j hj => ?_) ?_ (by simp) ho
  · have hs := ro_step kd s n p l moves (ts.length + j) (lf.length + j) rj.length i k j now tt ins (rowI (ts ++ nows now (os.take j))) (rowI (lf ++ fsts (os.take j))) (rowI rj) c0 t0 c1 t1 s0 s1 os ls fates N os[j] (outsC_get hj) (by rw [outsC_length]; exact hj) (by rw [outsC_length]; exact ho2)
      (by simp [rowI, nows]; omega) (by omega) (by simp [rowI, fsts]; omega) (by omega)
    refine ⟨_, hs, ?_⟩
    have hc := ro_canon' kd s n p l moves (ts.length + j) (lf.length + j) rj.length i k j now tt ins (rowI (ts ++ nows now (os.take j))) (rowI (lf ++ fsts (os.take j))) (rowI rj) c0 t0 c1 t1 s0 s1 os ls fates [nat now] [num (os[j]).fst]
    rw [hc]
    unfold roHj
    have e1 : rowI (ts ++ nows now (os.take (j + 1))) = rowI (ts ++ nows now (os.take j)) ++ [[nat now]] := by
      unfold nows; rw [take_map_succ os _ hj, ← List.append_assoc, rowI_snoc]; rfl
    have e2 : rowI (lf ++ fsts (os.take (j + 1))) = rowI (lf ++ fsts (os.take j)) ++ [[num (os[j]).fst]] := by
      unfold fsts; rw [take_map_succ os _ hj, ← List.append_assoc, rowI_snoc]
    rw [e1, e2]
    rfl
  · have := ro_end kd s n p l moves (ts.length + os.length) (lf.length + os.length) rj.length i k os.length now tt ins (rowI (ts ++ nows now (os.take os.length))) (rowI (lf ++ fsts (os.take os.length))) (rowI rj) c0 t0 c1 t1 s0 s1 os ls fates N (by rw [outsC_length]; omega)
    unfold roHj roEnd
    rw [List.take_length] at this ⊢
    exact this

theorem rl_loop (τ : St) (hτ : canon 0 τ = some (rlHj kd s n p l moves i k now tt ins ts lf rj c0 t0 c1 t1 s0 s1 os ls fates 0)) (ho : ls.length < N + 90) (ho2 : ls.length < 1000) (h1 : rj.length < 2000) :
    run (callF tab ext (N + 90)) 0 (N + 90) (.loop (loopOf tab 7 3)) τ = some (.exit 6, rlEnd kd s n p l moves i k now tt ins ts lf rj c0 t0 c1 t1 s0 s1 os ls fates) := by
  refine loop_for (σ := rlHj kd s n p l moves i k now tt ins ts lf rj c0 t0 c1 t1 s0 s1 os ls fates) (k := ls.length) hτ (fun j hj => ?_) ?_ (by simp) ho
  · have hs := rl_step kd s n p l moves (ts.length + os.length) (lf.length + os.length) (rj.length + j) i k j now tt ins (rowI (ts ++ nows now os)) (rowI (lf ++ fsts os)) (rowI (rj ++ fsts (ls.take j))) c0 t0 c1 t1 s0 s1 os ls fates N ls[j] (lettC_get hj) (by rw [lettC_length]; exact hj) (by rw [lettC_length]; exact ho2)
      (by simp [rowI, fsts]; omega) (by omega)
    refine ⟨_, hs, ?_⟩
    have hc := rl_canon' kd s n p l moves (ts.length + os.length) (lf.length + os.length) (rj.length + j) i k j now tt ins (rowI (ts ++ nows now os)) (rowI (lf ++ fsts os)) (rowI (rj ++ fsts (ls.take j))) c0 t0 c1 t1 s0 s1 os ls fates [num (ls[j]).fst]
    rw [hc]
    unfold rlHj
    have e2 : rowI (rj ++ fsts (ls.take (j + 1))) = rowI (rj ++ fsts (ls.take j)) ++ [[num (ls[j]).fst]] := by
      unfold fsts; rw [take_map_succ ls _ hj, ← List.append_assoc, rowI_snoc]
    rw [e2]
    rfl
  · have := rl_end kd s n p l moves (ts.length + os.length) (lf.length + os.length) (rj.length + ls.length) i k ls.length now tt ins (rowI (ts ++ nows now os)) (rowI (lf ++ fsts os)) (rowI (rj ++ fsts (ls.take ls.length))) c0 t0 c1 t1 s0 s1 os ls fates N (by rw [lettC_length]; omega)
    unfold rlHj rlEnd
    rw [List.take_length] at this ⊢
    exact this

/-- Heads of the loop over the inputs. -/
noncomputable def riHj : St := riH moves (nodeT kd s n p l) ts.length lf.length rj.length i k now tt ins (rowI ts) (rowI lf) (rowI rj) (stF c0 t0 s0)
/-- What a step is to come to. -/
def StepOk (inp : X) : Prop := Gam.pureD (callF tab ext (N + 90)) 14 [nodeT kd s n p l, .agg (stC c0 t0 s0.2), inp] = some (.agg (outcC c1 t1 s1 os fates ls))
noncomputable def rsEnd  : St := ⟨ruTm moves (ts.length + os.length) (lf.length + os.length) (rj.length + ls.length) i (k + 1) now tt ins 1 2 3, [.var (nodeT kd s n p l).cells, .row 1 (rowI (ts ++ nows now os)), .row 1 (rowI (lf ++ fsts os)), .row 1 (rowI (rj ++ fsts ls)), .var (stC c1 t1 s1), .var (outcC c1 t1 s1 os fates ls)]⟩

theorem rs_canon : canon 0 (rsEnd kd s n p l moves i k now tt ins ts lf rj c1 t1 s1 os ls fates) = some (riHj kd s n p l moves i (k + 1) now tt ins (ts ++ nows now os) (lf ++ fsts os) (rj ++ fsts ls) c1 t1 (false, s1)) := by
  have h : canon 0 (rsEnd kd s n p l moves i k now tt ins ts lf rj c1 t1 s1 os ls fates) = some (riH moves (nodeT kd s n p l) (ts.length + os.length) (lf.length + os.length) (rj.length + ls.length) i (k + 1) now tt ins (rowI (ts ++ nows now os)) (rowI (lf ++ fsts os)) (rowI (rj ++ fsts ls)) (stC c1 t1 s1)) := by kernel_rfl
  rw [h]
  unfold riHj
  simp only [List.length_append, nows, fsts, List.length_map]
  rfl

theorem ro_first : canon 0 (roH moves (nodeT kd s n p l) ts.length lf.length rj.length i k 0 now tt ins (rowI ts) (rowI lf) (rowI rj) (stF c0 t0 s0) (outcC c1 t1 s1 os fates ls)) = some (roHj kd s n p l moves i k now tt ins ts lf rj c0 t0 c1 t1 s0 s1 os ls fates 0) := by
  have h : canon 0 (roH moves (nodeT kd s n p l) ts.length lf.length rj.length i k 0 now tt ins (rowI ts) (rowI lf) (rowI rj) (stF c0 t0 s0) (outcC c1 t1 s1 os fates ls)) = some (roH moves (nodeT kd s n p l) ts.length lf.length rj.length i k 0 now tt ins (rowI ts) (rowI lf) (rowI rj) (stF c0 t0 s0) (outcC c1 t1 s1 os fates ls)) := by kernel_rfl
  rw [h]
  simp only [roHj, nows, fsts, List.take_zero, List.map_nil, List.append_nil, Nat.add_zero]
theorem rl_first : canon 0 (rlH moves (nodeT kd s n p l) (ts.length + os.length) (lf.length + os.length) rj.length i k 0 now tt ins (rowI (ts ++ nows now os)) (rowI (lf ++ fsts os)) (rowI rj) (stF c0 t0 s0) (outcC c1 t1 s1 os fates ls)) = some (rlHj kd s n p l moves i k now tt ins ts lf rj c0 t0 c1 t1 s0 s1 os ls fates 0) := by
  have h : canon 0 (rlH moves (nodeT kd s n p l) (ts.length + os.length) (lf.length + os.length) rj.length i k 0 now tt ins (rowI (ts ++ nows now os)) (rowI (lf ++ fsts os)) (rowI rj) (stF c0 t0 s0) (outcC c1 t1 s1 os fates ls)) = some (rlH moves (nodeT kd s n p l) (ts.length + os.length) (lf.length + os.length) rj.length i k 0 now tt ins (rowI (ts ++ nows now os)) (rowI (lf ++ fsts os)) (rowI rj) (stF c0 t0 s0) (outcC c1 t1 s1 os fates ls)) := by kernel_rfl
  rw [h]
  simp only [rlHj, fsts, List.take_zero, List.map_nil, List.append_nil, Nat.add_zero]

theorem in_tick (e : Int) (a : Int) (hk : k < ins.length) (hk2 : ins.length < 1000) (hi : ins[k]? = some (tickX e a).cells) (ho : os.length < 80) (hl : ls.length < 80) (h1 : ts.length < 2000) (h2 : lf.length < 2000) (h3 : rj.length < 2000)
    (hst : StepOk N kd s n p l c0 t0 c1 t1 s0 s1 os ls fates (tickX e a)) :
    run (callF tab ext (N + 90)) 0 (N + 90) (loopOf tab 7 1) (riHj kd s n p l moves i k now tt ins ts lf rj c0 t0 s0) = some (.norm, rsEnd kd s n p l moves i k now tt ins ts lf rj c1 t1 s1 os ls fates) :=
  run_of [(49, .b true), (56, .e (tickX e a).cells), (58, .p (.agg (outcC c1 t1 s1 os fates ls))), (51, .i (Int.ofNat (k + 1)))]
    [(.exit 4, roEnd kd s n p l moves i k now tt ins ts lf rj c0 t0 c1 t1 s0 s1 os ls fates), (.exit 6, rlEnd kd s n p l moves i k now tt ins ts lf rj c0 t0 c1 t1 s0 s1 os ls fates)]
    (pf6 (lt_nat hk) hi hst
      (ro_loop N kd s n p l moves i k now tt ins ts lf rj c0 t0 c1 t1 s0 s1 os ls fates _ (ro_first kd s n p l moves i k now tt ins ts lf rj c0 t0 c1 t1 s0 s1 os ls fates) (by omega) (by omega) h1 h2)
      (rl_loop N kd s n p l moves i k now tt ins ts lf rj c0 t0 c1 t1 s0 s1 os ls fates _ (rl_first kd s n p l moves i k now tt ins ts lf rj c0 t0 c1 t1 s0 s1 os ls fates) (by omega) (by omega) h3)
      (next_nat (j := k) (by omega))) (lo' := []) (by kernel_rfl)

theorem in_arrive (e : Int) (a : Int) (hk : k < ins.length) (hk2 : ins.length < 1000) (hi : ins[k]? = some (arriveX e a).cells) (ho : os.length < 80) (hl : ls.length < 80) (h1 : ts.length < 2000) (h2 : lf.length < 2000) (h3 : rj.length < 2000)
    (hst : StepOk N kd s n p l c0 t0 c1 t1 s0 s1 os ls fates (arriveX e a)) :
    run (callF tab ext (N + 90)) 0 (N + 90) (loopOf tab 7 1) (riHj kd s n p l moves i k now tt ins ts lf rj c0 t0 s0) = some (.norm, rsEnd kd s n p l moves i k now tt ins ts lf rj c1 t1 s1 os ls fates) :=
  run_of [(49, .b true), (56, .e (arriveX e a).cells), (58, .p (.agg (outcC c1 t1 s1 os fates ls))), (51, .i (Int.ofNat (k + 1)))]
    [(.exit 4, roEnd kd s n p l moves i k now tt ins ts lf rj c0 t0 c1 t1 s0 s1 os ls fates), (.exit 6, rlEnd kd s n p l moves i k now tt ins ts lf rj c0 t0 c1 t1 s0 s1 os ls fates)]
    (pf6 (lt_nat hk) hi hst
      (ro_loop N kd s n p l moves i k now tt ins ts lf rj c0 t0 c1 t1 s0 s1 os ls fates _ (ro_first kd s n p l moves i k now tt ins ts lf rj c0 t0 c1 t1 s0 s1 os ls fates) (by omega) (by omega) h1 h2)
      (rl_loop N kd s n p l moves i k now tt ins ts lf rj c0 t0 c1 t1 s0 s1 os ls fates _ (rl_first kd s n p l moves i k now tt ins ts lf rj c0 t0 c1 t1 s0 s1 os ls fates) (by omega) (by omega) h3)
      (next_nat (j := k) (by omega))) (lo' := []) (by kernel_rfl)
end

end Go.Proofs.Ytjfheahakfoofaa

/- The runs: moves. -/
namespace Go.Proofs.Ytjfheahakfoofaa
open Go.Em

def moveC (m : Nat × Bool) : List X := [.v (.int .u8 (Int.ofNat m.1)), .v (.bool m.2)]
def movesC (l : List (Nat × Bool)) : List (List X) := l.map moveC
theorem movesC_length (l : List (Nat × Bool)) : (movesC l).length = l.length := by simp [movesC]
theorem movesC_get {l : List (Nat × Bool)} {j : Nat} (h : j < l.length) : (movesC l)[j]? = some (moveC l[j]) := by simp [movesC, h]

theorem wait_int {now w : Nat} (h : now < 4294967296) (hw : w < 256) : IntKind.i64.wrap (Int.ofNat now + IntKind.i64.wrap (Int.ofNat w)) = Int.ofNat (now + w) := by
  have e : IntKind.i64.wrap (Int.ofNat w) = Int.ofNat w := by rw [IntKind.wrap_i64]; simp only [Int.ofNat_eq_natCast]; omega
  rw [e, add_nat h (by omega)]

section
variable (N : Nat) (kd : Int) (s : ByteArray) (n p l : Nat) (moves : List (List X)) (i k : Nat) (now : Nat) (tt : Bool) (ins : List (List X)) (ts lf rj : List Int) (c0 t0 : Int) (s0 : Bool × List (List X))

noncomputable def riEnd : St := ⟨ruTm moves ts.length lf.length rj.length i k now tt ins 1 2 3 ++ [(49, .v (.bool false))], [.var (nodeT kd s n p l).cells, .row 1 (rowI ts), .row 1 (rowI lf), .row 1 (rowI rj), .var (stF c0 t0 s0)]⟩
theorem in_end (hk : ¬ k < ins.length) : run (callF tab ext (N + 90)) 0 (N + 90) (loopOf tab 7 1) (riHj kd s n p l moves i k now tt ins ts lf rj c0 t0 s0) = some (.exit 2, riEnd kd s n p l moves i k now tt ins ts lf rj c0 t0 s0) :=
  run_of [(49, .b false)] [] (pf1 (nlt_nat hk)) (lo' := []) (by kernel_rfl)

/-- Heads of the loop over the moves. -/
noncomputable def ruH : St := ⟨[(1, .sl false 2 moves), (2, .ptr 0 0 0), (4, .bs 1 0 ts.length), (5, .bs 2 0 lf.length), (6, .bs 3 0 rj.length), (7, .ptr 4 0 0), (8, nat now), (9, nat i)], [.var (nodeT kd s n p l).cells, .row 1 (rowI ts), .row 1 (rowI lf), .row 1 (rowI rj), .var (stF c0 t0 s0)]⟩
noncomputable def ruEnd : St := ⟨[(1, .sl false 2 moves), (2, .ptr 0 0 0), (4, .bs 1 0 ts.length), (5, .bs 2 0 lf.length), (6, .bs 3 0 rj.length), (7, .ptr 4 0 0), (8, nat now), (9, nat i), (18, .v (.bool false))], [.var (nodeT kd s n p l).cells, .row 1 (rowI ts), .row 1 (rowI lf), .row 1 (rowI rj), .var (stF c0 t0 s0)]⟩
theorem ru_canon : canon 0 (ruH kd s n p l moves i now ts lf rj c0 t0 s0) = some (ruH kd s n p l moves i now ts lf rj c0 t0 s0) := by kernel_rfl
theorem ru_end (hk : ¬ i < moves.length) : run (callF tab ext (N + 90)) 0 (N + 90) (loopOf tab 7 0) (ruH kd s n p l moves i now ts lf rj c0 t0 s0) = some (.exit 0, ruEnd kd s n p l moves i now ts lf rj c0 t0 s0) :=
  run_of [(18, .b false)] [] (pf1 (nlt_nat hk)) (lo' := []) (by kernel_rfl)

noncomputable def tickIns (e a : Int) : List (List X) := [(tickX e a).cells]
noncomputable def bothIns (e a : Int) : List (List X) := [(tickX e a).cells, (arriveX e a).cells]

variable (c1 t1 c2 t2 : Int) (s1 s2 : List (List X)) (os ls os2 ls2 : List Ms) (fates fates2 : List (List X))

theorem ins_tick (e a : Int) (ho : os.length < 80) (hl : ls.length < 80) (h1 : ts.length < 1800) (h2 : lf.length < 1800) (h3 : rj.length < 1800)
    (hst : StepOk N kd s n p l c0 t0 c1 t1 s0 s1 os ls fates (tickX e a)) :
    run (callF tab ext (N + 90)) 0 (N + 90) (.loop (loopOf tab 7 1)) (riHj kd s n p l moves i 0 now true (tickIns e a) ts lf rj c0 t0 s0)
      = some (.exit 2, riEnd kd s n p l moves i 1 now true (tickIns e a) (ts ++ nows now os) (lf ++ fsts os) (rj ++ fsts ls) c1 t1 (false, s1)) := by
  simp only [run]
  refine iter_step (n := N + 89) (σ := riHj kd s n p l moves i 0 now true (tickIns e a) ts lf rj c0 t0 s0) (by kernel_rfl) (in_tick N kd s n p l moves i 0 now true (tickIns e a) ts lf rj c0 t0 c1 t1 s0 s1 os ls fates e a (by simp [tickIns]) (by simp [tickIns]) rfl ho hl (by omega) (by omega) (by omega) hst) ?_
  exact iter_end (n := N + 88) (rs_canon kd s n p l moves i 0 now true (tickIns e a) ts lf rj c1 t1 s1 os ls fates) (in_end N kd s n p l moves i 1 now true (tickIns e a) _ _ _ c1 t1 (false, s1) (by simp [tickIns])) (by simp)

theorem ins_both (e a : Int) (τ : St) (hτ : canon 0 τ = some (riHj kd s n p l moves i 0 now false (bothIns e a) ts lf rj c0 t0 s0)) (ho : os.length < 80) (hl : ls.length < 80) (ho2 : os2.length < 80) (hl2 : ls2.length < 80) (h1 : ts.length < 1800) (h2 : lf.length < 1800) (h3 : rj.length < 1800)
    (hst : StepOk N kd s n p l c0 t0 c1 t1 s0 s1 os ls fates (tickX e a)) (hst2 : StepOk N kd s n p l c1 t1 c2 t2 (false, s1) s2 os2 ls2 fates2 (arriveX e a)) :
    run (callF tab ext (N + 90)) 0 (N + 90) (.loop (loopOf tab 7 1)) τ
      = some (.exit 2, riEnd kd s n p l moves i 2 now false (bothIns e a) ((ts ++ nows now os) ++ nows now os2) ((lf ++ fsts os) ++ fsts os2) ((rj ++ fsts ls) ++ fsts ls2) c2 t2 (false, s2)) := by
  simp only [run]
  refine iter_step (n := N + 89) hτ (in_tick N kd s n p l moves i 0 now false (bothIns e a) ts lf rj c0 t0 c1 t1 s0 s1 os ls fates e a (by simp [bothIns]) (by simp [bothIns]) rfl ho hl (by omega) (by omega) (by omega) hst) ?_
  refine iter_step (n := N + 88) (rs_canon kd s n p l moves i 0 now false (bothIns e a) ts lf rj c1 t1 s1 os ls fates) (in_arrive N kd s n p l moves i 1 now false (bothIns e a) _ _ _ c1 t1 c2 t2 (false, s1) s2 os2 ls2 fates2 e a (by simp [bothIns]) (by simp [bothIns]) rfl ho2 hl2
    (by simp [nows]; omega) (by simp [fsts]; omega) (by simp [fsts]; omega) hst2) ?_
  exact iter_end (n := N + 87) (rs_canon kd s n p l moves i 1 now false (bothIns e a) _ _ _ c2 t2 s2 os2 ls2 fates2) (in_end N kd s n p l moves i 2 now false (bothIns e a) _ _ _ c2 t2 (false, s2) (by simp [bothIns])) (by simp)

theorem ru_tick (w : Nat) (hm : moves[i]? = some (moveC (w, false))) (hi : i < moves.length) (hi2 : moves.length < 1000) (hw : w < 256) (hn : now < 1000000) (ho : os.length < 80) (hl : ls.length < 80) (h1 : ts.length < 1800) (h2 : lf.length < 1800) (h3 : rj.length < 1800)
    (hst : StepOk N kd s n p l c0 t0 c1 t1 s0 s1 os ls fates (tickX (Int.ofNat (i + 1)) (Int.ofNat (now + w)))) :
    run (callF tab ext (N + 90)) 0 (N + 90) (loopOf tab 7 0) (ruH kd s n p l moves i now ts lf rj c0 t0 s0) = some (.norm, ruH kd s n p l moves (i + 1) (now + w) (ts ++ nows (now + w) os) (lf ++ fsts os) (rj ++ fsts ls) c1 t1 (false, s1)) :=
  run_of [(18, .b true), (24, .e (moveC (w, false))), (28, .i (Int.ofNat (now + w))), (30, .i (Int.ofNat (i + 1))), (32, .p (tickX (Int.ofNat (i + 1)) (Int.ofNat (now + w)))), (36, .e (moveC (w, false))), (20, .i (Int.ofNat (i + 1)))]
    [(.exit 2, riEnd kd s n p l moves i 1 (now + w) true (tickIns (Int.ofNat (i + 1)) (Int.ofNat (now + w))) (ts ++ nows (now + w) os) (lf ++ fsts os) (rj ++ fsts ls) c1 t1 (false, s1))]
    (pf8 (lt_nat hi) hm (wait_int (now := now) (w := w) (by omega) hw) (next_nat (j := i) (by omega)) (ticks_pure (N + 60) (Int.ofNat (i + 1)) (Int.ofNat (now + w))) hm
      (ins_tick N kd s n p l moves i (now + w) ts lf rj c0 t0 s0 c1 t1 s1 os ls fates (Int.ofNat (i + 1)) (Int.ofNat (now + w)) ho hl h1 h2 h3 hst) (next_nat (j := i) (by omega))) (lo' := []) (by kernel_rfl)

noncomputable def rbSt (w : Nat) : St := ⟨ruTm moves ts.length lf.length rj.length i 0 (now + w) false (bothIns (Int.ofNat (i + 1)) (Int.ofNat (now + w))) 1 2 3, [.var (nodeT kd s n p l).cells, .row 1 (rowI ts), .row 1 (rowI lf), .row 1 (rowI rj), .var (stF c0 t0 s0), .dead]⟩
theorem ru_both (w : Nat) (hm : moves[i]? = some (moveC (w, true))) (hi : i < moves.length) (hi2 : moves.length < 1000) (hw : w < 256) (hn : now < 1000000) (ho : os.length < 80) (hl : ls.length < 80) (ho2 : os2.length < 80) (hl2 : ls2.length < 80) (h1 : ts.length < 1800) (h2 : lf.length < 1800) (h3 : rj.length < 1800)
    (hst : StepOk N kd s n p l c0 t0 c1 t1 s0 s1 os ls fates (tickX (Int.ofNat (i + 1)) (Int.ofNat (now + w)))) (hst2 : StepOk N kd s n p l c1 t1 c2 t2 (false, s1) s2 os2 ls2 fates2 (arriveX (Int.ofNat (i + 1)) (Int.ofNat (now + w)))) :
    run (callF tab ext (N + 90)) 0 (N + 90) (loopOf tab 7 0) (ruH kd s n p l moves i now ts lf rj c0 t0 s0) = some (.norm, ruH kd s n p l moves (i + 1) (now + w) ((ts ++ nows (now + w) os) ++ nows (now + w) os2) ((lf ++ fsts os) ++ fsts os2) ((rj ++ fsts ls) ++ fsts ls2) c2 t2 (false, s2)) :=
  run_of [(18, .b true), (24, .e (moveC (w, true))), (28, .i (Int.ofNat (now + w))), (30, .i (Int.ofNat (i + 1))), (32, .p (tickX (Int.ofNat (i + 1)) (Int.ofNat (now + w)))), (36, .e (moveC (w, true))), (41, .i (Int.ofNat (i + 1))), (43, .p (arriveX (Int.ofNat (i + 1)) (Int.ofNat (now + w)))), (20, .i (Int.ofNat (i + 1)))]
    [(.exit 2, riEnd kd s n p l moves i 2 (now + w) false (bothIns (Int.ofNat (i + 1)) (Int.ofNat (now + w))) ((ts ++ nows (now + w) os) ++ nows (now + w) os2) ((lf ++ fsts os) ++ fsts os2) ((rj ++ fsts ls) ++ fsts ls2) c2 t2 (false, s2))]
    (pf11 (lt_nat hi) hm (wait_int (now := now) (w := w) (by omega) hw) (next_nat (j := i) (by omega)) (ticks_pure (N + 60) (Int.ofNat (i + 1)) (Int.ofNat (now + w))) hm (next_nat (j := i) (by omega)) (arrives_pure (N + 60) (Int.ofNat (i + 1)) (Int.ofNat (now + w))) (Nat.le_refl 2)
      (ins_both N kd s n p l moves i (now + w) ts lf rj c0 t0 s0 c1 t1 c2 t2 s1 s2 os ls os2 ls2 fates fates2 (Int.ofNat (i + 1)) (Int.ofNat (now + w)) (rbSt kd s n p l moves i now ts lf rj c0 t0 s0 w) (by kernel_rfl) ho hl ho2 hl2 h1 h2 h3 hst hst2) (next_nat (j := i) (by omega))) (lo' := []) (by kernel_rfl)
end

end Go.Proofs.Ytjfheahakfoofaa

/- A run as a whole. -/
namespace Go.Proofs.Ytjfheahakfoofaa
open Go.Em

/-- What a run has come to: the time, the times at which messages have left, their entries, the entries that were rejected, the state. -/
structure Rs where
  now : Nat
  ts : List Int
  lf : List Int
  rj : List Int
  c : Int
  t : Int
  ss : List (List X)
def rs0 : Rs := ⟨0, [], [], [], 0, 0, []⟩

section
variable (N : Nat) (kd : Int) (s : ByteArray) (n p l : Nat)
/-- What a move is to come to. -/
def MoveOk (i : Nat) (m : Nat × Bool) (r r' : Rs) : Prop :=
  m.1 < 256 ∧ r.now < 1000000 ∧ r.ts.length < 1800 ∧ r.lf.length < 1800 ∧ r.rj.length < 1800 ∧
  ∃ c1 t1 s1 os ls fates, os.length < 80 ∧ ls.length < 80 ∧ StepOk N kd s n p l r.c r.t c1 t1 (false, r.ss) s1 os ls fates (tickX (Int.ofNat (i + 1)) (Int.ofNat (r.now + m.1))) ∧
    ((m.2 = false ∧ r' = ⟨r.now + m.1, r.ts ++ nows (r.now + m.1) os, r.lf ++ fsts os, r.rj ++ fsts ls, c1, t1, s1⟩) ∨
     (m.2 = true ∧ ∃ c2 t2 s2 os2 ls2 fates2, os2.length < 80 ∧ ls2.length < 80 ∧ StepOk N kd s n p l c1 t1 c2 t2 (false, s1) s2 os2 ls2 fates2 (arriveX (Int.ofNat (i + 1)) (Int.ofNat (r.now + m.1))) ∧
       r' = ⟨r.now + m.1, (r.ts ++ nows (r.now + m.1) os) ++ nows (r.now + m.1) os2, (r.lf ++ fsts os) ++ fsts os2, (r.rj ++ fsts ls) ++ fsts ls2, c2, t2, s2⟩))

noncomputable def ruStart (moves : List (List X)) : St := ⟨[(1, .sl false 2 moves), (2, .ptr 0 0 0), (4, .bs 2 0 0), (5, .bs 3 0 0), (6, .bs 4 0 0), (7, .ptr 1 0 0), (8, nat 0), (9, nat 0)], [.var (nodeT kd s n p l).cells, .var [num 0, num 0, .sl true 10 []], .row 1 [], .row 1 [], .row 1 []]⟩
noncomputable def ruH0 (moves : List (List X)) : St := ⟨[(1, .sl false 2 moves), (2, .ptr 0 0 0), (4, .bs 1 0 0), (5, .bs 2 0 0), (6, .bs 3 0 0), (7, .ptr 4 0 0), (8, nat 0), (9, nat 0)], [.var (nodeT kd s n p l).cells, .row 1 [], .row 1 [], .row 1 [], .var [num 0, num 0, .sl true 10 []]]⟩
theorem ru_start (moves : List (List X)) : canon 0 (ruStart kd s n p l moves) = some (ruH0 kd s n p l moves) := by kernel_rfl

theorem run_eq (l0 : List (Nat × Bool)) (R : Nat → Rs) (h0 : R 0 = rs0) (hl : l0.length < 80) (hm : ∀ i (h : i < l0.length), MoveOk N kd s n p l i l0[i] (R i) (R (i + 1))) :
    callF tab ext (N + 91) (.fn 7) [nodeT kd s n p l, .sl false 2 (movesC l0)] [] = some (.tup [.bs 0 0 (R l0.length).ts.length, .bs 1 0 (R l0.length).lf.length, .bs 2 0 (R l0.length).rj.length, .agg (stF (R l0.length).c (R l0.length).t (l0.length == 0, (R l0.length).ss))],
      [.row 1 (rowI (R l0.length).ts), .row 1 (rowI (R l0.length).lf), .row 1 (rowI (R l0.length).rj)]) := by
  let σ : Nat → St := fun i => ruH kd s n p l (movesC l0) i (R i).now (R i).ts (R i).lf (R i).rj (R i).c (R i).t (i == 0, (R i).ss)
  have hloop : run (callF tab ext (N + 90)) 0 (N + 90) (.loop (loopOf tab 7 0)) (ruStart kd s n p l (movesC l0)) = some (.exit 0, ruEnd kd s n p l (movesC l0) l0.length (R l0.length).now (R l0.length).ts (R l0.length).lf (R l0.length).rj (R l0.length).c (R l0.length).t (l0.length == 0, (R l0.length).ss)) := by
    refine loop_for (σ := σ) (k := l0.length) ?_ (fun i hi => ?_) ?_ (by simp) (by omega)
    · simp only [σ, h0, rs0]
      exact ru_start kd s n p l (movesC l0)
    · obtain ⟨hw, hn, h1, h2, h3, c1, t1, s1, os, ls, fates, ho, hls, hst, hor⟩ := hm i hi
      rcases hor with ⟨hb, hr⟩ | ⟨hb, c2, t2, s2, os2, ls2, fates2, ho2, hls2, hst2, hr⟩
      · have hmv : (movesC l0)[i]? = some (moveC (l0[i].1, false)) := by rw [movesC_get hi, ← hb]
        refine ⟨_, ru_tick N kd s n p l (movesC l0) i (R i).now (R i).ts (R i).lf (R i).rj (R i).c (R i).t (i == 0, (R i).ss) c1 t1 s1 os ls fates l0[i].1 hmv (by rw [movesC_length]; exact hi) (by rw [movesC_length]; omega) hw hn ho hls h1 h2 h3 hst, ?_⟩
        simp only [σ, hr]
        exact ru_canon kd s n p l (movesC l0) (i + 1) _ _ _ _ _ _ _
      · have hmv : (movesC l0)[i]? = some (moveC (l0[i].1, true)) := by rw [movesC_get hi, ← hb]
        refine ⟨_, ru_both N kd s n p l (movesC l0) i (R i).now (R i).ts (R i).lf (R i).rj (R i).c (R i).t (i == 0, (R i).ss) c1 t1 c2 t2 s1 s2 os ls os2 ls2 fates fates2 l0[i].1 hmv (by rw [movesC_length]; exact hi) (by rw [movesC_length]; omega) hw hn ho hls ho2 hls2 h1 h2 h3 hst hst2, ?_⟩
        simp only [σ, hr]
        exact ru_canon kd s n p l (movesC l0) (i + 1) _ _ _ _ _ _ _
    · exact ru_end N kd s n p l (movesC l0) l0.length _ _ _ _ _ _ _ (by rw [movesC_length]; omega)
  exact callF_of [] [(.exit 0, ruEnd kd s n p l (movesC l0) l0.length (R l0.length).now (R l0.length).ts (R l0.length).lf (R l0.length).rj (R l0.length).c (R l0.length).t (l0.length == 0, (R l0.length).ss))] (pf1 hloop) (by kernel_rfl)

theorem run_pure (l0 : List (Nat × Bool)) (R : Nat → Rs) (h0 : R 0 = rs0) (hl : l0.length < 80) (hm : ∀ i (h : i < l0.length), MoveOk N kd s n p l i l0[i] (R i) (R (i + 1))) :
    Gam.pureD (callF tab ext (N + 91)) 7 [nodeT kd s n p l, .sl false 2 (movesC l0)] = some (.tup [.sl false 1 (rowI (R l0.length).ts), .sl false 1 (rowI (R l0.length).lf), .sl false 1 (rowI (R l0.length).rj), .agg (stC (R l0.length).c (R l0.length).t (R l0.length).ss)]) := by
  refine pureD_of (run_eq N kd s n p l l0 R h0 hl hm) ?_
  have h1 : rowOf [Bx.row 1 (rowI (R l0.length).ts), .row 1 (rowI (R l0.length).lf), .row 1 (rowI (R l0.length).rj)] 0 0 (R l0.length).ts.length = some (1, rowI (R l0.length).ts) := rowOf_get rfl (rowI_length _).symm
  have h2 : rowOf [Bx.row 1 (rowI (R l0.length).ts), .row 1 (rowI (R l0.length).lf), .row 1 (rowI (R l0.length).rj)] 1 0 (R l0.length).lf.length = some (1, rowI (R l0.length).lf) := rowOf_get rfl (rowI_length _).symm
  have h3 : rowOf [Bx.row 1 (rowI (R l0.length).ts), .row 1 (rowI (R l0.length).lf), .row 1 (rowI (R l0.length).rj)] 2 0 (R l0.length).rj.length = some (1, rowI (R l0.length).rj) := rowOf_get rfl (rowI_length _).symm
  simp only [X.data, dataL, stC, stF, num, h1, h2, h3, Option.map_some, Bool.false_and]
end

end Go.Proofs.Ytjfheahakfoofaa

/- What a throttle does with the inputs of the runs, in plain words. -/
namespace Go.Proofs.Ytjfheahakfoofaa
open Go.Em

/-- A throttle: how many have left in the window, the window, what is held. -/
structure Ts where
  c : Nat
  t : Nat
  es : List Int
def gone (n p a : Nat) (q : Ts) : Nat := min q.es.length (n - cnt p q.c q.t a)
def tickT (n p a : Nat) (q : Ts) : Ts := if gone n p a q = 0 then q else ⟨cnt p q.c q.t a + gone n p a q, max q.t (win p a), q.es.drop (gone n p a q)⟩
def passes (n p a : Nat) (q : Ts) : Bool := decide (q.es.length = 0 ∧ cnt p q.c q.t a < n)
def holds (l : Nat) (q : Ts) : Bool := decide (q.es.length < l)
def arrT (n p l a : Nat) (e : Int) (q : Ts) : Ts := if passes n p a q then ⟨cnt p q.c q.t a + 1, max q.t (win p a), []⟩ else if holds l q then ⟨q.c, q.t, q.es ++ [e]⟩ else q
def leftT (n p a : Nat) (e : Int) (q : Ts) : List Int := if passes n p a q then [e] else []
def rejT (n p l a : Nat) (e : Int) (q : Ts) : List Int := if passes n p a q then [] else if holds l q then [] else [e]

theorem relN_gone (n p a : Nat) (q : Ts) : relN q.es (Int.ofNat n - Int.ofNat (cnt p q.c q.t a)) = gone n p a q := by
  simp only [relN, gone, Int.ofNat_eq_natCast]; omega

def movedM (b : Int) (es : List Int) (m : Nat) : List Ms := (List.range m).map fun i => ⟨b, [[num 0], [num 3], [nat i]], es.getD i 0⟩
theorem movedM_length (b : Int) (es : List Int) (m : Nat) : (movedM b es m).length = m := by simp [movedM]
theorem movedM_outs (b : Int) (es : List Int) (m : Nat) : outsC (movedM b es m) = movedL b es m := by
  simp only [outsC, movedM, movedL, List.map_map]; rfl
theorem movedM_fsts (b : Int) (es : List Int) (m : Nat) (h : m ≤ es.length) : fsts (movedM b es m) = es.take m := by
  simp only [fsts, movedM, List.map_map]
  refine List.ext_getElem (by simp; omega) fun i h1 h2 => ?_
  simp at h1 h2
  have h3 : i < es.length := by omega
  simp [List.getD, h3]

theorem outX_outc (c t : Int) (ss : List Sl) (os : List Ms) (fates : List (List X)) (ls : List Ms) : outX c t ss (outsC os) fates (lettC ls) [] = .agg (outcC c t (slotsC ss) os fates ls) := rfl

theorem stepOk_of (N : Nat) (s : ByteArray) (n p l : Nat) (c t c' t' : Int) (ss ss' : List Sl) (os ls : List Ms) (fates : List (List X)) (kind a : Int) (st msg : List X) (h : ∃ e b, (st = [num e, .sl false 1 [[num 1]]] ∧ msg = noteC b) ∨ (st = [num e, .sl false 1 [[num 0], [num 3]]] ∧ msg = zMsg)) (hs : ss.length < 80) (hs2 : ∀ s, s ∈ ss → s.es.length < 80)
    (hst : Gam.pureD (callF tab ext (N + 89)) 22 [nodeT 7 s n p l, stateX c t ss, inX kind a st msg] = some (outX c' t' ss' (outsC os) fates (lettC ls) [])) :
    StepOk N 7 s n p l c t c' t' (false, slotsC ss) (slotsC ss') os ls fates (inX kind a st msg) :=
  step_pure (N + 3) s n p l c t ss kind a st msg h c' t' ss' (outsC os) fates (lettC ls) [] hs hs2 hst

theorem held_len (es : List Int) : (heldS es).length < 80 := by unfold heldS; split <;> simp
theorem held_es (es : List Int) (hl : es.length < 80) : ∀ s, s ∈ heldS es → s.es.length < 80 := by
  unfold heldS; split
  · intro s hs; cases hs
  · intro s hs; rw [List.mem_singleton] at hs; subst hs; exact hl

section
variable (N : Nat) (s : ByteArray) (n p l a : Nat) (e : Int) (q : Ts)

theorem t_tick (hp : p < 17592186044416) (ha : a < 17592186044416) (hl : q.es.length < 80) (hn : n < 4294967296) (hc : cnt p q.c q.t a < 4294967) :
    ∃ fates, StepOk N 7 s n p l (Int.ofNat q.c) (Int.ofNat q.t) (Int.ofNat (tickT n p a q).c) (Int.ofNat (tickT n p a q).t) (false, slotsC (heldS q.es)) (slotsC (heldS (tickT n p a q).es)) (movedM e q.es (gone n p a q)) [] fates (tickX e (Int.ofNat a)) := by
  by_cases he : q.es = []
  · have hg : gone n p a q = 0 := by simp [gone, he]
    have h1 := tick_empty (N + 3) s n p l q.c q.t a e hp ha
    refine ⟨[], ?_⟩
    rw [tickT, if_pos hg, hg, he]
    exact stepOk_of N s n p l _ _ _ _ [] [] [] [] [] 2 (Int.ofNat a) _ zMsg ⟨e, 0, .inr ⟨rfl, rfl⟩⟩ (by simp) (by simp) h1
  · have hh : heldS q.es = [slot0 q.es] := by rw [heldS, if_neg he]
    by_cases hg : gone n p a q = 0
    · have h1 := tick_zero (N + 3) s n p l q.c q.t a e q.es hp ha hl hn (by omega) (by rw [relN_gone]; exact hg)
      refine ⟨[], ?_⟩
      rw [tickT, if_pos hg, hg, hh]
      exact stepOk_of N s n p l _ _ _ _ [slot0 q.es] [slot0 q.es] [] [] [] 2 (Int.ofNat a) _ zMsg ⟨e, 0, .inr ⟨rfl, rfl⟩⟩ (by simp) (by simpa [slot0] using hl) h1
    · have h1 := tick_some (N + 3) s n p l q.c q.t a e q.es hp ha hl hn hc (gone n p a q) (relN_gone n p a q) hg
      refine ⟨fatesL s e q.es (gone n p a q), ?_⟩
      rw [tickT, if_neg hg, hh]
      refine stepOk_of N s n p l _ _ _ _ [slot0 q.es] (heldS (q.es.drop (gone n p a q))) (movedM e q.es (gone n p a q)) [] (fatesL s e q.es (gone n p a q)) 2 (Int.ofNat a) _ zMsg ⟨e, 0, .inr ⟨rfl, rfl⟩⟩ (by simp) (by simpa [slot0] using hl) ?_
      rw [movedM_outs]
      exact h1

def noteM (e : Int) : Ms := ⟨e, [[num 1]], e⟩
theorem t_arrive (hp : p < 17592186044416) (ha : a < 17592186044416) (hl : q.es.length < 79) (hl2 : l ≤ 256) (hc : cnt p q.c q.t a < 1000) :
    ∃ fates, StepOk N 7 s n p l (Int.ofNat q.c) (Int.ofNat q.t) (Int.ofNat (arrT n p l a e q).c) (Int.ofNat (arrT n p l a e q).t) (false, slotsC (heldS q.es)) (slotsC (heldS (arrT n p l a e q).es))
      (if passes n p a q then [noteM e] else []) (if passes n p a q then [] else if holds l q then [] else [noteM e]) fates (arriveX e (Int.ofNat a)) := by
  by_cases he : q.es = []
  · by_cases hps : cnt p q.c q.t a < n
    · have hP : passes n p a q = true := by simp [passes, he, hps]
      rw [arrT, if_pos hP, if_pos hP, if_pos hP, he]
      exact ⟨[], stepOk_of N s n p l _ _ _ _ [] [] [noteM e] [] [] 1 (Int.ofNat a) _ (noteC e) ⟨e, e, .inl ⟨rfl, rfl⟩⟩ (by simp) (by simp) (pass_pure (N + 4) s n p l q.c q.t a e hp ha hps hc)⟩
    · have hP : passes n p a q = false := by simp [passes, hps]
      have hP' : ¬ passes n p a q = true := by simp [hP]
      by_cases hh : 0 < l
      · have hH : holds l q = true := by simp [holds, he, hh]
        rw [arrT, if_neg hP', if_neg hP', if_neg hP', if_pos hH, if_pos hH, he]
        exact ⟨[], stepOk_of N s n p l _ _ _ _ [] [slot0 [e]] [] [] [] 1 (Int.ofNat a) _ (noteC e) ⟨e, e, .inl ⟨rfl, rfl⟩⟩ (by simp) (by simp) (hold_first (N + 3) s n p l q.c q.t a e hp ha hps hh hl2)⟩
      · have hH : ¬ holds l q = true := by simp [holds, he, hh]
        rw [arrT, if_neg hP', if_neg hP', if_neg hP', if_neg hH, if_neg hH, he]
        exact ⟨[fateR s e], stepOk_of N s n p l _ _ _ _ [] [] [] [noteM e] [fateR s e] 1 (Int.ofNat a) _ (noteC e) ⟨e, e, .inl ⟨rfl, rfl⟩⟩ (by simp) (by simp) (rej_first (N + 3) s n p l q.c q.t a e hp ha hps hh)⟩
  · have hpos : 0 < q.es.length := List.length_pos_iff.2 he
    have hP' : ¬ passes n p a q = true := by simp [passes]; intro h; exact absurd h he
    have hs : heldS q.es = [slot0 q.es] := by rw [heldS, if_neg he]
    by_cases hh : q.es.length < l
    · have hH : holds l q = true := by simp [holds, hh]
      rw [arrT, if_neg hP', if_neg hP', if_neg hP', if_pos hH, if_pos hH, hs]
      refine ⟨[], stepOk_of N s n p l _ _ _ _ [slot0 q.es] (heldS (q.es ++ [e])) [] [] [] 1 (Int.ofNat a) _ (noteC e) ⟨e, e, .inl ⟨rfl, rfl⟩⟩ (by simp) (by simp [slot0]; omega) ?_⟩
      have : heldS (q.es ++ [e]) = [slot0 (q.es ++ [e])] := by rw [heldS, if_neg (by simp)]
      rw [this]
      exact hold_more (N + 3) s n p l q.c q.t a e q.es ha hpos hl hh hl2
    · have hH : ¬ holds l q = true := by simp [holds, hh]
      rw [arrT, if_neg hP', if_neg hP', if_neg hP', if_neg hH, if_neg hH, hs]
      exact ⟨[fateR s e], stepOk_of N s n p l _ _ _ _ [slot0 q.es] [slot0 q.es] [] [noteM e] [fateR s e] 1 (Int.ofNat a) _ (noteC e) ⟨e, e, .inl ⟨rfl, rfl⟩⟩ (by simp) (by simp [slot0]; omega) (rej_more (N + 3) s n p l q.c q.t a e q.es ha hpos hl hh)⟩
end

end Go.Proofs.Ytjfheahakfoofaa

/- ThrottleWindows, walked. -/
namespace Go.Proofs.Ytjfheahakfoofaa
open Go.Em

theorem known_399 : Gam.pureD (callF tab ext 399) 8 [] = some (.v (.bool true)) := pureD_of known_true rfl
def tName : ByteArray := ⟨#[116]⟩
/-- The node of a law, as it lies in its variable. -/
noncomputable def nodeV (kind : Int) (s : ByteArray) (n p l : Nat) : List X := match zeroP Try.prog 36 with
  | some z => ((((z.set 0 (text s)).set 1 (num kind)).set 4 (nat n)).set 5 (nat (p + 1))).set 6 (nat l)
  | none => []
def rowN (l : List Nat) : List (List X) := l.map fun a => [nat a]
theorem rowN_length (l : List Nat) : (rowN l).length = l.length := by simp [rowN]
theorem rowN_get {l : List Nat} {j : Nat} (h : j < l.length) : (rowN l)[j]? = some [nat l[j]] := by simp [rowN, h]
theorem rowI_nat (l : List Nat) : rowI (l.map Int.ofNat) = rowN l := by simp only [rowI, rowN, List.map_map]; rfl
theorem min60 (k : Nat) : (if (60 : Int) < Int.ofNat k then (60 : Int) else Int.ofNat k) = Int.ofNat (min k 60) := by
  simp only [Int.ofNat_eq_natCast]; split <;> omega
theorem byte_int {w : Nat} (hw : w < 256) : IntKind.i64.wrap (Int.ofNat w) = Int.ofNat w := by rw [IntKind.wrap_i64]; simp only [Int.ofNat_eq_natCast]; omega
theorem one_int {w : Nat} (hw : w < 256) : IntKind.i64.wrap (1 + Int.ofNat w) = Int.ofNat (w + 1) := by rw [IntKind.wrap_i64]; simp only [Int.ofNat_eq_natCast]; omega
theorem eq_nat {a b : Nat} (h : a = b) : (Int.ofNat a == Int.ofNat b) = true := by subst h; simp
theorem neq_nat {a b : Nat} (h : ¬ a = b) : (Int.ofNat a == Int.ofNat b) = false := by
  have : Int.ofNat a ≠ Int.ofNat b := by simp only [Int.ofNat_eq_natCast]; omega
  simpa using this

section
variable (s : ByteArray) (n p l : Nat) (tn : List Nat)
def cw (a j : Nat) : Nat := (tn.take j).countP fun x => decide (win p x = win p a)
theorem cw_succ (a j : Nat) (h : j < tn.length) : cw p tn a (j + 1) = cw p tn a j + (if win p tn[j] = win p a then 1 else 0) := by
  unfold cw
  rw [List.take_succ_eq_append_getElem h, List.countP_append]
  simp [List.countP_cons]

noncomputable def wiH (i c j : Nat) : St := ⟨[(5, .ptr 0 0 0), (6, .sl false 1 (rowN tn)), (10, nat i), (11, nat c), (12, nat j)], [.var (nodeV 7 s n p l)]⟩
noncomputable def wiE (i c j : Nat) : St := ⟨[(5, .ptr 0 0 0), (6, .sl false 1 (rowN tn)), (10, nat i), (11, nat c), (12, nat j), (48, .v (.bool false))], [.var (nodeV 7 s n p l)]⟩
noncomputable def woH (i : Nat) : St := ⟨[(5, .ptr 0 0 0), (6, .sl false 1 (rowN tn)), (10, nat i)], [.var (nodeV 7 s n p l)]⟩
noncomputable def woE (i : Nat) : St := ⟨[(5, .ptr 0 0 0), (6, .sl false 1 (rowN tn)), (10, nat i), (42, .v (.bool false))], [.var (nodeV 7 s n p l)]⟩
theorem wi_canon (i c j : Nat) : canon 0 (wiH s n p l tn i c j) = some (wiH s n p l tn i c j) := by kernel_rfl
theorem wo_canon (i : Nat) : canon 0 (woH s n p l tn i) = some (woH s n p l tn i) := by kernel_rfl

theorem wi_yes (i c j : Nat) (hi : i < tn.length) (hj : j < tn.length) (hl : tn.length < 10000) (hb : ∀ a, a ∈ tn → a < 4611686018427387904) (hp : p < 17592186044416) (hc : c < 4294967296) (h : win p tn[j] = win p tn[i]) :
    run (callF tab ext 399) 0 399 (loopOf tab 3 1) (wiH s n p l tn i c j) = some (.norm, wiH s n p l tn i (c + 1) (j + 1)) :=
  run_of [(48, .b true), (54, .e [nat tn[j]]), (56, .p (nat (win p tn[j]))), (60, .e [nat tn[i]]), (62, .p (nat (win p tn[i]))), (63, .b true), (65, .i (Int.ofNat (c + 1))), (50, .i (Int.ofNat (j + 1)))] []
    (pf8 (show decide (Int.ofNat j < Int.ofNat (rowN tn).length) = true from lt_nat (by rw [rowN_length]; exact hj)) (rowN_get hj) (window_nat 378 7 s n p l tn[j] hp (hb _ (List.getElem_mem _))) (rowN_get hi) (window_nat 378 7 s n p l tn[i] hp (hb _ (List.getElem_mem _))) (eq_nat h) (next_nat (j := c) hc) (next_nat (j := j) (by omega))) (lo' := []) (by kernel_rfl)
theorem wi_no (i c j : Nat) (hi : i < tn.length) (hj : j < tn.length) (hl : tn.length < 10000) (hb : ∀ a, a ∈ tn → a < 4611686018427387904) (hp : p < 17592186044416) (h : ¬ win p tn[j] = win p tn[i]) :
    run (callF tab ext 399) 0 399 (loopOf tab 3 1) (wiH s n p l tn i c j) = some (.norm, wiH s n p l tn i c (j + 1)) :=
  run_of [(48, .b true), (54, .e [nat tn[j]]), (56, .p (nat (win p tn[j]))), (60, .e [nat tn[i]]), (62, .p (nat (win p tn[i]))), (63, .b false), (50, .i (Int.ofNat (j + 1)))] []
    (pf7 (show decide (Int.ofNat j < Int.ofNat (rowN tn).length) = true from lt_nat (by rw [rowN_length]; exact hj)) (rowN_get hj) (window_nat 378 7 s n p l tn[j] hp (hb _ (List.getElem_mem _))) (rowN_get hi) (window_nat 378 7 s n p l tn[i] hp (hb _ (List.getElem_mem _))) (neq_nat h) (next_nat (j := j) (by omega))) (lo' := []) (by kernel_rfl)
theorem wi_end (i c : Nat) : run (callF tab ext 399) 0 399 (loopOf tab 3 1) (wiH s n p l tn i c tn.length) = some (.exit 2, wiE s n p l tn i c tn.length) :=
  run_of [(48, .b false)] [] (pf1 (show decide (Int.ofNat tn.length < Int.ofNat (rowN tn).length) = false from nlt_nat (by rw [rowN_length]; omega))) (lo' := []) (by kernel_rfl)

theorem wi_loop (i : Nat) (hi : i < tn.length) (hl : tn.length < 390) (hb : ∀ a, a ∈ tn → a < 4611686018427387904) (hp : p < 17592186044416) :
    run (callF tab ext 399) 0 399 (.loop (loopOf tab 3 1)) (wiH s n p l tn i 0 0) = some (.exit 2, wiE s n p l tn i (cw p tn tn[i] tn.length) tn.length) := by
  refine loop_for (σ := fun j => wiH s n p l tn i (cw p tn tn[i] j) j) (k := tn.length) ?_ (fun j hj => ?_) (wi_end s n p l tn i _) (by simp) (by omega)
  · have : cw p tn tn[i] 0 = 0 := by simp [cw]
    rw [this]; exact wi_canon s n p l tn i 0 0
  · have hc : cw p tn tn[i] j ≤ j := by
      unfold cw
      refine Nat.le_trans (List.countP_le_length) ?_
      simp; omega
    rw [cw_succ p tn _ j hj]
    by_cases h : win p tn[j] = win p tn[i]
    · rw [if_pos h]
      exact ⟨_, wi_yes s n p l tn i _ j hi hj (by omega) hb hp (by omega) h, wi_canon s n p l tn i _ _⟩
    · rw [if_neg h]
      exact ⟨_, wi_no s n p l tn i _ j hi hj (by omega) hb hp h, wi_canon s n p l tn i _ _⟩

theorem wo_step (i : Nat) (hi : i < tn.length) (hl : tn.length < 390) (hb : ∀ a, a ∈ tn → a < 4611686018427387904) (hp : p < 17592186044416) (hok : cw p tn tn[i] tn.length ≤ n) :
    run (callF tab ext 399) 0 399 (loopOf tab 3 0) (woH s n p l tn i) = some (.norm, woH s n p l tn (i + 1)) :=
  run_of [(42, .b true), (69, .b false), (44, .i (Int.ofNat (i + 1)))] [(.exit 2, wiE s n p l tn i (cw p tn tn[i] tn.length) tn.length)]
    (pf4 (show decide (Int.ofNat i < Int.ofNat (rowN tn).length) = true from lt_nat (by rw [rowN_length]; exact hi)) (wi_loop s n p l tn i hi hl hb hp) (ngt_nat (j := cw p tn tn[i] tn.length) (k := n) (by omega)) (next_nat (j := i) (by omega))) (lo' := []) (by kernel_rfl)
theorem wo_end : run (callF tab ext 399) 0 399 (loopOf tab 3 0) (woH s n p l tn tn.length) = some (.exit 0, woE s n p l tn tn.length) :=
  run_of [(42, .b false)] [] (pf1 (show decide (Int.ofNat tn.length < Int.ofNat (rowN tn).length) = false from nlt_nat (by rw [rowN_length]; omega))) (lo' := []) (by kernel_rfl)

theorem wo_loop (τ : St) (hτ : canon 0 τ = some (woH s n p l tn 0)) (hl : tn.length < 390) (hb : ∀ a, a ∈ tn → a < 4611686018427387904) (hp : p < 17592186044416) (hok : ∀ i (h : i < tn.length), cw p tn tn[i] tn.length ≤ n) :
    run (callF tab ext 399) 0 399 (.loop (loopOf tab 3 0)) τ = some (.exit 0, woE s n p l tn tn.length) :=
  loop_for (σ := fun i => woH s n p l tn i) (k := tn.length) hτ (fun i hi => ⟨_, wo_step s n p l tn i hi hl hb hp (hok i hi), wo_canon s n p l tn _⟩) (wo_end s n p l tn) (by simp) (by omega)
end

/-- The three numbers of a law, as they come. -/
def boundsC (n p l : Nat) : X := .agg [.v (.int .u8 (Int.ofNat n)), .v (.int .u8 (Int.ofNat p)), .v (.int .u8 (Int.ofNat l))]
noncomputable def wStart (n p l : Nat) (tn : List Nat) (c t : Int) (ss : List (List X)) : St := ⟨[(5, .ptr 1 0 0), (6, .sl false 1 (rowN tn)), (10, nat 0)], [.var [.v (.int .u8 (Int.ofNat n)), .v (.int .u8 (Int.ofNat p)), .v (.int .u8 (Int.ofNat l))], .var (nodeV 7 tName n p l), .var (stC c t ss)]⟩

theorem windows_true (n p l : Nat) (moves : List (List X)) (tn : List Nat) (lf rj : List (List X)) (c t : Int) (ss : List (List X)) (hn : n < 256) (hp : p < 256) (hl : l < 256)
    (hrun : Gam.pureD (callF tab ext 399) 7 [nodeT 7 tName n p l, .sl false 2 (moves.take (min moves.length 60))] = some (.tup [.sl false 1 (rowN tn), .sl false 1 lf, .sl false 1 rj, .agg (stC c t ss)]))
    (hlen : tn.length < 390) (hb : ∀ a, a ∈ tn → a < 4611686018427387904) (hok : ∀ i (h : i < tn.length), cw p tn tn[i] tn.length ≤ n) :
    callF tab ext 400 (.fn 3) [boundsC n p l, .sl false 2 moves] [] = some (.v (.bool true), []) :=
  callF_of [(16, .i (Int.ofNat (min moves.length 60))), (17, .cut), (20, .i (Int.ofNat n)), (23, .i (Int.ofNat p)), (24, .i (Int.ofNat (p + 1))), (27, .i (Int.ofNat l)), (32, .p (.tup [.sl false 1 (rowN tn), .sl false 1 lf, .sl false 1 rj, .agg (stC c t ss)])), (37, .p (.v (.bool true)))]
    [(.exit 0, woE tName n p l tn tn.length)]
    (pf9 (min60 moves.length) (show 0 ≤ min moves.length 60 ∧ min moves.length 60 ≤ moves.length by omega) (byte_int hn) (byte_int hp) (one_int hp) (byte_int hl) hrun known_399
      (wo_loop tName n p l tn (wStart n p l tn c t ss) (by kernel_rfl) hlen hb (by omega) hok)) (by kernel_rfl)
end Go.Proofs.Ytjfheahakfoofaa

/- The runs of a throttle, in plain words: bounds, and windows. -/
namespace Go.Proofs.Ytjfheahakfoofaa
open Go.Em

structure Tr where
  now : Nat
  ts : List Nat
  lf : List Int
  rj : List Int
  q : Ts
section
variable (n p l : Nat)
def tickR (w : Nat) (x : Tr) : Tr :=
  ⟨x.now + w, x.ts ++ List.replicate (gone n p (x.now + w) x.q) (x.now + w), x.lf ++ x.q.es.take (gone n p (x.now + w) x.q), x.rj, tickT n p (x.now + w) x.q⟩
def arrR (e : Int) (x : Tr) : Tr :=
  ⟨x.now, x.ts ++ (if passes n p x.now x.q then [x.now] else []), x.lf ++ leftT n p x.now e x.q, x.rj ++ rejT n p l x.now e x.q, arrT n p l x.now e x.q⟩
def moveR (i : Nat) (m : Nat × Bool) (x : Tr) : Tr := if m.2 then arrR n p l (Int.ofNat (i + 1)) (tickR n p m.1 x) else tickR n p m.1 x
def seqR (l0 : List (Nat × Bool)) : Nat → Tr
  | 0 => ⟨0, [], [], [], ⟨0, 0, []⟩⟩
  | i + 1 => moveR n p l i (l0.getD i (0, false)) (seqR l0 i)
end

theorem win_mono (p : Nat) {a b : Nat} (h : a ≤ b) : win p a ≤ win p b := by
  have e : ∀ x, win p x = (p + 1) * (x / (p + 1)) := fun x => by have := Nat.div_add_mod x (p + 1); simp only [win]; omega
  rw [e, e]
  exact Nat.mul_le_mul_left _ (Nat.div_le_div_right h)
theorem win_le (p a : Nat) : win p a ≤ a := by simp only [win]; omega
theorem cnt_le (p c t a : Nat) : cnt p c t a ≤ c := by unfold cnt; split <;> omega
theorem gone_le (n p a : Nat) (q : Ts) : gone n p a q ≤ q.es.length := Nat.min_le_left _ _

/-- How great a run can become. -/
structure Bnd (i : Nat) (x : Tr) : Prop where
  sum : x.ts.length + x.q.es.length ≤ i
  lf : x.lf.length = x.ts.length
  rj : x.rj.length ≤ i
  c : x.q.c ≤ x.ts.length
  now : x.now ≤ 255 * i

theorem tickR_bnd {n p i w : Nat} {x : Tr} (h : Bnd i x) (hw : w < 256) : Bnd i { tickR n p w x with now := 0 } ∧ (tickR n p w x).now ≤ 255 * i + 255 := by
  obtain ⟨h1, h2, h3, h4, h5⟩ := h
  have hg := gone_le n p (x.now + w) x.q
  have hc := cnt_le p x.q.c x.q.t (x.now + w)
  refine ⟨⟨?_, ?_, h3, ?_, Nat.zero_le _⟩, ?_⟩
  · simp only [tickR, tickT, List.length_append, List.length_replicate]
    split
    · omega
    · simp only [List.length_drop]; omega
  · simp only [tickR, List.length_append, List.length_replicate, List.length_take]; omega
  · simp only [tickR, tickT, List.length_append, List.length_replicate]
    split
    · omega
    · dsimp only; omega
  · simp only [tickR]; omega

theorem arrR_bnd {n p l i : Nat} {e : Int} {x : Tr} (h : Bnd i { x with now := 0 }) (hn : x.now ≤ 255 * i + 255) : Bnd (i + 1) (arrR n p l e x) := by
  obtain ⟨h1, h2, h3, h4, h5⟩ := h
  dsimp only at h1 h2 h3 h4
  have hc := cnt_le p x.q.c x.q.t x.now
  unfold arrR leftT rejT arrT
  by_cases hp : passes n p x.now x.q = true
  · simp only [hp, if_true]
    have he : x.q.es.length = 0 := by simp only [passes, decide_eq_true_eq] at hp; exact hp.1
    refine ⟨by simp; omega, by simp [h2], by simp; omega, by simp; omega, by dsimp only; omega⟩
  · simp only [hp, if_false]
    by_cases hh : holds l x.q = true
    · simp only [hh, if_true]
      exact ⟨by simp; omega, by simp [h2], by simp; omega, by simpa using h4, by dsimp only; omega⟩
    · simp only [hh, if_false]
      exact ⟨by simp; omega, by simp [h2], by simp; omega, by simpa using h4, by dsimp only; omega⟩

theorem moveR_bnd {n p l i : Nat} {m : Nat × Bool} {x : Tr} (h : Bnd i x) (hw : m.1 < 256) : Bnd (i + 1) (moveR n p l i m x) := by
  obtain ⟨h1, h2⟩ := tickR_bnd (n := n) (p := p) h hw
  unfold moveR
  split
  · exact arrR_bnd h1 h2
  · exact ⟨Nat.le_succ_of_le h1.sum, h1.lf, Nat.le_succ_of_le h1.rj, h1.c, by omega⟩

def okMoves (l0 : List (Nat × Bool)) : Prop := ∀ m, m ∈ l0 → m.1 < 256
theorem okMoves_get {l0 : List (Nat × Bool)} (h : okMoves l0) (i : Nat) : (l0.getD i (0, false)).1 < 256 := by
  by_cases hi : i < l0.length
  · have : l0.getD i (0, false) = l0[i] := by simp [List.getD, hi]
    rw [this]; exact h _ (List.getElem_mem hi)
  · have : l0.getD i (0, false) = (0, false) := by simp [List.getD]; rw [List.getElem?_eq_none (by omega)]; rfl
    rw [this]; decide

theorem seqR_bnd {n p l : Nat} {l0 : List (Nat × Bool)} (h : okMoves l0) : ∀ i, Bnd i (seqR n p l l0 i)
  | 0 => ⟨by simp [seqR], rfl, by simp [seqR], by simp [seqR], by simp [seqR]⟩
  | i + 1 => moveR_bnd (seqR_bnd h i) (okMoves_get h i)

/-- No window lets too many pass. -/
structure Wn (n p : Nat) (x : Tr) : Prop where
  t : x.q.t ≤ win p x.now
  le : ∀ a, a ∈ x.ts → win p a ≤ x.q.t
  cn : x.q.c ≤ n
  cnt : x.ts.countP (fun a => decide (win p a = x.q.t)) ≤ x.q.c
  all : ∀ w, x.ts.countP (fun a => decide (win p a = w)) ≤ n

theorem wn_add {n p a k : Nat} {x y : Tr} (h : Wn n p x) (ha : x.now ≤ a) (hk : k ≤ n - cnt p x.q.c x.q.t a) (h0 : k ≠ 0) (e1 : y.now = a) (e2 : y.ts = x.ts ++ List.replicate k a) (e3 : y.q.c = cnt p x.q.c x.q.t a + k) (e4 : y.q.t = max x.q.t (win p a)) : Wn n p y := by
  have hm := win_mono p ha
  have h1 := h.t
  have ht : y.q.t = win p a := by rw [e4]; omega
  have hrep : ∀ w, (List.replicate k a).countP (fun a => decide (win p a = w)) = if win p a = w then k else 0 := by
    intro w; rw [List.countP_replicate]; simp
  have hcount : x.ts.countP (fun b => decide (win p b = win p a)) ≤ cnt p x.q.c x.q.t a := by
    unfold cnt
    split
    · rename_i hlt
      rw [Nat.le_zero, List.countP_eq_zero]
      intro b hb
      have := h.le b hb
      simp; omega
    · rename_i hge
      have : win p a = x.q.t := by omega
      rw [this]; exact h.cnt
  have hcn := cnt_le p x.q.c x.q.t a
  have h3 := h.cn
  refine ⟨by rw [ht, e1]; exact Nat.le_refl _, fun b hb => ?_, by omega, ?_, fun w => ?_⟩
  · rw [e2] at hb
    rcases List.mem_append.1 hb with hb | hb
    · have := h.le b hb; omega
    · rw [List.eq_of_mem_replicate hb, ht]; exact Nat.le_refl _
  · rw [e2, List.countP_append, hrep, ht, if_pos rfl, e3]; omega
  · rw [e2, List.countP_append, hrep]
    split
    · rename_i hw; rw [← hw]; omega
    · exact h.all w

theorem wn_stay {n p : Nat} {x y : Tr} (h : Wn n p x) (ha : x.now ≤ y.now) (e2 : y.ts = x.ts) (e3 : y.q.c = x.q.c) (e4 : y.q.t = x.q.t) : Wn n p y := by
  have hm := win_mono p ha
  have h1 := h.t
  exact ⟨by rw [e4]; omega, by rw [e2, e4]; exact h.le, by rw [e3]; exact h.cn, by rw [e2, e3, e4]; exact h.cnt, by rw [e2]; exact h.all⟩

theorem wn_move {n p l i : Nat} {m : Nat × Bool} {x : Tr} (h : Wn n p x) : Wn n p (moveR n p l i m x) := by
  have h1 : Wn n p (tickR n p m.1 x) := by
    by_cases hg : gone n p (x.now + m.1) x.q = 0
    · exact wn_stay h (by simp [tickR]) (by simp [tickR, hg]) (by simp [tickR, tickT, hg]) (by simp [tickR, tickT, hg])
    · exact wn_add h (a := x.now + m.1) (k := gone n p (x.now + m.1) x.q) (by omega) (Nat.min_le_right _ _) hg rfl rfl (by simp only [tickR, tickT, hg, if_false]) (by simp only [tickR, tickT, hg, if_false])
  unfold moveR
  split
  · generalize tickR n p m.1 x = y at h1 ⊢
    by_cases hp : passes n p y.now y.q = true
    · refine wn_add h1 (a := y.now) (k := 1) (Nat.le_refl _) ?_ (by omega) rfl (by simp [arrR, hp]) (by simp [arrR, arrT, hp]) (by simp [arrR, arrT, hp])
      simp only [passes, decide_eq_true_eq] at hp
      omega
    · refine wn_stay h1 (Nat.le_refl _) (by simp [arrR, hp]) ?_ ?_
      · simp only [arrR, arrT, hp, if_false, Bool.false_eq_true]; split <;> rfl
      · simp only [arrR, arrT, hp, if_false, Bool.false_eq_true]; split <;> rfl
  · exact h1

theorem seqR_wn {n p l : Nat} {l0 : List (Nat × Bool)} : ∀ i, Wn n p (seqR n p l l0 i)
  | 0 => ⟨by simp [seqR], by simp [seqR], by simp [seqR], by simp [seqR], by simp [seqR]⟩
  | i + 1 => wn_move (seqR_wn i)

/-- What the run of the program comes to. -/
def Tr.rs (x : Tr) : Rs := ⟨x.now, x.ts.map Int.ofNat, x.lf, x.rj, Int.ofNat x.q.c, Int.ofNat x.q.t, slotsC (heldS x.q.es)⟩

theorem nows_const (a : Nat) (os : List Ms) : nows a os = (List.replicate os.length a).map Int.ofNat := by
  simp [nows, List.map_const']

theorem move_ok (N : Nat) (s : ByteArray) (n p l : Nat) (i : Nat) (m : Nat × Bool) (x : Tr) (h : Bnd i x) (hi : i < 60) (hw : m.1 < 256) (hn : n < 256) (hp : p < 256) (hl : l < 256) :
    MoveOk N 7 s n p l i m x.rs (moveR n p l i m x).rs := by
  obtain ⟨h1, h2, h3, h4, h5⟩ := h
  have hc := cnt_le p x.q.c x.q.t (x.now + m.1)
  have hg := gone_le n p (x.now + m.1) x.q
  obtain ⟨f1, hs1⟩ := t_tick N s n p l (x.now + m.1) (Int.ofNat (i + 1)) x.q (by omega) (by omega) (by omega) (by omega) (by omega)
  refine ⟨hw, by simp only [Tr.rs]; omega, by simp [Tr.rs]; omega, by simp [Tr.rs]; omega, by simp [Tr.rs]; omega, _, _, _, _, _, f1, by rw [movedM_length]; omega, by simp, hs1, ?_⟩
  have hgl : (movedM (Int.ofNat (i + 1)) x.q.es (gone n p (x.now + m.1) x.q)).length = gone n p (x.now + m.1) x.q := movedM_length _ _ _
  have ht := tickR_bnd (n := n) (p := p) (w := m.1) ⟨h1, h2, h3, h4, h5⟩ hw
  by_cases hb : m.2 = true
  · right
    refine ⟨hb, ?_⟩
    have hc2 := cnt_le p (tickT n p (x.now + m.1) x.q).c (tickT n p (x.now + m.1) x.q).t (x.now + m.1)
    have e1 := ht.1.sum
    have e2 := ht.1.c
    simp only [tickR, List.length_append, List.length_replicate] at e1 e2
    obtain ⟨f2, hs2⟩ := t_arrive N s n p l (x.now + m.1) (Int.ofNat (i + 1)) (tickT n p (x.now + m.1) x.q) (by omega) (by omega) (by omega) (by omega) (by omega)
    refine ⟨_, _, _, _, _, f2, ?_, ?_, hs2, ?_⟩
    · split <;> simp
    · split
      · simp
      · split <;> simp
    · simp only [moveR, hb, if_true, Tr.rs, arrR, tickR, leftT, rejT, nows_const, hgl, movedM_fsts _ _ _ hg, List.map_append, Rs.mk.injEq]
      refine ⟨trivial, ?_, ?_, ?_, trivial, trivial, trivial⟩
      · by_cases hps : passes n p (x.now + m.1) (tickT n p (x.now + m.1) x.q) = true
        · simp [hps]
        · simp [hps]
      · by_cases hps : passes n p (x.now + m.1) (tickT n p (x.now + m.1) x.q) = true
        · simp [hps, fsts, noteM]
        · simp [hps, fsts]
      · by_cases hps : passes n p (x.now + m.1) (tickT n p (x.now + m.1) x.q) = true
        · simp [hps, fsts]
        · by_cases hh : holds l (tickT n p (x.now + m.1) x.q) = true
          · simp [hps, hh, fsts]
          · simp [hps, hh, fsts, noteM]
  · left
    refine ⟨by simpa using hb, ?_⟩
    have hb' : m.2 = false := by simpa using hb
    have e1 : fsts (movedM (Int.ofNat (i + 1)) x.q.es (gone n p (x.now + m.1) x.q)) = x.q.es.take (gone n p (x.now + m.1) x.q) := movedM_fsts _ _ _ hg
    have e2 : fsts [] = [] := rfl
    simp only [moveR, hb', Bool.false_eq_true, if_false, Tr.rs, tickR, nows_const, hgl, e1, e2, List.map_append, List.append_nil]

theorem seq_pure (N : Nat) (s : ByteArray) (n p l : Nat) (l0 : List (Nat × Bool)) (hl0 : l0.length ≤ 60) (hm : okMoves l0) (hn : n < 256) (hp : p < 256) (hl : l < 256) :
    Gam.pureD (callF tab ext (N + 91)) 7 [nodeT 7 s n p l, .sl false 2 (movesC l0)] = some (.tup [.sl false 1 (rowN (seqR n p l l0 l0.length).ts), .sl false 1 (rowI (seqR n p l l0 l0.length).lf), .sl false 1 (rowI (seqR n p l l0 l0.length).rj),
      .agg (stC (Int.ofNat (seqR n p l l0 l0.length).q.c) (Int.ofNat (seqR n p l l0 l0.length).q.t) (slotsC (heldS (seqR n p l l0 l0.length).q.es)))]) := by
  have h := run_pure N 7 s n p l l0 (fun i => (seqR n p l l0 i).rs) (by simp [seqR, Tr.rs, rs0, heldS, slotsC]) (by omega) (fun i hi => by
    have e : l0[i] = l0.getD i (0, false) := by simp [List.getD, hi]
    have := move_ok N s n p l i (l0.getD i (0, false)) (seqR n p l l0 i) (seqR_bnd hm i) (by omega) (okMoves_get hm i) hn hp hl
    rw [e]
    exact this)
  rw [h]
  simp only [Tr.rs, rowI_nat]

theorem windows_all (n p l : Nat) (l0 : List (Nat × Bool)) (hm : okMoves l0) (hn : n < 256) (hp : p < 256) (hl : l < 256) :
    callF tab ext 400 (.fn 3) [boundsC n p l, .sl false 2 (movesC l0)] [] = some (.v (.bool true), []) := by
  have hm' : okMoves (l0.take 60) := fun m hx => hm m (List.mem_of_mem_take hx)
  have hlen : (l0.take 60).length ≤ 60 := by simp; omega
  have hb := seqR_bnd (n := n) (p := p) (l := l) hm' (l0.take 60).length
  have hrun := seq_pure 308 tName n p l (l0.take 60) hlen hm' hn hp hl
  have hmv : movesC (l0.take 60) = (movesC l0).take (min (movesC l0).length 60) := by
    rw [movesC, movesC, List.map_take, List.length_map]
    rw [Nat.min_comm, List.take_eq_take_min]
    simp [Nat.min_comm]
  rw [hmv] at hrun
  have hwn := seqR_wn (n := n) (p := p) (l := l) (l0 := l0.take 60) (l0.take 60).length
  have hsum := hb.sum
  refine windows_true n p l (movesC l0) (seqR n p l (l0.take 60) (l0.take 60).length).ts _ _ _ _ _ hn hp hl hrun (by omega) (fun a ha => ?_) (fun i hi => ?_)
  · have h1 := hwn.le a ha
    have h2 := hwn.t
    have h3 := win_le p (seqR n p l (l0.take 60) (l0.take 60).length).now
    have h4 := hb.now
    have h5 : a < win p a + (p + 1) := by have := Nat.mod_lt a (show p + 1 > 0 by omega); simp only [win]; omega
    omega
  · have := hwn.all (win p (seqR n p l (l0.take 60) (l0.take 60).length).ts[i])
    unfold cw
    rw [List.take_length]
    exact this

end Go.Proofs.Ytjfheahakfoofaa

/- The abstract machine with this table is sound for the program. -/
namespace Go.Proofs.Ytjfheahakfoofaa
open Go.RowKit

set_option maxHeartbeats 1000000 in
theorem compare_calls (a b : ByteArray) (w : World) :
    Calls Try.prog 67 #[.string a, .string b] w fun e w' => e = .returned (.int .i64 (Lib.compareBytes a.data.toList b.data.toList)) ∧ w' = w := by
  go_enter Try.func67, Try.ntmps67
  go_wp2
  rw [run_callFunc_extern Try.func69 (by kernel_rfl) (by kernel_rfl) (by kernel_rfl) (e := Extern.BytealgCompare.compare) (by kernel_rfl), Lib.run_compareString]
  simp only [Result.andThen]
  rw [Oper.upon_value]
  go_wp2
  go_ret
  exact ⟨rfl, rfl⟩

open Go.Em

theorem tabOk : TabOk Try.prog tab := by
  intro f fd h
  unfold tab at h
  split at h
  · exact ⟨_, h⟩
  · cases h

theorem extOk : ExtOk Try.prog ext := by
  intro f g hg args inb res outb h
  unfold ext at hg
  split at hg
  · rename_i hf
    have hf' : f = 67 := by simpa using hf
    subst hf'
    simp only [Option.some.injEq] at hg
    subst hg
    unfold compareExt at h
    split at h
    · rename_i a b
      simp only [Option.some.injEq, Prod.mk.injEq] at h
      obtain ⟨rfl, rfl⟩ := h
      refine ⟨fnOk Try.func67 (fun e => absurd e (of_decide_eq_false (by kernel_rfl))) (fun e => by simpa [e] using (show Try.f67.body.isSome = true by kernel_rfl)), fsem_pure rfl fun cargs w K C ha => ?_⟩
      have h2 : cargs = #[.string a, .string b] := by
        have hs : cargs.size = 2 := ha.1
        have r0 := rep_v (ha.2 0 _ cargs[0] rfl (Array.getElem?_eq_getElem (by omega)))
        have r1 := rep_v (ha.2 1 _ cargs[1] rfl (Array.getElem?_eq_getElem (by omega)))
        refine Array.ext (by simp [hs]) fun i h1 h2 => ?_
        match i, h1, h2 with
        | 0, _, _ => simpa using r0
        | 1, _, _ => simpa using r1
        | i + 2, h1, _ => omega
      rw [h2]
      exact compare_calls a b w
    · cases h
  · cases hg

theorem machine (n : Nat) : GamOk Try.prog (RCode Try.prog) (callF tab ext n) := callF_ok tabOk extOk n

end Go.Proofs.Ytjfheahakfoofaa

/- The arguments of the laws about runs. -/
namespace Go.Proofs.Ytjfheahakfoofaa
open Go.Em Go.RowKit

theorem Try.own : ownKnob Try.prog.godebug = none := by kernel_rfl
theorem Try.laidOut : laidOutB Try.prog = true := by kernel_rfl
theorem Try.rowed : mapsRowed Try.prog = true := by kernel_rfl
/-- Types of data: numbers, truth values, the moves. -/
def tys : List TypeId := [3, 4, 5, 22, 23, 57]
theorem tys_ok : dataTys Try.prog tys = true := by kernel_rfl
theorem tys_size : tys.all (fun t => decide (t < Try.prog.types.size)) = true := by kernel_rfl
theorem tys_lt {t : TypeId} (h : t ∈ tys) : t < Try.prog.types.size := of_decide_eq_true (List.all_eq_true.1 tys_size t h)
theorem tys_kids : Kids Try.prog (fun t => t ∈ tys ∧ t < Try.prog.types.size) := kids_data (kids_rows Try.laidOut Try.rowed) tys_ok

def fieldsOf (P : Program) (t : TypeId) : Array Field := match P.underlying t with
  | some (.struct fs) => fs
  | _ => #[]
theorem under5 : Try.prog.underlying 5 = some (.int .u8) := by kernel_rfl
theorem under4 : Try.prog.underlying 4 = some .bool := by kernel_rfl
theorem under22 : Try.prog.underlying 22 = some (.array 3 5) := by kernel_rfl
theorem under23 : Try.prog.underlying 23 = some (.slice 57) := by kernel_rfl
theorem under57 : Try.prog.underlying 57 = some (.struct (fieldsOf Try.prog 57)) := by kernel_rfl
theorem fields57 : (fieldsOf Try.prog 57).toList.map (·.type) = [5, 4] := by kernel_rfl
theorem cells57 : Try.prog.cellsOf 57 = 2 := by kernel_rfl

theorem shape_byte {n : Nat} {xs : List X} (h : Shape Try.prog n 5 xs) : ∃ w : Nat, xs = [.v (.int .u8 (Int.ofNat w))] ∧ w < 256 := by
  obtain ⟨v, rfl, hw⟩ := shape_int under5 h
  have h0 : IntKind.u8.min = 0 := by decide
  have h1 : IntKind.u8.max = 255 := by decide
  simp only [Lit.wf, h0, h1, Bool.and_eq_true, decide_eq_true_eq] at hw
  refine ⟨v.toNat, ?_, by omega⟩
  have : Int.ofNat v.toNat = v := by simp only [Int.ofNat_eq_natCast]; omega
  rw [this]

theorem shape_bounds {n : Nat} {xs : List X} (h : Shape Try.prog n 22 xs) : ∃ a b c : Nat, X.agg xs = boundsC a b c ∧ a < 256 ∧ b < 256 ∧ c < 256 := by
  obtain ⟨k, _, hk⟩ := shape_array under22 h
  obtain ⟨x0, r0, rfl, h0, hk⟩ := hk
  obtain ⟨x1, r1, rfl, h1, hk⟩ := hk
  obtain ⟨x2, r2, rfl, h2, hk⟩ := hk
  have hk : r2 = [] := hk
  subst hk
  obtain ⟨a, rfl, ha⟩ := shape_byte h0
  obtain ⟨b, rfl, hb⟩ := shape_byte h1
  obtain ⟨c, rfl, hc⟩ := shape_byte h2
  exact ⟨a, b, c, rfl, ha, hb, hc⟩

set_option maxRecDepth 100000 in
theorem shape_moves {n : Nat} {xs : List X} (h : Shape Try.prog n 23 xs) : ∃ l0, xs = [.sl false 2 (movesC l0)] ∧ okMoves l0 := by
  obtain ⟨es, rfl, _, m, _, hes⟩ := shape_slice under23 h
  rw [cells57]
  have hone : ∀ c, c ∈ es → ∃ mv : { mv : Nat × Bool // mv.1 < 256 }, c = moveC mv.1 := by
    intro c hc
    obtain ⟨k, _, hk⟩ := shape_struct under57 (hes c hc)
    rw [fields57] at hk
    obtain ⟨x0, r0, rfl, h0, hk⟩ := hk
    obtain ⟨x1, r1, rfl, h1, hk⟩ := hk
    have hk : r1 = [] := hk
    subst hk
    obtain ⟨w, rfl, hw⟩ := shape_byte h0
    obtain ⟨b, rfl⟩ := shape_bool under4 h1
    exact ⟨⟨(w, b), hw⟩, rfl⟩
  obtain ⟨l, rfl⟩ := list_of (fun mv : { mv : Nat × Bool // mv.1 < 256 } => moveC mv.1) hone
  refine ⟨l.map (·.1), by simp [movesC], fun mv hmv => ?_⟩
  obtain ⟨x, _, rfl⟩ := List.mem_map.1 hmv
  exact x.2

end Go.Proofs.Ytjfheahakfoofaa
