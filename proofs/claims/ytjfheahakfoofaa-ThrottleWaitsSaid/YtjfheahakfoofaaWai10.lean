/- The runs: the loops over outputs and letters, and what one input does. -/
import Derived.WalkKit
import Derived.Laws.Bits64
import Derived.Test.YtjfheahakfoofaaWai9
namespace Go.Proofs.Ytjfheahakfoofaa
open Go.Em

theorem take_map_succ {α β : Type} (l : List α) (f : α → β) {j : Nat} (h : j < l.length) : (l.take (j + 1)).map f = (l.take j).map f ++ [f l[j]] := by
  rw [List.take_succ_eq_append_getElem h, List.map_append]; rfl

def nows (now : Nat) (os : List Ms) : List Int := os.map fun _ => Int.ofNat now
def fsts (os : List Ms) : List Int := os.map Ms.fst

section
variable (N : Nat) (kd : Int) (s : ByteArray) (n p l : Nat) (moves : List (List X)) (i k : Nat) (now : Nat) (tt : Bool) (ins : List (List X)) (ts lf rj : List Int) (c0 t0 c1 t1 : Int) (s0 : Bool × List (List X)) (s1 : List (List X)) (os ls : List Ms) (fates : List (List X))

noncomputable def roHj (j : Nat) : St := roH moves (nodeT kd s n p l) (ts.length + j) (lf.length + j) rj.length i k j now tt ins (rowI (ts ++ nows now (os.take j))) (rowI (lf ++ fsts (os.take j))) (rowI rj) (stF c0 t0 s0) (outcC c1 t1 s1 os fates ls)
noncomputable def rlHj (j : Nat) : St := rlH moves (nodeT kd s n p l) (ts.length + os.length) (lf.length + os.length) (rj.length + j) i k j now tt ins (rowI (ts ++ nows now os)) (rowI (lf ++ fsts os)) (rowI (rj ++ fsts (ls.take j))) (stF c0 t0 s0) (outcC c1 t1 s1 os fates ls)
noncomputable def roEnd : St := roE moves (nodeT kd s n p l) (ts.length + os.length) (lf.length + os.length) rj.length i k os.length now tt ins (rowI (ts ++ nows now os)) (rowI (lf ++ fsts os)) (rowI rj) (stF c0 t0 s0) (outcC c1 t1 s1 os fates ls)
noncomputable def rlEnd : St := rlE moves (nodeT kd s n p l) (ts.length + os.length) (lf.length + os.length) (rj.length + ls.length) i k ls.length now tt ins (rowI (ts ++ nows now os)) (rowI (lf ++ fsts os)) (rowI (rj ++ fsts ls)) (stF c0 t0 s0) (outcC c1 t1 s1 os fates ls)

theorem ro_loop (τ : St) (hτ : canon 0 τ = some (roHj kd s n p l moves i k now tt ins ts lf rj c0 t0 c1 t1 s0 s1 os ls fates 0)) (ho : os.length < N + 90) (ho2 : os.length < 1000) (h1 : ts.length < 2000) (h2 : lf.length < 2000) :
    run (callF tab ext (N + 90)) 0 (N + 90) (.loop (loopOf tab 7 2)) τ = some (.exit 4, roEnd kd s n p l moves i k now tt ins ts lf rj c0 t0 c1 t1 s0 s1 os ls fates) := by
  refine loop_for (σ := roHj kd s n p l moves i k now tt ins ts lf rj c0 t0 c1 t1 s0 s1 os ls fates) (k := os.length) hτ (fun j hj => ?_) ?_ (by simp) ho
  · have hs := ro_step kd s n p l moves (ts.length + j) (lf.length + j) rj.length i k j now tt ins (rowI (ts ++ nows now (os.take j))) (rowI (lf ++ fsts (os.take j))) (rowI rj) c0 t0 c1 t1 s0 s1 os ls fates N os[j] (outsC_get hj) (by rw [outsC_length]; exact hj) (by rw [outsC_length]; exact ho2)
      (by simp [rowI, nows]; omega) (by omega) (by simp [rowI, fsts]; omega) (by omega)
    refine ⟨_, hs, ?_⟩
    have hc := ro_canon' kd s n p l moves (ts.length + j) (lf.length + j) rj.length i k j now tt ins (rowI (ts ++ nows now (os.take j))) (rowI (lf ++ fsts (os.take j))) (rowI rj) c0 t0 c1 t1 s0 s1 os ls fates [nat now] [num (os[j]).fst]
    rw [hc]
    unfold roHj
    have e1 : rowI (ts ++ nows now (os.take (j + 1))) = rowI (ts ++ nows now (os.take j)) ++ [[nat now]] := by
      unfold nows; rw [take_map_succ os _ hj, ← List.append_assoc, rowI_snoc]; rfl
    have e2 : rowI (lf ++ fsts (os.take (j + 1))) = rowI (lf ++ fsts (os.take j)) ++ [[num (os[j]).fst]] := by
      unfold fsts; rw [take_map_succ os _ hj, ← List.append_assoc, rowI_snoc]
    rw [e1, e2]
    rfl
  · have := ro_end kd s n p l moves (ts.length + os.length) (lf.length + os.length) rj.length i k os.length now tt ins (rowI (ts ++ nows now (os.take os.length))) (rowI (lf ++ fsts (os.take os.length))) (rowI rj) c0 t0 c1 t1 s0 s1 os ls fates N (by rw [outsC_length]; omega)
    unfold roHj roEnd
    rw [List.take_length] at this ⊢
    exact this

theorem rl_loop (τ : St) (hτ : canon 0 τ = some (rlHj kd s n p l moves i k now tt ins ts lf rj c0 t0 c1 t1 s0 s1 os ls fates 0)) (ho : ls.length < N + 90) (ho2 : ls.length < 1000) (h1 : rj.length < 2000) :
    run (callF tab ext (N + 90)) 0 (N + 90) (.loop (loopOf tab 7 3)) τ = some (.exit 6, rlEnd kd s n p l moves i k now tt ins ts lf rj c0 t0 c1 t1 s0 s1 os ls fates) := by
  refine loop_for (σ := rlHj kd s n p l moves i k now tt ins ts lf rj c0 t0 c1 t1 s0 s1 os ls fates) (k := ls.length) hτ (fun j hj => ?_) ?_ (by simp) ho
  · have hs := rl_step kd s n p l moves (ts.length + os.length) (lf.length + os.length) (rj.length + j) i k j now tt ins (rowI (ts ++ nows now os)) (rowI (lf ++ fsts os)) (rowI (rj ++ fsts (ls.take j))) c0 t0 c1 t1 s0 s1 os ls fates N ls[j] (lettC_get hj) (by rw [lettC_length]; exact hj) (by rw [lettC_length]; exact ho2)
      (by simp [rowI, fsts]; omega) (by omega)
    refine ⟨_, hs, ?_⟩
    have hc := rl_canon' kd s n p l moves (ts.length + os.length) (lf.length + os.length) (rj.length + j) i k j now tt ins (rowI (ts ++ nows now os)) (rowI (lf ++ fsts os)) (rowI (rj ++ fsts (ls.take j))) c0 t0 c1 t1 s0 s1 os ls fates [num (ls[j]).fst]
    rw [hc]
    unfold rlHj
    have e2 : rowI (rj ++ fsts (ls.take (j + 1))) = rowI (rj ++ fsts (ls.take j)) ++ [[num (ls[j]).fst]] := by
      unfold fsts; rw [take_map_succ ls _ hj, ← List.append_assoc, rowI_snoc]
    rw [e2]
    rfl
  · have := rl_end kd s n p l moves (ts.length + os.length) (lf.length + os.length) (rj.length + ls.length) i k ls.length now tt ins (rowI (ts ++ nows now os)) (rowI (lf ++ fsts os)) (rowI (rj ++ fsts (ls.take ls.length))) c0 t0 c1 t1 s0 s1 os ls fates N (by rw [lettC_length]; omega)
    unfold rlHj rlEnd
    rw [List.take_length] at this ⊢
    exact this

/-- Heads of the loop over the inputs. -/
noncomputable def riHj : St := riH moves (nodeT kd s n p l) ts.length lf.length rj.length i k now tt ins (rowI ts) (rowI lf) (rowI rj) (stF c0 t0 s0)
/-- What a step is to come to. -/
def StepOk (inp : X) : Prop := Gam.pureD (callF tab ext (N + 90)) 14 [nodeT kd s n p l, .agg (stC c0 t0 s0.2), inp] = some (.agg (outcC c1 t1 s1 os fates ls))
noncomputable def rsEnd  : St := ⟨ruTm moves (ts.length + os.length) (lf.length + os.length) (rj.length + ls.length) i (k + 1) now tt ins 1 2 3, [.var (nodeT kd s n p l).cells, .row 1 (rowI (ts ++ nows now os)), .row 1 (rowI (lf ++ fsts os)), .row 1 (rowI (rj ++ fsts ls)), .var (stC c1 t1 s1), .var (outcC c1 t1 s1 os fates ls)]⟩

theorem rs_canon : canon 0 (rsEnd kd s n p l moves i k now tt ins ts lf rj c1 t1 s1 os ls fates) = some (riHj kd s n p l moves i (k + 1) now tt ins (ts ++ nows now os) (lf ++ fsts os) (rj ++ fsts ls) c1 t1 (false, s1)) := by
  have h : canon 0 (rsEnd kd s n p l moves i k now tt ins ts lf rj c1 t1 s1 os ls fates) = some (riH moves (nodeT kd s n p l) (ts.length + os.length) (lf.length + os.length) (rj.length + ls.length) i (k + 1) now tt ins (rowI (ts ++ nows now os)) (rowI (lf ++ fsts os)) (rowI (rj ++ fsts ls)) (stC c1 t1 s1)) := by kernel_rfl
  rw [h]
  unfold riHj
  simp only [List.length_append, nows, fsts, List.length_map]
  rfl

theorem ro_first : canon 0 (roH moves (nodeT kd s n p l) ts.length lf.length rj.length i k 0 now tt ins (rowI ts) (rowI lf) (rowI rj) (stF c0 t0 s0) (outcC c1 t1 s1 os fates ls)) = some (roHj kd s n p l moves i k now tt ins ts lf rj c0 t0 c1 t1 s0 s1 os ls fates 0) := by
  have h : canon 0 (roH moves (nodeT kd s n p l) ts.length lf.length rj.length i k 0 now tt ins (rowI ts) (rowI lf) (rowI rj) (stF c0 t0 s0) (outcC c1 t1 s1 os fates ls)) = some (roH moves (nodeT kd s n p l) ts.length lf.length rj.length i k 0 now tt ins (rowI ts) (rowI lf) (rowI rj) (stF c0 t0 s0) (outcC c1 t1 s1 os fates ls)) := by kernel_rfl
  rw [h]
  simp only [roHj, nows, fsts, List.take_zero, List.map_nil, List.append_nil, Nat.add_zero]
theorem rl_first : canon 0 (rlH moves (nodeT kd s n p l) (ts.length + os.length) (lf.length + os.length) rj.length i k 0 now tt ins (rowI (ts ++ nows now os)) (rowI (lf ++ fsts os)) (rowI rj) (stF c0 t0 s0) (outcC c1 t1 s1 os fates ls)) = some (rlHj kd s n p l moves i k now tt ins ts lf rj c0 t0 c1 t1 s0 s1 os ls fates 0) := by
  have h : canon 0 (rlH moves (nodeT kd s n p l) (ts.length + os.length) (lf.length + os.length) rj.length i k 0 now tt ins (rowI (ts ++ nows now os)) (rowI (lf ++ fsts os)) (rowI rj) (stF c0 t0 s0) (outcC c1 t1 s1 os fates ls)) = some (rlH moves (nodeT kd s n p l) (ts.length + os.length) (lf.length + os.length) rj.length i k 0 now tt ins (rowI (ts ++ nows now os)) (rowI (lf ++ fsts os)) (rowI rj) (stF c0 t0 s0) (outcC c1 t1 s1 os fates ls)) := by kernel_rfl
  rw [h]
  simp only [rlHj, fsts, List.take_zero, List.map_nil, List.append_nil, Nat.add_zero]

theorem in_tick (e : Int) (a : Int) (hk : k < ins.length) (hk2 : ins.length < 1000) (hi : ins[k]? = some (tickX e a).cells) (ho : os.length < 80) (hl : ls.length < 80) (h1 : ts.length < 2000) (h2 : lf.length < 2000) (h3 : rj.length < 2000)
    (hst : StepOk N kd s n p l c0 t0 c1 t1 s0 s1 os ls fates (tickX e a)) :
    run (callF tab ext (N + 90)) 0 (N + 90) (loopOf tab 7 1) (riHj kd s n p l moves i k now tt ins ts lf rj c0 t0 s0) = some (.norm, rsEnd kd s n p l moves i k now tt ins ts lf rj c1 t1 s1 os ls fates) :=
  run_of [(49, .b true), (56, .e (tickX e a).cells), (58, .p (.agg (outcC c1 t1 s1 os fates ls))), (51, .i (Int.ofNat (k + 1)))]
    [(.exit 4, roEnd kd s n p l moves i k now tt ins ts lf rj c0 t0 c1 t1 s0 s1 os ls fates), (.exit 6, rlEnd kd s n p l moves i k now tt ins ts lf rj c0 t0 c1 t1 s0 s1 os ls fates)]
    (pf6 (lt_nat hk) hi hst
      (ro_loop N kd s n p l moves i k now tt ins ts lf rj c0 t0 c1 t1 s0 s1 os ls fates _ (ro_first kd s n p l moves i k now tt ins ts lf rj c0 t0 c1 t1 s0 s1 os ls fates) (by omega) (by omega) h1 h2)
      (rl_loop N kd s n p l moves i k now tt ins ts lf rj c0 t0 c1 t1 s0 s1 os ls fates _ (rl_first kd s n p l moves i k now tt ins ts lf rj c0 t0 c1 t1 s0 s1 os ls fates) (by omega) (by omega) h3)
      (next_nat (j := k) (by omega))) (lo' := []) (by kernel_rfl)

theorem in_arrive (e : Int) (a : Int) (hk : k < ins.length) (hk2 : ins.length < 1000) (hi : ins[k]? = some (arriveX e a).cells) (ho : os.length < 80) (hl : ls.length < 80) (h1 : ts.length < 2000) (h2 : lf.length < 2000) (h3 : rj.length < 2000)
    (hst : StepOk N kd s n p l c0 t0 c1 t1 s0 s1 os ls fates (arriveX e a)) :
    run (callF tab ext (N + 90)) 0 (N + 90) (loopOf tab 7 1) (riHj kd s n p l moves i k now tt ins ts lf rj c0 t0 s0) = some (.norm, rsEnd kd s n p l moves i k now tt ins ts lf rj c1 t1 s1 os ls fates) :=
  run_of [(49, .b true), (56, .e (arriveX e a).cells), (58, .p (.agg (outcC c1 t1 s1 os fates ls))), (51, .i (Int.ofNat (k + 1)))]
    [(.exit 4, roEnd kd s n p l moves i k now tt ins ts lf rj c0 t0 c1 t1 s0 s1 os ls fates), (.exit 6, rlEnd kd s n p l moves i k now tt ins ts lf rj c0 t0 c1 t1 s0 s1 os ls fates)]
    (pf6 (lt_nat hk) hi hst
      (ro_loop N kd s n p l moves i k now tt ins ts lf rj c0 t0 c1 t1 s0 s1 os ls fates _ (ro_first kd s n p l moves i k now tt ins ts lf rj c0 t0 c1 t1 s0 s1 os ls fates) (by omega) (by omega) h1 h2)
      (rl_loop N kd s n p l moves i k now tt ins ts lf rj c0 t0 c1 t1 s0 s1 os ls fates _ (rl_first kd s n p l moves i k now tt ins ts lf rj c0 t0 c1 t1 s0 s1 os ls fates) (by omega) (by omega) h3)
      (next_nat (j := k) (by omega))) (lo' := []) (by kernel_rfl)
end

end Go.Proofs.Ytjfheahakfoofaa

/- The runs: moves. -/
namespace Go.Proofs.Ytjfheahakfoofaa
open Go.Em

def moveC (m : Nat × Bool) : List X := [.v (.int .u8 (Int.ofNat m.1)), .v (.bool m.2)]
def movesC (l : List (Nat × Bool)) : List (List X) := l.map moveC
theorem movesC_length (l : List (Nat × Bool)) : (movesC l).length = l.length := by simp [movesC]
theorem movesC_get {l : List (Nat × Bool)} {j : Nat} (h : j < l.length) : (movesC l)[j]? = some (moveC l[j]) := by simp [movesC, h]

theorem wait_int {now w : Nat} (h : now < 4294967296) (hw : w < 256) : IntKind.i64.wrap (Int.ofNat now + IntKind.i64.wrap (Int.ofNat w)) = Int.ofNat (now + w) := by
  have e : IntKind.i64.wrap (Int.ofNat w) = Int.ofNat w := by rw [IntKind.wrap_i64]; simp only [Int.ofNat_eq_natCast]; omega
  rw [e, add_nat h (by omega)]

section
variable (N : Nat) (kd : Int) (s : ByteArray) (n p l : Nat) (moves : List (List X)) (i k : Nat) (now : Nat) (tt : Bool) (ins : List (List X)) (ts lf rj : List Int) (c0 t0 : Int) (s0 : Bool × List (List X))

noncomputable def riEnd : St := ⟨ruTm moves ts.length lf.length rj.length i k now tt ins 1 2 3 ++ [(49, .v (.bool false))], [.var (nodeT kd s n p l).cells, .row 1 (rowI ts), .row 1 (rowI lf), .row 1 (rowI rj), .var (stF c0 t0 s0)]⟩
theorem in_end (hk : ¬ k < ins.length) : run (callF tab ext (N + 90)) 0 (N + 90) (loopOf tab 7 1) (riHj kd s n p l moves i k now tt ins ts lf rj c0 t0 s0) = some (.exit 2, riEnd kd s n p l moves i k now tt ins ts lf rj c0 t0 s0) :=
  run_of [(49, .b false)] [] (pf1 (nlt_nat hk)) (lo' := []) (by kernel_rfl)

/-- Heads of the loop over the moves. -/
noncomputable def ruH : St := ⟨[(1, .sl false 2 moves), (2, .ptr 0 0 0), (4, .bs 1 0 ts.length), (5, .bs 2 0 lf.length), (6, .bs 3 0 rj.length), (7, .ptr 4 0 0), (8, nat now), (9, nat i)], [.var (nodeT kd s n p l).cells, .row 1 (rowI ts), .row 1 (rowI lf), .row 1 (rowI rj), .var (stF c0 t0 s0)]⟩
noncomputable def ruEnd : St := ⟨[(1, .sl false 2 moves), (2, .ptr 0 0 0), (4, .bs 1 0 ts.length), (5, .bs 2 0 lf.length), (6, .bs 3 0 rj.length), (7, .ptr 4 0 0), (8, nat now), (9, nat i), (18, .v (.bool false))], [.var (nodeT kd s n p l).cells, .row 1 (rowI ts), .row 1 (rowI lf), .row 1 (rowI rj), .var (stF c0 t0 s0)]⟩
theorem ru_canon : canon 0 (ruH kd s n p l moves i now ts lf rj c0 t0 s0) = some (ruH kd s n p l moves i now ts lf rj c0 t0 s0) := by kernel_rfl
theorem ru_end (hk : ¬ i < moves.length) : run (callF tab ext (N + 90)) 0 (N + 90) (loopOf tab 7 0) (ruH kd s n p l moves i now ts lf rj c0 t0 s0) = some (.exit 0, ruEnd kd s n p l moves i now ts lf rj c0 t0 s0) :=
  run_of [(18, .b false)] [] (pf1 (nlt_nat hk)) (lo' := []) (by kernel_rfl)

noncomputable def tickIns (e a : Int) : List (List X) := [(tickX e a).cells]
noncomputable def bothIns (e a : Int) : List (List X) := [(tickX e a).cells, (arriveX e a).cells]

variable (c1 t1 c2 t2 : Int) (s1 s2 : List (List X)) (os ls os2 ls2 : List Ms) (fates fates2 : List (List X))

theorem ins_tick (e a : Int) (ho : os.length < 80) (hl : ls.length < 80) (h1 : ts.length < 1800) (h2 : lf.length < 1800) (h3 : rj.length < 1800)
    (hst : StepOk N kd s n p l c0 t0 c1 t1 s0 s1 os ls fates (tickX e a)) :
    run (callF tab ext (N + 90)) 0 (N + 90) (.loop (loopOf tab 7 1)) (riHj kd s n p l moves i 0 now true (tickIns e a) ts lf rj c0 t0 s0)
      = some (.exit 2, riEnd kd s n p l moves i 1 now true (tickIns e a) (ts ++ nows now os) (lf ++ fsts os) (rj ++ fsts ls) c1 t1 (false, s1)) := by
  simp only [run]
  refine iter_step (n := N + 89) (σ := riHj kd s n p l moves i 0 now true (tickIns e a) ts lf rj c0 t0 s0) (by kernel_rfl) (in_tick N kd s n p l moves i 0 now true (tickIns e a) ts lf rj c0 t0 c1 t1 s0 s1 os ls fates e a (by simp [tickIns]) (by simp [tickIns]) rfl ho hl (by omega) (by omega) (by omega) hst) ?_
  exact iter_end (n := N + 88) (rs_canon kd s n p l moves i 0 now true (tickIns e a) ts lf rj c1 t1 s1 os ls fates) (in_end N kd s n p l moves i 1 now true (tickIns e a) _ _ _ c1 t1 (false, s1) (by simp [tickIns])) (by simp)

theorem ins_both (e a : Int) (τ : St) (hτ : canon 0 τ = some (riHj kd s n p l moves i 0 now false (bothIns e a) ts lf rj c0 t0 s0)) (ho : os.length < 80) (hl : ls.length < 80) (ho2 : os2.length < 80) (hl2 : ls2.length < 80) (h1 : ts.length < 1800) (h2 : lf.length < 1800) (h3 : rj.length < 1800)
    (hst : StepOk N kd s n p l c0 t0 c1 t1 s0 s1 os ls fates (tickX e a)) (hst2 : StepOk N kd s n p l c1 t1 c2 t2 (false, s1) s2 os2 ls2 fates2 (arriveX e a)) :
    run (callF tab ext (N + 90)) 0 (N + 90) (.loop (loopOf tab 7 1)) τ
      = some (.exit 2, riEnd kd s n p l moves i 2 now false (bothIns e a) ((ts ++ nows now os) ++ nows now os2) ((lf ++ fsts os) ++ fsts os2) ((rj ++ fsts ls) ++ fsts ls2) c2 t2 (false, s2)) := by
  simp only [run]
  refine iter_step (n := N + 89) hτ (in_tick N kd s n p l moves i 0 now false (bothIns e a) ts lf rj c0 t0 c1 t1 s0 s1 os ls fates e a (by simp [bothIns]) (by simp [bothIns]) rfl ho hl (by omega) (by omega) (by omega) hst) ?_
  refine iter_step (n := N + 88) (rs_canon kd s n p l moves i 0 now false (bothIns e a) ts lf rj c1 t1 s1 os ls fates) (in_arrive N kd s n p l moves i 1 now false (bothIns e a) _ _ _ c1 t1 c2 t2 (false, s1) s2 os2 ls2 fates2 e a (by simp [bothIns]) (by simp [bothIns]) rfl ho2 hl2
    (by simp [nows]; omega) (by simp [fsts]; omega) (by simp [fsts]; omega) hst2) ?_
  exact iter_end (n := N + 87) (rs_canon kd s n p l moves i 1 now false (bothIns e a) _ _ _ c2 t2 s2 os2 ls2 fates2) (in_end N kd s n p l moves i 2 now false (bothIns e a) _ _ _ c2 t2 (false, s2) (by simp [bothIns])) (by simp)

theorem ru_tick (w : Nat) (hm : moves[i]? = some (moveC (w, false))) (hi : i < moves.length) (hi2 : moves.length < 1000) (hw : w < 256) (hn : now < 1000000) (ho : os.length < 80) (hl : ls.length < 80) (h1 : ts.length < 1800) (h2 : lf.length < 1800) (h3 : rj.length < 1800)
    (hst : StepOk N kd s n p l c0 t0 c1 t1 s0 s1 os ls fates (tickX (Int.ofNat (i + 1)) (Int.ofNat (now + w)))) :
    run (callF tab ext (N + 90)) 0 (N + 90) (loopOf tab 7 0) (ruH kd s n p l moves i now ts lf rj c0 t0 s0) = some (.norm, ruH kd s n p l moves (i + 1) (now + w) (ts ++ nows (now + w) os) (lf ++ fsts os) (rj ++ fsts ls) c1 t1 (false, s1)) :=
  run_of [(18, .b true), (24, .e (moveC (w, false))), (28, .i (Int.ofNat (now + w))), (30, .i (Int.ofNat (i + 1))), (32, .p (tickX (Int.ofNat (i + 1)) (Int.ofNat (now + w)))), (36, .e (moveC (w, false))), (20, .i (Int.ofNat (i + 1)))]
    [(.exit 2, riEnd kd s n p l moves i 1 (now + w) true (tickIns (Int.ofNat (i + 1)) (Int.ofNat (now + w))) (ts ++ nows (now + w) os) (lf ++ fsts os) (rj ++ fsts ls) c1 t1 (false, s1))]
    (pf8 (lt_nat hi) hm (wait_int (now := now) (w := w) (by omega) hw) (next_nat (j := i) (by omega)) (ticks_pure (N + 60) (Int.ofNat (i + 1)) (Int.ofNat (now + w))) hm
      (ins_tick N kd s n p l moves i (now + w) ts lf rj c0 t0 s0 c1 t1 s1 os ls fates (Int.ofNat (i + 1)) (Int.ofNat (now + w)) ho hl h1 h2 h3 hst) (next_nat (j := i) (by omega))) (lo' := []) (by kernel_rfl)

noncomputable def rbSt (w : Nat) : St := ⟨ruTm moves ts.length lf.length rj.length i 0 (now + w) false (bothIns (Int.ofNat (i + 1)) (Int.ofNat (now + w))) 1 2 3, [.var (nodeT kd s n p l).cells, .row 1 (rowI ts), .row 1 (rowI lf), .row 1 (rowI rj), .var (stF c0 t0 s0), .dead]⟩
theorem ru_both (w : Nat) (hm : moves[i]? = some (moveC (w, true))) (hi : i < moves.length) (hi2 : moves.length < 1000) (hw : w < 256) (hn : now < 1000000) (ho : os.length < 80) (hl : ls.length < 80) (ho2 : os2.length < 80) (hl2 : ls2.length < 80) (h1 : ts.length < 1800) (h2 : lf.length < 1800) (h3 : rj.length < 1800)
    (hst : StepOk N kd s n p l c0 t0 c1 t1 s0 s1 os ls fates (tickX (Int.ofNat (i + 1)) (Int.ofNat (now + w)))) (hst2 : StepOk N kd s n p l c1 t1 c2 t2 (false, s1) s2 os2 ls2 fates2 (arriveX (Int.ofNat (i + 1)) (Int.ofNat (now + w)))) :
    run (callF tab ext (N + 90)) 0 (N + 90) (loopOf tab 7 0) (ruH kd s n p l moves i now ts lf rj c0 t0 s0) = some (.norm, ruH kd s n p l moves (i + 1) (now + w) ((ts ++ nows (now + w) os) ++ nows (now + w) os2) ((lf ++ fsts os) ++ fsts os2) ((rj ++ fsts ls) ++ fsts ls2) c2 t2 (false, s2)) :=
  run_of [(18, .b true), (24, .e (moveC (w, true))), (28, .i (Int.ofNat (now + w))), (30, .i (Int.ofNat (i + 1))), (32, .p (tickX (Int.ofNat (i + 1)) (Int.ofNat (now + w)))), (36, .e (moveC (w, true))), (41, .i (Int.ofNat (i + 1))), (43, .p (arriveX (Int.ofNat (i + 1)) (Int.ofNat (now + w)))), (20, .i (Int.ofNat (i + 1)))]
    [(.exit 2, riEnd kd s n p l moves i 2 (now + w) false (bothIns (Int.ofNat (i + 1)) (Int.ofNat (now + w))) ((ts ++ nows (now + w) os) ++ nows (now + w) os2) ((lf ++ fsts os) ++ fsts os2) ((rj ++ fsts ls) ++ fsts ls2) c2 t2 (false, s2))]
    (pf11 (lt_nat hi) hm (wait_int (now := now) (w := w) (by omega) hw) (next_nat (j := i) (by omega)) (ticks_pure (N + 60) (Int.ofNat (i + 1)) (Int.ofNat (now + w))) hm (next_nat (j := i) (by omega)) (arrives_pure (N + 60) (Int.ofNat (i + 1)) (Int.ofNat (now + w))) (Nat.le_refl 2)
      (ins_both N kd s n p l moves i (now + w) ts lf rj c0 t0 s0 c1 t1 c2 t2 s1 s2 os ls os2 ls2 fates fates2 (Int.ofNat (i + 1)) (Int.ofNat (now + w)) (rbSt kd s n p l moves i now ts lf rj c0 t0 s0 w) (by kernel_rfl) ho hl ho2 hl2 h1 h2 h3 hst hst2) (next_nat (j := i) (by omega))) (lo' := []) (by kernel_rfl)
end

end Go.Proofs.Ytjfheahakfoofaa

/- A run as a whole. -/
namespace Go.Proofs.Ytjfheahakfoofaa
open Go.Em

/-- What a run has come to: the time, the times at which messages have left, their entries, the entries that were rejected, the state. -/
structure Rs where
  now : Nat
  ts : List Int
  lf : List Int
  rj : List Int
  c : Int
  t : Int
  ss : List (List X)
def rs0 : Rs := ⟨0, [], [], [], 0, 0, []⟩

section
variable (N : Nat) (kd : Int) (s : ByteArray) (n p l : Nat)
/-- What a move is to come to. -/
def MoveOk (i : Nat) (m : Nat × Bool) (r r' : Rs) : Prop :=
  m.1 < 256 ∧ r.now < 1000000 ∧ r.ts.length < 1800 ∧ r.lf.length < 1800 ∧ r.rj.length < 1800 ∧
  ∃ c1 t1 s1 os ls fates, os.length < 80 ∧ ls.length < 80 ∧ StepOk N kd s n p l r.c r.t c1 t1 (false, r.ss) s1 os ls fates (tickX (Int.ofNat (i + 1)) (Int.ofNat (r.now + m.1))) ∧
    ((m.2 = false ∧ r' = ⟨r.now + m.1, r.ts ++ nows (r.now + m.1) os, r.lf ++ fsts os, r.rj ++ fsts ls, c1, t1, s1⟩) ∨
     (m.2 = true ∧ ∃ c2 t2 s2 os2 ls2 fates2, os2.length < 80 ∧ ls2.length < 80 ∧ StepOk N kd s n p l c1 t1 c2 t2 (false, s1) s2 os2 ls2 fates2 (arriveX (Int.ofNat (i + 1)) (Int.ofNat (r.now + m.1))) ∧
       r' = ⟨r.now + m.1, (r.ts ++ nows (r.now + m.1) os) ++ nows (r.now + m.1) os2, (r.lf ++ fsts os) ++ fsts os2, (r.rj ++ fsts ls) ++ fsts ls2, c2, t2, s2⟩))

noncomputable def ruStart (moves : List (List X)) : St := ⟨[(1, .sl false 2 moves), (2, .ptr 0 0 0), (4, .bs 2 0 0), (5, .bs 3 0 0), (6, .bs 4 0 0), (7, .ptr 1 0 0), (8, nat 0), (9, nat 0)], [.var (nodeT kd s n p l).cells, .var [num 0, num 0, .sl true 10 []], .row 1 [], .row 1 [], .row 1 []]⟩
noncomputable def ruH0 (moves : List (List X)) : St := ⟨[(1, .sl false 2 moves), (2, .ptr 0 0 0), (4, .bs 1 0 0), (5, .bs 2 0 0), (6, .bs 3 0 0), (7, .ptr 4 0 0), (8, nat 0), (9, nat 0)], [.var (nodeT kd s n p l).cells, .row 1 [], .row 1 [], .row 1 [], .var [num 0, num 0, .sl true 10 []]]⟩
theorem ru_start (moves : List (List X)) : canon 0 (ruStart kd s n p l moves) = some (ruH0 kd s n p l moves) := by kernel_rfl

theorem run_eq (l0 : List (Nat × Bool)) (R : Nat → Rs) (h0 : R 0 = rs0) (hl : l0.length < 80) (hm : ∀ i (h : i < l0.length), MoveOk N kd s n p l i l0[i] (R i) (R (i + 1))) :
    callF tab ext (N + 91) (.fn 7) [nodeT kd s n p l, .sl false 2 (movesC l0)] [] = some (.tup [.bs 0 0 (R l0.length).ts.length, .bs 1 0 (R l0.length).lf.length, .bs 2 0 (R l0.length).rj.length, .agg (stF (R l0.length).c (R l0.length).t (l0.length == 0, (R l0.length).ss))],
      [.row 1 (rowI (R l0.length).ts), .row 1 (rowI (R l0.length).lf), .row 1 (rowI (R l0.length).rj)]) := by
  let σ : Nat → St := fun i => ruH kd s n p l (movesC l0) i (R i).now (R i).ts (R i).lf (R i).rj (R i).c (R i).t (i == 0, (R i).ss)
  have hloop : run (callF tab ext (N + 90)) 0 (N + 90) (.loop (loopOf tab 7 0)) (ruStart kd s n p l (movesC l0)) = some (.exit 0, ruEnd kd s n p l (movesC l0) l0.length (R l0.length).now (R l0.length).ts (R l0.length).lf (R l0.length).rj (R l0.length).c (R l0.length).t (l0.length == 0, (R l0.length).ss)) := by
    refine loop_for (σ := σ) (k := l0.length) ?_ (fun i hi => ?_) ?_ (by simp) (by omega)
    · simp only [σ, h0, rs0]
      exact ru_start kd s n p l (movesC l0)
    · obtain ⟨hw, hn, h1, h2, h3, c1, t1, s1, os, ls, fates, ho, hls, hst, hor⟩ := hm i hi
      rcases hor with ⟨hb, hr⟩ | ⟨hb, c2, t2, s2, os2, ls2, fates2, ho2, hls2, hst2, hr⟩
      · have hmv : (movesC l0)[i]? = some (moveC (l0[i].1, false)) := by rw [movesC_get hi, ← hb]
        refine ⟨_, ru_tick N kd s n p l (movesC l0) i (R i).now (R i).ts (R i).lf (R i).rj (R i).c (R i).t (i == 0, (R i).ss) c1 t1 s1 os ls fates l0[i].1 hmv (by rw [movesC_length]; exact hi) (by rw [movesC_length]; omega) hw hn ho hls h1 h2 h3 hst, ?_⟩
        simp only [σ, hr]
        exact ru_canon kd s n p l (movesC l0) (i + 1) _ _ _ _ _ _ _
      · have hmv : (movesC l0)[i]? = some (moveC (l0[i].1, true)) := by rw [movesC_get hi, ← hb]
        refine ⟨_, ru_both N kd s n p l (movesC l0) i (R i).now (R i).ts (R i).lf (R i).rj (R i).c (R i).t (i == 0, (R i).ss) c1 t1 c2 t2 s1 s2 os ls os2 ls2 fates fates2 l0[i].1 hmv (by rw [movesC_length]; exact hi) (by rw [movesC_length]; omega) hw hn ho hls ho2 hls2 h1 h2 h3 hst hst2, ?_⟩
        simp only [σ, hr]
        exact ru_canon kd s n p l (movesC l0) (i + 1) _ _ _ _ _ _ _
    · exact ru_end N kd s n p l (movesC l0) l0.length _ _ _ _ _ _ _ (by rw [movesC_length]; omega)
  exact callF_of [] [(.exit 0, ruEnd kd s n p l (movesC l0) l0.length (R l0.length).now (R l0.length).ts (R l0.length).lf (R l0.length).rj (R l0.length).c (R l0.length).t (l0.length == 0, (R l0.length).ss))] (pf1 hloop) (by kernel_rfl)

theorem run_pure (l0 : List (Nat × Bool)) (R : Nat → Rs) (h0 : R 0 = rs0) (hl : l0.length < 80) (hm : ∀ i (h : i < l0.length), MoveOk N kd s n p l i l0[i] (R i) (R (i + 1))) :
    Gam.pureD (callF tab ext (N + 91)) 7 [nodeT kd s n p l, .sl false 2 (movesC l0)] = some (.tup [.sl false 1 (rowI (R l0.length).ts), .sl false 1 (rowI (R l0.length).lf), .sl false 1 (rowI (R l0.length).rj), .agg (stC (R l0.length).c (R l0.length).t (R l0.length).ss)]) := by
  refine pureD_of (run_eq N kd s n p l l0 R h0 hl hm) ?_
  have h1 : rowOf [Bx.row 1 (rowI (R l0.length).ts), .row 1 (rowI (R l0.length).lf), .row 1 (rowI (R l0.length).rj)] 0 0 (R l0.length).ts.length = some (1, rowI (R l0.length).ts) := rowOf_get rfl (rowI_length _).symm
  have h2 : rowOf [Bx.row 1 (rowI (R l0.length).ts), .row 1 (rowI (R l0.length).lf), .row 1 (rowI (R l0.length).rj)] 1 0 (R l0.length).lf.length = some (1, rowI (R l0.length).lf) := rowOf_get rfl (rowI_length _).symm
  have h3 : rowOf [Bx.row 1 (rowI (R l0.length).ts), .row 1 (rowI (R l0.length).lf), .row 1 (rowI (R l0.length).rj)] 2 0 (R l0.length).rj.length = some (1, rowI (R l0.length).rj) := rowOf_get rfl (rowI_length _).symm
  simp only [X.data, dataL, stC, stF, num, h1, h2, h3, Option.map_some, Bool.false_and]
end

end Go.Proofs.Ytjfheahakfoofaa

/- What a throttle does with the inputs of the runs, in plain words. -/
namespace Go.Proofs.Ytjfheahakfoofaa
open Go.Em

/-- A throttle: how many have left in the window, the window, what is held. -/
structure Ts where
  c : Nat
  t : Nat
  es : List Int
def gone (n p a : Nat) (q : Ts) : Nat := min q.es.length (n - cnt p q.c q.t a)
def tickT (n p a : Nat) (q : Ts) : Ts := if gone n p a q = 0 then q else ⟨cnt p q.c q.t a + gone n p a q, max q.t (win p a), q.es.drop (gone n p a q)⟩
def passes (n p a : Nat) (q : Ts) : Bool := decide (q.es.length = 0 ∧ cnt p q.c q.t a < n)
def holds (l : Nat) (q : Ts) : Bool := decide (q.es.length < l)
def arrT (n p l a : Nat) (e : Int) (q : Ts) : Ts := if passes n p a q then ⟨cnt p q.c q.t a + 1, max q.t (win p a), []⟩ else if holds l q then ⟨q.c, q.t, q.es ++ [e]⟩ else q
def leftT (n p a : Nat) (e : Int) (q : Ts) : List Int := if passes n p a q then [e] else []
def rejT (n p l a : Nat) (e : Int) (q : Ts) : List Int := if passes n p a q then [] else if holds l q then [] else [e]

theorem relN_gone (n p a : Nat) (q : Ts) : relN q.es (Int.ofNat n - Int.ofNat (cnt p q.c q.t a)) = gone n p a q := by
  simp only [relN, gone, Int.ofNat_eq_natCast]; omega

def movedM (b : Int) (es : List Int) (m : Nat) : List Ms := (List.range m).map fun i => ⟨b, [[num 0], [num 3], [nat i]], es.getD i 0⟩
theorem movedM_length (b : Int) (es : List Int) (m : Nat) : (movedM b es m).length = m := by simp [movedM]
theorem movedM_outs (b : Int) (es : List Int) (m : Nat) : outsC (movedM b es m) = movedL b es m := by
  simp only [outsC, movedM, movedL, List.map_map]; rfl
theorem movedM_fsts (b : Int) (es : List Int) (m : Nat) (h : m ≤ es.length) : fsts (movedM b es m) = es.take m := by
  simp only [fsts, movedM, List.map_map]
  refine List.ext_getElem (by simp; omega) fun i h1 h2 => ?_
  simp at h1 h2
  have h3 : i < es.length := by omega
  simp [List.getD, h3]

theorem outX_outc (c t : Int) (ss : List Sl) (os : List Ms) (fates : List (List X)) (ls : List Ms) : outX c t ss (outsC os) fates (lettC ls) [] = .agg (outcC c t (slotsC ss) os fates ls) := rfl

theorem stepOk_of (N : Nat) (s : ByteArray) (n p l : Nat) (c t c' t' : Int) (ss ss' : List Sl) (os ls : List Ms) (fates : List (List X)) (kind a : Int) (st msg : List X) (h : ∃ e b, (st = [num e, .sl false 1 [[num 1]]] ∧ msg = noteC b) ∨ (st = [num e, .sl false 1 [[num 0], [num 3]]] ∧ msg = zMsg)) (hs : ss.length < 80) (hs2 : ∀ s, s ∈ ss → s.es.length < 80)
    (hst : Gam.pureD (callF tab ext (N + 89)) 22 [nodeT 7 s n p l, stateX c t ss, inX kind a st msg] = some (outX c' t' ss' (outsC os) fates (lettC ls) [])) :
    StepOk N 7 s n p l c t c' t' (false, slotsC ss) (slotsC ss') os ls fates (inX kind a st msg) :=
  step_pure (N + 3) s n p l c t ss kind a st msg h c' t' ss' (outsC os) fates (lettC ls) [] hs hs2 hst

theorem held_len (es : List Int) : (heldS es).length < 80 := by unfold heldS; split <;> simp
theorem held_es (es : List Int) (hl : es.length < 80) : ∀ s, s ∈ heldS es → s.es.length < 80 := by
  unfold heldS; split
  · intro s hs; cases hs
  · intro s hs; rw [List.mem_singleton] at hs; subst hs; exact hl

section
variable (N : Nat) (s : ByteArray) (n p l a : Nat) (e : Int) (q : Ts)

theorem t_tick (hp : p < 17592186044416) (ha : a < 17592186044416) (hl : q.es.length < 80) (hn : n < 4294967296) (hc : cnt p q.c q.t a < 4294967) :
    ∃ fates, StepOk N 7 s n p l (Int.ofNat q.c) (Int.ofNat q.t) (Int.ofNat (tickT n p a q).c) (Int.ofNat (tickT n p a q).t) (false, slotsC (heldS q.es)) (slotsC (heldS (tickT n p a q).es)) (movedM e q.es (gone n p a q)) [] fates (tickX e (Int.ofNat a)) := by
  by_cases he : q.es = []
  · have hg : gone n p a q = 0 := by simp [gone, he]
    have h1 := tick_empty (N + 3) s n p l q.c q.t a e hp ha
    refine ⟨[], ?_⟩
    rw [tickT, if_pos hg, hg, he]
    exact stepOk_of N s n p l _ _ _ _ [] [] [] [] [] 2 (Int.ofNat a) _ zMsg ⟨e, 0, .inr ⟨rfl, rfl⟩⟩ (by simp) (by simp) h1
  · have hh : heldS q.es = [slot0 q.es] := by rw [heldS, if_neg he]
    by_cases hg : gone n p a q = 0
    · have h1 := tick_zero (N + 3) s n p l q.c q.t a e q.es hp ha hl hn (by omega) (by rw [relN_gone]; exact hg)
      refine ⟨[], ?_⟩
      rw [tickT, if_pos hg, hg, hh]
      exact stepOk_of N s n p l _ _ _ _ [slot0 q.es] [slot0 q.es] [] [] [] 2 (Int.ofNat a) _ zMsg ⟨e, 0, .inr ⟨rfl, rfl⟩⟩ (by simp) (by simpa [slot0] using hl) h1
    · have h1 := tick_some (N + 3) s n p l q.c q.t a e q.es hp ha hl hn hc (gone n p a q) (relN_gone n p a q) hg
      refine ⟨fatesL s e q.es (gone n p a q), ?_⟩
      rw [tickT, if_neg hg, hh]
      refine stepOk_of N s n p l _ _ _ _ [slot0 q.es] (heldS (q.es.drop (gone n p a q))) (movedM e q.es (gone n p a q)) [] (fatesL s e q.es (gone n p a q)) 2 (Int.ofNat a) _ zMsg ⟨e, 0, .inr ⟨rfl, rfl⟩⟩ (by simp) (by simpa [slot0] using hl) ?_
      rw [movedM_outs]
      exact h1

def noteM (e : Int) : Ms := ⟨e, [[num 1]], e⟩
theorem t_arrive (hp : p < 17592186044416) (ha : a < 17592186044416) (hl : q.es.length < 79) (hl2 : l ≤ 256) (hc : cnt p q.c q.t a < 1000) :
    ∃ fates, StepOk N 7 s n p l (Int.ofNat q.c) (Int.ofNat q.t) (Int.ofNat (arrT n p l a e q).c) (Int.ofNat (arrT n p l a e q).t) (false, slotsC (heldS q.es)) (slotsC (heldS (arrT n p l a e q).es))
      (if passes n p a q then [noteM e] else []) (if passes n p a q then [] else if holds l q then [] else [noteM e]) fates (arriveX e (Int.ofNat a)) := by
  by_cases he : q.es = []
  · by_cases hps : cnt p q.c q.t a < n
    · have hP : passes n p a q = true := by simp [passes, he, hps]
      rw [arrT, if_pos hP, if_pos hP, if_pos hP, he]
      exact ⟨[], stepOk_of N s n p l _ _ _ _ [] [] [noteM e] [] [] 1 (Int.ofNat a) _ (noteC e) ⟨e, e, .inl ⟨rfl, rfl⟩⟩ (by simp) (by simp) (pass_pure (N + 4) s n p l q.c q.t a e hp ha hps hc)⟩
    · have hP : passes n p a q = false := by simp [passes, hps]
      have hP' : ¬ passes n p a q = true := by simp [hP]
      by_cases hh : 0 < l
      · have hH : holds l q = true := by simp [holds, he, hh]
        rw [arrT, if_neg hP', if_neg hP', if_neg hP', if_pos hH, if_pos hH, he]
        exact ⟨[], stepOk_of N s n p l _ _ _ _ [] [slot0 [e]] [] [] [] 1 (Int.ofNat a) _ (noteC e) ⟨e, e, .inl ⟨rfl, rfl⟩⟩ (by simp) (by simp) (hold_first (N + 3) s n p l q.c q.t a e hp ha hps hh hl2)⟩
      · have hH : ¬ holds l q = true := by simp [holds, he, hh]
        rw [arrT, if_neg hP', if_neg hP', if_neg hP', if_neg hH, if_neg hH, he]
        exact ⟨[fateR s e], stepOk_of N s n p l _ _ _ _ [] [] [] [noteM e] [fateR s e] 1 (Int.ofNat a) _ (noteC e) ⟨e, e, .inl ⟨rfl, rfl⟩⟩ (by simp) (by simp) (rej_first (N + 3) s n p l q.c q.t a e hp ha hps hh)⟩
  · have hpos : 0 < q.es.length := List.length_pos_iff.2 he
    have hP' : ¬ passes n p a q = true := by simp [passes]; intro h; exact absurd h he
    have hs : heldS q.es = [slot0 q.es] := by rw [heldS, if_neg he]
    by_cases hh : q.es.length < l
    · have hH : holds l q = true := by simp [holds, hh]
      rw [arrT, if_neg hP', if_neg hP', if_neg hP', if_pos hH, if_pos hH, hs]
      refine ⟨[], stepOk_of N s n p l _ _ _ _ [slot0 q.es] (heldS (q.es ++ [e])) [] [] [] 1 (Int.ofNat a) _ (noteC e) ⟨e, e, .inl ⟨rfl, rfl⟩⟩ (by simp) (by simp [slot0]; omega) ?_⟩
      have : heldS (q.es ++ [e]) = [slot0 (q.es ++ [e])] := by rw [heldS, if_neg (by simp)]
      rw [this]
      exact hold_more (N + 3) s n p l q.c q.t a e q.es ha hpos hl hh hl2
    · have hH : ¬ holds l q = true := by simp [holds, hh]
      rw [arrT, if_neg hP', if_neg hP', if_neg hP', if_neg hH, if_neg hH, hs]
      exact ⟨[fateR s e], stepOk_of N s n p l _ _ _ _ [slot0 q.es] [slot0 q.es] [] [noteM e] [fateR s e] 1 (Int.ofNat a) _ (noteC e) ⟨e, e, .inl ⟨rfl, rfl⟩⟩ (by simp) (by simp [slot0]; omega) (rej_more (N + 3) s n p l q.c q.t a e q.es ha hpos hl hh)⟩
end

end Go.Proofs.Ytjfheahakfoofaa

/- ThrottleWindows, walked. -/
namespace Go.Proofs.Ytjfheahakfoofaa
open Go.Em

theorem known_399 : Gam.pureD (callF tab ext 399) 8 [] = some (.v (.bool true)) := pureD_of known_true rfl
def tName : ByteArray := ⟨#[116]⟩
/-- The node of a law, as it lies in its variable. -/
noncomputable def nodeV (kind : Int) (s : ByteArray) (n p l : Nat) : List X := match zeroP Try.prog 36 with
  | some z => ((((z.set 0 (text s)).set 1 (num kind)).set 4 (nat n)).set 5 (nat (p + 1))).set 6 (nat l)
  | none => []
def rowN (l : List Nat) : List (List X) := l.map fun a => [nat a]
theorem rowN_length (l : List Nat) : (rowN l).length = l.length := by simp [rowN]
theorem rowN_get {l : List Nat} {j : Nat} (h : j < l.length) : (rowN l)[j]? = some [nat l[j]] := by simp [rowN, h]
theorem rowI_nat (l : List Nat) : rowI (l.map Int.ofNat) = rowN l := by simp only [rowI, rowN, List.map_map]; rfl
theorem min60 (k : Nat) : (if (60 : Int) < Int.ofNat k then (60 : Int) else Int.ofNat k) = Int.ofNat (min k 60) := by
  simp only [Int.ofNat_eq_natCast]; split <;> omega
theorem byte_int {w : Nat} (hw : w < 256) : IntKind.i64.wrap (Int.ofNat w) = Int.ofNat w := by rw [IntKind.wrap_i64]; simp only [Int.ofNat_eq_natCast]; omega
theorem one_int {w : Nat} (hw : w < 256) : IntKind.i64.wrap (1 + Int.ofNat w) = Int.ofNat (w + 1) := by rw [IntKind.wrap_i64]; simp only [Int.ofNat_eq_natCast]; omega
theorem eq_nat {a b : Nat} (h : a = b) : (Int.ofNat a == Int.ofNat b) = true := by subst h; simp
theorem neq_nat {a b : Nat} (h : ¬ a = b) : (Int.ofNat a == Int.ofNat b) = false := by
  have : Int.ofNat a ≠ Int.ofNat b := by simp only [Int.ofNat_eq_natCast]; omega
  simpa using this

section
variable (s : ByteArray) (n p l : Nat) (tn : List Nat)
def cw (a j : Nat) : Nat := (tn.take j).countP fun x => decide (win p x = win p a)
theorem cw_succ (a j : Nat) (h : j < tn.length) : cw p tn a (j + 1) = cw p tn a j + (if win p tn[j] = win p a then 1 else 0) := by
  unfold cw
  rw [List.take_succ_eq_append_getElem h, List.countP_append]
  simp [List.countP_cons]

noncomputable def wiH (i c j : Nat) : St := ⟨[(5, .ptr 0 0 0), (6, .sl false 1 (rowN tn)), (10, nat i), (11, nat c), (12, nat j)], [.var (nodeV 7 s n p l)]⟩
noncomputable def wiE (i c j : Nat) : St := ⟨[(5, .ptr 0 0 0), (6, .sl false 1 (rowN tn)), (10, nat i), (11, nat c), (12, nat j), (48, .v (.bool false))], [.var (nodeV 7 s n p l)]⟩
noncomputable def woH (i : Nat) : St := ⟨[(5, .ptr 0 0 0), (6, .sl false 1 (rowN tn)), (10, nat i)], [.var (nodeV 7 s n p l)]⟩
noncomputable def woE (i : Nat) : St := ⟨[(5, .ptr 0 0 0), (6, .sl false 1 (rowN tn)), (10, nat i), (42, .v (.bool false))], [.var (nodeV 7 s n p l)]⟩
theorem wi_canon (i c j : Nat) : canon 0 (wiH s n p l tn i c j) = some (wiH s n p l tn i c j) := by kernel_rfl
theorem wo_canon (i : Nat) : canon 0 (woH s n p l tn i) = some (woH s n p l tn i) := by kernel_rfl

theorem wi_yes (i c j : Nat) (hi : i < tn.length) (hj : j < tn.length) (hl : tn.length < 10000) (hb : ∀ a, a ∈ tn → a < 4611686018427387904) (hp : p < 17592186044416) (hc : c < 4294967296) (h : win p tn[j] = win p tn[i]) :
    run (callF tab ext 399) 0 399 (loopOf tab 3 1) (wiH s n p l tn i c j) = some (.norm, wiH s n p l tn i (c + 1) (j + 1)) :=
  run_of [(48, .b true), (54, .e [nat tn[j]]), (56, .p (nat (win p tn[j]))), (60, .e [nat tn[i]]), (62, .p (nat (win p tn[i]))), (63, .b true), (65, .i (Int.ofNat (c + 1))), (50, .i (Int.ofNat (j + 1)))] []
    (pf8 (show decide (Int.ofNat j < Int.ofNat (rowN tn).length) = true from lt_nat (by rw [rowN_length]; exact hj)) (rowN_get hj) (window_nat 378 7 s n p l tn[j] hp (hb _ (List.getElem_mem _))) (rowN_get hi) (window_nat 378 7 s n p l tn[i] hp (hb _ (List.getElem_mem _))) (eq_nat h) (next_nat (j := c) hc) (next_nat (j := j) (by omega))) (lo' := []) (by kernel_rfl)
theorem wi_no (i c j : Nat) (hi : i < tn.length) (hj : j < tn.length) (hl : tn.length < 10000) (hb : ∀ a, a ∈ tn → a < 4611686018427387904) (hp : p < 17592186044416) (h : ¬ win p tn[j] = win p tn[i]) :
    run (callF tab ext 399) 0 399 (loopOf tab 3 1) (wiH s n p l tn i c j) = some (.norm, wiH s n p l tn i c (j + 1)) :=
  run_of [(48, .b true), (54, .e [nat tn[j]]), (56, .p (nat (win p tn[j]))), (60, .e [nat tn[i]]), (62, .p (nat (win p tn[i]))), (63, .b false), (50, .i (Int.ofNat (j + 1)))] []
    (pf7 (show decide (Int.ofNat j < Int.ofNat (rowN tn).length) = true from lt_nat (by rw [rowN_length]; exact hj)) (rowN_get hj) (window_nat 378 7 s n p l tn[j] hp (hb _ (List.getElem_mem _))) (rowN_get hi) (window_nat 378 7 s n p l tn[i] hp (hb _ (List.getElem_mem _))) (neq_nat h) (next_nat (j := j) (by omega))) (lo' := []) (by kernel_rfl)
theorem wi_end (i c : Nat) : run (callF tab ext 399) 0 399 (loopOf tab 3 1) (wiH s n p l tn i c tn.length) = some (.exit 2, wiE s n p l tn i c tn.length) :=
  run_of [(48, .b false)] [] (pf1 (show decide (Int.ofNat tn.length < Int.ofNat (rowN tn).length) = false from nlt_nat (by rw [rowN_length]; omega))) (lo' := []) (by kernel_rfl)

theorem wi_loop (i : Nat) (hi : i < tn.length) (hl : tn.length < 390) (hb : ∀ a, a ∈ tn → a < 4611686018427387904) (hp : p < 17592186044416) :
    run (callF tab ext 399) 0 399 (.loop (loopOf tab 3 1)) (wiH s n p l tn i 0 0) = some (.exit 2, wiE s n p l tn i (cw p tn tn[i] tn.length) tn.length) := by
  refine loop_for (σ := fun j => wiH s n p l tn i (cw p tn tn[i] j) j) (k := tn.length) ?_ (fun j hj => ?_) (wi_end s n p l tn i _) (by simp) (by omega)
  · have : cw p tn tn[i] 0 = 0 := by simp [cw]
    rw [this]; exact wi_canon s n p l tn i 0 0
  · have hc : cw p tn tn[i] j ≤ j := by
      unfold cw
      refine Nat.le_trans (List.countP_le_length) ?_
      simp; omega
    rw [cw_succ p tn _ j hj]
    by_cases h : win p tn[j] = win p tn[i]
    · rw [if_pos h]
      exact ⟨_, wi_yes s n p l tn i _ j hi hj (by omega) hb hp (by omega) h, wi_canon s n p l tn i _ _⟩
    · rw [if_neg h]
      exact ⟨_, wi_no s n p l tn i _ j hi hj (by omega) hb hp h, wi_canon s n p l tn i _ _⟩

theorem wo_step (i : Nat) (hi : i < tn.length) (hl : tn.length < 390) (hb : ∀ a, a ∈ tn → a < 4611686018427387904) (hp : p < 17592186044416) (hok : cw p tn tn[i] tn.length ≤ n) :
    run (callF tab ext 399) 0 399 (loopOf tab 3 0) (woH s n p l tn i) = some (.norm, woH s n p l tn (i + 1)) :=
  run_of [(42, .b true), (69, .b false), (44, .i (Int.ofNat (i + 1)))] [(.exit 2, wiE s n p l tn i (cw p tn tn[i] tn.length) tn.length)]
    (pf4 (show decide (Int.ofNat i < Int.ofNat (rowN tn).length) = true from lt_nat (by rw [rowN_length]; exact hi)) (wi_loop s n p l tn i hi hl hb hp) (ngt_nat (j := cw p tn tn[i] tn.length) (k := n) (by omega)) (next_nat (j := i) (by omega))) (lo' := []) (by kernel_rfl)
theorem wo_end : run (callF tab ext 399) 0 399 (loopOf tab 3 0) (woH s n p l tn tn.length) = some (.exit 0, woE s n p l tn tn.length) :=
  run_of [(42, .b false)] [] (pf1 (show decide (Int.ofNat tn.length < Int.ofNat (rowN tn).length) = false from nlt_nat (by rw [rowN_length]; omega))) (lo' := []) (by kernel_rfl)

theorem wo_loop (τ : St) (hτ : canon 0 τ = some (woH s n p l tn 0)) (hl : tn.length < 390) (hb : ∀ a, a ∈ tn → a < 4611686018427387904) (hp : p < 17592186044416) (hok : ∀ i (h : i < tn.length), cw p tn tn[i] tn.length ≤ n) :
    run (callF tab ext 399) 0 399 (.loop (loopOf tab 3 0)) τ = some (.exit 0, woE s n p l tn tn.length) :=
  loop_for (σ := fun i => woH s n p l tn i) (k := tn.length) hτ (fun i hi => ⟨_, wo_step s n p l tn i hi hl hb hp (hok i hi), wo_canon s n p l tn _⟩) (wo_end s n p l tn) (by simp) (by omega)
end

/-- The three numbers of a law, as they come. -/
def boundsC (n p l : Nat) : X := .agg [.v (.int .u8 (Int.ofNat n)), .v (.int .u8 (Int.ofNat p)), .v (.int .u8 (Int.ofNat l))]
noncomputable def wStart (n p l : Nat) (tn : List Nat) (c t : Int) (ss : List (List X)) : St := ⟨[(5, .ptr 1 0 0), (6, .sl false 1 (rowN tn)), (10, nat 0)], [.var [.v (.int .u8 (Int.ofNat n)), .v (.int .u8 (Int.ofNat p)), .v (.int .u8 (Int.ofNat l))], .var (nodeV 7 tName n p l), .var (stC c t ss)]⟩

theorem windows_true (n p l : Nat) (moves : List (List X)) (tn : List Nat) (lf rj : List (List X)) (c t : Int) (ss : List (List X)) (hn : n < 256) (hp : p < 256) (hl : l < 256)
    (hrun : Gam.pureD (callF tab ext 399) 7 [nodeT 7 tName n p l, .sl false 2 (moves.take (min moves.length 60))] = some (.tup [.sl false 1 (rowN tn), .sl false 1 lf, .sl false 1 rj, .agg (stC c t ss)]))
    (hlen : tn.length < 390) (hb : ∀ a, a ∈ tn → a < 4611686018427387904) (hok : ∀ i (h : i < tn.length), cw p tn tn[i] tn.length ≤ n) :
    callF tab ext 400 (.fn 3) [boundsC n p l, .sl false 2 moves] [] = some (.v (.bool true), []) :=
  callF_of [(16, .i (Int.ofNat (min moves.length 60))), (17, .cut), (20, .i (Int.ofNat n)), (23, .i (Int.ofNat p)), (24, .i (Int.ofNat (p + 1))), (27, .i (Int.ofNat l)), (32, .p (.tup [.sl false 1 (rowN tn), .sl false 1 lf, .sl false 1 rj, .agg (stC c t ss)])), (37, .p (.v (.bool true)))]
    [(.exit 0, woE tName n p l tn tn.length)]
    (pf9 (min60 moves.length) (show 0 ≤ min moves.length 60 ∧ min moves.length 60 ≤ moves.length by omega) (byte_int hn) (byte_int hp) (one_int hp) (byte_int hl) hrun known_399
      (wo_loop tName n p l tn (wStart n p l tn c t ss) (by kernel_rfl) hlen hb (by omega) hok)) (by kernel_rfl)
end Go.Proofs.Ytjfheahakfoofaa

/- The runs of a throttle, in plain words: bounds, and windows. -/
namespace Go.Proofs.Ytjfheahakfoofaa
open Go.Em

structure Tr where
  now : Nat
  ts : List Nat
  lf : List Int
  rj : List Int
  q : Ts
section
variable (n p l : Nat)
def tickR (w : Nat) (x : Tr) : Tr :=
  ⟨x.now + w, x.ts ++ List.replicate (gone n p (x.now + w) x.q) (x.now + w), x.lf ++ x.q.es.take (gone n p (x.now + w) x.q), x.rj, tickT n p (x.now + w) x.q⟩
def arrR (e : Int) (x : Tr) : Tr :=
  ⟨x.now, x.ts ++ (if passes n p x.now x.q then [x.now] else []), x.lf ++ leftT n p x.now e x.q, x.rj ++ rejT n p l x.now e x.q, arrT n p l x.now e x.q⟩
def moveR (i : Nat) (m : Nat × Bool) (x : Tr) : Tr := if m.2 then arrR n p l (Int.ofNat (i + 1)) (tickR n p m.1 x) else tickR n p m.1 x
def seqR (l0 : List (Nat × Bool)) : Nat → Tr
  | 0 => ⟨0, [], [], [], ⟨0, 0, []⟩⟩
  | i + 1 => moveR n p l i (l0.getD i (0, false)) (seqR l0 i)
end

theorem win_mono (p : Nat) {a b : Nat} (h : a ≤ b) : win p a ≤ win p b := by
  have e : ∀ x, win p x = (p + 1) * (x / (p + 1)) := fun x => by have := Nat.div_add_mod x (p + 1); simp only [win]; omega
  rw [e, e]
  exact Nat.mul_le_mul_left _ (Nat.div_le_div_right h)
theorem win_le (p a : Nat) : win p a ≤ a := by simp only [win]; omega
theorem cnt_le (p c t a : Nat) : cnt p c t a ≤ c := by unfold cnt; split <;> omega
theorem gone_le (n p a : Nat) (q : Ts) : gone n p a q ≤ q.es.length := Nat.min_le_left _ _

/-- How great a run can become. -/
structure Bnd (i : Nat) (x : Tr) : Prop where
  sum : x.ts.length + x.q.es.length ≤ i
  lf : x.lf.length = x.ts.length
  rj : x.rj.length ≤ i
  c : x.q.c ≤ x.ts.length
  now : x.now ≤ 255 * i

theorem tickR_bnd {n p i w : Nat} {x : Tr} (h : Bnd i x) (hw : w < 256) : Bnd i { tickR n p w x with now := 0 } ∧ (tickR n p w x).now ≤ 255 * i + 255 := by
  obtain ⟨h1, h2, h3, h4, h5⟩ := h
  have hg := gone_le n p (x.now + w) x.q
  have hc := cnt_le p x.q.c x.q.t (x.now + w)
  refine ⟨⟨?_, ?_, h3, ?_, Nat.zero_le _⟩, ?_⟩
  · simp only [tickR, tickT, List.length_append, List.length_replicate]
    split
    · omega
    · simp only [List.length_drop]; omega
  · simp only [tickR, List.length_append, List.length_replicate, List.length_take]; omega
  · simp only [tickR, tickT, List.length_append, List.length_replicate]
    split
    · omega
    · dsimp only; omega
  · simp only [tickR]; omega

theorem arrR_bnd {n p l i : Nat} {e : Int} {x : Tr} (h : Bnd i { x with now := 0 }) (hn : x.now ≤ 255 * i + 255) : Bnd (i + 1) (arrR n p l e x) := by
  obtain ⟨h1, h2, h3, h4, h5⟩ := h
  dsimp only at h1 h2 h3 h4
  have hc := cnt_le p x.q.c x.q.t x.now
  unfold arrR leftT rejT arrT
  by_cases hp : passes n p x.now x.q = true
  · simp only [hp, if_true]
    have he : x.q.es.length = 0 := by simp only [passes, decide_eq_true_eq] at hp; exact hp.1
    refine ⟨by simp; omega, by simp [h2], by simp; omega, by simp; omega, by dsimp only; omega⟩
  · simp only [hp, if_false]
    by_cases hh : holds l x.q = true
    · simp only [hh, if_true]
      exact ⟨by simp; omega, by simp [h2], by simp; omega, by simpa using h4, by dsimp only; omega⟩
    · simp only [hh, if_false]
      exact ⟨by simp; omega, by simp [h2], by simp; omega, by simpa using h4, by dsimp only; omega⟩

theorem moveR_bnd {n p l i : Nat} {m : Nat × Bool} {x : Tr} (h : Bnd i x) (hw : m.1 < 256) : Bnd (i + 1) (moveR n p l i m x) := by
  obtain ⟨h1, h2⟩ := tickR_bnd (n := n) (p := p) h hw
  unfold moveR
  split
  · exact arrR_bnd h1 h2
  · exact ⟨Nat.le_succ_of_le h1.sum, h1.lf, Nat.le_succ_of_le h1.rj, h1.c, by omega⟩

def okMoves (l0 : List (Nat × Bool)) : Prop := ∀ m, m ∈ l0 → m.1 < 256
theorem okMoves_get {l0 : List (Nat × Bool)} (h : okMoves l0) (i : Nat) : (l0.getD i (0, false)).1 < 256 := by
  by_cases hi : i < l0.length
  · have : l0.getD i (0, false) = l0[i] := by simp [List.getD, hi]
    rw [this]; exact h _ (List.getElem_mem hi)
  · have : l0.getD i (0, false) = (0, false) := by simp [List.getD]; rw [List.getElem?_eq_none (by omega)]; rfl
    rw [this]; decide

theorem seqR_bnd {n p l : Nat} {l0 : List (Nat × Bool)} (h : okMoves l0) : ∀ i, Bnd i (seqR n p l l0 i)
  | 0 => ⟨by simp [seqR], rfl, by simp [seqR], by simp [seqR], by simp [seqR]⟩
  | i + 1 => moveR_bnd (seqR_bnd h i) (okMoves_get h i)

/-- No window lets too many pass. -/
structure Wn (n p : Nat) (x : Tr) : Prop where
  t : x.q.t ≤ win p x.now
  le : ∀ a, a ∈ x.ts → win p a ≤ x.q.t
  cn : x.q.c ≤ n
  cnt : x.ts.countP (fun a => decide (win p a = x.q.t)) ≤ x.q.c
  all : ∀ w, x.ts.countP (fun a => decide (win p a = w)) ≤ n

theorem wn_add {n p a k : Nat} {x y : Tr} (h : Wn n p x) (ha : x.now ≤ a) (hk : k ≤ n - cnt p x.q.c x.q.t a) (h0 : k ≠ 0) (e1 : y.now = a) (e2 : y.ts = x.ts ++ List.replicate k a) (e3 : y.q.c = cnt p x.q.c x.q.t a + k) (e4 : y.q.t = max x.q.t (win p a)) : Wn n p y := by
  have hm := win_mono p ha
  have h1 := h.t
  have ht : y.q.t = win p a := by rw [e4]; omega
  have hrep : ∀ w, (List.replicate k a).countP (fun a => decide (win p a = w)) = if win p a = w then k else 0 := by
    intro w; rw [List.countP_replicate]; simp
  have hcount : x.ts.countP (fun b => decide (win p b = win p a)) ≤ cnt p x.q.c x.q.t a := by
    unfold cnt
    split
    · rename_i hlt
      rw [Nat.le_zero, List.countP_eq_zero]
      intro b hb
      have := h.le b hb
      simp; omega
    · rename_i hge
      have : win p a = x.q.t := by omega
      rw [this]; exact h.cnt
  have hcn := cnt_le p x.q.c x.q.t a
  have h3 := h.cn
  refine ⟨by rw [ht, e1]; exact Nat.le_refl _, fun b hb => ?_, by omega, ?_, fun w => ?_⟩
  · rw [e2] at hb
    rcases List.mem_append.1 hb with hb | hb
    · have := h.le b hb; omega
    · rw [List.eq_of_mem_replicate hb, ht]; exact Nat.le_refl _
  · rw [e2, List.countP_append, hrep, ht, if_pos rfl, e3]; omega
  · rw [e2, List.countP_append, hrep]
    split
    · rename_i hw; rw [← hw]; omega
    · exact h.all w

theorem wn_stay {n p : Nat} {x y : Tr} (h : Wn n p x) (ha : x.now ≤ y.now) (e2 : y.ts = x.ts) (e3 : y.q.c = x.q.c) (e4 : y.q.t = x.q.t) : Wn n p y := by
  have hm := win_mono p ha
  have h1 := h.t
  exact ⟨by rw [e4]; omega, by rw [e2, e4]; exact h.le, by rw [e3]; exact h.cn, by rw [e2, e3, e4]; exact h.cnt, by rw [e2]; exact h.all⟩

theorem wn_move {n p l i : Nat} {m : Nat × Bool} {x : Tr} (h : Wn n p x) : Wn n p (moveR n p l i m x) := by
  have h1 : Wn n p (tickR n p m.1 x) := by
    by_cases hg : gone n p (x.now + m.1) x.q = 0
    · exact wn_stay h (by simp [tickR]) (by simp [tickR, hg]) (by simp [tickR, tickT, hg]) (by simp [tickR, tickT, hg])
    · exact wn_add h (a := x.now + m.1) (k := gone n p (x.now + m.1) x.q) (by omega) (Nat.min_le_right _ _) hg rfl rfl (by simp only [tickR, tickT, hg, if_false]) (by simp only [tickR, tickT, hg, if_false])
  unfold moveR
  split
  · generalize tickR n p m.1 x = y at h1 ⊢
    by_cases hp : passes n p y.now y.q = true
    · refine wn_add h1 (a := y.now) (k := 1) (Nat.le_refl _) ?_ (by omega) rfl (by simp [arrR, hp]) (by simp [arrR, arrT, hp]) (by simp [arrR, arrT, hp])
      simp only [passes, decide_eq_true_eq] at hp
      omega
    · refine wn_stay h1 (Nat.le_refl _) (by simp [arrR, hp]) ?_ ?_
      · simp only [arrR, arrT, hp, if_false, Bool.false_eq_true]; split <;> rfl
      · simp only [arrR, arrT, hp, if_false, Bool.false_eq_true]; split <;> rfl
  · exact h1

theorem seqR_wn {n p l : Nat} {l0 : List (Nat × Bool)} : ∀ i, Wn n p (seqR n p l l0 i)
  | 0 => ⟨by simp [seqR], by simp [seqR], by simp [seqR], by simp [seqR], by simp [seqR]⟩
  | i + 1 => wn_move (seqR_wn i)

/-- What the run of the program comes to. -/
def Tr.rs (x : Tr) : Rs := ⟨x.now, x.ts.map Int.ofNat, x.lf, x.rj, Int.ofNat x.q.c, Int.ofNat x.q.t, slotsC (heldS x.q.es)⟩

theorem nows_const (a : Nat) (os : List Ms) : nows a os = (List.replicate os.length a).map Int.ofNat := by
  simp [nows, List.map_const']

theorem move_ok (N : Nat) (s : ByteArray) (n p l : Nat) (i : Nat) (m : Nat × Bool) (x : Tr) (h : Bnd i x) (hi : i < 60) (hw : m.1 < 256) (hn : n < 256) (hp : p < 256) (hl : l < 256) :
    MoveOk N 7 s n p l i m x.rs (moveR n p l i m x).rs := by
  obtain ⟨h1, h2, h3, h4, h5⟩ := h
  have hc := cnt_le p x.q.c x.q.t (x.now + m.1)
  have hg := gone_le n p (x.now + m.1) x.q
  obtain ⟨f1, hs1⟩ := t_tick N s n p l (x.now + m.1) (Int.ofNat (i + 1)) x.q (by omega) (by omega) (by omega) (by omega) (by omega)
  refine ⟨hw, by simp only [Tr.rs]; omega, by simp [Tr.rs]; omega, by simp [Tr.rs]; omega, by simp [Tr.rs]; omega, _, _, _, _, _, f1, by rw [movedM_length]; omega, by simp, hs1, ?_⟩
  have hgl : (movedM (Int.ofNat (i + 1)) x.q.es (gone n p (x.now + m.1) x.q)).length = gone n p (x.now + m.1) x.q := movedM_length _ _ _
  have ht := tickR_bnd (n := n) (p := p) (w := m.1) ⟨h1, h2, h3, h4, h5⟩ hw
  by_cases hb : m.2 = true
  · right
    refine ⟨hb, ?_⟩
    have hc2 := cnt_le p (tickT n p (x.now + m.1) x.q).c (tickT n p (x.now + m.1) x.q).t (x.now + m.1)
    have e1 := ht.1.sum
    have e2 := ht.1.c
    simp only [tickR, List.length_append, List.length_replicate] at e1 e2
    obtain ⟨f2, hs2⟩ := t_arrive N s n p l (x.now + m.1) (Int.ofNat (i + 1)) (tickT n p (x.now + m.1) x.q) (by omega) (by omega) (by omega) (by omega) (by omega)
    refine ⟨_, _, _, _, _, f2, ?_, ?_, hs2, ?_⟩
    · split <;> simp
    · split
      · simp
      · split <;> simp
    · simp only [moveR, hb, if_true, Tr.rs, arrR, tickR, leftT, rejT, nows_const, hgl, movedM_fsts _ _ _ hg, List.map_append, Rs.mk.injEq]
      refine ⟨trivial, ?_, ?_, ?_, trivial, trivial, trivial⟩
      · by_cases hps : passes n p (x.now + m.1) (tickT n p (x.now + m.1) x.q) = true
        · simp [hps]
        · simp [hps]
      · by_cases hps : passes n p (x.now + m.1) (tickT n p (x.now + m.1) x.q) = true
        · simp [hps, fsts, noteM]
        · simp [hps, fsts]
      · by_cases hps : passes n p (x.now + m.1) (tickT n p (x.now + m.1) x.q) = true
        · simp [hps, fsts]
        · by_cases hh : holds l (tickT n p (x.now + m.1) x.q) = true
          · simp [hps, hh, fsts]
          · simp [hps, hh, fsts, noteM]
  · left
    refine ⟨by simpa using hb, ?_⟩
    have hb' : m.2 = false := by simpa using hb
    have e1 : fsts (movedM (Int.ofNat (i + 1)) x.q.es (gone n p (x.now + m.1) x.q)) = x.q.es.take (gone n p (x.now + m.1) x.q) := movedM_fsts _ _ _ hg
    have e2 : fsts [] = [] := rfl
    simp only [moveR, hb', Bool.false_eq_true, if_false, Tr.rs, tickR, nows_const, hgl, e1, e2, List.map_append, List.append_nil]

theorem seq_pure (N : Nat) (s : ByteArray) (n p l : Nat) (l0 : List (Nat × Bool)) (hl0 : l0.length ≤ 60) (hm : okMoves l0) (hn : n < 256) (hp : p < 256) (hl : l < 256) :
    Gam.pureD (callF tab ext (N + 91)) 7 [nodeT 7 s n p l, .sl false 2 (movesC l0)] = some (.tup [.sl false 1 (rowN (seqR n p l l0 l0.length).ts), .sl false 1 (rowI (seqR n p l l0 l0.length).lf), .sl false 1 (rowI (seqR n p l l0 l0.length).rj),
      .agg (stC (Int.ofNat (seqR n p l l0 l0.length).q.c) (Int.ofNat (seqR n p l l0 l0.length).q.t) (slotsC (heldS (seqR n p l l0 l0.length).q.es)))]) := by
  have h := run_pure N 7 s n p l l0 (fun i => (seqR n p l l0 i).rs) (by simp [seqR, Tr.rs, rs0, heldS, slotsC]) (by omega) (fun i hi => by
    have e : l0[i] = l0.getD i (0, false) := by simp [List.getD, hi]
    have := move_ok N s n p l i (l0.getD i (0, false)) (seqR n p l l0 i) (seqR_bnd hm i) (by omega) (okMoves_get hm i) hn hp hl
    rw [e]
    exact this)
  rw [h]
  simp only [Tr.rs, rowI_nat]

theorem windows_all (n p l : Nat) (l0 : List (Nat × Bool)) (hm : okMoves l0) (hn : n < 256) (hp : p < 256) (hl : l < 256) :
    callF tab ext 400 (.fn 3) [boundsC n p l, .sl false 2 (movesC l0)] [] = some (.v (.bool true), []) := by
  have hm' : okMoves (l0.take 60) := fun m hx => hm m (List.mem_of_mem_take hx)
  have hlen : (l0.take 60).length ≤ 60 := by simp; omega
  have hb := seqR_bnd (n := n) (p := p) (l := l) hm' (l0.take 60).length
  have hrun := seq_pure 308 tName n p l (l0.take 60) hlen hm' hn hp hl
  have hmv : movesC (l0.take 60) = (movesC l0).take (min (movesC l0).length 60) := by
    rw [movesC, movesC, List.map_take, List.length_map]
    rw [Nat.min_comm, List.take_eq_take_min]
    simp [Nat.min_comm]
  rw [hmv] at hrun
  have hwn := seqR_wn (n := n) (p := p) (l := l) (l0 := l0.take 60) (l0.take 60).length
  have hsum := hb.sum
  refine windows_true n p l (movesC l0) (seqR n p l (l0.take 60) (l0.take 60).length).ts _ _ _ _ _ hn hp hl hrun (by omega) (fun a ha => ?_) (fun i hi => ?_)
  · have h1 := hwn.le a ha
    have h2 := hwn.t
    have h3 := win_le p (seqR n p l (l0.take 60) (l0.take 60).length).now
    have h4 := hb.now
    have h5 : a < win p a + (p + 1) := by have := Nat.mod_lt a (show p + 1 > 0 by omega); simp only [win]; omega
    omega
  · have := hwn.all (win p (seqR n p l (l0.take 60) (l0.take 60).length).ts[i])
    unfold cw
    rw [List.take_length]
    exact this

end Go.Proofs.Ytjfheahakfoofaa

/- The abstract machine with this table is sound for the program. -/
namespace Go.Proofs.Ytjfheahakfoofaa
open Go.RowKit

set_option maxHeartbeats 1000000 in
theorem compare_calls (a b : ByteArray) (w : World) :
    Calls Try.prog 67 #[.string a, .string b] w fun e w' => e = .returned (.int .i64 (Lib.compareBytes a.data.toList b.data.toList)) ∧ w' = w := by
  go_enter Try.func67, Try.ntmps67
  go_wp2
  rw [run_callFunc_extern Try.func69 (by kernel_rfl) (by kernel_rfl) (by kernel_rfl) (e := Extern.BytealgCompare.compare) (by kernel_rfl), Lib.run_compareString]
  simp only [Result.andThen]
  rw [Oper.upon_value]
  go_wp2
  go_ret
  exact ⟨rfl, rfl⟩

open Go.Em

theorem tabOk : TabOk Try.prog tab := by
  intro f fd h
  unfold tab at h
  split at h
  · exact ⟨_, h⟩
  · cases h

theorem extOk : ExtOk Try.prog ext := by
  intro f g hg args inb res outb h
  unfold ext at hg
  split at hg
  · rename_i hf
    have hf' : f = 67 := by simpa using hf
    subst hf'
    simp only [Option.some.injEq] at hg
    subst hg
    unfold compareExt at h
    split at h
    · rename_i a b
      simp only [Option.some.injEq, Prod.mk.injEq] at h
      obtain ⟨rfl, rfl⟩ := h
      refine ⟨fnOk Try.func67 (fun e => absurd e (of_decide_eq_false (by kernel_rfl))) (fun e => by simpa [e] using (show Try.f67.body.isSome = true by kernel_rfl)), fsem_pure rfl fun cargs w K C ha => ?_⟩
      have h2 : cargs = #[.string a, .string b] := by
        have hs : cargs.size = 2 := ha.1
        have r0 := rep_v (ha.2 0 _ cargs[0] rfl (Array.getElem?_eq_getElem (by omega)))
        have r1 := rep_v (ha.2 1 _ cargs[1] rfl (Array.getElem?_eq_getElem (by omega)))
        refine Array.ext (by simp [hs]) fun i h1 h2 => ?_
        match i, h1, h2 with
        | 0, _, _ => simpa using r0
        | 1, _, _ => simpa using r1
        | i + 2, h1, _ => omega
      rw [h2]
      exact compare_calls a b w
    · cases h
  · cases hg

theorem machine (n : Nat) : GamOk Try.prog (RCode Try.prog) (callF tab ext n) := callF_ok tabOk extOk n

end Go.Proofs.Ytjfheahakfoofaa

/- The arguments of the laws about runs. -/
namespace Go.Proofs.Ytjfheahakfoofaa
open Go.Em Go.RowKit

theorem Try.own : ownKnob Try.prog.godebug = none := by kernel_rfl
theorem Try.laidOut : laidOutB Try.prog = true := by kernel_rfl
theorem Try.rowed : mapsRowed Try.prog = true := by kernel_rfl
/-- Types of data: numbers, truth values, the moves. -/
def tys : List TypeId := [3, 4, 5, 22, 23, 57]
theorem tys_ok : dataTys Try.prog tys = true := by kernel_rfl
theorem tys_size : tys.all (fun t => decide (t < Try.prog.types.size)) = true := by kernel_rfl
theorem tys_lt {t : TypeId} (h : t ∈ tys) : t < Try.prog.types.size := of_decide_eq_true (List.all_eq_true.1 tys_size t h)
theorem tys_kids : Kids Try.prog (fun t => t ∈ tys ∧ t < Try.prog.types.size) := kids_data (kids_rows Try.laidOut Try.rowed) tys_ok

def fieldsOf (P : Program) (t : TypeId) : Array Field := match P.underlying t with
  | some (.struct fs) => fs
  | _ => #[]
theorem under5 : Try.prog.underlying 5 = some (.int .u8) := by kernel_rfl
theorem under4 : Try.prog.underlying 4 = some .bool := by kernel_rfl
theorem under22 : Try.prog.underlying 22 = some (.array 3 5) := by kernel_rfl
theorem under23 : Try.prog.underlying 23 = some (.slice 57) := by kernel_rfl
theorem under57 : Try.prog.underlying 57 = some (.struct (fieldsOf Try.prog 57)) := by kernel_rfl
theorem fields57 : (fieldsOf Try.prog 57).toList.map (·.type) = [5, 4] := by kernel_rfl
theorem cells57 : Try.prog.cellsOf 57 = 2 := by kernel_rfl

theorem shape_byte {n : Nat} {xs : List X} (h : Shape Try.prog n 5 xs) : ∃ w : Nat, xs = [.v (.int .u8 (Int.ofNat w))] ∧ w < 256 := by
  obtain ⟨v, rfl, hw⟩ := shape_int under5 h
  have h0 : IntKind.u8.min = 0 := by decide
  have h1 : IntKind.u8.max = 255 := by decide
  simp only [Lit.wf, h0, h1, Bool.and_eq_true, decide_eq_true_eq] at hw
  refine ⟨v.toNat, ?_, by omega⟩
  have : Int.ofNat v.toNat = v := by simp only [Int.ofNat_eq_natCast]; omega
  rw [this]

theorem shape_bounds {n : Nat} {xs : List X} (h : Shape Try.prog n 22 xs) : ∃ a b c : Nat, X.agg xs = boundsC a b c ∧ a < 256 ∧ b < 256 ∧ c < 256 := by
  obtain ⟨k, _, hk⟩ := shape_array under22 h
  obtain ⟨x0, r0, rfl, h0, hk⟩ := hk
  obtain ⟨x1, r1, rfl, h1, hk⟩ := hk
  obtain ⟨x2, r2, rfl, h2, hk⟩ := hk
  have hk : r2 = [] := hk
  subst hk
  obtain ⟨a, rfl, ha⟩ := shape_byte h0
  obtain ⟨b, rfl, hb⟩ := shape_byte h1
  obtain ⟨c, rfl, hc⟩ := shape_byte h2
  exact ⟨a, b, c, rfl, ha, hb, hc⟩

set_option maxRecDepth 100000 in
theorem shape_moves {n : Nat} {xs : List X} (h : Shape Try.prog n 23 xs) : ∃ l0, xs = [.sl false 2 (movesC l0)] ∧ okMoves l0 := by
  obtain ⟨es, rfl, _, m, _, hes⟩ := shape_slice under23 h
  rw [cells57]
  have hone : ∀ c, c ∈ es → ∃ mv : { mv : Nat × Bool // mv.1 < 256 }, c = moveC mv.1 := by
    intro c hc
    obtain ⟨k, _, hk⟩ := shape_struct under57 (hes c hc)
    rw [fields57] at hk
    obtain ⟨x0, r0, rfl, h0, hk⟩ := hk
    obtain ⟨x1, r1, rfl, h1, hk⟩ := hk
    have hk : r1 = [] := hk
    subst hk
    obtain ⟨w, rfl, hw⟩ := shape_byte h0
    obtain ⟨b, rfl⟩ := shape_bool under4 h1
    exact ⟨⟨(w, b), hw⟩, rfl⟩
  obtain ⟨l, rfl⟩ := list_of (fun mv : { mv : Nat × Bool // mv.1 < 256 } => moveC mv.1) hone
  refine ⟨l.map (·.1), by simp [movesC], fun mv hmv => ?_⟩
  obtain ⟨x, _, rfl⟩ := List.mem_map.1 hmv
  exact x.2

end Go.Proofs.Ytjfheahakfoofaa

/- Slots with the keys of a delay are found. -/
namespace Go.Proofs.Ytjfheahakfoofaa
open Go.Em

def keyX (k : Nat) : X := .agg [num 2, nat k, num 0, noText, .sl false 6 [], .sl false 7 []]
/-- The slot of a delay: its time, what it holds. -/
def dslot (d : Nat × List Int) : Sl := ⟨2, Int.ofNat d.1, Int.ofNat d.1, d.2⟩
def dss (ds : List (Nat × List Int)) : List Sl := ds.map dslot
theorem dss_length (ds : List (Nat × List Int)) : (dss ds).length = ds.length := by simp [dss]
theorem dslots_get {ds : List (Nat × List Int)} {j : Nat} (h : j < ds.length) : (slotsC (dss ds))[j]? = some (dslot ds[j]).cells := by simp [slotsC, dss, h]
theorem dslots_length (ds : List (Nat × List Int)) : (slotsC (dss ds)).length = ds.length := by simp [slotsC, dss]

theorem not_nan (N a : Nat) : Gam.pureD (callF tab ext (N + 18)) 47 [nat a] = some (.v (.bool false)) :=
  pure_of [(5, .b false)] [] (pf1 (show (!(Int.ofNat a == Int.ofNat a)) = false by simp)) (x := .v (.bool false)) (bx := []) (by kernel_rfl) rfl
theorem int_lt {a b : Nat} (N : Nat) (h : a < b) : Gam.pureD (callF tab ext (N + 20)) 39 [nat a, nat b] = some (num (-1)) :=
  pure_of [(8, .p (.v (.bool false))), (10, .p (.v (.bool false))), (16, .b true)] [] (pf3 (not_nan (N + 1) a) (not_nan (N + 1) b) (lt_nat h)) (x := num (-1)) (bx := []) (by kernel_rfl) rfl
theorem int_eq {a b : Nat} (N : Nat) (h : a = b) : Gam.pureD (callF tab ext (N + 20)) 39 [nat a, nat b] = some (num 0) :=
  pure_of [(8, .p (.v (.bool false))), (10, .p (.v (.bool false))), (16, .b false), (19, .b false)] [] (pf4 (not_nan (N + 1) a) (not_nan (N + 1) b) (nlt_nat (j := a) (k := b) (by omega)) (ngt_nat (j := a) (k := b) (by omega))) (x := num 0) (bx := []) (by kernel_rfl) rfl
theorem int_gt {a b : Nat} (N : Nat) (h : b < a) : Gam.pureD (callF tab ext (N + 20)) 39 [nat a, nat b] = some (num 1) :=
  pure_of [(8, .p (.v (.bool false))), (10, .p (.v (.bool false))), (16, .b false), (19, .b true)] [] (pf4 (not_nan (N + 1) a) (not_nan (N + 1) b) (nlt_nat (j := a) (k := b) (by omega)) (gt_nat (j := a) (k := b) h)) (x := num 1) (bx := []) (by kernel_rfl) rfl

def ord3 (a b : Nat) : Int := if a < b then -1 else if a = b then 0 else 1
theorem key_cmp (N a b : Nat) : Gam.pureD (callF tab ext (N + 30)) 58 [keyX a, keyX b] = some (num (ord3 a b)) := by
  unfold ord3
  by_cases h : a < b
  · rw [if_pos h]
    exact pure_of [(14, .p (num (-1)))] [] (pf1 (int_lt (N + 9) h)) (x := num (-1)) (bx := []) (by kernel_rfl) rfl
  · rw [if_neg h]
    by_cases h2 : a = b
    · rw [if_pos h2]
      exact pure_of [(14, .p (num 0))] [] (pf1 (int_eq (N + 9) h2)) (x := num 0) (bx := []) (by kernel_rfl) rfl
    · rw [if_neg h2]
      exact pure_of [(14, .p (num 1))] [] (pf1 (int_gt (a := a) (b := b) (N + 9) (by omega))) (x := num 1) (bx := []) (by kernel_rfl) rfl
theorem slot_cmp (N : Nat) (d : Nat × List Int) (b : Nat) : Gam.pureD (callF tab ext (N + 31)) 57 [.agg (dslot d).cells, keyX b] = some (num (ord3 d.1 b)) :=
  pure_of [(8, .p (num (ord3 d.1 b)))] [] (pf1 (key_cmp N d.1 b)) (x := num (ord3 d.1 b)) (bx := []) (by kernel_rfl) rfl

section
variable (slots : List (List X)) (k n lo hi : Nat)
def bsH : St := ⟨[(0, .sl false 10 slots), (2, .fn 57 []), (4, .ptr 0 0 0), (8, nat n), (9, nat lo), (10, nat hi)], [.var [num 2, nat k, num 0, noText, .sl false 6 [], .sl false 7 []]]⟩
def bsE : St := ⟨[(0, .sl false 10 slots), (2, .fn 57 []), (4, .ptr 0 0 0), (8, nat n), (9, nat lo), (10, nat hi), (17, .v (.bool false))], [.var [num 2, nat k, num 0, noText, .sl false 6 [], .sl false 7 []]]⟩
theorem bs_canon : canon 0 (bsH slots k n lo hi) = some (bsH slots k n lo hi) := by kernel_rfl
theorem bs_end (h : ¬ lo < hi) (N : Nat) : run (callF tab ext (N + 80)) 0 (N + 80) (loopOf tab 56 0) (bsH slots k n lo hi) = some (.exit 0, bsE slots k n lo hi) :=
  run_of [(17, .b false)] [] (pf1 (nlt_nat h)) (lo' := []) (by kernel_rfl)
end

theorem half_nat {s : Nat} (h : s < 4294967296) : IntKind.i64.wrap (Int.ofNat (s / 2)) = Int.ofNat (s / 2) := by
  rw [IntKind.wrap_i64]; simp only [Int.ofNat_eq_natCast]; omega
theorem u64_nat {s : Nat} (h : s < 4294967296) : IntKind.u64.wrap (Int.ofNat s) = Int.ofNat s := by
  rw [IntKind.wrap_u64]; simp only [Int.ofNat_eq_natCast]; omega

theorem shr_nat {s : Nat} : (Int.ofNat s).fdiv (2 ^ min (Int.toNat 1) IntKind.u64.bits) = Int.ofNat (s / 2) := by
  have e : (2 : Int) ^ min (Int.toNat 1) IntKind.u64.bits = 2 := by decide
  rw [e, Int.fdiv_eq_ediv_of_nonneg _ (by decide)]
  rfl

section
variable (N : Nat) (slots : List (List X)) (k n lo hi : Nat) (d : Nat × List Int)
theorem bs_step_lt (hlt : lo < hi) (hh : hi < 4294967) (hg : slots[(lo + hi) / 2]? = some (dslot d).cells) (hd : d.1 < k) :
    run (callF tab ext (N + 80)) 0 (N + 80) (loopOf tab 56 0) (bsH slots k n lo hi) = some (.norm, bsH slots k n ((lo + hi) / 2 + 1) hi) :=
  run_of [(17, .b true), (20, .i (Int.ofNat (lo + hi))), (21, .i (Int.ofNat (lo + hi))), (22, .i (Int.ofNat ((lo + hi) / 2))), (23, .i (Int.ofNat ((lo + hi) / 2))), (27, .e (dslot d).cells), (30, .p (num (-1))), (33, .i (Int.ofNat ((lo + hi) / 2 + 1)))] []
    (pf8 (lt_nat hlt) (add_nat (a := lo) (b := hi) (by omega) (by omega)) (u64_nat (s := lo + hi) (by omega)) (shr_nat (s := lo + hi)) (half_nat (s := lo + hi) (by omega)) hg
      (show Gam.pureD (callF tab ext (N + 80)) 57 [.agg (dslot d).cells, keyX k] = some (num (-1)) by rw [slot_cmp (N + 49), ord3, if_pos hd]) (next_nat (j := (lo + hi) / 2) (by omega))) (lo' := []) (by kernel_rfl)
theorem bs_step_eq (hlt : lo < hi) (hh : hi < 4294967) (hg : slots[(lo + hi) / 2]? = some (dslot d).cells) (hd : d.1 = k) :
    run (callF tab ext (N + 80)) 0 (N + 80) (loopOf tab 56 0) (bsH slots k n lo hi) = some (.norm, bsH slots k n lo ((lo + hi) / 2)) :=
  run_of [(17, .b true), (20, .i (Int.ofNat (lo + hi))), (21, .i (Int.ofNat (lo + hi))), (22, .i (Int.ofNat ((lo + hi) / 2))), (23, .i (Int.ofNat ((lo + hi) / 2))), (27, .e (dslot d).cells), (30, .p (num 0))] []
    (pf7 (lt_nat hlt) (add_nat (a := lo) (b := hi) (by omega) (by omega)) (u64_nat (s := lo + hi) (by omega)) (shr_nat (s := lo + hi)) (half_nat (s := lo + hi) (by omega)) hg
      (show Gam.pureD (callF tab ext (N + 80)) 57 [.agg (dslot d).cells, keyX k] = some (num 0) by rw [slot_cmp (N + 49), ord3, if_neg (by omega), if_pos hd])) (lo' := []) (by kernel_rfl)
end

/-- The search comes to the first slot whose key is not less. -/
theorem search (N : Nat) (ds : List (Nat × List Int)) (k m : Nat) (hn : ds.length < 80) (hm : m ≤ ds.length) (h1 : ∀ i (h : i < ds.length), i < m → ds[i].1 < k) (h2 : ∀ i (h : i < ds.length), m ≤ i → ds[i].1 = k) :
    run (callF tab ext (N + 80)) 0 (N + 80) (.loop (loopOf tab 56 0)) (bsH (slotsC (dss ds)) k (slotsC (dss ds)).length 0 (slotsC (dss ds)).length) = some (.exit 0, bsE (slotsC (dss ds)) k (slotsC (dss ds)).length m m) := by
  have hlen := dslots_length ds
  refine loop_dec (α := Nat × Nat) (σ := fun a => bsH (slotsC (dss ds)) k (slotsC (dss ds)).length a.1 a.2) (I := fun a => a.1 ≤ m ∧ m ≤ a.2 ∧ a.2 ≤ ds.length) (μ := fun a => a.2 - a.1) (fun a ha => ?_) (by simp) (a := (0, (slotsC (dss ds)).length)) ⟨by omega, by dsimp only; omega, by dsimp only; omega⟩ (bs_canon _ _ _ _ _) (by dsimp only; omega)
  obtain ⟨lo, hi⟩ := a
  obtain ⟨ha1, ha2, ha3⟩ := ha
  dsimp only at ha1 ha2 ha3 ⊢
  by_cases hlt : lo < hi
  · left
    have hh : (lo + hi) / 2 < ds.length := by omega
    by_cases hc : (lo + hi) / 2 < m
    · exact ⟨_, ((lo + hi) / 2 + 1, hi), bs_step_lt N _ k _ lo hi ds[(lo + hi) / 2] hlt (by omega) (dslots_get hh) (h1 _ hh hc), bs_canon _ _ _ _ _, ⟨by dsimp only; omega, ha2, ha3⟩, by dsimp only; omega⟩
    · exact ⟨_, (lo, (lo + hi) / 2), bs_step_eq N _ k _ lo hi ds[(lo + hi) / 2] hlt (by omega) (dslots_get hh) (h2 _ hh (by omega)), bs_canon _ _ _ _ _, ⟨ha1, by dsimp only; omega, by dsimp only; omega⟩, by dsimp only; omega⟩
  · right
    have e1 : lo = m := by omega
    have e2 : hi = m := by omega
    subst e1; subst e2
    exact bs_end _ k _ _ _ hlt N

theorem bin_new (N : Nat) (ds : List (Nat × List Int)) (k : Nat) (hn : ds.length < 80) (h1 : ∀ d, d ∈ ds → d.1 < k) :
    Gam.pureD (callF tab ext (N + 81)) 56 [.sl false 10 (slotsC (dss ds)), keyX k, .fn 57 []] = some (.tup [nat (slotsC (dss ds)).length, .v (.bool false)]) :=
  pure_of [(38, .b false)] [(.exit 0, bsE (slotsC (dss ds)) k (slotsC (dss ds)).length (slotsC (dss ds)).length (slotsC (dss ds)).length)]
    (pf2 (search N ds k (slotsC (dss ds)).length hn (by rw [dslots_length]; exact Nat.le_refl _) (fun i h _ => h1 _ (List.getElem_mem h)) (fun i h h' => by rw [dslots_length] at h'; omega)) (nlt_nat (j := (slotsC (dss ds)).length) (k := (slotsC (dss ds)).length) (by omega))) (x := .tup [nat (slotsC (dss ds)).length, .v (.bool false)]) (bx := []) (by kernel_rfl) rfl
theorem bin_last (N : Nat) (ds : List (Nat × List Int)) (k : Nat) (es : List Int) (hn : ds.length < 79) (h1 : ∀ d, d ∈ ds → d.1 < k) :
    Gam.pureD (callF tab ext (N + 81)) 56 [.sl false 10 (slotsC (dss (ds ++ [(k, es)]))), keyX k, .fn 57 []] = some (.tup [nat ds.length, .v (.bool true)]) :=
  pure_of [(38, .b true), (43, .e (dslot (k, es)).cells), (46, .p (num 0))] [(.exit 0, bsE (slotsC (dss (ds ++ [(k, es)]))) k (slotsC (dss (ds ++ [(k, es)]))).length ds.length ds.length)]
    (pf4 (search N (ds ++ [(k, es)]) k ds.length (by simp; omega) (by simp) (fun i h h' => by rw [List.getElem_append_left h']; exact h1 _ (List.getElem_mem h')) (fun i h h' => by
        have : i = ds.length := by simp at h; omega
        subst this; simp)) (lt_nat (j := ds.length) (k := (slotsC (dss (ds ++ [(k, es)]))).length) (by rw [dslots_length]; simp)) (show (slotsC (dss (ds ++ [(k, es)])))[ds.length]? = some (dslot (k, es)).cells by simp [slotsC, dss])
      (show Gam.pureD (callF tab ext (N + 80)) 57 [.agg (dslot (k, es)).cells, keyX k] = some (num 0) by rw [slot_cmp (N + 49), ord3, if_neg (by omega), if_pos rfl])) (x := .tup [nat ds.length, .v (.bool true)]) (bx := []) (by kernel_rfl) rfl

theorem find_new (N : Nat) (c t : Int) (ds : List (Nat × List Int)) (k : Nat) (hn : ds.length < 80) (h1 : ∀ d, d ∈ ds → d.1 < k) :
    Gam.pureD (callF tab ext (N + 82)) 50 [stateX c t (dss ds), keyX k] = some (.tup [nat (slotsC (dss ds)).length, .v (.bool false)]) :=
  pure_of [(9, .p (.tup [nat (slotsC (dss ds)).length, .v (.bool false)]))] [] (pf1 (bin_new N ds k hn h1)) (x := .tup [nat (slotsC (dss ds)).length, .v (.bool false)]) (bx := []) (by kernel_rfl) rfl
theorem find_last (N : Nat) (c t : Int) (ds : List (Nat × List Int)) (k : Nat) (es : List Int) (hn : ds.length < 79) (h1 : ∀ d, d ∈ ds → d.1 < k) :
    Gam.pureD (callF tab ext (N + 82)) 50 [stateX c t (dss (ds ++ [(k, es)])), keyX k] = some (.tup [nat ds.length, .v (.bool true)]) :=
  pure_of [(9, .p (.tup [nat ds.length, .v (.bool true)]))] [] (pf1 (bin_last N ds k es hn h1)) (x := .tup [nat ds.length, .v (.bool true)]) (bx := []) (by kernel_rfl) rfl

end Go.Proofs.Ytjfheahakfoofaa

/- Slots of a delay are put. -/
namespace Go.Proofs.Ytjfheahakfoofaa
open Go.Em

theorem eq_nat0 (a : Nat) : (Int.ofNat a == Int.ofNat a) = true := by simp
theorem small_int {n : Nat} (h : n < 1024) : decide (Int.ofNat n ≥ 1024) = false := by
  apply decide_eq_false; simp only [Int.ofNat_eq_natCast]; omega

theorem insert_end (N : Nat) (rows : List (List X)) (n : Nat) (s : Sl) (hn : n = rows.length) (hl : n < 1000) :
    callF tab ext (N + 20) (.fn 51) [.bs 0 0 n, nat n, .sl true 10 [s.cells]] [.row 10 rows] = some (.bs 1 0 (n + 1), [.dead, .row 10 (rows ++ [s.cells])]) :=
  callF_of [(12, .cutz), (22, .b true), (25, .app)] [] (pf3 (show n = n ∧ n ≤ n from ⟨rfl, Nat.le_refl n⟩) (eq_nat0 n) (app_c (i := 0) (bytes := 152) hn (by omega) (by omega))) (by kernel_rfl)

theorem get_new (N : Nat) (c t : Int) (ds : List (Nat × List Int)) (k : Nat) (hn : ds.length < 80) (h1 : ∀ d, d ∈ ds → d.1 < k) :
    callF tab ext (N + 83) (.fn 43) [stateX c t (dss ds), keyX k] [] = some (.tup [.agg zSlot, .v (.bool false)], []) :=
  callF_of [(11, .p (.tup [nat (slotsC (dss ds)).length, .v (.bool false)]))] [] (pf1 (find_new N c t ds k hn h1)) (by kernel_rfl)

def rowSlotD (k : Nat) (n : Nat) : X := .agg [num 2, nat k, num 0, noText, .sl false 6 [], .sl false 7 [], num 0, nat k, .bs 0 0 n, .bs 1 0 0]
theorem get_last (N : Nat) (c t : Int) (ds : List (Nat × List Int)) (k : Nat) (es : List Int) (hn : ds.length < 79) (h1 : ∀ d, d ∈ ds → d.1 < k) (hl : es.length < 80) :
    callF tab ext (N + 83) (.fn 43) [stateX c t (dss (ds ++ [(k, es)])), keyX k] [] = some (.tup [rowSlotD k es.length, .v (.bool true)], [.row 10 (notes es), .row 6 []]) :=
  callF_of [(11, .p (.tup [nat ds.length, .v (.bool true)])), (20, .e (dslot (k, es)).cells), (22, .o (rowSlotD k es.length) [.row 10 (notes es), .row 6 []])] []
    (pf3 (find_last N c t ds k es hn h1) (show (slotsC (dss (ds ++ [(k, es)])))[ds.length]? = some (dslot (k, es)).cells by simp [slotsC, dss]) (clone_slot_eq (N + 1) (dslot (k, es)) hl)) (by kernel_rfl)

theorem put_new (N : Nat) (c t : Int) (ds : List (Nat × List Int)) (k : Nat) (e : Int) (hn : ds.length < 79) (h1 : ∀ d, d ∈ ds → d.1 < k) (h2 : ∀ d, d ∈ ds → d.2.length < 80) :
    Gam.pureD (callF tab ext (N + 84)) 44 [stateX c t (dss ds), .agg (dslot (k, [e])).cells] = some (.tup [stateX c t (dss (ds ++ [(k, [e])])), num 0]) := by
  have hlen : (slotsC (dss ds)).length = (dss ds).length := by simp [slotsC]
  have hf := find_new (N + 1) c t ds k (by omega) h1
  rw [hlen] at hf
  have hi := insert_end (N + 63) (slotsC (dss ds)) (dss ds).length (dslot (k, [e])) hlen.symm (by rw [dss_length]; omega)
  have hs : ∀ s, s ∈ dss ds → s.es.length < 80 := fun s hs => by
    obtain ⟨d, hd, rfl⟩ := List.mem_map.1 hs; exact h2 d hd
  have h := callF_of (T := tab) (ext := ext) (N := N + 83) (f := 44) (args := [stateX c t (dss ds), .agg (dslot (k, [e])).cells]) (inb := [])
    (r := some (.tup [.agg [num c, num t, .bs 0 0 ((dss ds).length + 1)], num 0], [.row 10 (slotsC (dss ds) ++ [(dslot (k, [e])).cells])]))
    [(13, .p (.tup [nat (dss ds).length, .v (.bool false)])), (22, .b false), (26, .o (.agg [num c, num t, .bs 0 0 (dss ds).length]) [.row 10 (slotsC (dss ds))]), (38, .p (.agg (dslot (k, [e])).cells)), (40, .r (.bs 1 0 ((dss ds).length + 1)) [.dead, .row 10 (slotsC (dss ds) ++ [(dslot (k, [e])).cells])])] []
    (pf5 hf (show decide (Int.ofNat (slotsC (dss ds)).length ≥ 1024) = false by rw [hlen]; exact small_int (by rw [dss_length]; omega)) (clone_eq N c t (dss ds) (by rw [dss_length]; omega) hs) (clone_slot_pure (N + 2) (dslot (k, [e])) (by simp [dslot])) hi) (by kernel_rfl)
  refine pureD_of h ?_
  have e1 : slotsC (dss (ds ++ [(k, [e])])) = slotsC (dss ds) ++ [(dslot (k, [e])).cells] := by simp [slotsC, dss]
  have h0 : rowOf [Bx.row 10 (slotsC (dss ds) ++ [(dslot (k, [e])).cells])] 0 0 ((dss ds).length + 1) = some (10, slotsC (dss ds) ++ [(dslot (k, [e])).cells]) := rowOf_get rfl (by simp [slotsC])
  simp only [X.data, dataL, num, h0, Option.map_some, stateX, e1]

theorem put_last (N : Nat) (c t : Int) (ds : List (Nat × List Int)) (k : Nat) (es es' : List Int) (hn : ds.length < 78) (h1 : ∀ d, d ∈ ds → d.1 < k) (h2 : ∀ d, d ∈ ds → d.2.length < 80) (hl : es.length < 80) (hl' : es'.length < 80) :
    Gam.pureD (callF tab ext (N + 84)) 44 [stateX c t (dss (ds ++ [(k, es)])), .agg (dslot (k, es')).cells] = some (.tup [stateX c t (dss (ds ++ [(k, es')])), num 0]) := by
  have hs : ∀ s, s ∈ dss (ds ++ [(k, es)]) → s.es.length < 80 := fun s hs => by
    obtain ⟨d, hd, rfl⟩ := List.mem_map.1 hs
    rcases List.mem_append.1 hd with hd | hd
    · exact h2 d hd
    · rw [List.mem_singleton] at hd; subst hd; exact hl
  have h := callF_of (T := tab) (ext := ext) (N := N + 83) (f := 44) (args := [stateX c t (dss (ds ++ [(k, es)])), .agg (dslot (k, es')).cells]) (inb := [])
    (r := some (.tup [.agg [num c, num t, .bs 0 0 (dss (ds ++ [(k, es)])).length], num 0], [.row 10 ((slotsC (dss (ds ++ [(k, es)]))).set (0 + ds.length) (dslot (k, es')).cells)]))
    [(13, .p (.tup [nat ds.length, .v (.bool true)])), (26, .o (.agg [num c, num t, .bs 0 0 (dss (ds ++ [(k, es)])).length]) [.row 10 (slotsC (dss (ds ++ [(k, es)])))]), (32, .p (.agg (dslot (k, es')).cells)), (33, .at), (1000033, .st (dslot (k, es)).cells)] []
    (pf5 (find_last (N + 1) c t ds k es (by omega) h1) (clone_eq N c t (dss (ds ++ [(k, es)])) (by rw [dss_length]; simp; omega) hs) (clone_slot_pure (N + 2) (dslot (k, es')) hl') (show ds.length < (dss (ds ++ [(k, es)])).length by simp [dss])
      (show (slotsC (dss (ds ++ [(k, es)])))[0 + ds.length]? = some (dslot (k, es)).cells by simp [slotsC, dss])) (by kernel_rfl)
  refine pureD_of h ?_
  have e1 : (slotsC (dss (ds ++ [(k, es)]))).set (0 + ds.length) (dslot (k, es')).cells = slotsC (dss (ds ++ [(k, es')])) := by simp [slotsC, dss]
  rw [e1]
  have h0 : rowOf [Bx.row 10 (slotsC (dss (ds ++ [(k, es')])))] 0 0 (dss (ds ++ [(k, es)])).length = some (10, slotsC (dss (ds ++ [(k, es')]))) := rowOf_get rfl (by simp [slotsC, dss])
  simp only [X.data, dataL, num, h0, Option.map_some, stateX]

/-- The slot that a delay adds to. -/
def zSlotK (k : Nat) : X := .agg [num 2, nat k, num 0, noText, .sl false 6 [], .sl false 7 [], num 0, nat k, .sl true 10 [], .sl true 6 []]

theorem d_add_new (N : Nat) (c t : Int) (ds : List (Nat × List Int)) (k : Nat) (e : Int) (hn : ds.length < 79) (h1 : ∀ d, d ∈ ds → d.1 < k) (h2 : ∀ d, d ∈ ds → d.2.length < 80) :
    Gam.pureD (callF tab ext (N + 86)) 31 [stateX c t (dss ds), zSlotK k, .agg (noteC e)] = some (stateX c t (dss (ds ++ [(k, [e])]))) :=
  pure_of [(15, .o (.tup [.agg zSlot, .v (.bool false)]) []), (30, .p (.tup [stateX c t (dss (ds ++ [(k, [e])])), num 0]))] []
    (pf3 (get_new (N + 2) c t ds k (by omega) h1) (Nat.le_refl 1) (put_new (N + 1) c t ds k e hn h1 h2)) (x := stateX c t (dss (ds ++ [(k, [e])]))) (bx := []) (by kernel_rfl) rfl

theorem d_add_last (N : Nat) (c t : Int) (ds : List (Nat × List Int)) (k : Nat) (e : Int) (es : List Int) (hn : ds.length < 78) (h1 : ∀ d, d ∈ ds → d.1 < k) (h2 : ∀ d, d ∈ ds → d.2.length < 80) (hl : es.length < 79) :
    Gam.pureD (callF tab ext (N + 86)) 31 [stateX c t (dss (ds ++ [(k, es)])), zSlotK k, .agg (noteC e)] = some (stateX c t (dss (ds ++ [(k, es ++ [e])]))) := by
  have hp := put_last (N + 1) c t ds k es (es ++ [e]) hn h1 h2 (by omega) (by simp; omega)
  have e1 : (dslot (k, es ++ [e])).cells = [num 2, nat k, num 0, noText, .sl false 6 [], .sl false 7 [], num 0, nat k, .sl false 10 (List.take (es.length + 1) (List.drop 0 (notes es ++ [noteC e]))), .sl false 6 []] := by
    rw [notes_snoc]; rfl
  rw [e1] at hp
  exact pure_of [(15, .o (.tup [rowSlotD k es.length, .v (.bool true)]) [.row 10 (notes es), .row 6 []]), (25, .app), (30, .p (.tup [stateX c t (dss (ds ++ [(k, es ++ [e])])), num 0]))] []
    (pf6 (get_last (N + 2) c t ds k es (by omega) h1 (by omega)) (app_c (i := 4) (bytes := 152) (notes_length es).symm (by omega) (by omega)) (show 0 + (es.length + 1) ≤ (notes es ++ [noteC e]).length by simp [notes_length]) (Nat.le_refl 0) (Nat.le_refl 0) hp)
    (x := stateX c t (dss (ds ++ [(k, es ++ [e])]))) (bx := []) (by kernel_rfl) rfl

end Go.Proofs.Ytjfheahakfoofaa

/- What a delay does with a message, and with the clock. -/
namespace Go.Proofs.Ytjfheahakfoofaa
open Go.Em

theorem reject_k (N : Nat) (kd : Int) (s : ByteArray) (n p l : Nat) (c t : Int) (ss : List Sl) (e : Int) : Gam.pureD (callF tab ext (N + 60)) 30 [nodeT kd s n p l, stateX c t ss, .agg (noteC e)] = some (outX c t ss [] [fateR s e] [noteC e] []) := by kernel_rfl

def allD (ds : List (Nat × List Int)) : List Int := ds.flatMap (·.2)
theorem allOf_dss (ds : List (Nat × List Int)) : allOf (dss ds) = allD ds := by simp [allOf, dss, allD, List.flatMap_map, dslot]
theorem waiting_d (N : Nat) (c t : Int) (ds : List (Nat × List Int)) (hn : ds.length < 80) (hl : (allD ds).length < 80) : Gam.pureD (callF tab ext (N + 85)) 10 [stateX c t (dss ds)] = some (.sl false 10 (notes (allD ds))) := by
  have := waiting_pure (N + 4) c t (dss ds) (by rw [allOf_dss]; exact hl) (by rw [dss_length]; exact hn)
  rw [allOf_dss] at this; exact this

section
variable (N : Nat) (s : ByteArray) (n p l : Nat) (c t : Int) (ds : List (Nat × List Int)) (a : Nat) (e : Int)
theorem d_rej (ha : a < 17592186044416) (hn : ds.length < 80) (hl : (allD ds).length < 80) (hl2 : l ≤ 256) (hge : ¬ (allD ds).length < l) :
    Gam.pureD (callF tab ext (N + 87)) 21 [nodeT 8 s n p l, stateX c t (dss ds), arriveX e (Int.ofNat a)] = some (outX c t (dss ds) [] [fateR s e] [noteC e] []) :=
  pure_of [(15, .p (nat a)), (21, .p (.sl false 10 (notes (allD ds)))), (24, .p (nat l)), (25, .b true), (30, .p (outX c t (dss ds) [] [fateR s e] [noteC e] []))] []
    (pf5 (clamp_time (N + 66) a ha) (waiting_d (N + 1) c t ds hn hl) (limit_pure (N + 66) 8 s n p l hl2) (show decide (Int.ofNat (notes (allD ds)).length ≥ Int.ofNat l) = true by
        apply decide_eq_true; rw [notes_length]; simp only [Int.ofNat_eq_natCast]; omega) (reject_k (N + 26) 8 s n p l c t (dss ds) e)) (x := outX c t (dss ds) [] [fateR s e] [noteC e] []) (bx := []) (by kernel_rfl) (by kernel_rfl)
theorem due_int (ha : a < 4294967) (hp : p < 4294967) : IntKind.i64.wrap (Int.ofNat a + Int.ofNat (p + 1)) = Int.ofNat (a + (p + 1)) := by
  rw [IntKind.wrap_i64]; simp only [Int.ofNat_eq_natCast]; omega
theorem min_time {x : Nat} (h : x < 17592186044416) : (if (17592186044416 : Int) < Int.ofNat x then (17592186044416 : Int) else Int.ofNat x) = Int.ofNat x := by
  simp only [Int.ofNat_eq_natCast]; split <;> omega
theorem d_hold (ds' : List (Nat × List Int)) (ha : a < 4294967) (hp : p < 4294967) (hn : ds.length < 80) (hl : (allD ds).length < 80) (hl2 : l ≤ 256) (hge : (allD ds).length < l)
    (hadd : Gam.pureD (callF tab ext (N + 86)) 31 [stateX c t (dss ds), zSlotK (a + (p + 1)), .agg (noteC e)] = some (stateX c t (dss ds'))) :
    Gam.pureD (callF tab ext (N + 87)) 21 [nodeT 8 s n p l, stateX c t (dss ds), arriveX e (Int.ofNat a)] = some (outX c t (dss ds') [] [] [] []) :=
  pure_of [(15, .p (nat a)), (21, .p (.sl false 10 (notes (allD ds)))), (24, .p (nat l)), (25, .b false), (33, .p (nat (p + 1))), (34, .i (Int.ofNat (a + (p + 1)))), (35, .i (Int.ofNat (a + (p + 1)))), (43, .p (stateX c t (dss ds')))] []
    (pf8 (clamp_time (N + 66) a (by omega)) (waiting_d (N + 1) c t ds hn hl) (limit_pure (N + 66) 8 s n p l hl2) (show decide (Int.ofNat (notes (allD ds)).length ≥ Int.ofNat l) = false by
        apply decide_eq_false; rw [notes_length]; simp only [Int.ofNat_eq_natCast]; omega) (period_pure (N + 66) 8 s n p l (by omega)) (due_int p a ha hp) (min_time (x := a + (p + 1)) (by omega)) hadd)
    (x := .agg [num c, num t, .sl false 10 (slotsC (dss ds')), .sl true 11 [], .sl true 11 [], .sl true 6 [], .sl true 10 []]) (bx := []) (by kernel_rfl) (by kernel_rfl)
end

/-! ### The clock -/
def zOut : List X := [num 0, num 0, .sl true 10 [], .sl true 11 [], .sl true 11 [], .sl true 6 [], .sl true 10 []]
def dOut (c t : Int) (b r : Nat) : List X := [num c, num t, .bs b 0 r, .sl true 11 [], .sl true 11 [], .sl true 6 [], .sl true 10 []]
section
variable (s : ByteArray) (n p l : Nat) (c t e : Int) (now : Nat) (slots : List (List X)) (k j : Nat) (a r : Nat) (msgs rest : List (List X))
def dkTm (x : Nat) : List (Nat × X) := [(3, .ptr 0 0 0), (5, .ptr 1 0 0), (6, .ptr 2 0 0), (7, nat now), (9, .ptr 3 0 0), (10, .bs x 0 a), (52, .sl false 10 slots), (53, nat k), (54, nat j)]
noncomputable def dkH : St := ⟨dkTm now slots k j a 4, [.var (nodeT 8 s n p l).cells, .var (tickX e (Int.ofNat now)).cells, .var zOut, .var (dOut c t 5 r), .row 10 msgs, .row 10 rest]⟩
noncomputable def dkY (m : List X) : St := ⟨dkTm now slots k j a 7, [.var (nodeT 8 s n p l).cells, .var (tickX e (Int.ofNat now)).cells, .var zOut, .var (dOut c t 5 r), .dead, .row 10 rest, .var m, .row 10 msgs]⟩
noncomputable def dkN (m : List X) : St := ⟨dkTm now slots k j a 4, [.var (nodeT 8 s n p l).cells, .var (tickX e (Int.ofNat now)).cells, .var zOut, .var (dOut c t 7 r), .row 10 msgs, .dead, .var m, .row 10 rest]⟩
noncomputable def dkE : St := ⟨dkTm now slots k j a 4 ++ [(55, .v (.bool false))], [.var (nodeT 8 s n p l).cells, .var (tickX e (Int.ofNat now)).cells, .var zOut, .var (dOut c t 5 r), .row 10 msgs, .row 10 rest]⟩
theorem dk_canonY (d : Nat × List Int) : canon 0 (dkY s n p l c t e now slots k j a r msgs rest (dslot d).cells) = some (dkH s n p l c t e now slots k j a r msgs rest) := by kernel_rfl
theorem dk_canonN (d : Nat × List Int) : canon 0 (dkN s n p l c t e now slots k j a r msgs rest (dslot d).cells) = some (dkH s n p l c t e now slots k j a r msgs rest) := by kernel_rfl
noncomputable def dkS : St := ⟨[(3, .ptr 0 0 0), (5, .ptr 2 0 0), (6, .ptr 3 0 0), (7, nat now), (9, .ptr 4 0 0), (10, .bs 5 0 0), (52, .sl false 10 slots), (53, nat k), (54, nat 0)], [.var (nodeT 8 s n p l).cells, .var [num c, num t, .sl false 10 slots], .var (tickX e (Int.ofNat now)).cells, .var zOut, .var (dOut c t 6 0), .row 10 [], .row 10 []]⟩
theorem dk_start : canon 0 (dkS s n p l c t e now slots k) = some (dkH s n p l c t e now slots k 0 0 0 [] []) := by kernel_rfl

theorem app_n {i j len m bytes : Nat} (h : j = len) (hj : j + m < 4096) (hb : bytes ≤ 4096) : (0 + j = len ∧ roomOk (j + m) bytes = true ∧ memN i [] = false) := by
  refine ⟨by omega, room_of ?_ (by omega), rfl⟩
  have : (j + m) * bytes ≤ 4096 * 4096 := Nat.mul_le_mul (by omega) hb
  omega

variable (N : Nat)
theorem dk_yes (d : Nat × List Int) (hg : slots[j]? = some (dslot d).cells) (hj : j < k) (hk : k < 1000) (hle : d.1 ≤ now) (ha : a = msgs.length) (ha2 : a + (notes d.2).length < 4096) :
    run (callF tab ext (N + 86)) 0 (N + 86) (loopOf tab 21 0) (dkH s n p l c t e now slots k j a r msgs rest) = some (.norm, dkY s n p l c t e now slots k (j + 1) (a + (notes d.2).length) r (msgs ++ notes d.2) rest (dslot d).cells) :=
  run_of [(55, .b true), (56, .e (dslot d).cells), (61, .b true), (65, .app), (74, .i (Int.ofNat (j + 1)))] []
    (pf5 (lt_nat hj) hg (show decide (Int.ofNat d.1 ≤ Int.ofNat now) = true by apply decide_eq_true; simp only [Int.ofNat_eq_natCast]; omega) (app_n (i := 4) (bytes := 152) ha ha2 (by omega)) (next_nat (j := j) (by omega))) (lo' := []) (by kernel_rfl)
theorem dk_no (d : Nat × List Int) (hg : slots[j]? = some (dslot d).cells) (hj : j < k) (hk : k < 1000) (hle : ¬ d.1 ≤ now) (hr : r = rest.length) (hr2 : r < 4000) :
    run (callF tab ext (N + 86)) 0 (N + 86) (loopOf tab 21 0) (dkH s n p l c t e now slots k j a r msgs rest) = some (.norm, dkN s n p l c t e now slots k (j + 1) a (r + 1) msgs (rest ++ [(dslot d).cells]) (dslot d).cells) :=
  run_of [(55, .b true), (56, .e (dslot d).cells), (61, .b false), (71, .app), (74, .i (Int.ofNat (j + 1)))] []
    (pf5 (lt_nat hj) hg (show decide (Int.ofNat d.1 ≤ Int.ofNat now) = false by apply decide_eq_false; simp only [Int.ofNat_eq_natCast]; omega) (app_c (i := 5) (bytes := 152) hr (by omega) (by omega)) (next_nat (j := j) (by omega))) (lo' := []) (by kernel_rfl)
theorem dk_end (hj : ¬ j < k) :
    run (callF tab ext (N + 86)) 0 (N + 86) (loopOf tab 21 0) (dkH s n p l c t e now slots k j a r msgs rest) = some (.exit 1, dkE s n p l c t e now slots k j a r msgs rest) :=
  run_of [(55, .b false)] [] (pf1 (nlt_nat hj)) (lo' := []) (by kernel_rfl)
end

end Go.Proofs.Ytjfheahakfoofaa

/- The clock of a delay, as a whole. -/
namespace Go.Proofs.Ytjfheahakfoofaa
open Go.Em

def relD (now : Nat) (ds : List (Nat × List Int)) : List Int := allD (ds.filter fun d => decide (d.1 ≤ now))
def keepD (now : Nat) (ds : List (Nat × List Int)) : List (Nat × List Int) := ds.filter fun d => !decide (d.1 ≤ now)
theorem relD_yes {now : Nat} {ds : List (Nat × List Int)} {d : Nat × List Int} (h : d.1 ≤ now) : relD now (ds ++ [d]) = relD now ds ++ d.2 := by simp [relD, allD, h]
theorem relD_no {now : Nat} {ds : List (Nat × List Int)} {d : Nat × List Int} (h : ¬ d.1 ≤ now) : relD now (ds ++ [d]) = relD now ds := by simp [relD, allD, h]
theorem keepD_yes {now : Nat} {ds : List (Nat × List Int)} {d : Nat × List Int} (h : d.1 ≤ now) : keepD now (ds ++ [d]) = keepD now ds := by simp [keepD, h]
theorem keepD_no {now : Nat} {ds : List (Nat × List Int)} {d : Nat × List Int} (h : ¬ d.1 ≤ now) : keepD now (ds ++ [d]) = keepD now ds ++ [d] := by simp [keepD, Nat.lt_of_not_le h]
theorem relD_len (now : Nat) : ∀ (ds : List (Nat × List Int)), (relD now ds).length ≤ (allD ds).length
  | [] => by simp [relD]
  | d :: ds => by
    have := relD_len now ds
    simp only [relD, allD, List.filter_cons] at this ⊢
    split <;> simp only [List.flatMap_cons, List.length_append] <;> omega
theorem keepD_len (now : Nat) (ds : List (Nat × List Int)) : (keepD now ds).length ≤ ds.length := List.length_filter_le _ _
theorem allD_take (ds : List (Nat × List Int)) (j : Nat) : (allD (ds.take j)).length ≤ (allD ds).length := by
  have : allD ds = allD (ds.take j) ++ allD (ds.drop j) := by simp only [allD]; rw [← List.flatMap_append, List.take_append_drop]
  rw [this, List.length_append]; omega

section
variable (N : Nat) (s : ByteArray) (n p l : Nat) (c t e : Int) (now : Nat) (ds : List (Nat × List Int))
noncomputable def dkHj (j : Nat) : St := dkH s n p l c t e now (slotsC (dss ds)) (slotsC (dss ds)).length j (relD now (ds.take j)).length (keepD now (ds.take j)).length (notes (relD now (ds.take j))) (slotsC (dss (keepD now (ds.take j))))
noncomputable def dkFin : St := dkE s n p l c t e now (slotsC (dss ds)) (slotsC (dss ds)).length (slotsC (dss ds)).length (relD now ds).length (keepD now ds).length (notes (relD now ds)) (slotsC (dss (keepD now ds)))

theorem dk_loop (hn : ds.length < 80) (hl : (allD ds).length < 80) :
    run (callF tab ext (N + 86)) 0 (N + 86) (.loop (loopOf tab 21 0)) (dkS s n p l c t e now (slotsC (dss ds)) (slotsC (dss ds)).length) = some (.exit 1, dkFin s n p l c t e now ds) := by
  have hlen := dslots_length ds
  refine loop_for (σ := dkHj s n p l c t e now ds) (k := ds.length) (dk_start s n p l c t e now (slotsC (dss ds)) (slotsC (dss ds)).length) (fun j hj => ?_) ?_ (by simp) (by omega)
  · have ht := List.take_succ_eq_append_getElem hj
    have hra := relD_len now (ds.take (j + 1))
    have hrb := allD_take ds (j + 1)
    have hka := keepD_len now (ds.take j)
    have hkb : (ds.take j).length ≤ ds.length := by simp; omega
    by_cases hle : ds[j].1 ≤ now
    · have e1 : relD now (ds.take (j + 1)) = relD now (ds.take j) ++ ds[j].2 := by rw [ht, relD_yes hle]
      have e2 : keepD now (ds.take (j + 1)) = keepD now (ds.take j) := by rw [ht, keepD_yes hle]
      rw [e1, List.length_append] at hra
      refine ⟨_, dk_yes s n p l c t e now (slotsC (dss ds)) (slotsC (dss ds)).length j (relD now (ds.take j)).length (keepD now (ds.take j)).length (notes (relD now (ds.take j))) (slotsC (dss (keepD now (ds.take j)))) N ds[j] (dslots_get hj) (by omega) (by omega) hle (notes_length _).symm (by rw [notes_length]; omega), ?_⟩
      rw [dk_canonY]
      unfold dkHj
      rw [e1, e2, notes_append, List.length_append, notes_length]
    · have e1 : relD now (ds.take (j + 1)) = relD now (ds.take j) := by rw [ht, relD_no hle]
      have e2 : keepD now (ds.take (j + 1)) = keepD now (ds.take j) ++ [ds[j]] := by rw [ht, keepD_no hle]
      have e3 : slotsC (dss (keepD now (ds.take j) ++ [ds[j]])) = slotsC (dss (keepD now (ds.take j))) ++ [(dslot ds[j]).cells] := by simp [slotsC, dss]
      refine ⟨_, dk_no s n p l c t e now (slotsC (dss ds)) (slotsC (dss ds)).length j (relD now (ds.take j)).length (keepD now (ds.take j)).length (notes (relD now (ds.take j))) (slotsC (dss (keepD now (ds.take j)))) N ds[j] (dslots_get hj) (by omega) (by omega) hle (dslots_length _).symm (by omega), ?_⟩
      rw [dk_canonN]
      unfold dkHj
      rw [e1, e2, e3, List.length_append]; rfl
  · have := dk_end s n p l c t e now (slotsC (dss ds)) (slotsC (dss ds)).length ds.length (relD now (ds.take ds.length)).length (keepD now (ds.take ds.length)).length (notes (relD now (ds.take ds.length))) (slotsC (dss (keepD now (ds.take ds.length)))) N (by omega)
    unfold dkHj dkFin
    rw [List.take_length] at this ⊢
    rw [hlen] at this ⊢
    exact this

theorem relN_all (es : List Int) : relN es (Int.ofNat es.length) = es.length := by simp [relN]

theorem d_tick (hn : ds.length < 80) (hl : (allD ds).length < 80) (ha : now < 17592186044416) :
    Gam.pureD (callF tab ext (N + 87)) 21 [nodeT 8 s n p l, stateX c t (dss ds), tickX e (Int.ofNat now)] = some (outX c t (dss (keepD now ds)) (movedL e (relD now ds) (relD now ds).length) (fatesL s e (relD now ds) (relD now ds).length) [] []) := by
  have hrl := relD_len now ds
  have hkl := keepD_len now ds
  have t1 : List.take (relD now ds).length (List.drop 0 (notes (relD now ds))) = notes (relD now ds) := by rw [List.drop_zero, ← notes_length, List.take_length]
  have t2 : List.take (keepD now ds).length (List.drop 0 (slotsC (dss (keepD now ds)))) = slotsC (dss (keepD now ds)) := by rw [List.drop_zero, ← dslots_length, List.take_length]
  have hlen : (List.take (relD now ds).length (List.drop 0 (notes (relD now ds)))).length = (relD now ds).length := by rw [t1, notes_length]
  by_cases h0 : (relD now ds).length = 0
  · have hr := release_zero (N + 3) 8 s n p l c t false (List.take (keepD now ds).length (List.drop 0 (slotsC (dss (keepD now ds))))) (relD now ds) (Int.ofNat (relD now ds).length) e (by omega) (by rw [relN_all]; exact h0)
    rw [← t1] at hr
    have h := callF_of (T := tab) (ext := ext) (N := N + 86) (f := 21) (args := [nodeT 8 s n p l, stateX c t (dss ds), tickX e (Int.ofNat now)]) (inb := [])
      (r := some (.agg [num c, num t, .sl false 10 (List.take (keepD now ds).length (List.drop 0 (slotsC (dss (keepD now ds))))), .sl true 11 [], .sl true 11 [], .sl true 6 [], .sl true 10 []], []))
      [(15, .p (nat now)), (80, .i (Int.ofNat (relD now ds).length)), (81, .r (nat 0) [.var (out0 c t false (List.take (keepD now ds).length (List.drop 0 (slotsC (dss (keepD now ds))))))])] [(.exit 1, dkFin s n p l c t e now ds)]
      (pf6 (clamp_time (N + 66) now ha) (dk_loop N s n p l c t e now ds hn hl) (show 0 + (relD now ds).length ≤ (notes (relD now ds)).length by rw [notes_length]; omega) (show 0 + (keepD now ds).length ≤ (slotsC (dss (keepD now ds))).length by rw [dslots_length]; omega)
        (show Int.ofNat (List.take (relD now ds).length (List.drop 0 (notes (relD now ds)))).length = Int.ofNat (relD now ds).length by rw [hlen]) hr) (by kernel_rfl)
    refine pureD_of h ?_
    have e1 : movedL e (relD now ds) (relD now ds).length = [] := by rw [h0]; rfl
    have e2 : fatesL s e (relD now ds) (relD now ds).length = [] := by rw [h0]; rfl
    rw [t2, e1, e2]
    rfl
  · have hr := release_some (N + 3) 8 s n p l c t false (List.take (keepD now ds).length (List.drop 0 (slotsC (dss (keepD now ds))))) (relD now ds) (Int.ofNat (relD now ds).length) e (by omega) (by rw [relN_all]; exact h0)
    rw [relN_all, ← t1] at hr
    have h := callF_of (T := tab) (ext := ext) (N := N + 86) (f := 21) (args := [nodeT 8 s n p l, stateX c t (dss ds), tickX e (Int.ofNat now)]) (inb := [])
      (r := some (.agg [num c, num t, .sl false 10 (List.take (keepD now ds).length (List.drop 0 (slotsC (dss (keepD now ds))))), .bs 0 0 (relD now ds).length, .sl true 11 [], .bs 1 0 (relD now ds).length, .sl true 10 []], [.row 11 (movedL e (relD now ds) (relD now ds).length), .row 6 (fatesL s e (relD now ds) (relD now ds).length)]))
      [(15, .p (nat now)), (80, .i (Int.ofNat (relD now ds).length)), (81, .r (nat (relD now ds).length) [.var (outJ c t false (List.take (keepD now ds).length (List.drop 0 (slotsC (dss (keepD now ds))))) 1 2 (relD now ds).length), .row 11 (movedL e (relD now ds) (relD now ds).length), .row 6 (fatesL s e (relD now ds) (relD now ds).length)])] [(.exit 1, dkFin s n p l c t e now ds)]
      (pf6 (clamp_time (N + 66) now ha) (dk_loop N s n p l c t e now ds hn hl) (show 0 + (relD now ds).length ≤ (notes (relD now ds)).length by rw [notes_length]; omega) (show 0 + (keepD now ds).length ≤ (slotsC (dss (keepD now ds))).length by rw [dslots_length]; omega)
        (show Int.ofNat (List.take (relD now ds).length (List.drop 0 (notes (relD now ds)))).length = Int.ofNat (relD now ds).length by rw [hlen]) hr) (by kernel_rfl)
    refine pureD_of h ?_
    have h1 : rowOf [Bx.row 11 (movedL e (relD now ds) (relD now ds).length), .row 6 (fatesL s e (relD now ds) (relD now ds).length)] 0 0 (relD now ds).length = some (11, movedL e (relD now ds) (relD now ds).length) := rowOf_get rfl (movedL_length _ _ _).symm
    have h2 : rowOf [Bx.row 11 (movedL e (relD now ds) (relD now ds).length), .row 6 (fatesL s e (relD now ds) (relD now ds).length)] 1 0 (relD now ds).length = some (6, fatesL s e (relD now ds) (relD now ds).length) := rowOf_get rfl (fatesL_length _ _ _ _).symm
    simp only [X.data, dataL, num, h1, h2, Option.map_some, outX, Bool.false_and, t2]
end

end Go.Proofs.Ytjfheahakfoofaa
