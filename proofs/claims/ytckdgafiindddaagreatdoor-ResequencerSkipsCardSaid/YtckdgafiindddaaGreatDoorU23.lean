/- slices.Insert at the slots, where there is room. -/
import Derived.Shelf.LaysC
import Derived.Shelf.LaysM
import Derived.Shelf.Lays
import Derived.Test.YtckdgafiindddaaGreatDoorU22
set_option linter.all false
namespace Go.Proofs.YtckdgafiindddaaGreatDoor.Im
open Go.Em Go.RowKit Go.Lib

theorem und35 : Tryz.prog.underlying 24 = some (.slice 55) := by kernel_rfl
theorem info78 : (Tryz.prog.info? 55).map (·.size) = some 10 := by kernel_rfl
theorem size78 : ∀ w, (Go.sizeOf 55).run Tryz.prog w = .ok 10 w := Tryz.sizeOf55

set_option maxHeartbeats 4000000 in
set_option maxRecDepth 100000 in
theorem ins_shift (b off n c i vb voff vc : Nat) (cs vs : List Value) (w : World) (hi : i < n) (hroom : n + 1 ≤ c) (hn3 : n ≤ 2000000) (hdis : ∀ j k, j < 10 → k < (n + 1) * 10 → vb = b → voff + j ≠ off + k)
    (hcl : cs.length = n * 10) (hvl : vs.length = 10)
    (hcs : ∀ j v, cs[j]? = some v → w.cell? ⟨b, off + j, none⟩ = some v) (hsp : ∀ j, j < (n + 1) * 10 → (w.cell? ⟨b, off + j, none⟩).isSome = true) (hfz : ∀ j, j < (n + 1) * 10 → w.frozen? ⟨b, off + j, none⟩ = false)
    (hvs : ∀ j v, vs[j]? = some v → w.cell? ⟨vb, voff + j, none⟩ = some v) (h1c : ∀ v ∈ cs, v.oneCell' = true) (h1v : ∀ v ∈ vs, v.oneCell' = true)
    (tA tB : TypeId) (kA kB : Nat) (hsa : w.shape? vb = some (tA, kA)) (hsb : w.shape? b = some (tB, kB)) (hkB : kB ≠ 0) (hkA : kA ≠ 0) (hfb : ∀ o, w.frozen? ⟨b, o, none⟩ = false) :
    Calls Tryz.prog 46 #[.slice (some ⟨b, off, none⟩) n c, .int .i64 i, .slice (some ⟨vb, voff, none⟩) 1 vc] w fun e w' =>
      e = .returned (.slice (some ⟨b, off, none⟩) (n + 1) c) ∧ w' = (w.drew.setCells b (off + (i + 1) * 10) (cs.drop (i * 10))).setCells b (off + i * 10) vs := by
  have hz2 : ¬ ((i : Int) = (n : Int)) := by omega
  have hov : ∀ cb, (callFunc 78 #[.slice (some ⟨vb, voff, none⟩) 1 vc, .slice (some ⟨b, off + (i + 1) * 10, none⟩) (n - i) cb]).run Tryz.prog w = .ok (.value (.bool false)) w := fun cb => by
    rw [run_callFunc_extern Tryz.func78 (by kernel_rfl) (by kernel_rfl) (by kernel_rfl) (e := Extern.SlicesOverlaps.overlaps #[24, 24] #[4]) (by kernel_rfl)]
    by_cases hvb : vb = b
    · rw [run_overlaps_same w 24 4 55 und35 10 size78 ⟨vb, voff, none⟩ ⟨b, off + (i + 1) * 10, none⟩ 1 vc (n - i) cb hvb (fun h => by
        obtain ⟨h1, h2⟩ := h
        dsimp only at h1 h2
        by_cases hlo : off + (i + 1) * 10 ≤ voff
        · exact hdis 0 (voff - off) (by omega) (by omega) hvb (by omega)
        · exact hdis (off + (i + 1) * 10 - voff) ((i + 1) * 10) (by omega) (by omega) hvb (by omega))]
      rfl
    · rw [run_overlaps_own w 24 4 55 und35 10 size78 ⟨vb, voff, none⟩ ⟨b, off + (i + 1) * 10, none⟩ 1 vc (n - i) cb hvb tA tB kA kB hsa hsb hkB hkA (hfb _) (hfb _)]
      rfl
  have hdl : (cs.drop (i * 10)).length = (n - i) * 10 := by rw [List.length_drop, hcl]; omega
  have hw1 : IntKind.i64.wrap ((i : Int) + 1) = (i : Int) + 1 := by rw [IntKind.wrap_i64]; omega
  have hb1 : (0 : Int) ≤ (i : Int) + 1 := by omega
  have hin : i ≤ n := by omega
  have htn : ((i : Int) + 1).toNat = i + 1 := by omega
  have hb2 : ¬ (c = i + 1) := by omega
  have hb3 : (i : Int) ≤ (n : Int) + 1 := by omega
  have hb4 : ¬ (c = i) := by omega
  have hcp1 : ∀ ty dc sc, (Builtin.copy_ #[24, 24] ty #[.slice (some ⟨b, off + (i + 1) * 10, none⟩) (n - i) dc, .slice (some ⟨b, off + i * 10, none⟩) (n + 1 - i) sc]).run Tryz.prog w.drew = .ok (goInt (Nat.min (n + 1 - i) (n - i))) (w.drew.setCells b (off + (i + 1) * 10) (cs.drop (i * 10))) := fun ty dc sc =>
    run_copy_k w.drew _ _ ty 55 10 b (off + (i + 1) * 10) (n - i) dc ⟨b, off + i * 10, none⟩ (n + 1 - i) sc (cs.drop (i * 10)) und35 info78 (by rw [hdl]; congr 1; simp only [Nat.min_def]; split <;> omega)
      (fun j v hj => by rw [Addr.add_lit, Nat.add_assoc]; exact hcs (i * 10 + j) v (by rwa [List.getElem?_drop] at hj))
      (fun j hj => by rw [Nat.add_assoc]; exact hsp _ (by omega)) (fun j hj => by rw [Nat.add_assoc]; exact hfz _ (by omega)) (fun v hv => h1c v (List.mem_of_mem_drop hv))
  obtain ⟨W1, hW1⟩ : ∃ W1, W1 = w.drew.setCells b (off + (i + 1) * 10) (cs.drop (i * 10)) := ⟨_, rfl⟩
  have hsp1 : ∀ k, k < (n + 1) * 10 → (W1.cell? ⟨b, off + k, none⟩).isSome = true := fun k hk => by
    rw [hW1]
    exact isSome_setCells b _ _ _ (fun j hj => by rw [Nat.add_assoc]; exact hsp _ (by omega)) _ (hsp k hk)
  have hcp2 : ∀ (W : World), (∀ x, W.cell? x = W1.cell? x) → (∀ x, W.frozen? x = W1.frozen? x) → ∀ ty dc, (Builtin.copy_ #[24, 24] ty #[.slice (some ⟨b, off + i * 10, none⟩) (n + 1 - i) dc, .slice (some ⟨vb, voff, none⟩) 1 vc]).run Tryz.prog W = .ok (goInt (Nat.min 1 (n + 1 - i))) (W.setCells b (off + i * 10) vs) := fun W hWc hWf ty dc =>
    run_copy_k W _ _ ty 55 10 b (off + i * 10) (n + 1 - i) dc ⟨vb, voff, none⟩ 1 vc vs und35 info78 (by rw [hvl]; simp only [Nat.min_def]; split <;> omega)
      (fun j v hj => by
        have hj' : j < 10 := by rw [← hvl]; exact (List.getElem?_eq_some_iff.1 hj).1
        rw [Addr.add_lit, hWc, hW1, World.cell?_setCells_out b _ _ _ _ (fun h _ => by
          dsimp only at h ⊢
          have h5 := hdis j (voff + j - off) hj'
          by_cases h6 : off ≤ voff + j ∧ voff + j - off < (n + 1) * 10
          · exact absurd (by omega) (h5 h6.2 h)
          · omega)]
        exact hvs j v hj)
      (fun j hj => by rw [hWc, Nat.add_assoc]; exact hsp1 _ (by omega)) (fun j hj => by rw [hWf, hW1, World.frozen?_setCells, Nat.add_assoc]; exact hfz _ (by omega)) h1v
  rw [← hW1] at hcp1
  have mixed : Tryz.prog.follows .mixedOrders = true := by kernel_rfl
  go_enter Tryz.func46, Tryz.ntmps46
  go_wp2_with (simp only [hov])
  go_region_law_o (refine step_copy_runI rfl _ _ 24 24 rfl _ _ (by simp [Act.eval, Act.put]) (by simp [Act.eval, Act.put]) (hcp1 _ _ _) ?_)
  go_wp2_with (at_builtin; refine wpList_copy_runI _ rfl _ _ 24 24 rfl _ _ rfl rfl (hcp2 _ (fun _ => rfl) (fun _ => rfl) _ _) ?_)
  go_ret
  first | exact ⟨rfl, rfl⟩ | exact ⟨rfl, by rw [hW1]⟩
end Go.Proofs.YtckdgafiindddaaGreatDoor.Im

/- slices.Insert at the slots: at the end, and where there is no room. -/
namespace Go.Proofs.YtckdgafiindddaaGreatDoor.Im
open Go.Em Go.RowKit Go.Lib

set_option maxHeartbeats 4000000 in
set_option maxRecDepth 100000 in
theorem ins_end (ob : Option Addr) (n c vb voff vc : Nat) (w w1 : World) (v : Value) (hnc : n ≤ c) (hn3 : n ≤ 2000000) (hnil : ob = none → n = 0 ∧ c = 0)
    (hrun : ∀ ty, (Builtin.append_ #[24, 24] ty #[.slice ob n c, .slice (some ⟨vb, voff, none⟩) 1 vc]).run Tryz.prog w = .ok v w1) :
    Calls Tryz.prog 46 #[.slice ob n c, .int .i64 n, .slice (some ⟨vb, voff, none⟩) 1 vc] w fun e w' => e = .returned v ∧ w' = w1 := by
  have mixed : Tryz.prog.follows .mixedOrders = true := by kernel_rfl
  go_enter Tryz.func46, Tryz.ntmps46
  cases ob with
  | none =>
    obtain ⟨rfl, rfl⟩ := hnil rfl
    go_wp2_with (at_builtin; refine Lib.wpList_append_run _ rfl _ _ _ _ rfl _ _ rfl rfl _ _ (hrun _) ?_)
    go_ret
    exact ⟨rfl, rfl⟩
  | some a =>
    obtain ⟨ab, ao, asp⟩ := a
    go_wp2_with (at_builtin; refine Lib.wpList_append_run _ rfl _ _ _ _ rfl _ _ rfl rfl _ _ (hrun _) ?_)
    all_goals (go_ret; exact ⟨rfl, rfl⟩)

def IsRow (r : Array Value) (l : List Value) : Prop := r = l.toArray
theorem info78b : (Tryz.prog.info? 55).map (fun i => (i.zero.map (·.cells.size), i.size, i.bytes)) = some (some 10, 10, 152) := by kernel_rfl
theorem und3 : Tryz.prog.underlying 3 = some (.int .i64) := by kernel_rfl

set_option maxHeartbeats 4000000 in
set_option maxRecDepth 100000 in
theorem ins_grow (b off n c i vb voff vc : Nat) (cs vs : List Value) (w : World) (hi : i < n) (hnc : n ≤ c) (hroom : c < n + 1) (hc63 : c ≤ 4000000) 
    (hcl : cs.length = n * 10) (hvl : vs.length = 10)
    (hcs : ∀ j v, cs[j]? = some v → w.cell? ⟨b, off + j, none⟩ = some v)
    (hvs : ∀ j v, vs[j]? = some v → w.cell? ⟨vb, voff + j, none⟩ = some v) (h1c : ∀ v ∈ cs, v.oneCell' = true) (h1v : ∀ v ∈ vs, v.oneCell' = true) :
    Calls Tryz.prog 46 #[.slice (some ⟨b, off, none⟩) n c, .int .i64 i, .slice (some ⟨vb, voff, none⟩) 1 vc] w fun e w' =>
      ∃ (G : Nat) (tl : List Value), n + 1 ≤ G ∧ e = .returned (.slice (some ⟨w.heap.size, 0, none⟩) (n + 1) G) ∧ tl.length = (G - i) * 10 ∧
      w' = (((w.alloc (.cells ((cs.take (i * 10)) ++ tl).toArray 55)).drew.setCells w.heap.size (i * 10) vs).drew).setCells w.heap.size ((i + 1) * 10) (cs.drop (i * 10)) := by
  obtain ⟨i0, hi0, hz0, hzs, hzb⟩ : ∃ i0, Tryz.prog.info? 55 = some i0 ∧ i0.zero.map (·.cells.size) = some 10 ∧ i0.size = 10 ∧ i0.bytes = 152 := by
    obtain ⟨i0, h1, h2⟩ := Option.map_eq_some_iff.1 info78b
    simp only [Prod.mk.injEq] at h2
    exact ⟨i0, h1, h2.1, h2.2.1, h2.2.2⟩
  obtain ⟨zv, hz0, hzc⟩ := Option.map_eq_some_iff.1 hz0
  have hz2 : ¬ ((i : Int) = (n : Int)) := by omega
  have hz3 : (c : Int) < (n : Int) + 1 := by omega
  have hbw : b < w.heap.size := block_lt_of_cell (hcs 0 _ (List.getElem?_eq_getElem (by omega)))
  have hvw : vb < w.heap.size := block_lt_of_cell (hvs 0 _ (List.getElem?_eq_getElem (by omega)))
  have hkk : (n : Int) + 1 - (i : Int) = ((n + 1 - i : Nat) : Int) := by omega
  have hik : i + (n + 1 - i) = n + 1 := by omega
  have hold : (Builtin.firstCells i0.size i (.slice (some ⟨b, off, none⟩) i c)).run Tryz.prog w.drew = .ok (cs.take (i * 10)).toArray w.drew := by
    rw [hzs]
    exact run_firstCells_some w.drew 10 i ⟨b, off, none⟩ i c (cs.take (i * 10)) (by rw [List.length_take]; omega) (fun j v hj => by
      rw [Addr.add_lit]
      rw [List.getElem?_take] at hj
      split at hj
      · exact hcs j v hj
      · cases hj)
  have hrz : ∀ ty, (Builtin.append_ #[24, 3] ty #[.slice (some ⟨b, off, none⟩) i c, .int .i64 ((n : Int) + 1 - (i : Int))]).run Tryz.prog w =
      .ok (.slice (some ⟨w.heap.size, 0, none⟩) (n + 1) (grownCap w (n + 1) c 55)) (w.drew.alloc (.cells ((cs.take (i * 10)).toArray ++ Builtin.zeroCells zv.cells (n + 1 - i) ++ Builtin.zeroCells zv.cells (grownCap w (n + 1) c 55 - (n + 1))) 55)) := fun ty => by
    have h := Lib.run_append_grow_zeros w 24 3 ty 55 i0 zv .i64 .i64 und35 und3 hi0 hz0 (some ⟨b, off, none⟩) i c (cs.take (i * 10)) hold (n + 1 - i) (by omega) (by omega) (by omega) (by omega) (by rw [hzb]; omega) (by rw [hzb, hik]; exact growslice_fits hroom (by omega))
    rw [hik] at h
    rw [hkk]
    exact h
  have hGn : n + 1 ≤ grownCap w (n + 1) c 55 := grownCap_ge w _ _ _
  have hG63 : grownCap w (n + 1) c 55 ≤ 9223372036854775807 := by
    have := grownCap_le_maxLen w (n + 1) c 55 (by unfold maxLen; omega)
    unfold maxLen at this
    omega
  generalize grownCap w (n + 1) c 55 = G at hrz hGn hG63
  have hzl : ∀ k, (Builtin.zeroCells zv.cells k).size = k * 10 := fun k => by simp [Builtin.zeroCells, hzc]
  obtain ⟨tl, htl⟩ : ∃ tl : List Value, (cs.take (i * 10)).toArray ++ Builtin.zeroCells zv.cells (n + 1 - i) ++ Builtin.zeroCells zv.cells (G - (n + 1)) = ((cs.take (i * 10)) ++ tl).toArray ∧ tl.length = (G - i) * 10 := by
    refine ⟨(Builtin.zeroCells zv.cells (n + 1 - i)).toList ++ (Builtin.zeroCells zv.cells (G - (n + 1))).toList, ?_, ?_⟩
    · apply Array.toList_inj.1; simp
    · rw [List.length_append, Array.length_toList, Array.length_toList, hzl, hzl]; omega
  obtain ⟨htl, htll⟩ := htl
  rw [htl] at hrz
  obtain ⟨ROW, hROW⟩ : ∃ ROW : Array Value, ROW = ((cs.take (i * 10)) ++ tl).toArray := ⟨_, rfl⟩
  have hRl : (n + 1) * 10 ≤ ROW.size := by
    rw [hROW]
    simp only [List.size_toArray, List.length_append, List.length_take, htll]
    omega
  rw [← hROW] at hrz
  obtain ⟨W1, hW1⟩ : ∃ W1, W1 = w.drew.alloc (.cells ROW 55) := ⟨_, rfl⟩
  rw [← hW1] at hrz
  have hN : ∀ j, j < (n + 1) * 10 → (W1.cell? ⟨w.heap.size, j, none⟩).isSome = true := fun j hj => by
    rw [hW1, World.cell?_alloc_at (w := w.drew) ROW _ w.heap.size j rfl, Array.getElem?_eq_getElem (by omega)]; rfl
  have hNf : ∀ j, W1.frozen? ⟨w.heap.size, j, none⟩ = false := fun j => by rw [hW1]; exact World.frozen?_alloc_at (w := w.drew) ROW _ w.heap.size j rfl
  have hOb : ∀ j v, w.cell? ⟨b, j, none⟩ = some v → W1.cell? ⟨b, j, none⟩ = some v := fun j v h => by rw [hW1, World.cell?_alloc_past (w := w.drew) _ b j hbw]; exact h
  have hOv : ∀ j v, w.cell? ⟨vb, j, none⟩ = some v → W1.cell? ⟨vb, j, none⟩ = some v := fun j v h => by rw [hW1, World.cell?_alloc_past (w := w.drew) _ vb j hvw]; exact h
  have hcpA : ∀ (W : World), (∀ x, W.cell? x = W1.cell? x) → (∀ x, W.frozen? x = W1.frozen? x) → ∀ ty dc, (Builtin.copy_ #[24, 24] ty #[.slice (some ⟨w.heap.size, i * 10, none⟩) (n + 1 - i) dc, .slice (some ⟨vb, voff, none⟩) 1 vc]).run Tryz.prog W = .ok (goInt (Nat.min 1 (n + 1 - i))) (W.setCells w.heap.size (i * 10) vs) := fun W hWc hWf ty dc =>
    run_copy_k W _ _ ty 55 10 w.heap.size (i * 10) (n + 1 - i) dc ⟨vb, voff, none⟩ 1 vc vs und35 info78 (by rw [hvl]; simp only [Nat.min_def]; split <;> omega)
      (fun j v hj => by rw [Addr.add_lit, hWc]; exact hOv _ v (hvs j v hj))
      (fun j hj => by rw [hWc]; exact hN _ (by omega)) (fun j hj => by rw [hWf]; exact hNf _) h1v
  have hGi : ¬ (G = i) := by omega
  have hGim : ¬ (G = i + 1) := by omega
  have hci : ¬ (c = i) := by omega
  have hbN : b ≠ w.heap.size := by omega
  have hdl : (cs.drop (i * 10)).length = (n - i) * 10 := by rw [List.length_drop, hcl]; omega
  have hcpB : ∀ (W : World), (∀ x, W.cell? x = (W1.setCells w.heap.size (i * 10) vs).cell? x) → (∀ x, W.frozen? x = (W1.setCells w.heap.size (i * 10) vs).frozen? x) → ∀ ty dc sc, (Builtin.copy_ #[24, 24] ty #[.slice (some ⟨w.heap.size, (i + 1) * 10, none⟩) (n - i) dc, .slice (some ⟨b, off + i * 10, none⟩) (n - i) sc]).run Tryz.prog W = .ok (goInt (Nat.min (n - i) (n - i))) (W.setCells w.heap.size ((i + 1) * 10) (cs.drop (i * 10))) := fun W hWc hWf ty dc sc =>
    run_copy_k W _ _ ty 55 10 w.heap.size ((i + 1) * 10) (n - i) dc ⟨b, off + i * 10, none⟩ (n - i) sc (cs.drop (i * 10)) und35 info78 (by rw [hdl]; simp)
      (fun j v hj => by
        rw [Addr.add_lit, hWc, World.cell?_setCells_out _ _ _ _ _ (fun h _ => absurd h hbN), Nat.add_assoc]
        exact hOb _ v (hcs (i * 10 + j) v (by rwa [List.getElem?_drop] at hj)))
      (fun j hj => by rw [hWc]; exact isSome_setCells _ _ _ _ (fun t ht => hN _ (by omega)) _ (hN _ (by omega)))
      (fun j hj => by rw [hWf, World.frozen?_setCells]; exact hNf _) (fun v hv => h1c v (List.mem_of_mem_drop hv))
  subst hW1
  have hE1 : ∀ x, ((w.alloc (.cells ROW 55)).drew).cell? x = (w.drew.alloc (.cells ROW 55)).cell? x := fun x => rfl
  have hE2 : ∀ x, ((w.alloc (.cells ROW 55)).drew).frozen? x = (w.drew.alloc (.cells ROW 55)).frozen? x := fun x => rfl
  have hF1 : ∀ x, (((w.alloc (.cells ROW 55)).drew.setCells w.heap.size (i * 10) vs).drew).cell? x = ((w.drew.alloc (.cells ROW 55)).setCells w.heap.size (i * 10) vs).cell? x := fun x => rfl
  have hF2 : ∀ x, (((w.alloc (.cells ROW 55)).drew.setCells w.heap.size (i * 10) vs).drew).frozen? x = ((w.drew.alloc (.cells ROW 55)).setCells w.heap.size (i * 10) vs).frozen? x := fun x => rfl
  have hw1 : IntKind.i64.wrap ((i : Int) + 1) = (i : Int) + 1 := by rw [IntKind.wrap_i64]; omega
  have hb1 : (0 : Int) ≤ (i : Int) + 1 := by omega
  have hin : i ≤ n := by omega
  have htn : ((i : Int) + 1).toNat = i + 1 := by omega
  have hb3 : (i : Int) ≤ (n : Int) := by omega
  have mixed : Tryz.prog.follows .mixedOrders = true := by kernel_rfl
  have hkeep : IsRow ROW ((cs.take (i * 10)) ++ tl) := hROW
  clear hkk hik hold hRl htl hROW
  go_enter Tryz.func46, Tryz.ntmps46
  go_wp2_with (first
    | (at_builtin; refine Lib.wpList_append_run _ rfl _ _ _ _ rfl _ _ rfl rfl _ _ (hrz _) ?_)
    | (at_builtin; refine wpList_copy_runI _ rfl _ _ 24 24 rfl _ _ rfl rfl (hcpA _ hE1 hE2 _ _) ?_)
    | (at_builtin; refine wpList_copy_runI _ rfl _ _ 24 24 rfl _ _ rfl rfl (hcpB _ (fun _ => rfl) (fun _ => rfl) _ _ _) ?_))
  go_region_law_o (refine step_copy_runI rfl _ _ 24 24 rfl (.slice (some ⟨w.heap.size, (i + 1) * 10, none⟩) (n - i) (G - (i + 1))) (.slice (some ⟨b, off + i * 10, none⟩) (n - i) (c - i)) (by simp [Act.eval, Act.put]) (by simp [Act.eval, Act.put]) (hcpB _ hF1 hF2 3 (G - (i + 1)) (c - i)) ?_)
  go_wp2
  go_ret
  exact ⟨G, tl, hGn, rfl, htll, by unfold IsRow at hkeep; rw [← hkeep]⟩
end Go.Proofs.YtckdgafiindddaaGreatDoor.Im

/- slices.Insert at the slots: what it says to its caller. -/
namespace Go.Proofs.YtckdgafiindddaaGreatDoor.Im
open Go.Em Go.RowKit Go.Lib

section
variable {P : Program} {R : CodeRel} {K : Kn}
theorem post_move {w w' : World} {c0 c' : CB} {sz : Nat} {rows new : List (List X)} {res : X} {v : Value} (hI : Inv P R K [c0] [.row sz rows] w) (hf : FrameOk c0.owns w w') (hown : ∀ b o, c'.owns b o → c0.owns b o ∨ w.heap.size ≤ b)
    (hB : BoxOk P R K ([c0] ++ [c']) w' (.row sz new) c') (hres : Rep K ([c0] ++ [c']) res v) : Post P R K [c0] [.row sz rows] w res [.dead, .row sz new] (.returned v) w' := by
  have hdead : ∀ b o, ¬ Owns [c0] [Bx.dead] b o := by
    rintro b o ⟨i, c, B, h1, h2, h3, h4⟩
    cases i with
    | zero => simp at h2; subst h2; simp [Bx.live] at h3
    | succ i => simp at h2
  have hin : ∀ b o, c0.owns b o → Owns [c0] [Bx.row sz rows] b o := fun b o h => ⟨0, c0, .row sz rows, rfl, rfl, rfl, h⟩
  have hk := hI.kill 0
  have hk' : Inv P R K [c0] [.dead] w' := Inv.frame hk hf (fun b o v e ho => by
    have := hI.apart b o (hin b o ho); rw [this] at e; cases e) (fun b o ho => absurd ho (hdead b o))
  refine ⟨v, K, [c'], rfl, ⟨hk'.push hB (fun b o ho => ?_) (fun b o _ => hdead b o), hres, KLe.refl _, fun b o u e => .inl e, fun b o ho => ?_, hf.mono fun b o _ h => hin b o h, fun i B e hl => ?_⟩⟩
  · rcases hown b o ho with h | h
    · exact hI.apart b o (hin b o h)
    · cases hk : K b o with
      | none => rfl
      | some u => have := hI.known_lt hk; omega
  · obtain ⟨i, c, B, h1, h2, h3, h4⟩ := ho
    match i, h1, h2 with
    | 0, h1, h2 => simp at h2; subst h2; simp [Bx.live] at h3
    | 1, h1, h2 =>
      simp at h1; subst h1
      rcases hown b o h4 with h | h
      · exact .inl (hin b o h)
      · exact .inr h
    | i + 2, h1, h2 => simp at h2
  · cases i with
    | zero => simp at e; subst e; cases hl
    | succ i => simp at e

theorem splice_get (l vs : List Value) (o q : Nat) (h : o + vs.length ≤ l.length) : (l.take o ++ vs ++ l.drop (o + vs.length)).toArray[q]? = if q < o then l[q]? else if q < o + vs.length then vs[q - o]? else l[q]? := by
  have hT : (l.take o).length = o := by rw [List.length_take]; omega
  rw [List.getElem?_toArray]
  by_cases h5 : q < o
  · rw [if_pos h5, List.append_assoc, List.getElem?_append_left (by omega), List.getElem?_take, if_pos h5]
  · rw [if_neg h5, List.append_assoc, List.getElem?_append_right (by omega), hT]
    by_cases h6 : q < o + vs.length
    · rw [if_pos h6, List.getElem?_append_left (by omega)]
    · rw [if_neg h6, List.getElem?_append_right (by omega), List.getElem?_drop]
      congr 1; omega
theorem setCells_row (W : World) (b o : Nat) (arr : Array Value) (el : TypeId) (vs : List Value) (hb : W.heap[b]? = some (.cells arr el (0, 0))) (hl : o + vs.length ≤ arr.size) (h1 : ∀ v ∈ vs, v.oneCell' = true) :
    W.setCells b o vs = W.setRow b (arr.toList.take o ++ vs ++ arr.toList.drop (o + vs.length)).toArray := by
  have hc : ∀ j, j < vs.length → (W.cell? ⟨b, o + j, none⟩).isSome = true := fun j hj => by
    simp only [World.cell?, hb]
    rw [Array.getElem?_eq_getElem (by omega)]; rfl
  have hf : ∀ j, j < vs.length → W.frozen? ⟨b, o + j, none⟩ = false := fun j hj => by simp [World.frozen?, hb]
  have e1 := run_storeCells_cells (P := Tryz.prog) b o vs 0 W (by simpa using hc) (by simpa using hf) h1
  have e2 := run_storeCells_at Tryz.prog b o el vs 0 arr W hb (by omega) h1
  rw [e1] at e2
  simp only [Nat.add_zero] at e2
  injection e2

/-- The new row, where the elements lay or in a place of its own. -/
theorem ins_flat {K : Kn} {rows : List (List X)} {x : List X} {cs vs : List Value} (hf : Flat K 10 rows cs) (hv : Flat K 10 [x] vs) (i : Nat) : Flat K 10 (rows.take i ++ [x] ++ rows.drop i) (cs.take (i * 10) ++ vs ++ cs.drop (i * 10)) :=
  ((hf.take i).append hv).append (hf.drop i)
theorem ins_get {cs vs : List Value} {n i k : Nat} {v : Value} (hcl : cs.length = n * 10) (hvl : vs.length = 10) (hi : i ≤ n) (h : (cs.take (i * 10) ++ vs ++ cs.drop (i * 10))[k]? = some v) :
    (k < i * 10 ∧ cs[k]? = some v) ∨ (i * 10 ≤ k ∧ k < (i + 1) * 10 ∧ vs[k - i * 10]? = some v) ∨ ((i + 1) * 10 ≤ k ∧ k < (n + 1) * 10 ∧ cs[k - 10]? = some v) := by
  have hT : (cs.take (i * 10)).length = i * 10 := by rw [List.length_take]; omega
  by_cases h1 : k < i * 10
  · rw [List.append_assoc, List.getElem?_append_left (by omega), List.getElem?_take, if_pos h1] at h
    exact .inl ⟨h1, h⟩
  · rw [List.append_assoc, List.getElem?_append_right (by omega), hT] at h
    by_cases h2 : k < (i + 1) * 10
    · rw [List.getElem?_append_left (by omega)] at h
      exact .inr (.inl ⟨by omega, h2, h⟩)
    · rw [List.getElem?_append_right (by omega), List.getElem?_drop] at h
      have e : i * 10 + (k - i * 10 - vs.length) = k - 10 := by omega
      rw [e] at h
      have := (List.getElem?_eq_some_iff.1 h).1
      exact .inr (.inr ⟨by omega, by omega, h⟩)

set_option maxRecDepth 100000 in
theorem ins_sem {R : CodeRel} (n i : Nat) (t : Bool) (x : List X) (rows : List (List X)) (hi : i ≤ n) (hn : n = rows.length) (hn2 : n ≤ 2000000) :
    FSem Tryz.prog R 46 [.bs 0 0 n, .v (.int .i64 (Int.ofNat i)), .sl t 10 [x]] [.row 10 rows] (.bs 1 0 (n + 1)) [.dead, .row 10 (rows.take i ++ [x] ++ rows.drop i)] := by
  intro K C w cargs hI ha
  have hs : cargs.size = 3 := ha.1
  have r0 := ha.2 0 _ cargs[0] rfl (Array.getElem?_eq_getElem (by omega))
  have r1 := ha.2 1 _ cargs[1] rfl (Array.getElem?_eq_getElem (by omega))
  have r2 := ha.2 2 _ cargs[2] rfl (Array.getElem?_eq_getElem (by omega))
  have hca : cargs = #[cargs[0], cargs[1], cargs[2]] := by
    refine Array.ext (by simp [hs]) fun j h1 h2 => ?_
    match j, h1, h2 with
    | 0, _, _ => rfl
    | 1, _, _ => rfl
    | 2, _, _ => rfl
    | j + 3, h1, _ => omega
  rw [hca]
  generalize cargs[0] = v0 at r0
  generalize cargs[1] = v1 at r1
  generalize cargs[2] = v2 at r2
  obtain rfl := rep_v r1
  obtain ⟨c0, hC⟩ : ∃ c0, C = [c0] := by
    have := hI.size
    match C, this with
    | [c0], _ => exact ⟨c0, rfl⟩
  subst hC
  obtain ⟨vb, vo, c2, rfl⟩ : ∃ vb vo c2, v2 = .slice (some ⟨vb, vo, none⟩) 1 c2 := by
    generalize hx : X.sl t 10 [x] = y at r2
    cases r2 <;> try cases hx
    exact ⟨_, _, _, rfl⟩
  obtain ⟨vs, hv, hvK⟩ := r2.flat
  have hvl : vs.length = 10 := by simpa using hv.len
  have hvs : ∀ j v, vs[j]? = some v → w.cell? ⟨vb, vo + j, none⟩ = some v := fun j v h => hI.known _ _ _ (hvK j v h)
  have h1v := hv.oneCell
  obtain ⟨tA, kA, hsa, hkA⟩ : ∃ tA kA, w.shape? vb = some (tA, kA) ∧ kA ≠ 0 := by
    have h0 := hvs 0 _ (List.getElem?_eq_getElem (by omega))
    unfold World.cell? at h0
    split at h0
    · rename_i arr el fr hh
      refine ⟨el, arr.size, by simp [World.shape?, hh], fun e => ?_⟩
      have := (Array.getElem?_eq_some_iff.1 h0).1
      omega
    · cases h0
  have hvfc : ∀ w' : World, w'.heap = w.heap → (Builtin.firstCells 10 1 (.slice (some ⟨vb, vo, none⟩) 1 c2)).run Tryz.prog w' = .ok vs.toArray w' := fun w' hw => by
    refine run_firstCells_some w' 10 1 ⟨vb, vo, none⟩ 1 c2 vs (by omega) (fun j u hu => ?_)
    rw [Addr.add_lit]
    have := hvs j u hu
    simp only [World.cell?, hw] at this ⊢; exact this
  have hz78 : (zeroP Tryz.prog 55).isSome = true := by kernel_rfl
  obtain ⟨z78, hz78⟩ := Option.isSome_iff_exists.1 hz78
  have hs78 : sizeP Tryz.prog 55 = some 10 := by kernel_rfl
  have hb78 : bytesP Tryz.prog 55 = some 152 := by kernel_rfl
  -- a new row, at the end
  have endGrow : ∀ (ob : Option Addr) (c : Nat) (olds : List Value), i = n → n ≤ c → c < n + 1 → (ob = none → n = 0 ∧ c = 0) → Flat K 10 rows olds → (∀ w' : World, w'.heap = w.heap → (Builtin.firstCells 10 n (.slice ob n c)).run Tryz.prog w' = .ok olds.toArray w') →
      Calls Tryz.prog 46 #[.slice ob n c, .int .i64 (Int.ofNat i), .slice (some ⟨vb, vo, none⟩) 1 c2] w (Post Tryz.prog R K [c0] [.row 10 rows] w (.bs 1 0 (n + 1)) [.dead, .row 10 (rows.take i ++ [x] ++ rows.drop i)]) := by
    intro ob c olds hin hnc hcn hnil hfo hfco
    subst hin
    have hex : ∃ rest : List Value, (∀ ty, (Builtin.append_ #[24, 24] ty #[.slice ob i c, .slice (some ⟨vb, vo, none⟩) 1 c2]).run Tryz.prog w = .ok (.slice (some ⟨w.heap.size, 0, none⟩) (i + 1) (grownCap w (i + 1) c 55)) (w.drew.alloc (.cells (olds ++ vs ++ rest).toArray 55))) ∧ rest.length = (grownCap w (i + 1) c 55 - (i + 1)) * 10 := by
      obtain ⟨rest, h1, h2⟩ := run_app_grow (P := Tryz.prog) (w := w) (ty := 0) (ob := ob) (oc := some ⟨vb, vo, none⟩) (n := i) (cap := c) (m := 1) (c := c2) und35 und35 hs78 hb78 hz78 olds vs hfco hvfc hcn (by omega) (by omega) (by omega)
      exact ⟨rest, fun ty => h1, h2⟩
    obtain ⟨rest, hrun, hrl⟩ := hex
    have hm := grownCap_ge w (i + 1) c 55
    generalize grownCap w (i + 1) c 55 = m at hrun hrl hm
    refine (ins_end ob i c vb vo c2 w _ _ hnc hn2 hnil hrun).mono ?_
    rintro e w' ⟨rfl, rfl⟩
    have hfl := hfo.append hv
    have e1 : rows.take i ++ [x] ++ rows.drop i = rows ++ [x] := by
      rw [hn, List.take_length, List.drop_length, List.append_nil]
    rw [e1]
    have hol : olds.length = i * 10 := by rw [hfo.len, ← hn]
    have hsz : (olds ++ vs ++ rest).toArray.size = m * 10 := by
      simp only [List.size_toArray, List.length_append, hol, hvl, hrl]; omega
    refine post_move (c' := .at w.heap.size 0 (m * 10) 10) hI (FrameOk.trans (FrameOk.drew _ w) (FrameOk.alloc (S := c0.owns) _ _) (fun _ _ _ h => h)) (fun b o h => .inr (by rw [h.1]; exact Nat.le_refl _)) (hfl.box (alloc_get w.drew _) (fun k v hk => ?_) (by simp only [List.length_append, List.length_singleton]; omega) (by omega)) ?_
    · rw [Nat.zero_add, List.getElem?_toArray, List.getElem?_append_left (List.getElem?_eq_some_iff.1 hk).1]; exact hk
    · have := @Rep.bs K ([c0] ++ [.at w.heap.size 0 (m * 10) 10]) 1 0 (i + 1) w.heap.size 0 (m * 10) 10 m rfl (by omega) (by omega)
      simpa using this
  generalize hx0 : X.bs 0 0 n = y0 at r0
  cases r0 <;> try cases hx0
  case bsNil ob hc =>
    have e0 : c0 = .ghost := by simpa using hc
    subst e0
    have hi0 : i = 0 := by omega
    have hr0 : rows = [] := List.eq_nil_of_length_eq_zero hn.symm
    refine endGrow ob 0 [] hi0 (Nat.le_refl _) (by omega) (fun _ => ⟨rfl, rfl⟩) (by rw [hr0]; exact Flat.nil) (fun w' _ => ?_)
    cases ob <;> simp [Builtin.firstCells, loadCells, loadCellsFrom]
  case bs b base hi' sz cap hc hcap hlen =>
    have e0 : c0 = .at b base hi' sz := by simpa using hc
    subst e0
    obtain ⟨arr, el, g1, g2, g3, hbl, hfe⟩ := (hI.box 0 _ _ rfl rfl).flat
    subst g1
    simp only [Nat.zero_mul, Nat.zero_add, Nat.add_zero] at hcap ⊢
    generalize hcd : (arr.toList.drop base).take (rows.length * 10) = cs at hfe
    have hcl : cs.length = n * 10 := by rw [hfe.len, ← hn]
    have hcar : ∀ j v, cs[j]? = some v → arr[base + j]? = some v := fun j v h => by
      rw [← hcd, List.getElem?_take] at h
      split at h
      · rw [List.getElem?_drop] at h; simpa using h
      · cases h
    have hcs : ∀ j v, cs[j]? = some v → w.cell? ⟨b, base + j, none⟩ = some v := fun j v h => by
      simp only [World.cell?, hbl]; exact hcar j v h
    have h1c := hfe.oneCell
    have hnk : ∀ o, base ≤ o → o < hi' → K b o = none := fun o h1 h2 => hI.apart b o ⟨0, _, _, rfl, rfl, rfl, ⟨rfl, h1, h2⟩⟩
    have hfz : ∀ o, w.frozen? ⟨b, o, none⟩ = false := fun o => by simp [World.frozen?, hbl]
    have hflat := ins_flat hfe hv i
    by_cases hin : i = n
    · by_cases hfit : n + 1 ≤ cap
      · subst hin
        have hst := run_storeCells_at Tryz.prog b (base + i * 10) el vs 0 arr w hbl (by omega) h1v
        simp only [Nat.add_zero] at hst
        have hrun : ∀ ty, (Builtin.append_ #[24, 24] ty #[.slice (some ⟨b, base, none⟩) i cap, .slice (some ⟨vb, vo, none⟩) 1 c2]).run Tryz.prog w = .ok (.slice (some ⟨b, base, none⟩) (i + 1) cap) (w.setRow b (arr.toList.take (base + i * 10) ++ vs ++ arr.toList.drop (base + i * 10 + vs.length)).toArray) := fun ty =>
          run_app_fit (P := Tryz.prog) (ty := ty) (ob := some ⟨b, base, none⟩) und35 und35 hs78 vs _ (hvfc w rfl) hfit (fun ad e => by cases e; rw [Addr.add_lit]; exact hst) (fun e => by cases e)
        refine (ins_end _ i cap vb vo c2 w _ _ (by omega) hn2 (fun e => by cases e) hrun).mono ?_
        rintro e w' ⟨rfl, rfl⟩
        have hget : ∀ q, (arr.toList.take (base + i * 10) ++ vs ++ arr.toList.drop (base + i * 10 + vs.length)).toArray[q]? = if q < base + i * 10 then arr[q]? else if q < base + i * 10 + vs.length then vs[q - (base + i * 10)]? else arr[q]? := fun q => by
          rw [splice_get _ _ _ _ (by have : arr.toList.length = arr.size := Array.length_toList; omega)]; simp
        have hsize : (arr.toList.take (base + i * 10) ++ vs ++ arr.toList.drop (base + i * 10 + vs.length)).toArray.size = arr.size := by simp; omega
        generalize (arr.toList.take (base + i * 10) ++ vs ++ arr.toList.drop (base + i * 10 + vs.length)).toArray = arr' at hget hsize
        refine post_move (c' := .at b base hi' 10) hI (FrameOk.setRow hbl hsize fun q hq => ?_) (fun b' o' h => .inl h) (hflat.box (setRow_heap w b arr arr' el _ hbl) (fun k v hk => ?_) (by rw [hflat.len.symm.trans (by simp; omega : _ = (i + 1) * 10)]; omega) (by omega)) ?_
        · rw [hget]
          have hout : ¬ (base ≤ q ∧ q < hi') := fun hh => hq ⟨rfl, hh.1, hh.2⟩
          by_cases h5 : q < base + i * 10
          · rw [if_pos h5]
          · rw [if_neg h5, if_neg (by omega)]
        · rw [hget]
          rcases ins_get hcl hvl (Nat.le_refl _) hk with ⟨h1, h2⟩ | ⟨h1, h2, h3⟩ | ⟨h1, h2, h3⟩
          · rw [if_pos (by omega)]; exact hcar k v h2
          · rw [if_neg (by omega), if_pos (by omega), ← h3]; congr 1; omega
          · omega
        · have := @Rep.bs K ([.at b base hi' 10] ++ [.at b base hi' 10]) 1 0 (i + 1) b base hi' 10 cap rfl (by omega) hfit
          simpa using this
      · refine endGrow (some ⟨b, base, none⟩) cap cs hin (by omega) (by omega) (fun e => by cases e) hfe (fun w' hw => ?_)
        refine run_firstCells_some w' 10 n ⟨b, base, none⟩ n cap cs (by omega) (fun j u hu => ?_)
        rw [Addr.add_lit]
        have := hcs j u hu
        simp only [World.cell?, hw] at this ⊢; exact this
    · have hil : i < n := by omega
      by_cases hfit : n + 1 ≤ cap
      · have hlb : arr.toList.length = arr.size := Array.length_toList
        have hsh : w.shape? b = some (el, arr.size) := by simp [World.shape?, hbl]
        refine (ins_shift b base n cap i vb vo c2 cs vs w hil hfit hn2 (fun j k hj hk e hne => ?_) hcl hvl hcs (fun j hj => ?_) (fun j _ => hfz _) hvs h1c h1v tA el kA arr.size hsa hsh (by omega) hkA hfz).mono ?_
        · have hk1 := hvK j _ (List.getElem?_eq_getElem (by omega))
          rw [e, hne, hnk _ (by omega) (by omega)] at hk1
          cases hk1
        · simp only [World.cell?, hbl]
          rw [Array.getElem?_eq_getElem (by omega)]; rfl
        rintro e w' ⟨rfl, rfl⟩
        have hdl : (cs.drop (i * 10)).length = (n - i) * 10 := by rw [List.length_drop, hcl]; omega
        have hbl2 : w.drew.heap[b]? = some (.cells arr el (0, 0)) := hbl
        rw [setCells_row w.drew b _ arr el _ hbl2 (by omega) (fun v hv' => h1c v (List.mem_of_mem_drop hv'))]
        have hget1 := fun q => splice_get arr.toList (cs.drop (i * 10)) (base + (i + 1) * 10) q (by omega)
        have hsz1 : (arr.toList.take (base + (i + 1) * 10) ++ cs.drop (i * 10) ++ arr.toList.drop (base + (i + 1) * 10 + (cs.drop (i * 10)).length)).toArray.size = arr.size := by
          simp only [List.size_toArray, List.length_append, List.length_take, List.length_drop, hlb]; omega
        generalize (arr.toList.take (base + (i + 1) * 10) ++ cs.drop (i * 10) ++ arr.toList.drop (base + (i + 1) * 10 + (cs.drop (i * 10)).length)).toArray = arr1 at hget1 hsz1 ⊢
        have hb1 := setRow_heap w.drew b arr arr1 el (0, 0) hbl2
        have hlb1 : arr1.toList.length = arr1.size := Array.length_toList
        rw [setCells_row _ b _ arr1 el _ hb1 (by omega) h1v]
        have hget2 := fun q => splice_get arr1.toList vs (base + i * 10) q (by omega)
        have hsz2 : (arr1.toList.take (base + i * 10) ++ vs ++ arr1.toList.drop (base + i * 10 + vs.length)).toArray.size = arr1.size := by
          simp only [List.size_toArray, List.length_append, List.length_take, List.length_drop, hlb1]; omega
        generalize (arr1.toList.take (base + i * 10) ++ vs ++ arr1.toList.drop (base + i * 10 + vs.length)).toArray = arr2 at hget2 hsz2 ⊢
        have hb2 := setRow_heap _ b arr1 arr2 el (0, 0) hb1
        simp only [Array.getElem?_toList] at hget1 hget2
        refine post_move (c' := .at b base hi' 10) hI (FrameOk.trans (FrameOk.drew _ w) (FrameOk.trans (FrameOk.setRow hbl2 hsz1 fun q hq => ?_) (FrameOk.setRow (S := (CB.at b base hi' 10).owns) hb1 hsz2 fun q hq => ?_) (fun _ _ _ h => h)) (fun _ _ _ h => h)) (fun b' o' h => .inl h) (hflat.box hb2 (fun k v hk => ?_) ?_ (by omega)) ?_
        · rw [hget1]
          have hout : ¬ (base ≤ q ∧ q < hi') := fun hh => hq ⟨rfl, hh.1, hh.2⟩
          by_cases h5 : q < base + (i + 1) * 10
          · rw [if_pos h5]
          · rw [if_neg h5, if_neg (by omega)]
        · rw [hget2]
          have hout : ¬ (base ≤ q ∧ q < hi') := fun hh => hq ⟨rfl, hh.1, hh.2⟩
          by_cases h5 : q < base + i * 10
          · rw [if_pos h5]
          · rw [if_neg h5, if_neg (by omega)]
        · rw [hget2]
          rcases ins_get hcl hvl hi hk with ⟨h1, h2⟩ | ⟨h1, h2, h3⟩ | ⟨h1, h2, h3⟩
          · rw [if_pos (by omega), hget1, if_pos (by omega)]; exact hcar k v h2
          · rw [if_neg (by omega), if_pos (by omega), ← h3]; congr 1; omega
          · rw [if_neg (by omega), if_neg (by omega), hget1, if_neg (by omega), if_pos (by omega), List.getElem?_drop, ← h3]; congr 1; omega
        · have := hflat.len
          simp only [List.length_append, List.length_take, List.length_drop, List.length_singleton]
          omega
        · have := @Rep.bs K ([.at b base hi' 10] ++ [.at b base hi' 10]) 1 0 (n + 1) b base hi' 10 cap rfl (by omega) hfit
          simpa using this
      · refine (ins_grow b base n cap i vb vo c2 cs vs w hil (by omega) (by omega) (by omega) hcl hvl hcs hvs h1c h1v).mono ?_
        rintro e w' ⟨G, tl, hG, rfl, htl, rfl⟩
        have hdl : (cs.drop (i * 10)).length = (n - i) * 10 := by rw [List.length_drop, hcl]; omega
        have hTl : (cs.take (i * 10)).length = i * 10 := by rw [List.length_take]; omega
        generalize hA : (cs.take (i * 10) ++ tl).toArray = A
        have hAs : A.size = G * 10 := by rw [← hA, List.size_toArray, List.length_append, hTl, htl]; omega
        have hlA : A.toList.length = A.size := Array.length_toList
        have hb0 : (w.alloc (.cells A 55)).drew.heap[w.heap.size]? = some (.cells A 55 (0, 0)) := alloc_get w _
        rw [setCells_row _ _ _ A 55 _ hb0 (by omega) h1v]
        have hget1 := fun q => splice_get A.toList vs (i * 10) q (by omega)
        have hsz1 : (A.toList.take (i * 10) ++ vs ++ A.toList.drop (i * 10 + vs.length)).toArray.size = A.size := by
          simp only [List.size_toArray, List.length_append, List.length_take, List.length_drop, hlA]; omega
        generalize (A.toList.take (i * 10) ++ vs ++ A.toList.drop (i * 10 + vs.length)).toArray = arr1 at hget1 hsz1 ⊢
        have hb1 := setRow_heap _ w.heap.size A arr1 55 (0, 0) hb0
        have hlb1 : arr1.toList.length = arr1.size := Array.length_toList
        have hb1' : ((w.alloc (.cells A 55)).drew.setRow w.heap.size arr1).drew.heap[w.heap.size]? = some (.cells arr1 55 (0, 0)) := hb1
        rw [setCells_row _ _ _ arr1 55 _ hb1' (by omega) (fun v hv' => h1c v (List.mem_of_mem_drop hv'))]
        have hget2 := fun q => splice_get arr1.toList (cs.drop (i * 10)) ((i + 1) * 10) q (by omega)
        have hsz2 : (arr1.toList.take ((i + 1) * 10) ++ cs.drop (i * 10) ++ arr1.toList.drop ((i + 1) * 10 + (cs.drop (i * 10)).length)).toArray.size = arr1.size := by
          simp only [List.size_toArray, List.length_append, List.length_take, List.length_drop, hlb1]; omega
        generalize (arr1.toList.take ((i + 1) * 10) ++ cs.drop (i * 10) ++ arr1.toList.drop ((i + 1) * 10 + (cs.drop (i * 10)).length)).toArray = arr2 at hget2 hsz2 ⊢
        have hb2 := setRow_heap _ w.heap.size arr1 arr2 55 (0, 0) hb1'
        simp only [Array.getElem?_toList] at hget1 hget2
        have hfr : FrameOk (CB.at b base hi' 10).owns w (((w.alloc (.cells A 55)).drew.setRow w.heap.size arr1).drew.setRow w.heap.size arr2) := by
          have f1 : FrameOk (fun p _ => p = w.heap.size) w (((w.alloc (.cells A 55)).drew.setRow w.heap.size arr1).drew.setRow w.heap.size arr2) :=
            FrameOk.trans (FrameOk.alloc (S := fun p _ => p = w.heap.size) w _) (FrameOk.trans (FrameOk.drew _ _) (FrameOk.trans (FrameOk.setRow hb0 hsz1 fun q hq => absurd rfl hq) (FrameOk.trans (FrameOk.drew _ _) (FrameOk.setRow hb1' hsz2 fun q hq => absurd rfl hq) (fun _ _ _ h => h)) (fun _ _ _ h => h)) (fun _ _ _ h => h)) (fun _ _ _ h => h)
          exact f1.mono fun p o hp h => by omega
        refine post_move (c' := .at w.heap.size 0 (G * 10) 10) hI hfr (fun b' o' h => .inr (by rw [h.1]; exact Nat.le_refl _)) (hflat.box hb2 (fun k v hk => ?_) ?_ (by omega)) ?_
        · rw [Nat.zero_add, hget2]
          rcases ins_get hcl hvl hi hk with ⟨h1, h2⟩ | ⟨h1, h2, h3⟩ | ⟨h1, h2, h3⟩
          · rw [if_pos (by omega), hget1, if_pos (by omega), ← hA, List.getElem?_toArray, List.getElem?_append_left (by omega), List.getElem?_take, if_pos h1]; exact h2
          · rw [if_pos (by omega), hget1, if_neg (by omega), if_pos (by omega)]; exact h3
          · rw [if_neg (by omega), if_pos (by omega), List.getElem?_drop, ← h3]; congr 1; omega
        · simp only [List.length_append, List.length_take, List.length_drop, List.length_singleton]
          omega
        · have := @Rep.bs K ([.at b base hi' 10] ++ [.at w.heap.size 0 (G * 10) 10]) 1 0 (n + 1) w.heap.size 0 (G * 10) 10 G rfl (by omega) (by omega)
          simpa using this
end
end Go.Proofs.YtckdgafiindddaaGreatDoor.Im

/- slices.Insert at the slots: copies of elements of more than one cell. -/
namespace Go.Proofs.YtckdgafiindddaaGreatDoor.Iv
open Go.Em Go.RowKit Go.Lib

theorem run_copy_k {P : Program} (w : World) (dT sT ty elem : TypeId) (k : Nat) (b o dLen dCap : Nat) (a : Addr) (sLen sCap : Nat) (cs : List Value)
    (hu : P.underlying dT = some (.slice elem)) (hs : (P.info? elem).map (·.size) = some k) (hn : cs.length = Nat.min sLen dLen * k)
    (hsrc : ∀ j v, cs[j]? = some v → w.cell? (a.add j) = some v) (hc : ∀ j, j < cs.length → (w.cell? ⟨b, o + j, none⟩).isSome = true) (hf : ∀ j, j < cs.length → w.frozen? ⟨b, o + j, none⟩ = false) (h1 : ∀ v ∈ cs, v.oneCell' = true) :
    (Builtin.copy_ #[dT, sT] ty #[.slice (some ⟨b, o, none⟩) dLen dCap, .slice (some a) sLen sCap]).run P w = .ok (goInt (Nat.min sLen dLen)) (w.setCells b o cs) := by
  have hl := run_loadCells_list (P := P) w a cs hsrc
  have hst := run_storeCells_cells (P := P) b o cs 0 w (by simpa using hc) (by simpa using hf) h1
  cases hq : P.info? elem with
  | none => simp [hq] at hs
  | some i =>
    have hi : i.size = k := by simpa [hq] using hs
    simp [Builtin.copy_, run_underlying hu, Builtin.lenOf, Builtin.firstCells, sizeOf, typeInfo, hq, hi, ← hn, hl, hst]

/-- The model's entry for slices.overlaps: two blocks, the second of which is plain memory. -/
theorem run_overlaps_own {P : Program} (w : World) (tS tR e : TypeId) (ht : P.underlying tS = some (.slice e)) (size : Nat) (hz : ∀ w, (Go.sizeOf e).run P w = .ok size w)
    (a b : Addr) (la ca lb cb : Nat) (hne : a.block ≠ b.block) (tA tB : TypeId) (kA kB : Nat)
    (hsa : w.shape? a.block = some (tA, kA)) (hsb : w.shape? b.block = some (tB, kB)) (hkB : kB ≠ 0) (hkA : kA ≠ 0)
    (hfb : w.frozen? b = false) (hfe : w.frozen? { block := b.block, off := kB } = false) :
    (Extern.SlicesOverlaps.overlaps #[tS, tS] #[tR] #[.slice (some a) la ca, .slice (some b) lb cb]).run P w = .ok (.bool false) w := by
  have hnb : (a.block != b.block) = true := by simpa using hne
  have hnb' : (a.block == b.block) = false := by simpa using hne
  change Sem.run P (α := Value) (do
    let some t := (#[tS, tS] : Array TypeId)[0]? | stuck "slices.overlaps: no parameter types"
    let .slice elem ← underlying t | stuck "slices.overlaps: slice type expected"
    let size ← sizeOf elem
    match (some a : Option Addr), (some b : Option Addr) with
    | some a, some b =>
      if la = 0 ∨ lb = 0 ∨ size = 0 then pure (Value.bool false)
      else if a.block != b.block && (← frozen a) && (← frozen b) then unsupported .addressObserved
      else do
        if a.block != b.block then do
          noView a; noView b
          if ← mayBeOne a b then return Value.bool ((← choose (.extern "sameAddr.stringBytes" 2)) == 1)
        pure (Value.bool (a.block == b.block && a.off < b.off + lb * size && b.off < a.off + la * size))
    | _, _ => pure (Value.bool false)) w = _
  by_cases h0 : la = 0 ∨ lb = 0 ∨ size = 0
  · simp [run_underlying ht, hz, h0]
  · cases kB with
    | zero => exact absurd rfl hkB
    | succ kB =>
      obtain ⟨kA, rfl⟩ : ∃ k, kA = k + 1 := ⟨kA - 1, by omega⟩
      cases hfa : w.frozen? a with
      | true => simp [run_underlying ht, hz, h0, hnb, hnb', frozen, noView, viewAt, mayBeOne, stringish, shape, Sem.run, hsa, hsb, hfb, hfe, hfa]
      | false =>
        cases hfx : w.frozen? { block := a.block, off := kA + 1 } with
        | true => simp [run_underlying ht, hz, h0, hnb, hnb', frozen, noView, viewAt, mayBeOne, stringish, shape, Sem.run, hsa, hsb, hfb, hfe, hfa, hfx]
        | false => simp [run_underlying ht, hz, h0, hnb, hnb', frozen, noView, viewAt, mayBeOne, stringish, shape, Sem.run, hsa, hsb, hfb, hfe, hfa, hfx]
/-- .. and where both lie in one block, apart. -/
theorem run_overlaps_same {P : Program} (w : World) (tS tR e : TypeId) (ht : P.underlying tS = some (.slice e)) (size : Nat) (hz : ∀ w, (Go.sizeOf e).run P w = .ok size w)
    (a b : Addr) (la ca lb cb : Nat) (hsame : a.block = b.block) (hd : ¬ (a.off < b.off + lb * size ∧ b.off < a.off + la * size)) :
    (Extern.SlicesOverlaps.overlaps #[tS, tS] #[tR] #[.slice (some a) la ca, .slice (some b) lb cb]).run P w = .ok (.bool false) w := by
  have hnb : (a.block != b.block) = false := by simpa using hsame
  have hnb' : (a.block == b.block) = true := by simpa using hsame
  have hd' : (decide (a.off < b.off + lb * size) && decide (b.off < a.off + la * size)) = false := by
    cases h : (decide (a.off < b.off + lb * size) && decide (b.off < a.off + la * size)) with
    | false => rfl
    | true => exact absurd (by simpa using h) hd
  change Sem.run P (α := Value) (do
    let some t := (#[tS, tS] : Array TypeId)[0]? | stuck "slices.overlaps: no parameter types"
    let .slice elem ← underlying t | stuck "slices.overlaps: slice type expected"
    let size ← sizeOf elem
    match (some a : Option Addr), (some b : Option Addr) with
    | some a, some b =>
      if la = 0 ∨ lb = 0 ∨ size = 0 then pure (Value.bool false)
      else if a.block != b.block && (← frozen a) && (← frozen b) then unsupported .addressObserved
      else do
        if a.block != b.block then do
          noView a; noView b
          if ← mayBeOne a b then return Value.bool ((← choose (.extern "sameAddr.stringBytes" 2)) == 1)
        pure (Value.bool (a.block == b.block && a.off < b.off + lb * size && b.off < a.off + la * size))
    | _, _ => pure (Value.bool false)) w = _
  by_cases h0 : la = 0 ∨ lb = 0 ∨ size = 0
  · simp [run_underlying ht, hz, h0]
  · simp [run_underlying ht, hz, h0, hnb, hnb', hd', frozen, Sem.run]
end Go.Proofs.YtckdgafiindddaaGreatDoor.Iv

/- slices.Insert at the slots, where there is room. -/
namespace Go.Proofs.YtckdgafiindddaaGreatDoor.Iv
open Go.Em Go.RowKit Go.Lib

theorem und35 : Tryz.prog.underlying 50 = some (.slice 53) := by kernel_rfl
theorem info78 : (Tryz.prog.info? 53).map (·.size) = some 6 := by kernel_rfl
theorem size78 : ∀ w, (Go.sizeOf 53).run Tryz.prog w = .ok 6 w := Tryz.sizeOf53

set_option maxHeartbeats 4000000 in
set_option maxRecDepth 100000 in
theorem ins_shift (b off n c i vb voff vc : Nat) (cs vs : List Value) (w : World) (hi : i < n) (hroom : n + 1 ≤ c) (hn3 : n ≤ 2000000) (hdis : ∀ j k, j < 6 → k < (n + 1) * 6 → vb = b → voff + j ≠ off + k)
    (hcl : cs.length = n * 6) (hvl : vs.length = 6)
    (hcs : ∀ j v, cs[j]? = some v → w.cell? ⟨b, off + j, none⟩ = some v) (hsp : ∀ j, j < (n + 1) * 6 → (w.cell? ⟨b, off + j, none⟩).isSome = true) (hfz : ∀ j, j < (n + 1) * 6 → w.frozen? ⟨b, off + j, none⟩ = false)
    (hvs : ∀ j v, vs[j]? = some v → w.cell? ⟨vb, voff + j, none⟩ = some v) (h1c : ∀ v ∈ cs, v.oneCell' = true) (h1v : ∀ v ∈ vs, v.oneCell' = true)
    (tA tB : TypeId) (kA kB : Nat) (hsa : w.shape? vb = some (tA, kA)) (hsb : w.shape? b = some (tB, kB)) (hkB : kB ≠ 0) (hkA : kA ≠ 0) (hfb : ∀ o, w.frozen? ⟨b, o, none⟩ = false) :
    Calls Tryz.prog 48 #[.slice (some ⟨b, off, none⟩) n c, .int .i64 i, .slice (some ⟨vb, voff, none⟩) 1 vc] w fun e w' =>
      e = .returned (.slice (some ⟨b, off, none⟩) (n + 1) c) ∧ w' = (w.drew.setCells b (off + (i + 1) * 6) (cs.drop (i * 6))).setCells b (off + i * 6) vs := by
  have hz2 : ¬ ((i : Int) = (n : Int)) := by omega
  have hov : ∀ cb, (callFunc 82 #[.slice (some ⟨vb, voff, none⟩) 1 vc, .slice (some ⟨b, off + (i + 1) * 6, none⟩) (n - i) cb]).run Tryz.prog w = .ok (.value (.bool false)) w := fun cb => by
    rw [run_callFunc_extern Tryz.func82 (by kernel_rfl) (by kernel_rfl) (by kernel_rfl) (e := Extern.SlicesOverlaps.overlaps #[50, 50] #[4]) (by kernel_rfl)]
    by_cases hvb : vb = b
    · rw [run_overlaps_same w 50 4 53 und35 6 size78 ⟨vb, voff, none⟩ ⟨b, off + (i + 1) * 6, none⟩ 1 vc (n - i) cb hvb (fun h => by
        obtain ⟨h1, h2⟩ := h
        dsimp only at h1 h2
        by_cases hlo : off + (i + 1) * 6 ≤ voff
        · exact hdis 0 (voff - off) (by omega) (by omega) hvb (by omega)
        · exact hdis (off + (i + 1) * 6 - voff) ((i + 1) * 6) (by omega) (by omega) hvb (by omega))]
      rfl
    · rw [run_overlaps_own w 50 4 53 und35 6 size78 ⟨vb, voff, none⟩ ⟨b, off + (i + 1) * 6, none⟩ 1 vc (n - i) cb hvb tA tB kA kB hsa hsb hkB hkA (hfb _) (hfb _)]
      rfl
  have hdl : (cs.drop (i * 6)).length = (n - i) * 6 := by rw [List.length_drop, hcl]; omega
  have hw1 : IntKind.i64.wrap ((i : Int) + 1) = (i : Int) + 1 := by rw [IntKind.wrap_i64]; omega
  have hb1 : (0 : Int) ≤ (i : Int) + 1 := by omega
  have hin : i ≤ n := by omega
  have htn : ((i : Int) + 1).toNat = i + 1 := by omega
  have hb2 : ¬ (c = i + 1) := by omega
  have hb3 : (i : Int) ≤ (n : Int) + 1 := by omega
  have hb4 : ¬ (c = i) := by omega
  have hcp1 : ∀ ty dc sc, (Builtin.copy_ #[50, 50] ty #[.slice (some ⟨b, off + (i + 1) * 6, none⟩) (n - i) dc, .slice (some ⟨b, off + i * 6, none⟩) (n + 1 - i) sc]).run Tryz.prog w.drew = .ok (goInt (Nat.min (n + 1 - i) (n - i))) (w.drew.setCells b (off + (i + 1) * 6) (cs.drop (i * 6))) := fun ty dc sc =>
    run_copy_k w.drew _ _ ty 53 6 b (off + (i + 1) * 6) (n - i) dc ⟨b, off + i * 6, none⟩ (n + 1 - i) sc (cs.drop (i * 6)) und35 info78 (by rw [hdl]; congr 1; simp only [Nat.min_def]; split <;> omega)
      (fun j v hj => by rw [Addr.add_lit, Nat.add_assoc]; exact hcs (i * 6 + j) v (by rwa [List.getElem?_drop] at hj))
      (fun j hj => by rw [Nat.add_assoc]; exact hsp _ (by omega)) (fun j hj => by rw [Nat.add_assoc]; exact hfz _ (by omega)) (fun v hv => h1c v (List.mem_of_mem_drop hv))
  obtain ⟨W1, hW1⟩ : ∃ W1, W1 = w.drew.setCells b (off + (i + 1) * 6) (cs.drop (i * 6)) := ⟨_, rfl⟩
  have hsp1 : ∀ k, k < (n + 1) * 6 → (W1.cell? ⟨b, off + k, none⟩).isSome = true := fun k hk => by
    rw [hW1]
    exact isSome_setCells b _ _ _ (fun j hj => by rw [Nat.add_assoc]; exact hsp _ (by omega)) _ (hsp k hk)
  have hcp2 : ∀ (W : World), (∀ x, W.cell? x = W1.cell? x) → (∀ x, W.frozen? x = W1.frozen? x) → ∀ ty dc, (Builtin.copy_ #[50, 50] ty #[.slice (some ⟨b, off + i * 6, none⟩) (n + 1 - i) dc, .slice (some ⟨vb, voff, none⟩) 1 vc]).run Tryz.prog W = .ok (goInt (Nat.min 1 (n + 1 - i))) (W.setCells b (off + i * 6) vs) := fun W hWc hWf ty dc =>
    run_copy_k W _ _ ty 53 6 b (off + i * 6) (n + 1 - i) dc ⟨vb, voff, none⟩ 1 vc vs und35 info78 (by rw [hvl]; simp only [Nat.min_def]; split <;> omega)
      (fun j v hj => by
        have hj' : j < 6 := by rw [← hvl]; exact (List.getElem?_eq_some_iff.1 hj).1
        rw [Addr.add_lit, hWc, hW1, World.cell?_setCells_out b _ _ _ _ (fun h _ => by
          dsimp only at h ⊢
          have h5 := hdis j (voff + j - off) hj'
          by_cases h6 : off ≤ voff + j ∧ voff + j - off < (n + 1) * 6
          · exact absurd (by omega) (h5 h6.2 h)
          · omega)]
        exact hvs j v hj)
      (fun j hj => by rw [hWc, Nat.add_assoc]; exact hsp1 _ (by omega)) (fun j hj => by rw [hWf, hW1, World.frozen?_setCells, Nat.add_assoc]; exact hfz _ (by omega)) h1v
  rw [← hW1] at hcp1
  have mixed : Tryz.prog.follows .mixedOrders = true := by kernel_rfl
  go_enter Tryz.func48, Tryz.ntmps48
  go_wp2_with (simp only [hov])
  go_region_law_o (refine step_copy_runI rfl _ _ 50 50 rfl _ _ (by simp [Act.eval, Act.put]) (by simp [Act.eval, Act.put]) (hcp1 _ _ _) ?_)
  go_wp2_with (at_builtin; refine wpList_copy_runI _ rfl _ _ 50 50 rfl _ _ rfl rfl (hcp2 _ (fun _ => rfl) (fun _ => rfl) _ _) ?_)
  go_ret
  first | exact ⟨rfl, rfl⟩ | exact ⟨rfl, by rw [hW1]⟩
end Go.Proofs.YtckdgafiindddaaGreatDoor.Iv

/- slices.Insert at the slots: at the end, and where there is no room. -/
namespace Go.Proofs.YtckdgafiindddaaGreatDoor.Iv
open Go.Em Go.RowKit Go.Lib

set_option maxHeartbeats 4000000 in
set_option maxRecDepth 100000 in
theorem ins_end (ob : Option Addr) (n c vb voff vc : Nat) (w w1 : World) (v : Value) (hnc : n ≤ c) (hn3 : n ≤ 2000000) (hnil : ob = none → n = 0 ∧ c = 0)
    (hrun : ∀ ty, (Builtin.append_ #[50, 50] ty #[.slice ob n c, .slice (some ⟨vb, voff, none⟩) 1 vc]).run Tryz.prog w = .ok v w1) :
    Calls Tryz.prog 48 #[.slice ob n c, .int .i64 n, .slice (some ⟨vb, voff, none⟩) 1 vc] w fun e w' => e = .returned v ∧ w' = w1 := by
  have mixed : Tryz.prog.follows .mixedOrders = true := by kernel_rfl
  go_enter Tryz.func48, Tryz.ntmps48
  cases ob with
  | none =>
    obtain ⟨rfl, rfl⟩ := hnil rfl
    go_wp2_with (at_builtin; refine Lib.wpList_append_run _ rfl _ _ _ _ rfl _ _ rfl rfl _ _ (hrun _) ?_)
    go_ret
    exact ⟨rfl, rfl⟩
  | some a =>
    obtain ⟨ab, ao, asp⟩ := a
    go_wp2_with (at_builtin; refine Lib.wpList_append_run _ rfl _ _ _ _ rfl _ _ rfl rfl _ _ (hrun _) ?_)
    all_goals (go_ret; exact ⟨rfl, rfl⟩)

def IsRow (r : Array Value) (l : List Value) : Prop := r = l.toArray
theorem info78b : (Tryz.prog.info? 53).map (fun i => (i.zero.map (·.cells.size), i.size, i.bytes)) = some (some 6, 6, 88) := by kernel_rfl
theorem und3 : Tryz.prog.underlying 3 = some (.int .i64) := by kernel_rfl

set_option maxHeartbeats 4000000 in
set_option maxRecDepth 100000 in
theorem ins_grow (b off n c i vb voff vc : Nat) (cs vs : List Value) (w : World) (hi : i < n) (hnc : n ≤ c) (hroom : c < n + 1) (hc63 : c ≤ 4000000) 
    (hcl : cs.length = n * 6) (hvl : vs.length = 6)
    (hcs : ∀ j v, cs[j]? = some v → w.cell? ⟨b, off + j, none⟩ = some v)
    (hvs : ∀ j v, vs[j]? = some v → w.cell? ⟨vb, voff + j, none⟩ = some v) (h1c : ∀ v ∈ cs, v.oneCell' = true) (h1v : ∀ v ∈ vs, v.oneCell' = true) :
    Calls Tryz.prog 48 #[.slice (some ⟨b, off, none⟩) n c, .int .i64 i, .slice (some ⟨vb, voff, none⟩) 1 vc] w fun e w' =>
      ∃ (G : Nat) (tl : List Value), n + 1 ≤ G ∧ e = .returned (.slice (some ⟨w.heap.size, 0, none⟩) (n + 1) G) ∧ tl.length = (G - i) * 6 ∧
      w' = (((w.alloc (.cells ((cs.take (i * 6)) ++ tl).toArray 53)).drew.setCells w.heap.size (i * 6) vs).drew).setCells w.heap.size ((i + 1) * 6) (cs.drop (i * 6)) := by
  obtain ⟨i0, hi0, hz0, hzs, hzb⟩ : ∃ i0, Tryz.prog.info? 53 = some i0 ∧ i0.zero.map (·.cells.size) = some 6 ∧ i0.size = 6 ∧ i0.bytes = 88 := by
    obtain ⟨i0, h1, h2⟩ := Option.map_eq_some_iff.1 info78b
    simp only [Prod.mk.injEq] at h2
    exact ⟨i0, h1, h2.1, h2.2.1, h2.2.2⟩
  obtain ⟨zv, hz0, hzc⟩ := Option.map_eq_some_iff.1 hz0
  have hz2 : ¬ ((i : Int) = (n : Int)) := by omega
  have hz3 : (c : Int) < (n : Int) + 1 := by omega
  have hbw : b < w.heap.size := block_lt_of_cell (hcs 0 _ (List.getElem?_eq_getElem (by omega)))
  have hvw : vb < w.heap.size := block_lt_of_cell (hvs 0 _ (List.getElem?_eq_getElem (by omega)))
  have hkk : (n : Int) + 1 - (i : Int) = ((n + 1 - i : Nat) : Int) := by omega
  have hik : i + (n + 1 - i) = n + 1 := by omega
  have hold : (Builtin.firstCells i0.size i (.slice (some ⟨b, off, none⟩) i c)).run Tryz.prog w.drew = .ok (cs.take (i * 6)).toArray w.drew := by
    rw [hzs]
    exact run_firstCells_some w.drew 6 i ⟨b, off, none⟩ i c (cs.take (i * 6)) (by rw [List.length_take]; omega) (fun j v hj => by
      rw [Addr.add_lit]
      rw [List.getElem?_take] at hj
      split at hj
      · exact hcs j v hj
      · cases hj)
  have hrz : ∀ ty, (Builtin.append_ #[50, 3] ty #[.slice (some ⟨b, off, none⟩) i c, .int .i64 ((n : Int) + 1 - (i : Int))]).run Tryz.prog w =
      .ok (.slice (some ⟨w.heap.size, 0, none⟩) (n + 1) (grownCap w (n + 1) c 53)) (w.drew.alloc (.cells ((cs.take (i * 6)).toArray ++ Builtin.zeroCells zv.cells (n + 1 - i) ++ Builtin.zeroCells zv.cells (grownCap w (n + 1) c 53 - (n + 1))) 53)) := fun ty => by
    have h := Lib.run_append_grow_zeros w 50 3 ty 53 i0 zv .i64 .i64 und35 und3 hi0 hz0 (some ⟨b, off, none⟩) i c (cs.take (i * 6)) hold (n + 1 - i) (by omega) (by omega) (by omega) (by omega) (by rw [hzb]; omega) (by rw [hzb, hik]; exact growslice_fits hroom (by omega))
    rw [hik] at h
    rw [hkk]
    exact h
  have hGn : n + 1 ≤ grownCap w (n + 1) c 53 := grownCap_ge w _ _ _
  have hG63 : grownCap w (n + 1) c 53 ≤ 9223372036854775807 := by
    have := grownCap_le_maxLen w (n + 1) c 53 (by unfold maxLen; omega)
    unfold maxLen at this
    omega
  generalize grownCap w (n + 1) c 53 = G at hrz hGn hG63
  have hzl : ∀ k, (Builtin.zeroCells zv.cells k).size = k * 6 := fun k => by simp [Builtin.zeroCells, hzc]
  obtain ⟨tl, htl⟩ : ∃ tl : List Value, (cs.take (i * 6)).toArray ++ Builtin.zeroCells zv.cells (n + 1 - i) ++ Builtin.zeroCells zv.cells (G - (n + 1)) = ((cs.take (i * 6)) ++ tl).toArray ∧ tl.length = (G - i) * 6 := by
    refine ⟨(Builtin.zeroCells zv.cells (n + 1 - i)).toList ++ (Builtin.zeroCells zv.cells (G - (n + 1))).toList, ?_, ?_⟩
    · apply Array.toList_inj.1; simp
    · rw [List.length_append, Array.length_toList, Array.length_toList, hzl, hzl]; omega
  obtain ⟨htl, htll⟩ := htl
  rw [htl] at hrz
  obtain ⟨ROW, hROW⟩ : ∃ ROW : Array Value, ROW = ((cs.take (i * 6)) ++ tl).toArray := ⟨_, rfl⟩
  have hRl : (n + 1) * 6 ≤ ROW.size := by
    rw [hROW]
    simp only [List.size_toArray, List.length_append, List.length_take, htll]
    omega
  rw [← hROW] at hrz
  obtain ⟨W1, hW1⟩ : ∃ W1, W1 = w.drew.alloc (.cells ROW 53) := ⟨_, rfl⟩
  rw [← hW1] at hrz
  have hN : ∀ j, j < (n + 1) * 6 → (W1.cell? ⟨w.heap.size, j, none⟩).isSome = true := fun j hj => by
    rw [hW1, World.cell?_alloc_at (w := w.drew) ROW _ w.heap.size j rfl, Array.getElem?_eq_getElem (by omega)]; rfl
  have hNf : ∀ j, W1.frozen? ⟨w.heap.size, j, none⟩ = false := fun j => by rw [hW1]; exact World.frozen?_alloc_at (w := w.drew) ROW _ w.heap.size j rfl
  have hOb : ∀ j v, w.cell? ⟨b, j, none⟩ = some v → W1.cell? ⟨b, j, none⟩ = some v := fun j v h => by rw [hW1, World.cell?_alloc_past (w := w.drew) _ b j hbw]; exact h
  have hOv : ∀ j v, w.cell? ⟨vb, j, none⟩ = some v → W1.cell? ⟨vb, j, none⟩ = some v := fun j v h => by rw [hW1, World.cell?_alloc_past (w := w.drew) _ vb j hvw]; exact h
  have hcpA : ∀ (W : World), (∀ x, W.cell? x = W1.cell? x) → (∀ x, W.frozen? x = W1.frozen? x) → ∀ ty dc, (Builtin.copy_ #[50, 50] ty #[.slice (some ⟨w.heap.size, i * 6, none⟩) (n + 1 - i) dc, .slice (some ⟨vb, voff, none⟩) 1 vc]).run Tryz.prog W = .ok (goInt (Nat.min 1 (n + 1 - i))) (W.setCells w.heap.size (i * 6) vs) := fun W hWc hWf ty dc =>
    run_copy_k W _ _ ty 53 6 w.heap.size (i * 6) (n + 1 - i) dc ⟨vb, voff, none⟩ 1 vc vs und35 info78 (by rw [hvl]; simp only [Nat.min_def]; split <;> omega)
      (fun j v hj => by rw [Addr.add_lit, hWc]; exact hOv _ v (hvs j v hj))
      (fun j hj => by rw [hWc]; exact hN _ (by omega)) (fun j hj => by rw [hWf]; exact hNf _) h1v
  have hGi : ¬ (G = i) := by omega
  have hGim : ¬ (G = i + 1) := by omega
  have hci : ¬ (c = i) := by omega
  have hbN : b ≠ w.heap.size := by omega
  have hdl : (cs.drop (i * 6)).length = (n - i) * 6 := by rw [List.length_drop, hcl]; omega
  have hcpB : ∀ (W : World), (∀ x, W.cell? x = (W1.setCells w.heap.size (i * 6) vs).cell? x) → (∀ x, W.frozen? x = (W1.setCells w.heap.size (i * 6) vs).frozen? x) → ∀ ty dc sc, (Builtin.copy_ #[50, 50] ty #[.slice (some ⟨w.heap.size, (i + 1) * 6, none⟩) (n - i) dc, .slice (some ⟨b, off + i * 6, none⟩) (n - i) sc]).run Tryz.prog W = .ok (goInt (Nat.min (n - i) (n - i))) (W.setCells w.heap.size ((i + 1) * 6) (cs.drop (i * 6))) := fun W hWc hWf ty dc sc =>
    run_copy_k W _ _ ty 53 6 w.heap.size ((i + 1) * 6) (n - i) dc ⟨b, off + i * 6, none⟩ (n - i) sc (cs.drop (i * 6)) und35 info78 (by rw [hdl]; simp)
      (fun j v hj => by
        rw [Addr.add_lit, hWc, World.cell?_setCells_out _ _ _ _ _ (fun h _ => absurd h hbN), Nat.add_assoc]
        exact hOb _ v (hcs (i * 6 + j) v (by rwa [List.getElem?_drop] at hj)))
      (fun j hj => by rw [hWc]; exact isSome_setCells _ _ _ _ (fun t ht => hN _ (by omega)) _ (hN _ (by omega)))
      (fun j hj => by rw [hWf, World.frozen?_setCells]; exact hNf _) (fun v hv => h1c v (List.mem_of_mem_drop hv))
  subst hW1
  have hE1 : ∀ x, ((w.alloc (.cells ROW 53)).drew).cell? x = (w.drew.alloc (.cells ROW 53)).cell? x := fun x => rfl
  have hE2 : ∀ x, ((w.alloc (.cells ROW 53)).drew).frozen? x = (w.drew.alloc (.cells ROW 53)).frozen? x := fun x => rfl
  have hF1 : ∀ x, (((w.alloc (.cells ROW 53)).drew.setCells w.heap.size (i * 6) vs).drew).cell? x = ((w.drew.alloc (.cells ROW 53)).setCells w.heap.size (i * 6) vs).cell? x := fun x => rfl
  have hF2 : ∀ x, (((w.alloc (.cells ROW 53)).drew.setCells w.heap.size (i * 6) vs).drew).frozen? x = ((w.drew.alloc (.cells ROW 53)).setCells w.heap.size (i * 6) vs).frozen? x := fun x => rfl
  have hw1 : IntKind.i64.wrap ((i : Int) + 1) = (i : Int) + 1 := by rw [IntKind.wrap_i64]; omega
  have hb1 : (0 : Int) ≤ (i : Int) + 1 := by omega
  have hin : i ≤ n := by omega
  have htn : ((i : Int) + 1).toNat = i + 1 := by omega
  have hb3 : (i : Int) ≤ (n : Int) := by omega
  have mixed : Tryz.prog.follows .mixedOrders = true := by kernel_rfl
  have hkeep : IsRow ROW ((cs.take (i * 6)) ++ tl) := hROW
  clear hkk hik hold hRl htl hROW
  go_enter Tryz.func48, Tryz.ntmps48
  go_wp2_with (first
    | (at_builtin; refine Lib.wpList_append_run _ rfl _ _ _ _ rfl _ _ rfl rfl _ _ (hrz _) ?_)
    | (at_builtin; refine wpList_copy_runI _ rfl _ _ 50 50 rfl _ _ rfl rfl (hcpA _ hE1 hE2 _ _) ?_)
    | (at_builtin; refine wpList_copy_runI _ rfl _ _ 50 50 rfl _ _ rfl rfl (hcpB _ (fun _ => rfl) (fun _ => rfl) _ _ _) ?_))
  go_region_law_o (refine step_copy_runI rfl _ _ 50 50 rfl (.slice (some ⟨w.heap.size, (i + 1) * 6, none⟩) (n - i) (G - (i + 1))) (.slice (some ⟨b, off + i * 6, none⟩) (n - i) (c - i)) (by simp [Act.eval, Act.put]) (by simp [Act.eval, Act.put]) (hcpB _ hF1 hF2 3 (G - (i + 1)) (c - i)) ?_)
  go_wp2
  go_ret
  exact ⟨G, tl, hGn, rfl, htll, by unfold IsRow at hkeep; rw [← hkeep]⟩
end Go.Proofs.YtckdgafiindddaaGreatDoor.Iv

/- slices.Insert at the slots: what it says to its caller. -/
namespace Go.Proofs.YtckdgafiindddaaGreatDoor.Iv
open Go.Em Go.RowKit Go.Lib

section
variable {P : Program} {R : CodeRel} {K : Kn}
theorem post_move {w w' : World} {c0 c' : CB} {sz : Nat} {rows new : List (List X)} {res : X} {v : Value} (hI : Inv P R K [c0] [.row sz rows] w) (hf : FrameOk c0.owns w w') (hown : ∀ b o, c'.owns b o → c0.owns b o ∨ w.heap.size ≤ b)
    (hB : BoxOk P R K ([c0] ++ [c']) w' (.row sz new) c') (hres : Rep K ([c0] ++ [c']) res v) : Post P R K [c0] [.row sz rows] w res [.dead, .row sz new] (.returned v) w' := by
  have hdead : ∀ b o, ¬ Owns [c0] [Bx.dead] b o := by
    rintro b o ⟨i, c, B, h1, h2, h3, h4⟩
    cases i with
    | zero => simp at h2; subst h2; simp [Bx.live] at h3
    | succ i => simp at h2
  have hin : ∀ b o, c0.owns b o → Owns [c0] [Bx.row sz rows] b o := fun b o h => ⟨0, c0, .row sz rows, rfl, rfl, rfl, h⟩
  have hk := hI.kill 0
  have hk' : Inv P R K [c0] [.dead] w' := Inv.frame hk hf (fun b o v e ho => by
    have := hI.apart b o (hin b o ho); rw [this] at e; cases e) (fun b o ho => absurd ho (hdead b o))
  refine ⟨v, K, [c'], rfl, ⟨hk'.push hB (fun b o ho => ?_) (fun b o _ => hdead b o), hres, KLe.refl _, fun b o u e => .inl e, fun b o ho => ?_, hf.mono fun b o _ h => hin b o h, fun i B e hl => ?_⟩⟩
  · rcases hown b o ho with h | h
    · exact hI.apart b o (hin b o h)
    · cases hk : K b o with
      | none => rfl
      | some u => have := hI.known_lt hk; omega
  · obtain ⟨i, c, B, h1, h2, h3, h4⟩ := ho
    match i, h1, h2 with
    | 0, h1, h2 => simp at h2; subst h2; simp [Bx.live] at h3
    | 1, h1, h2 =>
      simp at h1; subst h1
      rcases hown b o h4 with h | h
      · exact .inl (hin b o h)
      · exact .inr h
    | i + 2, h1, h2 => simp at h2
  · cases i with
    | zero => simp at e; subst e; cases hl
    | succ i => simp at e

theorem splice_get (l vs : List Value) (o q : Nat) (h : o + vs.length ≤ l.length) : (l.take o ++ vs ++ l.drop (o + vs.length)).toArray[q]? = if q < o then l[q]? else if q < o + vs.length then vs[q - o]? else l[q]? := by
  have hT : (l.take o).length = o := by rw [List.length_take]; omega
  rw [List.getElem?_toArray]
  by_cases h5 : q < o
  · rw [if_pos h5, List.append_assoc, List.getElem?_append_left (by omega), List.getElem?_take, if_pos h5]
  · rw [if_neg h5, List.append_assoc, List.getElem?_append_right (by omega), hT]
    by_cases h6 : q < o + vs.length
    · rw [if_pos h6, List.getElem?_append_left (by omega)]
    · rw [if_neg h6, List.getElem?_append_right (by omega), List.getElem?_drop]
      congr 1; omega
theorem setCells_row (W : World) (b o : Nat) (arr : Array Value) (el : TypeId) (vs : List Value) (hb : W.heap[b]? = some (.cells arr el (0, 0))) (hl : o + vs.length ≤ arr.size) (h1 : ∀ v ∈ vs, v.oneCell' = true) :
    W.setCells b o vs = W.setRow b (arr.toList.take o ++ vs ++ arr.toList.drop (o + vs.length)).toArray := by
  have hc : ∀ j, j < vs.length → (W.cell? ⟨b, o + j, none⟩).isSome = true := fun j hj => by
    simp only [World.cell?, hb]
    rw [Array.getElem?_eq_getElem (by omega)]; rfl
  have hf : ∀ j, j < vs.length → W.frozen? ⟨b, o + j, none⟩ = false := fun j hj => by simp [World.frozen?, hb]
  have e1 := run_storeCells_cells (P := Tryz.prog) b o vs 0 W (by simpa using hc) (by simpa using hf) h1
  have e2 := run_storeCells_at Tryz.prog b o el vs 0 arr W hb (by omega) h1
  rw [e1] at e2
  simp only [Nat.add_zero] at e2
  injection e2

/-- The new row, where the elements lay or in a place of its own. -/
theorem ins_flat {K : Kn} {rows : List (List X)} {x : List X} {cs vs : List Value} (hf : Flat K 6 rows cs) (hv : Flat K 6 [x] vs) (i : Nat) : Flat K 6 (rows.take i ++ [x] ++ rows.drop i) (cs.take (i * 6) ++ vs ++ cs.drop (i * 6)) :=
  ((hf.take i).append hv).append (hf.drop i)
theorem ins_get {cs vs : List Value} {n i k : Nat} {v : Value} (hcl : cs.length = n * 6) (hvl : vs.length = 6) (hi : i ≤ n) (h : (cs.take (i * 6) ++ vs ++ cs.drop (i * 6))[k]? = some v) :
    (k < i * 6 ∧ cs[k]? = some v) ∨ (i * 6 ≤ k ∧ k < (i + 1) * 6 ∧ vs[k - i * 6]? = some v) ∨ ((i + 1) * 6 ≤ k ∧ k < (n + 1) * 6 ∧ cs[k - 6]? = some v) := by
  have hT : (cs.take (i * 6)).length = i * 6 := by rw [List.length_take]; omega
  by_cases h1 : k < i * 6
  · rw [List.append_assoc, List.getElem?_append_left (by omega), List.getElem?_take, if_pos h1] at h
    exact .inl ⟨h1, h⟩
  · rw [List.append_assoc, List.getElem?_append_right (by omega), hT] at h
    by_cases h2 : k < (i + 1) * 6
    · rw [List.getElem?_append_left (by omega)] at h
      exact .inr (.inl ⟨by omega, h2, h⟩)
    · rw [List.getElem?_append_right (by omega), List.getElem?_drop] at h
      have e : i * 6 + (k - i * 6 - vs.length) = k - 6 := by omega
      rw [e] at h
      have := (List.getElem?_eq_some_iff.1 h).1
      exact .inr (.inr ⟨by omega, by omega, h⟩)

set_option maxRecDepth 100000 in
theorem ins_sem {R : CodeRel} (n i : Nat) (t : Bool) (x : List X) (rows : List (List X)) (hi : i ≤ n) (hn : n = rows.length) (hn2 : n ≤ 2000000) :
    FSem Tryz.prog R 48 [.bs 0 0 n, .v (.int .i64 (Int.ofNat i)), .sl t 6 [x]] [.row 6 rows] (.bs 1 0 (n + 1)) [.dead, .row 6 (rows.take i ++ [x] ++ rows.drop i)] := by
  intro K C w cargs hI ha
  have hs : cargs.size = 3 := ha.1
  have r0 := ha.2 0 _ cargs[0] rfl (Array.getElem?_eq_getElem (by omega))
  have r1 := ha.2 1 _ cargs[1] rfl (Array.getElem?_eq_getElem (by omega))
  have r2 := ha.2 2 _ cargs[2] rfl (Array.getElem?_eq_getElem (by omega))
  have hca : cargs = #[cargs[0], cargs[1], cargs[2]] := by
    refine Array.ext (by simp [hs]) fun j h1 h2 => ?_
    match j, h1, h2 with
    | 0, _, _ => rfl
    | 1, _, _ => rfl
    | 2, _, _ => rfl
    | j + 3, h1, _ => omega
  rw [hca]
  generalize cargs[0] = v0 at r0
  generalize cargs[1] = v1 at r1
  generalize cargs[2] = v2 at r2
  obtain rfl := rep_v r1
  obtain ⟨c0, hC⟩ : ∃ c0, C = [c0] := by
    have := hI.size
    match C, this with
    | [c0], _ => exact ⟨c0, rfl⟩
  subst hC
  obtain ⟨vb, vo, c2, rfl⟩ : ∃ vb vo c2, v2 = .slice (some ⟨vb, vo, none⟩) 1 c2 := by
    generalize hx : X.sl t 6 [x] = y at r2
    cases r2 <;> try cases hx
    exact ⟨_, _, _, rfl⟩
  obtain ⟨vs, hv, hvK⟩ := r2.flat
  have hvl : vs.length = 6 := by simpa using hv.len
  have hvs : ∀ j v, vs[j]? = some v → w.cell? ⟨vb, vo + j, none⟩ = some v := fun j v h => hI.known _ _ _ (hvK j v h)
  have h1v := hv.oneCell
  obtain ⟨tA, kA, hsa, hkA⟩ : ∃ tA kA, w.shape? vb = some (tA, kA) ∧ kA ≠ 0 := by
    have h0 := hvs 0 _ (List.getElem?_eq_getElem (by omega))
    unfold World.cell? at h0
    split at h0
    · rename_i arr el fr hh
      refine ⟨el, arr.size, by simp [World.shape?, hh], fun e => ?_⟩
      have := (Array.getElem?_eq_some_iff.1 h0).1
      omega
    · cases h0
  have hvfc : ∀ w' : World, w'.heap = w.heap → (Builtin.firstCells 6 1 (.slice (some ⟨vb, vo, none⟩) 1 c2)).run Tryz.prog w' = .ok vs.toArray w' := fun w' hw => by
    refine run_firstCells_some w' 6 1 ⟨vb, vo, none⟩ 1 c2 vs (by omega) (fun j u hu => ?_)
    rw [Addr.add_lit]
    have := hvs j u hu
    simp only [World.cell?, hw] at this ⊢; exact this
  have hz78 : (zeroP Tryz.prog 53).isSome = true := by kernel_rfl
  obtain ⟨z78, hz78⟩ := Option.isSome_iff_exists.1 hz78
  have hs78 : sizeP Tryz.prog 53 = some 6 := by kernel_rfl
  have hb78 : bytesP Tryz.prog 53 = some 88 := by kernel_rfl
  -- a new row, at the end
  have endGrow : ∀ (ob : Option Addr) (c : Nat) (olds : List Value), i = n → n ≤ c → c < n + 1 → (ob = none → n = 0 ∧ c = 0) → Flat K 6 rows olds → (∀ w' : World, w'.heap = w.heap → (Builtin.firstCells 6 n (.slice ob n c)).run Tryz.prog w' = .ok olds.toArray w') →
      Calls Tryz.prog 48 #[.slice ob n c, .int .i64 (Int.ofNat i), .slice (some ⟨vb, vo, none⟩) 1 c2] w (Post Tryz.prog R K [c0] [.row 6 rows] w (.bs 1 0 (n + 1)) [.dead, .row 6 (rows.take i ++ [x] ++ rows.drop i)]) := by
    intro ob c olds hin hnc hcn hnil hfo hfco
    subst hin
    have hex : ∃ rest : List Value, (∀ ty, (Builtin.append_ #[50, 50] ty #[.slice ob i c, .slice (some ⟨vb, vo, none⟩) 1 c2]).run Tryz.prog w = .ok (.slice (some ⟨w.heap.size, 0, none⟩) (i + 1) (grownCap w (i + 1) c 53)) (w.drew.alloc (.cells (olds ++ vs ++ rest).toArray 53))) ∧ rest.length = (grownCap w (i + 1) c 53 - (i + 1)) * 6 := by
      obtain ⟨rest, h1, h2⟩ := run_app_grow (P := Tryz.prog) (w := w) (ty := 0) (ob := ob) (oc := some ⟨vb, vo, none⟩) (n := i) (cap := c) (m := 1) (c := c2) und35 und35 hs78 hb78 hz78 olds vs hfco hvfc hcn (by omega) (by omega) (by omega)
      exact ⟨rest, fun ty => h1, h2⟩
    obtain ⟨rest, hrun, hrl⟩ := hex
    have hm := grownCap_ge w (i + 1) c 53
    generalize grownCap w (i + 1) c 53 = m at hrun hrl hm
    refine (ins_end ob i c vb vo c2 w _ _ hnc hn2 hnil hrun).mono ?_
    rintro e w' ⟨rfl, rfl⟩
    have hfl := hfo.append hv
    have e1 : rows.take i ++ [x] ++ rows.drop i = rows ++ [x] := by
      rw [hn, List.take_length, List.drop_length, List.append_nil]
    rw [e1]
    have hol : olds.length = i * 6 := by rw [hfo.len, ← hn]
    have hsz : (olds ++ vs ++ rest).toArray.size = m * 6 := by
      simp only [List.size_toArray, List.length_append, hol, hvl, hrl]; omega
    refine post_move (c' := .at w.heap.size 0 (m * 6) 6) hI (FrameOk.trans (FrameOk.drew _ w) (FrameOk.alloc (S := c0.owns) _ _) (fun _ _ _ h => h)) (fun b o h => .inr (by rw [h.1]; exact Nat.le_refl _)) (hfl.box (alloc_get w.drew _) (fun k v hk => ?_) (by simp only [List.length_append, List.length_singleton]; omega) (by omega)) ?_
    · rw [Nat.zero_add, List.getElem?_toArray, List.getElem?_append_left (List.getElem?_eq_some_iff.1 hk).1]; exact hk
    · have := @Rep.bs K ([c0] ++ [.at w.heap.size 0 (m * 6) 6]) 1 0 (i + 1) w.heap.size 0 (m * 6) 6 m rfl (by omega) (by omega)
      simpa using this
  generalize hx0 : X.bs 0 0 n = y0 at r0
  cases r0 <;> try cases hx0
  case bsNil ob hc =>
    have e0 : c0 = .ghost := by simpa using hc
    subst e0
    have hi0 : i = 0 := by omega
    have hr0 : rows = [] := List.eq_nil_of_length_eq_zero hn.symm
    refine endGrow ob 0 [] hi0 (Nat.le_refl _) (by omega) (fun _ => ⟨rfl, rfl⟩) (by rw [hr0]; exact Flat.nil) (fun w' _ => ?_)
    cases ob <;> simp [Builtin.firstCells, loadCells, loadCellsFrom]
  case bs b base hi' sz cap hc hcap hlen =>
    have e0 : c0 = .at b base hi' sz := by simpa using hc
    subst e0
    obtain ⟨arr, el, g1, g2, g3, hbl, hfe⟩ := (hI.box 0 _ _ rfl rfl).flat
    subst g1
    simp only [Nat.zero_mul, Nat.zero_add, Nat.add_zero] at hcap ⊢
    generalize hcd : (arr.toList.drop base).take (rows.length * 6) = cs at hfe
    have hcl : cs.length = n * 6 := by rw [hfe.len, ← hn]
    have hcar : ∀ j v, cs[j]? = some v → arr[base + j]? = some v := fun j v h => by
      rw [← hcd, List.getElem?_take] at h
      split at h
      · rw [List.getElem?_drop] at h; simpa using h
      · cases h
    have hcs : ∀ j v, cs[j]? = some v → w.cell? ⟨b, base + j, none⟩ = some v := fun j v h => by
      simp only [World.cell?, hbl]; exact hcar j v h
    have h1c := hfe.oneCell
    have hnk : ∀ o, base ≤ o → o < hi' → K b o = none := fun o h1 h2 => hI.apart b o ⟨0, _, _, rfl, rfl, rfl, ⟨rfl, h1, h2⟩⟩
    have hfz : ∀ o, w.frozen? ⟨b, o, none⟩ = false := fun o => by simp [World.frozen?, hbl]
    have hflat := ins_flat hfe hv i
    by_cases hin : i = n
    · by_cases hfit : n + 1 ≤ cap
      · subst hin
        have hst := run_storeCells_at Tryz.prog b (base + i * 6) el vs 0 arr w hbl (by omega) h1v
        simp only [Nat.add_zero] at hst
        have hrun : ∀ ty, (Builtin.append_ #[50, 50] ty #[.slice (some ⟨b, base, none⟩) i cap, .slice (some ⟨vb, vo, none⟩) 1 c2]).run Tryz.prog w = .ok (.slice (some ⟨b, base, none⟩) (i + 1) cap) (w.setRow b (arr.toList.take (base + i * 6) ++ vs ++ arr.toList.drop (base + i * 6 + vs.length)).toArray) := fun ty =>
          run_app_fit (P := Tryz.prog) (ty := ty) (ob := some ⟨b, base, none⟩) und35 und35 hs78 vs _ (hvfc w rfl) hfit (fun ad e => by cases e; rw [Addr.add_lit]; exact hst) (fun e => by cases e)
        refine (ins_end _ i cap vb vo c2 w _ _ (by omega) hn2 (fun e => by cases e) hrun).mono ?_
        rintro e w' ⟨rfl, rfl⟩
        have hget : ∀ q, (arr.toList.take (base + i * 6) ++ vs ++ arr.toList.drop (base + i * 6 + vs.length)).toArray[q]? = if q < base + i * 6 then arr[q]? else if q < base + i * 6 + vs.length then vs[q - (base + i * 6)]? else arr[q]? := fun q => by
          rw [splice_get _ _ _ _ (by have : arr.toList.length = arr.size := Array.length_toList; omega)]; simp
        have hsize : (arr.toList.take (base + i * 6) ++ vs ++ arr.toList.drop (base + i * 6 + vs.length)).toArray.size = arr.size := by simp; omega
        generalize (arr.toList.take (base + i * 6) ++ vs ++ arr.toList.drop (base + i * 6 + vs.length)).toArray = arr' at hget hsize
        refine post_move (c' := .at b base hi' 6) hI (FrameOk.setRow hbl hsize fun q hq => ?_) (fun b' o' h => .inl h) (hflat.box (setRow_heap w b arr arr' el _ hbl) (fun k v hk => ?_) (by rw [hflat.len.symm.trans (by simp; omega : _ = (i + 1) * 6)]; omega) (by omega)) ?_
        · rw [hget]
          have hout : ¬ (base ≤ q ∧ q < hi') := fun hh => hq ⟨rfl, hh.1, hh.2⟩
          by_cases h5 : q < base + i * 6
          · rw [if_pos h5]
          · rw [if_neg h5, if_neg (by omega)]
        · rw [hget]
          rcases ins_get hcl hvl (Nat.le_refl _) hk with ⟨h1, h2⟩ | ⟨h1, h2, h3⟩ | ⟨h1, h2, h3⟩
          · rw [if_pos (by omega)]; exact hcar k v h2
          · rw [if_neg (by omega), if_pos (by omega), ← h3]; congr 1; omega
          · omega
        · have := @Rep.bs K ([.at b base hi' 6] ++ [.at b base hi' 6]) 1 0 (i + 1) b base hi' 6 cap rfl (by omega) hfit
          simpa using this
      · refine endGrow (some ⟨b, base, none⟩) cap cs hin (by omega) (by omega) (fun e => by cases e) hfe (fun w' hw => ?_)
        refine run_firstCells_some w' 6 n ⟨b, base, none⟩ n cap cs (by omega) (fun j u hu => ?_)
        rw [Addr.add_lit]
        have := hcs j u hu
        simp only [World.cell?, hw] at this ⊢; exact this
    · have hil : i < n := by omega
      by_cases hfit : n + 1 ≤ cap
      · have hlb : arr.toList.length = arr.size := Array.length_toList
        have hsh : w.shape? b = some (el, arr.size) := by simp [World.shape?, hbl]
        refine (ins_shift b base n cap i vb vo c2 cs vs w hil hfit hn2 (fun j k hj hk e hne => ?_) hcl hvl hcs (fun j hj => ?_) (fun j _ => hfz _) hvs h1c h1v tA el kA arr.size hsa hsh (by omega) hkA hfz).mono ?_
        · have hk1 := hvK j _ (List.getElem?_eq_getElem (by omega))
          rw [e, hne, hnk _ (by omega) (by omega)] at hk1
          cases hk1
        · simp only [World.cell?, hbl]
          rw [Array.getElem?_eq_getElem (by omega)]; rfl
        rintro e w' ⟨rfl, rfl⟩
        have hdl : (cs.drop (i * 6)).length = (n - i) * 6 := by rw [List.length_drop, hcl]; omega
        have hbl2 : w.drew.heap[b]? = some (.cells arr el (0, 0)) := hbl
        rw [setCells_row w.drew b _ arr el _ hbl2 (by omega) (fun v hv' => h1c v (List.mem_of_mem_drop hv'))]
        have hget1 := fun q => splice_get arr.toList (cs.drop (i * 6)) (base + (i + 1) * 6) q (by omega)
        have hsz1 : (arr.toList.take (base + (i + 1) * 6) ++ cs.drop (i * 6) ++ arr.toList.drop (base + (i + 1) * 6 + (cs.drop (i * 6)).length)).toArray.size = arr.size := by
          simp only [List.size_toArray, List.length_append, List.length_take, List.length_drop, hlb]; omega
        generalize (arr.toList.take (base + (i + 1) * 6) ++ cs.drop (i * 6) ++ arr.toList.drop (base + (i + 1) * 6 + (cs.drop (i * 6)).length)).toArray = arr1 at hget1 hsz1 ⊢
        have hb1 := setRow_heap w.drew b arr arr1 el (0, 0) hbl2
        have hlb1 : arr1.toList.length = arr1.size := Array.length_toList
        rw [setCells_row _ b _ arr1 el _ hb1 (by omega) h1v]
        have hget2 := fun q => splice_get arr1.toList vs (base + i * 6) q (by omega)
        have hsz2 : (arr1.toList.take (base + i * 6) ++ vs ++ arr1.toList.drop (base + i * 6 + vs.length)).toArray.size = arr1.size := by
          simp only [List.size_toArray, List.length_append, List.length_take, List.length_drop, hlb1]; omega
        generalize (arr1.toList.take (base + i * 6) ++ vs ++ arr1.toList.drop (base + i * 6 + vs.length)).toArray = arr2 at hget2 hsz2 ⊢
        have hb2 := setRow_heap _ b arr1 arr2 el (0, 0) hb1
        simp only [Array.getElem?_toList] at hget1 hget2
        refine post_move (c' := .at b base hi' 6) hI (FrameOk.trans (FrameOk.drew _ w) (FrameOk.trans (FrameOk.setRow hbl2 hsz1 fun q hq => ?_) (FrameOk.setRow (S := (CB.at b base hi' 6).owns) hb1 hsz2 fun q hq => ?_) (fun _ _ _ h => h)) (fun _ _ _ h => h)) (fun b' o' h => .inl h) (hflat.box hb2 (fun k v hk => ?_) ?_ (by omega)) ?_
        · rw [hget1]
          have hout : ¬ (base ≤ q ∧ q < hi') := fun hh => hq ⟨rfl, hh.1, hh.2⟩
          by_cases h5 : q < base + (i + 1) * 6
          · rw [if_pos h5]
          · rw [if_neg h5, if_neg (by omega)]
        · rw [hget2]
          have hout : ¬ (base ≤ q ∧ q < hi') := fun hh => hq ⟨rfl, hh.1, hh.2⟩
          by_cases h5 : q < base + i * 6
          · rw [if_pos h5]
          · rw [if_neg h5, if_neg (by omega)]
        · rw [hget2]
          rcases ins_get hcl hvl hi hk with ⟨h1, h2⟩ | ⟨h1, h2, h3⟩ | ⟨h1, h2, h3⟩
          · rw [if_pos (by omega), hget1, if_pos (by omega)]; exact hcar k v h2
          · rw [if_neg (by omega), if_pos (by omega), ← h3]; congr 1; omega
          · rw [if_neg (by omega), if_neg (by omega), hget1, if_neg (by omega), if_pos (by omega), List.getElem?_drop, ← h3]; congr 1; omega
        · have := hflat.len
          simp only [List.length_append, List.length_take, List.length_drop, List.length_singleton]
          omega
        · have := @Rep.bs K ([.at b base hi' 6] ++ [.at b base hi' 6]) 1 0 (n + 1) b base hi' 6 cap rfl (by omega) hfit
          simpa using this
      · refine (ins_grow b base n cap i vb vo c2 cs vs w hil (by omega) (by omega) (by omega) hcl hvl hcs hvs h1c h1v).mono ?_
        rintro e w' ⟨G, tl, hG, rfl, htl, rfl⟩
        have hdl : (cs.drop (i * 6)).length = (n - i) * 6 := by rw [List.length_drop, hcl]; omega
        have hTl : (cs.take (i * 6)).length = i * 6 := by rw [List.length_take]; omega
        generalize hA : (cs.take (i * 6) ++ tl).toArray = A
        have hAs : A.size = G * 6 := by rw [← hA, List.size_toArray, List.length_append, hTl, htl]; omega
        have hlA : A.toList.length = A.size := Array.length_toList
        have hb0 : (w.alloc (.cells A 53)).drew.heap[w.heap.size]? = some (.cells A 53 (0, 0)) := alloc_get w _
        rw [setCells_row _ _ _ A 53 _ hb0 (by omega) h1v]
        have hget1 := fun q => splice_get A.toList vs (i * 6) q (by omega)
        have hsz1 : (A.toList.take (i * 6) ++ vs ++ A.toList.drop (i * 6 + vs.length)).toArray.size = A.size := by
          simp only [List.size_toArray, List.length_append, List.length_take, List.length_drop, hlA]; omega
        generalize (A.toList.take (i * 6) ++ vs ++ A.toList.drop (i * 6 + vs.length)).toArray = arr1 at hget1 hsz1 ⊢
        have hb1 := setRow_heap _ w.heap.size A arr1 53 (0, 0) hb0
        have hlb1 : arr1.toList.length = arr1.size := Array.length_toList
        have hb1' : ((w.alloc (.cells A 53)).drew.setRow w.heap.size arr1).drew.heap[w.heap.size]? = some (.cells arr1 53 (0, 0)) := hb1
        rw [setCells_row _ _ _ arr1 53 _ hb1' (by omega) (fun v hv' => h1c v (List.mem_of_mem_drop hv'))]
        have hget2 := fun q => splice_get arr1.toList (cs.drop (i * 6)) ((i + 1) * 6) q (by omega)
        have hsz2 : (arr1.toList.take ((i + 1) * 6) ++ cs.drop (i * 6) ++ arr1.toList.drop ((i + 1) * 6 + (cs.drop (i * 6)).length)).toArray.size = arr1.size := by
          simp only [List.size_toArray, List.length_append, List.length_take, List.length_drop, hlb1]; omega
        generalize (arr1.toList.take ((i + 1) * 6) ++ cs.drop (i * 6) ++ arr1.toList.drop ((i + 1) * 6 + (cs.drop (i * 6)).length)).toArray = arr2 at hget2 hsz2 ⊢
        have hb2 := setRow_heap _ w.heap.size arr1 arr2 53 (0, 0) hb1'
        simp only [Array.getElem?_toList] at hget1 hget2
        have hfr : FrameOk (CB.at b base hi' 6).owns w (((w.alloc (.cells A 53)).drew.setRow w.heap.size arr1).drew.setRow w.heap.size arr2) := by
          have f1 : FrameOk (fun p _ => p = w.heap.size) w (((w.alloc (.cells A 53)).drew.setRow w.heap.size arr1).drew.setRow w.heap.size arr2) :=
            FrameOk.trans (FrameOk.alloc (S := fun p _ => p = w.heap.size) w _) (FrameOk.trans (FrameOk.drew _ _) (FrameOk.trans (FrameOk.setRow hb0 hsz1 fun q hq => absurd rfl hq) (FrameOk.trans (FrameOk.drew _ _) (FrameOk.setRow hb1' hsz2 fun q hq => absurd rfl hq) (fun _ _ _ h => h)) (fun _ _ _ h => h)) (fun _ _ _ h => h)) (fun _ _ _ h => h)
          exact f1.mono fun p o hp h => by omega
        refine post_move (c' := .at w.heap.size 0 (G * 6) 6) hI hfr (fun b' o' h => .inr (by rw [h.1]; exact Nat.le_refl _)) (hflat.box hb2 (fun k v hk => ?_) ?_ (by omega)) ?_
        · rw [Nat.zero_add, hget2]
          rcases ins_get hcl hvl hi hk with ⟨h1, h2⟩ | ⟨h1, h2, h3⟩ | ⟨h1, h2, h3⟩
          · rw [if_pos (by omega), hget1, if_pos (by omega), ← hA, List.getElem?_toArray, List.getElem?_append_left (by omega), List.getElem?_take, if_pos h1]; exact h2
          · rw [if_pos (by omega), hget1, if_neg (by omega), if_pos (by omega)]; exact h3
          · rw [if_neg (by omega), if_pos (by omega), List.getElem?_drop, ← h3]; congr 1; omega
        · simp only [List.length_append, List.length_take, List.length_drop, List.length_singleton]
          omega
        · have := @Rep.bs K ([.at b base hi' 6] ++ [.at w.heap.size 0 (G * 6) 6]) 1 0 (n + 1) w.heap.size 0 (G * 6) 6 G rfl (by omega) (by omega)
          simpa using this
end
end Go.Proofs.YtckdgafiindddaaGreatDoor.Iv

namespace Go.Proofs
open Go.Shelf
def Tryz.laysItoa_ren : Go.Shelf.Ren := ⟨fun | 171 => 103 | 243 => 145 | 246 => 188 | 283 => 224 | 284 => 225 | 285 => 226 | 286 => 227 | 129 => 127 | 317 => 253 | 318 => 254 | 319 => 255 | 320 => 256 | 337 => 295 | 338 => 296 | n => n, fun | 3 => 3 | 9 => 9 | 2 => 2 | 4 => 4 | 171 => 292 | 0 => 0 | 53 => 198 | 37 => 281 | 5 => 5 | 173 => 294 | 212 => 320 | 51 => 196 | 20 => 20 | 213 => 321 | 46 => 145 | 232 => 360 | 233 => 361 | n => n, fun | 17 => 1 | 18 => 6 | 19 => 7 | n => n⟩
theorem Tryz.laysItoa : Go.Proofs.LaysM.n171 Tryz.prog Tryz.laysItoa_ren := {
  mixed := by kernel_rfl
  f129 := Tryz.func127.trans (congrArg some (by kernel_rfl))
  f171 := Tryz.func103.trans (congrArg some (by kernel_rfl))
  f243 := Tryz.func145.trans (congrArg some (by kernel_rfl))
  f246 := Tryz.func188.trans (congrArg some (by kernel_rfl))
  f283 := Tryz.func224.trans (congrArg some (by kernel_rfl))
  f284 := Tryz.func225.trans (congrArg some (by kernel_rfl))
  f285 := Tryz.func226.trans (congrArg some (by kernel_rfl))
  f286 := Tryz.func227.trans (congrArg some (by kernel_rfl))
  f317 := Tryz.func253.trans (congrArg some (by kernel_rfl))
  f318 := Tryz.func254.trans (congrArg some (by kernel_rfl))
  f319 := Tryz.func255.trans (congrArg some (by kernel_rfl))
  f320 := Tryz.func256.trans (congrArg some (by kernel_rfl))
  f337 := Tryz.func295.trans (congrArg some (by kernel_rfl))
  f338 := Tryz.func296.trans (congrArg some (by kernel_rfl))
  t0 := Tryz.underlying0
  a0 := Tryz.isAgg0
  z0 := Tryz.sizeOf0
  v0 := Tryz.zeroValue0
  t2 := Tryz.underlying2
  a2 := Tryz.isAgg2
  z2 := Tryz.sizeOf2
  v2 := Tryz.zeroValue2
  t3 := Tryz.underlying3
  a3 := Tryz.isAgg3
  z3 := Tryz.sizeOf3
  v3 := Tryz.zeroValue3
  t4 := Tryz.underlying4
  a4 := Tryz.isAgg4
  z4 := Tryz.sizeOf4
  v4 := Tryz.zeroValue4
  t5 := Tryz.underlying5
  a5 := Tryz.isAgg5
  z5 := Tryz.sizeOf5
  v5 := Tryz.zeroValue5
  t9 := Tryz.underlying9
  a9 := Tryz.isAgg9
  z9 := Tryz.sizeOf9
  v9 := Tryz.zeroValue9
  t20 := Tryz.underlying20
  a20 := Tryz.isAgg20
  z20 := Tryz.sizeOf20
  v20 := Tryz.zeroValue20
  t37 := Tryz.underlying281
  a37 := Tryz.isAgg281
  z37 := Tryz.sizeOf281
  v37 := Tryz.zeroValue281
  t46 := Tryz.underlying145
  a46 := Tryz.isAgg145
  z46 := Tryz.sizeOf145
  v46 := Tryz.zeroValue145
  t51 := Tryz.underlying196
  a51 := Tryz.isAgg196
  z51 := Tryz.sizeOf196
  v51 := Tryz.zeroValue196
  t53 := Tryz.underlying198
  a53 := Tryz.isAgg198
  z53 := Tryz.sizeOf198
  v53 := Tryz.zeroValue198
  t171 := Tryz.underlying292
  a171 := Tryz.isAgg292
  z171 := Tryz.sizeOf292
  v171 := Tryz.zeroValue292
  t173 := Tryz.underlying294
  a173 := Tryz.isAgg294
  z173 := Tryz.sizeOf294
  v173 := Tryz.zeroValue294
  t212 := Tryz.underlying320
  a212 := Tryz.isAgg320
  z212 := Tryz.sizeOf320
  v212 := Tryz.zeroValue320
  t213 := Tryz.underlying321
  a213 := Tryz.isAgg321
  z213 := Tryz.sizeOf321
  t232 := Tryz.underlying360
  a232 := Tryz.isAgg360
  z232 := Tryz.sizeOf360
  v232 := Tryz.zeroValue360
  t233 := Tryz.underlying361
  a233 := Tryz.isAgg361
  z233 := Tryz.sizeOf361
  v233 := Tryz.zeroValue361
  g17 := by kernel_rfl
  g18 := by kernel_rfl
  g19 := by kernel_rfl
  i0 := by kernel_rfl
  i2 := by kernel_rfl
  i3 := by kernel_rfl
  i4 := by kernel_rfl
  i5 := by kernel_rfl
  i9 := by kernel_rfl
  i20 := by kernel_rfl
  i37 := by kernel_rfl
  i46 := by kernel_rfl
  i51 := by kernel_rfl
  i53 := by kernel_rfl
  i171 := by kernel_rfl
  i173 := by kernel_rfl
  i212 := by kernel_rfl
  i232 := by kernel_rfl
  i233 := by kernel_rfl
  m17 := by kernel_rfl
  m18 := by kernel_rfl
  m19 := by kernel_rfl }
def Tryz.laysDec_ren : Go.Shelf.Ren := ⟨fun | 197 => 245 | 260 => 285 | n => n, fun | 9 => 9 | 21 => 21 | 3 => 3 | 4 => 4 | 5 => 5 | 105 => 309 | 119 => 339 | 0 => 0 | 46 => 145 | 139 => 342 | 138 => 341 | n => n, fun | 3 => 2 | 4 => 3 | n => n⟩
theorem Tryz.laysDec : Go.Proofs.Lays.n197 Tryz.prog Tryz.laysDec_ren := {
  mixed := by kernel_rfl
  f197 := Tryz.func245.trans (congrArg some (by kernel_rfl))
  f260 := Tryz.func285.trans (congrArg some (by kernel_rfl))
  t0 := Tryz.underlying0
  a0 := Tryz.isAgg0
  z0 := Tryz.sizeOf0
  v0 := Tryz.zeroValue0
  t3 := Tryz.underlying3
  a3 := Tryz.isAgg3
  z3 := Tryz.sizeOf3
  v3 := Tryz.zeroValue3
  t4 := Tryz.underlying4
  a4 := Tryz.isAgg4
  z4 := Tryz.sizeOf4
  v4 := Tryz.zeroValue4
  t5 := Tryz.underlying5
  a5 := Tryz.isAgg5
  z5 := Tryz.sizeOf5
  v5 := Tryz.zeroValue5
  t9 := Tryz.underlying9
  a9 := Tryz.isAgg9
  z9 := Tryz.sizeOf9
  v9 := Tryz.zeroValue9
  t21 := Tryz.underlying21
  a21 := Tryz.isAgg21
  z21 := Tryz.sizeOf21
  v21 := Tryz.zeroValue21
  t46 := Tryz.underlying145
  a46 := Tryz.isAgg145
  z46 := Tryz.sizeOf145
  v46 := Tryz.zeroValue145
  t105 := Tryz.underlying309
  a105 := Tryz.isAgg309
  z105 := Tryz.sizeOf309
  v105 := Tryz.zeroValue309
  t119 := Tryz.underlying339
  a119 := Tryz.isAgg339
  z119 := Tryz.sizeOf339
  t138 := Tryz.underlying341
  a138 := Tryz.isAgg341
  z138 := Tryz.sizeOf341
  v138 := Tryz.zeroValue341
  t139 := Tryz.underlying342
  a139 := Tryz.isAgg342
  z139 := Tryz.sizeOf342
  v139 := Tryz.zeroValue342
  g3 := by kernel_rfl
  g4 := by kernel_rfl }
def Tryz.laysRep_ren : Go.Shelf.Ren := ⟨fun | 105 => 249 | 212 => 288 | 99 => 199 | 165 => 289 | 166 => 290 | 170 => 291 | 169 => 216 | 263 => 303 | 264 => 304 | 206 => 237 | 240 => 246 | 241 => 305 | 276 => 286 | 277 => 311 | n => n, fun | 9 => 9 | 3 => 3 | 4 => 4 | 20 => 20 | 0 => 0 | 46 => 145 | 109 => 345 | 5 => 5 | 72 => 283 | 76 => 268 | 51 => 196 | 146 => 355 | 53 => 198 | 148 => 357 | 70 => 280 | 37 => 281 | 75 => 267 | 127 => 312 | 164 => 343 | 80 => 285 | n => n, fun | n => n⟩
theorem Tryz.laysRep : Go.Proofs.Lays.n105 Tryz.prog Tryz.laysRep_ren := {
  mixed := by kernel_rfl
  f99 := Tryz.func199.trans (congrArg some (by kernel_rfl))
  f105 := Tryz.func249.trans (congrArg some (by kernel_rfl))
  f165 := Tryz.func289.trans (congrArg some (by kernel_rfl))
  f166 := Tryz.func290.trans (congrArg some (by kernel_rfl))
  f169 := Tryz.func216.trans (congrArg some (by kernel_rfl))
  f170 := Tryz.func291.trans (congrArg some (by kernel_rfl))
  f206 := Tryz.func237.trans (congrArg some (by kernel_rfl))
  f212 := Tryz.func288.trans (congrArg some (by kernel_rfl))
  f240 := Tryz.func246.trans (congrArg some (by kernel_rfl))
  f241 := Tryz.func305.trans (congrArg some (by kernel_rfl))
  f263 := Tryz.func303.trans (congrArg some (by kernel_rfl))
  f264 := Tryz.func304.trans (congrArg some (by kernel_rfl))
  f276 := Tryz.func286.trans (congrArg some (by kernel_rfl))
  f277 := Tryz.func311.trans (congrArg some (by kernel_rfl))
  t0 := Tryz.underlying0
  a0 := Tryz.isAgg0
  z0 := Tryz.sizeOf0
  v0 := Tryz.zeroValue0
  t3 := Tryz.underlying3
  a3 := Tryz.isAgg3
  z3 := Tryz.sizeOf3
  v3 := Tryz.zeroValue3
  t4 := Tryz.underlying4
  a4 := Tryz.isAgg4
  z4 := Tryz.sizeOf4
  v4 := Tryz.zeroValue4
  t5 := Tryz.underlying5
  a5 := Tryz.isAgg5
  z5 := Tryz.sizeOf5
  v5 := Tryz.zeroValue5
  t9 := Tryz.underlying9
  a9 := Tryz.isAgg9
  z9 := Tryz.sizeOf9
  v9 := Tryz.zeroValue9
  t20 := Tryz.underlying20
  a20 := Tryz.isAgg20
  z20 := Tryz.sizeOf20
  v20 := Tryz.zeroValue20
  t37 := Tryz.underlying281
  a37 := Tryz.isAgg281
  z37 := Tryz.sizeOf281
  v37 := Tryz.zeroValue281
  t46 := Tryz.underlying145
  a46 := Tryz.isAgg145
  z46 := Tryz.sizeOf145
  v46 := Tryz.zeroValue145
  t51 := Tryz.underlying196
  a51 := Tryz.isAgg196
  z51 := Tryz.sizeOf196
  v51 := Tryz.zeroValue196
  t53 := Tryz.underlying198
  a53 := Tryz.isAgg198
  z53 := Tryz.sizeOf198
  v53 := Tryz.zeroValue198
  t70 := Tryz.underlying280
  a70 := Tryz.isAgg280
  z70 := Tryz.sizeOf280
  v70 := Tryz.zeroValue280
  t72 := Tryz.underlying283
  a72 := Tryz.isAgg283
  z72 := Tryz.sizeOf283
  v72 := Tryz.zeroValue283
  t75 := Tryz.underlying267
  a75 := Tryz.isAgg267
  z75 := Tryz.sizeOf267
  v75 := Tryz.zeroValue267
  t76 := Tryz.underlying268
  a76 := Tryz.isAgg268
  z76 := Tryz.sizeOf268
  v76 := Tryz.zeroValue268
  t109 := Tryz.underlying345
  a109 := Tryz.isAgg345
  z109 := Tryz.sizeOf345
  v109 := Tryz.zeroValue345
  t127 := Tryz.underlying312
  a127 := Tryz.isAgg312
  z127 := Tryz.sizeOf312
  v127 := Tryz.zeroValue312
  t146 := Tryz.underlying355
  a146 := Tryz.isAgg355
  z146 := Tryz.sizeOf355
  v146 := Tryz.zeroValue355
  t148 := Tryz.underlying357
  a148 := Tryz.isAgg357
  z148 := Tryz.sizeOf357
  v148 := Tryz.zeroValue357
  t164 := Tryz.underlying343
  a164 := Tryz.isAgg343
  z164 := Tryz.sizeOf343
  v164 := Tryz.zeroValue343 }
def Tryz.laysBS_ren : Go.Shelf.Ren := ⟨fun | 169 => 216 | n => n, fun | 70 => 280 | 9 => 9 | 0 => 0 | 72 => 283 | 37 => 281 | 127 => 312 | 3 => 3 | 5 => 5 | n => n, fun | n => n⟩
theorem Tryz.laysBS : Go.Proofs.Lays.n169 Tryz.prog Tryz.laysBS_ren := {
  mixed := by kernel_rfl
  f169 := Tryz.func216.trans (congrArg some (by kernel_rfl))
  t0 := Tryz.underlying0
  a0 := Tryz.isAgg0
  z0 := Tryz.sizeOf0
  v0 := Tryz.zeroValue0
  t3 := Tryz.underlying3
  a3 := Tryz.isAgg3
  z3 := Tryz.sizeOf3
  v3 := Tryz.zeroValue3
  t9 := Tryz.underlying9
  a9 := Tryz.isAgg9
  z9 := Tryz.sizeOf9
  v9 := Tryz.zeroValue9
  t37 := Tryz.underlying281
  a37 := Tryz.isAgg281
  z37 := Tryz.sizeOf281
  v37 := Tryz.zeroValue281
  t70 := Tryz.underlying280
  a70 := Tryz.isAgg280
  z70 := Tryz.sizeOf280
  v70 := Tryz.zeroValue280
  t72 := Tryz.underlying283
  a72 := Tryz.isAgg283
  z72 := Tryz.sizeOf283
  v72 := Tryz.zeroValue283
  t127 := Tryz.underlying312
  a127 := Tryz.isAgg312
  z127 := Tryz.sizeOf312
  v127 := Tryz.zeroValue312 }
def Tryz.laysAtoi_ren : Go.Shelf.Ren := ⟨fun | 172 => 201 | 244 => 239 | 245 => 240 | 247 => 278 | 279 => 279 | 280 => 280 | 281 => 281 | 282 => 282 | 287 => 300 | 316 => 301 | 171 => 103 | 205 => 302 | 321 => 309 | 322 => 310 | 243 => 145 | 246 => 188 | 283 => 224 | 284 => 225 | 285 => 226 | 286 => 227 | 129 => 127 | 317 => 253 | 318 => 254 | 319 => 255 | 320 => 256 | 337 => 295 | 338 => 296 | n => n, fun | 9 => 9 | 3 => 3 | 75 => 267 | 76 => 268 | 4 => 4 | 5 => 5 | 167 => 332 | 37 => 281 | 0 => 0 | 85 => 333 | 2 => 2 | 168 => 335 | 53 => 198 | 175 => 350 | 46 => 145 | 210 => 353 | 127 => 312 | 145 => 366 | 143 => 364 | 21 => 21 | 171 => 292 | 173 => 294 | 212 => 320 | 51 => 196 | 20 => 20 | 213 => 321 | 232 => 360 | 233 => 361 | 80 => 285 | n => n, fun | 15 => 4 | 16 => 5 | 17 => 1 | 18 => 6 | 19 => 7 | n => n⟩
theorem Tryz.laysAtoi : Go.Proofs.LaysC.n172 Tryz.prog Tryz.laysAtoi_ren := {
  mixed := by kernel_rfl
  f129 := Tryz.func127.trans (congrArg some (by kernel_rfl))
  f171 := Tryz.func103.trans (congrArg some (by kernel_rfl))
  f172 := Tryz.func201.trans (congrArg some (by kernel_rfl))
  f205 := Tryz.func302.trans (congrArg some (by kernel_rfl))
  f243 := Tryz.func145.trans (congrArg some (by kernel_rfl))
  f244 := Tryz.func239.trans (congrArg some (by kernel_rfl))
  f245 := Tryz.func240.trans (congrArg some (by kernel_rfl))
  f246 := Tryz.func188.trans (congrArg some (by kernel_rfl))
  f247 := Tryz.func278.trans (congrArg some (by kernel_rfl))
  f279 := Tryz.func279.trans (congrArg some (by kernel_rfl))
  f280 := Tryz.func280.trans (congrArg some (by kernel_rfl))
  f281 := Tryz.func281.trans (congrArg some (by kernel_rfl))
  f282 := Tryz.func282.trans (congrArg some (by kernel_rfl))
  f283 := Tryz.func224.trans (congrArg some (by kernel_rfl))
  f284 := Tryz.func225.trans (congrArg some (by kernel_rfl))
  f285 := Tryz.func226.trans (congrArg some (by kernel_rfl))
  f286 := Tryz.func227.trans (congrArg some (by kernel_rfl))
  f287 := Tryz.func300.trans (congrArg some (by kernel_rfl))
  f316 := Tryz.func301.trans (congrArg some (by kernel_rfl))
  f317 := Tryz.func253.trans (congrArg some (by kernel_rfl))
  f318 := Tryz.func254.trans (congrArg some (by kernel_rfl))
  f319 := Tryz.func255.trans (congrArg some (by kernel_rfl))
  f320 := Tryz.func256.trans (congrArg some (by kernel_rfl))
  f321 := Tryz.func309.trans (congrArg some (by kernel_rfl))
  f322 := Tryz.func310.trans (congrArg some (by kernel_rfl))
  f337 := Tryz.func295.trans (congrArg some (by kernel_rfl))
  f338 := Tryz.func296.trans (congrArg some (by kernel_rfl))
  t0 := Tryz.underlying0
  a0 := Tryz.isAgg0
  z0 := Tryz.sizeOf0
  v0 := Tryz.zeroValue0
  t2 := Tryz.underlying2
  a2 := Tryz.isAgg2
  z2 := Tryz.sizeOf2
  v2 := Tryz.zeroValue2
  t3 := Tryz.underlying3
  a3 := Tryz.isAgg3
  z3 := Tryz.sizeOf3
  v3 := Tryz.zeroValue3
  t4 := Tryz.underlying4
  a4 := Tryz.isAgg4
  z4 := Tryz.sizeOf4
  v4 := Tryz.zeroValue4
  t5 := Tryz.underlying5
  a5 := Tryz.isAgg5
  z5 := Tryz.sizeOf5
  v5 := Tryz.zeroValue5
  t9 := Tryz.underlying9
  a9 := Tryz.isAgg9
  z9 := Tryz.sizeOf9
  v9 := Tryz.zeroValue9
  t20 := Tryz.underlying20
  a20 := Tryz.isAgg20
  z20 := Tryz.sizeOf20
  v20 := Tryz.zeroValue20
  t21 := Tryz.underlying21
  a21 := Tryz.isAgg21
  z21 := Tryz.sizeOf21
  v21 := Tryz.zeroValue21
  t37 := Tryz.underlying281
  a37 := Tryz.isAgg281
  z37 := Tryz.sizeOf281
  v37 := Tryz.zeroValue281
  t46 := Tryz.underlying145
  a46 := Tryz.isAgg145
  z46 := Tryz.sizeOf145
  v46 := Tryz.zeroValue145
  t51 := Tryz.underlying196
  a51 := Tryz.isAgg196
  z51 := Tryz.sizeOf196
  v51 := Tryz.zeroValue196
  t53 := Tryz.underlying198
  a53 := Tryz.isAgg198
  z53 := Tryz.sizeOf198
  v53 := Tryz.zeroValue198
  t75 := Tryz.underlying267
  a75 := Tryz.isAgg267
  z75 := Tryz.sizeOf267
  v75 := Tryz.zeroValue267
  t76 := Tryz.underlying268
  a76 := Tryz.isAgg268
  z76 := Tryz.sizeOf268
  v76 := Tryz.zeroValue268
  t85 := Tryz.underlying333
  a85 := Tryz.isAgg333
  z85 := Tryz.sizeOf333
  v85 := Tryz.zeroValue333
  t127 := Tryz.underlying312
  a127 := Tryz.isAgg312
  z127 := Tryz.sizeOf312
  v127 := Tryz.zeroValue312
  t143 := Tryz.underlying364
  a143 := Tryz.isAgg364
  z143 := Tryz.sizeOf364
  v143 := Tryz.zeroValue364
  t145 := Tryz.underlying366
  a145 := Tryz.isAgg366
  z145 := Tryz.sizeOf366
  v145 := Tryz.zeroValue366
  t167 := Tryz.underlying332
  a167 := Tryz.isAgg332
  z167 := Tryz.sizeOf332
  v167 := Tryz.zeroValue332
  t168 := Tryz.underlying335
  a168 := Tryz.isAgg335
  z168 := Tryz.sizeOf335
  v168 := Tryz.zeroValue335
  t171 := Tryz.underlying292
  a171 := Tryz.isAgg292
  z171 := Tryz.sizeOf292
  v171 := Tryz.zeroValue292
  t173 := Tryz.underlying294
  a173 := Tryz.isAgg294
  z173 := Tryz.sizeOf294
  v173 := Tryz.zeroValue294
  t175 := Tryz.underlying350
  a175 := Tryz.isAgg350
  z175 := Tryz.sizeOf350
  v175 := Tryz.zeroValue350
  t210 := Tryz.underlying353
  a210 := Tryz.isAgg353
  z210 := Tryz.sizeOf353
  v210 := Tryz.zeroValue353
  t212 := Tryz.underlying320
  a212 := Tryz.isAgg320
  z212 := Tryz.sizeOf320
  v212 := Tryz.zeroValue320
  t213 := Tryz.underlying321
  a213 := Tryz.isAgg321
  z213 := Tryz.sizeOf321
  t232 := Tryz.underlying360
  a232 := Tryz.isAgg360
  z232 := Tryz.sizeOf360
  v232 := Tryz.zeroValue360
  t233 := Tryz.underlying361
  a233 := Tryz.isAgg361
  z233 := Tryz.sizeOf361
  v233 := Tryz.zeroValue361
  g15 := by kernel_rfl
  g16 := by kernel_rfl
  g17 := by kernel_rfl
  g18 := by kernel_rfl
  g19 := by kernel_rfl
  t80 := Tryz.underlying285
  a80 := Tryz.isAgg285
  z80 := Tryz.sizeOf285
  v80 := Tryz.zeroValue285
  i0 := by kernel_rfl
  i2 := by kernel_rfl
  i3 := by kernel_rfl
  i4 := by kernel_rfl
  i5 := by kernel_rfl
  i9 := by kernel_rfl
  i20 := by kernel_rfl
  i21 := by kernel_rfl
  i37 := by kernel_rfl
  i46 := by kernel_rfl
  i51 := by kernel_rfl
  i53 := by kernel_rfl
  i75 := by kernel_rfl
  i76 := by kernel_rfl
  i80 := by kernel_rfl
  i85 := by kernel_rfl
  i127 := by kernel_rfl
  i143 := by kernel_rfl
  i145 := by kernel_rfl
  i167 := by kernel_rfl
  i168 := by kernel_rfl
  i171 := by kernel_rfl
  i173 := by kernel_rfl
  i175 := by kernel_rfl
  i210 := by kernel_rfl
  i212 := by kernel_rfl
  i232 := by kernel_rfl
  i233 := by kernel_rfl
  m15 := by kernel_rfl
  m16 := by kernel_rfl
  m17 := by kernel_rfl
  m18 := by kernel_rfl
  m19 := by kernel_rfl
  c0 := by kernel_rfl
  c2 := by kernel_rfl
  c3 := by kernel_rfl
  c4 := by kernel_rfl
  c5 := by kernel_rfl
  c9 := by kernel_rfl
  c20 := by kernel_rfl
  c21 := by kernel_rfl
  c37 := by kernel_rfl
  c46 := by kernel_rfl
  c51 := by kernel_rfl
  c53 := by kernel_rfl
  c75 := by kernel_rfl
  c76 := by kernel_rfl
  c80 := by kernel_rfl
  c85 := by kernel_rfl
  c127 := by kernel_rfl
  c143 := by kernel_rfl
  c145 := by kernel_rfl
  c167 := by kernel_rfl
  c168 := by kernel_rfl
  c171 := by kernel_rfl
  c173 := by kernel_rfl
  c175 := by kernel_rfl
  c210 := by kernel_rfl
  c212 := by kernel_rfl
  c213 := by kernel_rfl
  c232 := by kernel_rfl
  c233 := by kernel_rfl }
def Tryz.laysWR_ren : Go.Shelf.Ren := ⟨fun | 168 => 215 | 240 => 246 | 242 => 247 | 276 => 286 | 278 => 287 | n => n, fun | 70 => 280 | 21 => 21 | 3 => 3 | 75 => 267 | 0 => 0 | 72 => 283 | 37 => 281 | 4 => 4 | 164 => 343 | 51 => 196 | 5 => 5 | 46 => 145 | 80 => 285 | 9 => 9 | n => n, fun | n => n⟩
theorem Tryz.laysWR : Go.Proofs.Lays.n168 Tryz.prog Tryz.laysWR_ren := {
  mixed := by kernel_rfl
  f168 := Tryz.func215.trans (congrArg some (by kernel_rfl))
  f240 := Tryz.func246.trans (congrArg some (by kernel_rfl))
  f242 := Tryz.func247.trans (congrArg some (by kernel_rfl))
  f276 := Tryz.func286.trans (congrArg some (by kernel_rfl))
  f278 := Tryz.func287.trans (congrArg some (by kernel_rfl))
  t0 := Tryz.underlying0
  a0 := Tryz.isAgg0
  z0 := Tryz.sizeOf0
  v0 := Tryz.zeroValue0
  t3 := Tryz.underlying3
  a3 := Tryz.isAgg3
  z3 := Tryz.sizeOf3
  v3 := Tryz.zeroValue3
  t4 := Tryz.underlying4
  a4 := Tryz.isAgg4
  z4 := Tryz.sizeOf4
  v4 := Tryz.zeroValue4
  t5 := Tryz.underlying5
  a5 := Tryz.isAgg5
  z5 := Tryz.sizeOf5
  v5 := Tryz.zeroValue5
  t9 := Tryz.underlying9
  a9 := Tryz.isAgg9
  z9 := Tryz.sizeOf9
  v9 := Tryz.zeroValue9
  t20 := Tryz.underlying20
  a20 := Tryz.isAgg20
  z20 := Tryz.sizeOf20
  v20 := Tryz.zeroValue20
  t21 := Tryz.underlying21
  a21 := Tryz.isAgg21
  z21 := Tryz.sizeOf21
  v21 := Tryz.zeroValue21
  t37 := Tryz.underlying281
  a37 := Tryz.isAgg281
  z37 := Tryz.sizeOf281
  v37 := Tryz.zeroValue281
  t46 := Tryz.underlying145
  a46 := Tryz.isAgg145
  z46 := Tryz.sizeOf145
  v46 := Tryz.zeroValue145
  t51 := Tryz.underlying196
  a51 := Tryz.isAgg196
  z51 := Tryz.sizeOf196
  v51 := Tryz.zeroValue196
  t70 := Tryz.underlying280
  a70 := Tryz.isAgg280
  z70 := Tryz.sizeOf280
  v70 := Tryz.zeroValue280
  t72 := Tryz.underlying283
  a72 := Tryz.isAgg283
  z72 := Tryz.sizeOf283
  v72 := Tryz.zeroValue283
  t75 := Tryz.underlying267
  a75 := Tryz.isAgg267
  z75 := Tryz.sizeOf267
  v75 := Tryz.zeroValue267
  t164 := Tryz.underlying343
  a164 := Tryz.isAgg343
  z164 := Tryz.sizeOf343
  v164 := Tryz.zeroValue343 }
def Tryz.laysIdx_ren : Go.Shelf.Ren := ⟨fun | 219 => 277 | 217 => 298 | 225 => 276 | 224 => 275 | 267 => 299 | 266 => 307 | 314 => 308 | n => n, fun | 9 => 9 | 3 => 3 | 4 => 4 | 5 => 5 | 46 => 145 | 146 => 355 | 51 => 196 | n => n, fun | 1 => 0 | n => n⟩
theorem Tryz.laysIdx : Go.Proofs.Lays.n219 Tryz.prog Tryz.laysIdx_ren := {
  mixed := by kernel_rfl
  f217 := Tryz.func298.trans (congrArg some (by kernel_rfl))
  f219 := Tryz.func277.trans (congrArg some (by kernel_rfl))
  f224 := Tryz.func275.trans (congrArg some (by kernel_rfl))
  f225 := Tryz.func276.trans (congrArg some (by kernel_rfl))
  f266 := Tryz.func307.trans (congrArg some (by kernel_rfl))
  f267 := Tryz.func299.trans (congrArg some (by kernel_rfl))
  f314 := Tryz.func308.trans (congrArg some (by kernel_rfl))
  t3 := Tryz.underlying3
  a3 := Tryz.isAgg3
  z3 := Tryz.sizeOf3
  v3 := Tryz.zeroValue3
  t4 := Tryz.underlying4
  a4 := Tryz.isAgg4
  z4 := Tryz.sizeOf4
  v4 := Tryz.zeroValue4
  t5 := Tryz.underlying5
  a5 := Tryz.isAgg5
  z5 := Tryz.sizeOf5
  v5 := Tryz.zeroValue5
  t9 := Tryz.underlying9
  a9 := Tryz.isAgg9
  z9 := Tryz.sizeOf9
  v9 := Tryz.zeroValue9
  t46 := Tryz.underlying145
  a46 := Tryz.isAgg145
  z46 := Tryz.sizeOf145
  v46 := Tryz.zeroValue145
  t51 := Tryz.underlying196
  a51 := Tryz.isAgg196
  z51 := Tryz.sizeOf196
  v51 := Tryz.zeroValue196
  t146 := Tryz.underlying355
  a146 := Tryz.isAgg355
  z146 := Tryz.sizeOf355
  v146 := Tryz.zeroValue355
  g1 := by kernel_rfl }
def Tryz.laysAny_ren : Go.Shelf.Ren := ⟨fun | 153 => 198 | 152 => 233 | 226 => 234 | 227 => 235 | 228 => 236 | 137 => 273 | 119 => 274 | 224 => 275 | 225 => 276 | 217 => 298 | 266 => 307 | n => n, fun | 9 => 9 | 3 => 3 | 4 => 4 | 5 => 5 | 21 => 21 | 117 => 304 | 116 => 303 | 0 => 0 | 46 => 145 | 124 => 331 | n => n, fun | n => n⟩
theorem Tryz.laysAny : Go.Proofs.Lays.n153 Tryz.prog Tryz.laysAny_ren := {
  mixed := by kernel_rfl
  f119 := Tryz.func274.trans (congrArg some (by kernel_rfl))
  f137 := Tryz.func273.trans (congrArg some (by kernel_rfl))
  f152 := Tryz.func233.trans (congrArg some (by kernel_rfl))
  f153 := Tryz.func198.trans (congrArg some (by kernel_rfl))
  f217 := Tryz.func298.trans (congrArg some (by kernel_rfl))
  f224 := Tryz.func275.trans (congrArg some (by kernel_rfl))
  f225 := Tryz.func276.trans (congrArg some (by kernel_rfl))
  f226 := Tryz.func234.trans (congrArg some (by kernel_rfl))
  f227 := Tryz.func235.trans (congrArg some (by kernel_rfl))
  f228 := Tryz.func236.trans (congrArg some (by kernel_rfl))
  f266 := Tryz.func307.trans (congrArg some (by kernel_rfl))
  t0 := Tryz.underlying0
  a0 := Tryz.isAgg0
  z0 := Tryz.sizeOf0
  v0 := Tryz.zeroValue0
  t3 := Tryz.underlying3
  a3 := Tryz.isAgg3
  z3 := Tryz.sizeOf3
  v3 := Tryz.zeroValue3
  t4 := Tryz.underlying4
  a4 := Tryz.isAgg4
  z4 := Tryz.sizeOf4
  v4 := Tryz.zeroValue4
  t5 := Tryz.underlying5
  a5 := Tryz.isAgg5
  z5 := Tryz.sizeOf5
  v5 := Tryz.zeroValue5
  t9 := Tryz.underlying9
  a9 := Tryz.isAgg9
  z9 := Tryz.sizeOf9
  v9 := Tryz.zeroValue9
  t21 := Tryz.underlying21
  a21 := Tryz.isAgg21
  z21 := Tryz.sizeOf21
  v21 := Tryz.zeroValue21
  t46 := Tryz.underlying145
  a46 := Tryz.isAgg145
  z46 := Tryz.sizeOf145
  v46 := Tryz.zeroValue145
  t116 := Tryz.underlying303
  a116 := Tryz.isAgg303
  z116 := Tryz.sizeOf303
  t117 := Tryz.underlying304
  a117 := Tryz.isAgg304
  z117 := Tryz.sizeOf304
  v117 := Tryz.zeroValue304
  t124 := Tryz.underlying331
  a124 := Tryz.isAgg331
  z124 := Tryz.sizeOf331
  v124 := Tryz.zeroValue331 }
end Go.Proofs
