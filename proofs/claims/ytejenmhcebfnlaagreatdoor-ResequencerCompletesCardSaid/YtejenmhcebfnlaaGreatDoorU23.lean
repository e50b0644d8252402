/- slices.Insert at the slots: what it says to its caller. -/
import Derived.Shelf.LaysC
import Derived.Shelf.LaysM
import Derived.Shelf.Lays
import Derived.Shelf.Strconv.Itoa1
import Derived.Shelf.Strconv.Itoa2
import Derived.Lib.Walk
import Derived.Lib.ItoaMem
import Derived.BigCall
import Derived.BigGuard
import Derived.Test.YtejenmhcebfnlaaGreatDoorU22
set_option linter.all false
namespace Go.Proofs.YtejenmhcebfnlaaGreatDoor.Iv
open Go.Em Go.RowKit Go.Lib

section
variable {P : Program} {R : CodeRel} {K : Kn}
theorem post_move {w w' : World} {c0 c' : CB} {sz : Nat} {rows new : List (List X)} {res : X} {v : Value} (hI : Inv P R K [c0] [.row sz rows] w) (hf : FrameOk c0.owns w w') (hown : ∀ b o, c'.owns b o → c0.owns b o ∨ w.heap.size ≤ b)
    (hB : BoxOk P R K ([c0] ++ [c']) w' (.row sz new) c') (hres : Rep K ([c0] ++ [c']) res v) : Post P R K [c0] [.row sz rows] w res [.dead, .row sz new] (.returned v) w' := by
  have hdead : ∀ b o, ¬ Owns [c0] [Bx.dead] b o := by
    rintro b o ⟨i, c, B, h1, h2, h3, h4⟩
    cases i with
    | zero => simp at h2; subst h2; simp [Bx.live] at h3
    | succ i => simp at h2
  have hin : ∀ b o, c0.owns b o → Owns [c0] [Bx.row sz rows] b o := fun b o h => ⟨0, c0, .row sz rows, rfl, rfl, rfl, h⟩
  have hk := hI.kill 0
  have hk' : Inv P R K [c0] [.dead] w' := Inv.frame hk hf (fun b o v e ho => by
    have := hI.apart b o (hin b o ho); rw [this] at e; cases e) (fun b o ho => absurd ho (hdead b o))
  refine ⟨v, K, [c'], rfl, ⟨hk'.push hB (fun b o ho => ?_) (fun b o _ => hdead b o), hres, KLe.refl _, fun b o u e => .inl e, fun b o ho => ?_, hf.mono fun b o _ h => hin b o h, fun i B e hl => ?_⟩⟩
  · rcases hown b o ho with h | h
    · exact hI.apart b o (hin b o h)
    · cases hk : K b o with
      | none => rfl
      | some u => have := hI.known_lt hk; omega
  · obtain ⟨i, c, B, h1, h2, h3, h4⟩ := ho
    match i, h1, h2 with
    | 0, h1, h2 => simp at h2; subst h2; simp [Bx.live] at h3
    | 1, h1, h2 =>
      simp at h1; subst h1
      rcases hown b o h4 with h | h
      · exact .inl (hin b o h)
      · exact .inr h
    | i + 2, h1, h2 => simp at h2
  · cases i with
    | zero => simp at e; subst e; cases hl
    | succ i => simp at e

theorem splice_get (l vs : List Value) (o q : Nat) (h : o + vs.length ≤ l.length) : (l.take o ++ vs ++ l.drop (o + vs.length)).toArray[q]? = if q < o then l[q]? else if q < o + vs.length then vs[q - o]? else l[q]? := by
  have hT : (l.take o).length = o := by rw [List.length_take]; omega
  rw [List.getElem?_toArray]
  by_cases h5 : q < o
  · rw [if_pos h5, List.append_assoc, List.getElem?_append_left (by omega), List.getElem?_take, if_pos h5]
  · rw [if_neg h5, List.append_assoc, List.getElem?_append_right (by omega), hT]
    by_cases h6 : q < o + vs.length
    · rw [if_pos h6, List.getElem?_append_left (by omega)]
    · rw [if_neg h6, List.getElem?_append_right (by omega), List.getElem?_drop]
      congr 1; omega
theorem setCells_row (W : World) (b o : Nat) (arr : Array Value) (el : TypeId) (vs : List Value) (hb : W.heap[b]? = some (.cells arr el (0, 0))) (hl : o + vs.length ≤ arr.size) (h1 : ∀ v ∈ vs, v.oneCell' = true) :
    W.setCells b o vs = W.setRow b (arr.toList.take o ++ vs ++ arr.toList.drop (o + vs.length)).toArray := by
  have hc : ∀ j, j < vs.length → (W.cell? ⟨b, o + j, none⟩).isSome = true := fun j hj => by
    simp only [World.cell?, hb]
    rw [Array.getElem?_eq_getElem (by omega)]; rfl
  have hf : ∀ j, j < vs.length → W.frozen? ⟨b, o + j, none⟩ = false := fun j hj => by simp [World.frozen?, hb]
  have e1 := run_storeCells_cells (P := Tryz.prog) b o vs 0 W (by simpa using hc) (by simpa using hf) h1
  have e2 := run_storeCells_at Tryz.prog b o el vs 0 arr W hb (by omega) h1
  rw [e1] at e2
  simp only [Nat.add_zero] at e2
  injection e2

/-- The new row, where the elements lay or in a place of its own. -/
theorem ins_flat {K : Kn} {rows : List (List X)} {x : List X} {cs vs : List Value} (hf : Flat K 6 rows cs) (hv : Flat K 6 [x] vs) (i : Nat) : Flat K 6 (rows.take i ++ [x] ++ rows.drop i) (cs.take (i * 6) ++ vs ++ cs.drop (i * 6)) :=
  ((hf.take i).append hv).append (hf.drop i)
theorem ins_get {cs vs : List Value} {n i k : Nat} {v : Value} (hcl : cs.length = n * 6) (hvl : vs.length = 6) (hi : i ≤ n) (h : (cs.take (i * 6) ++ vs ++ cs.drop (i * 6))[k]? = some v) :
    (k < i * 6 ∧ cs[k]? = some v) ∨ (i * 6 ≤ k ∧ k < (i + 1) * 6 ∧ vs[k - i * 6]? = some v) ∨ ((i + 1) * 6 ≤ k ∧ k < (n + 1) * 6 ∧ cs[k - 6]? = some v) := by
  have hT : (cs.take (i * 6)).length = i * 6 := by rw [List.length_take]; omega
  by_cases h1 : k < i * 6
  · rw [List.append_assoc, List.getElem?_append_left (by omega), List.getElem?_take, if_pos h1] at h
    exact .inl ⟨h1, h⟩
  · rw [List.append_assoc, List.getElem?_append_right (by omega), hT] at h
    by_cases h2 : k < (i + 1) * 6
    · rw [List.getElem?_append_left (by omega)] at h
      exact .inr (.inl ⟨by omega, h2, h⟩)
    · rw [List.getElem?_append_right (by omega), List.getElem?_drop] at h
      have e : i * 6 + (k - i * 6 - vs.length) = k - 6 := by omega
      rw [e] at h
      have := (List.getElem?_eq_some_iff.1 h).1
      exact .inr (.inr ⟨by omega, by omega, h⟩)

set_option maxRecDepth 100000 in
theorem ins_sem {R : CodeRel} (n i : Nat) (t : Bool) (x : List X) (rows : List (List X)) (hi : i ≤ n) (hn : n = rows.length) (hn2 : n ≤ 2000000) :
    FSem Tryz.prog R 27 [.bs 0 0 n, .v (.int .i64 (Int.ofNat i)), .sl t 6 [x]] [.row 6 rows] (.bs 1 0 (n + 1)) [.dead, .row 6 (rows.take i ++ [x] ++ rows.drop i)] := by
  intro K C w cargs hI ha
  have hs : cargs.size = 3 := ha.1
  have r0 := ha.2 0 _ cargs[0] rfl (Array.getElem?_eq_getElem (by omega))
  have r1 := ha.2 1 _ cargs[1] rfl (Array.getElem?_eq_getElem (by omega))
  have r2 := ha.2 2 _ cargs[2] rfl (Array.getElem?_eq_getElem (by omega))
  have hca : cargs = #[cargs[0], cargs[1], cargs[2]] := by
    refine Array.ext (by simp [hs]) fun j h1 h2 => ?_
    match j, h1, h2 with
    | 0, _, _ => rfl
    | 1, _, _ => rfl
    | 2, _, _ => rfl
    | j + 3, h1, _ => omega
  rw [hca]
  generalize cargs[0] = v0 at r0
  generalize cargs[1] = v1 at r1
  generalize cargs[2] = v2 at r2
  obtain rfl := rep_v r1
  obtain ⟨c0, hC⟩ : ∃ c0, C = [c0] := by
    have := hI.size
    match C, this with
    | [c0], _ => exact ⟨c0, rfl⟩
  subst hC
  obtain ⟨vb, vo, c2, rfl⟩ : ∃ vb vo c2, v2 = .slice (some ⟨vb, vo, none⟩) 1 c2 := by
    generalize hx : X.sl t 6 [x] = y at r2
    cases r2 <;> try cases hx
    exact ⟨_, _, _, rfl⟩
  obtain ⟨vs, hv, hvK⟩ := r2.flat
  have hvl : vs.length = 6 := by simpa using hv.len
  have hvs : ∀ j v, vs[j]? = some v → w.cell? ⟨vb, vo + j, none⟩ = some v := fun j v h => hI.known _ _ _ (hvK j v h)
  have h1v := hv.oneCell
  obtain ⟨tA, kA, hsa, hkA⟩ : ∃ tA kA, w.shape? vb = some (tA, kA) ∧ kA ≠ 0 := by
    have h0 := hvs 0 _ (List.getElem?_eq_getElem (by omega))
    unfold World.cell? at h0
    split at h0
    · rename_i arr el fr hh
      refine ⟨el, arr.size, by simp [World.shape?, hh], fun e => ?_⟩
      have := (Array.getElem?_eq_some_iff.1 h0).1
      omega
    · cases h0
  have hvfc : ∀ w' : World, w'.heap = w.heap → (Builtin.firstCells 6 1 (.slice (some ⟨vb, vo, none⟩) 1 c2)).run Tryz.prog w' = .ok vs.toArray w' := fun w' hw => by
    refine run_firstCells_some w' 6 1 ⟨vb, vo, none⟩ 1 c2 vs (by omega) (fun j u hu => ?_)
    rw [Addr.add_lit]
    have := hvs j u hu
    simp only [World.cell?, hw] at this ⊢; exact this
  have hz78 : (zeroP Tryz.prog 53).isSome = true := by kernel_rfl
  obtain ⟨z78, hz78⟩ := Option.isSome_iff_exists.1 hz78
  have hs78 : sizeP Tryz.prog 53 = some 6 := by kernel_rfl
  have hb78 : bytesP Tryz.prog 53 = some 88 := by kernel_rfl
  -- a new row, at the end
  have endGrow : ∀ (ob : Option Addr) (c : Nat) (olds : List Value), i = n → n ≤ c → c < n + 1 → (ob = none → n = 0 ∧ c = 0) → Flat K 6 rows olds → (∀ w' : World, w'.heap = w.heap → (Builtin.firstCells 6 n (.slice ob n c)).run Tryz.prog w' = .ok olds.toArray w') →
      Calls Tryz.prog 27 #[.slice ob n c, .int .i64 (Int.ofNat i), .slice (some ⟨vb, vo, none⟩) 1 c2] w (Post Tryz.prog R K [c0] [.row 6 rows] w (.bs 1 0 (n + 1)) [.dead, .row 6 (rows.take i ++ [x] ++ rows.drop i)]) := by
    intro ob c olds hin hnc hcn hnil hfo hfco
    subst hin
    have hex : ∃ rest : List Value, (∀ ty, (Builtin.append_ #[50, 50] ty #[.slice ob i c, .slice (some ⟨vb, vo, none⟩) 1 c2]).run Tryz.prog w = .ok (.slice (some ⟨w.heap.size, 0, none⟩) (i + 1) (grownCap w (i + 1) c 53)) (w.drew.alloc (.cells (olds ++ vs ++ rest).toArray 53))) ∧ rest.length = (grownCap w (i + 1) c 53 - (i + 1)) * 6 := by
      obtain ⟨rest, h1, h2⟩ := run_app_grow (P := Tryz.prog) (w := w) (ty := 0) (ob := ob) (oc := some ⟨vb, vo, none⟩) (n := i) (cap := c) (m := 1) (c := c2) und35 und35 hs78 hb78 hz78 olds vs hfco hvfc hcn (by omega) (by omega) (by omega)
      exact ⟨rest, fun ty => h1, h2⟩
    obtain ⟨rest, hrun, hrl⟩ := hex
    have hm := grownCap_ge w (i + 1) c 53
    generalize grownCap w (i + 1) c 53 = m at hrun hrl hm
    refine (ins_end ob i c vb vo c2 w _ _ hnc hn2 hnil hrun).mono ?_
    rintro e w' ⟨rfl, rfl⟩
    have hfl := hfo.append hv
    have e1 : rows.take i ++ [x] ++ rows.drop i = rows ++ [x] := by
      rw [hn, List.take_length, List.drop_length, List.append_nil]
    rw [e1]
    have hol : olds.length = i * 6 := by rw [hfo.len, ← hn]
    have hsz : (olds ++ vs ++ rest).toArray.size = m * 6 := by
      simp only [List.size_toArray, List.length_append, hol, hvl, hrl]; omega
    refine post_move (c' := .at w.heap.size 0 (m * 6) 6) hI (FrameOk.trans (FrameOk.drew _ w) (FrameOk.alloc (S := c0.owns) _ _) (fun _ _ _ h => h)) (fun b o h => .inr (by rw [h.1]; exact Nat.le_refl _)) (hfl.box (alloc_get w.drew _) (fun k v hk => ?_) (by simp only [List.length_append, List.length_singleton]; omega) (by omega)) ?_
    · rw [Nat.zero_add, List.getElem?_toArray, List.getElem?_append_left (List.getElem?_eq_some_iff.1 hk).1]; exact hk
    · have := @Rep.bs K ([c0] ++ [.at w.heap.size 0 (m * 6) 6]) 1 0 (i + 1) w.heap.size 0 (m * 6) 6 m rfl (by omega) (by omega)
      simpa using this
  generalize hx0 : X.bs 0 0 n = y0 at r0
  cases r0 <;> try cases hx0
  case bsNil ob hc =>
    have e0 : c0 = .ghost := by simpa using hc
    subst e0
    have hi0 : i = 0 := by omega
    have hr0 : rows = [] := List.eq_nil_of_length_eq_zero hn.symm
    refine endGrow ob 0 [] hi0 (Nat.le_refl _) (by omega) (fun _ => ⟨rfl, rfl⟩) (by rw [hr0]; exact Flat.nil) (fun w' _ => ?_)
    cases ob <;> simp [Builtin.firstCells, loadCells, loadCellsFrom]
  case bs b base hi' sz cap hc hcap hlen =>
    have e0 : c0 = .at b base hi' sz := by simpa using hc
    subst e0
    obtain ⟨arr, el, g1, g2, g3, hbl, hfe⟩ := (hI.box 0 _ _ rfl rfl).flat
    subst g1
    simp only [Nat.zero_mul, Nat.zero_add, Nat.add_zero] at hcap ⊢
    generalize hcd : (arr.toList.drop base).take (rows.length * 6) = cs at hfe
    have hcl : cs.length = n * 6 := by rw [hfe.len, ← hn]
    have hcar : ∀ j v, cs[j]? = some v → arr[base + j]? = some v := fun j v h => by
      rw [← hcd, List.getElem?_take] at h
      split at h
      · rw [List.getElem?_drop] at h; simpa using h
      · cases h
    have hcs : ∀ j v, cs[j]? = some v → w.cell? ⟨b, base + j, none⟩ = some v := fun j v h => by
      simp only [World.cell?, hbl]; exact hcar j v h
    have h1c := hfe.oneCell
    have hnk : ∀ o, base ≤ o → o < hi' → K b o = none := fun o h1 h2 => hI.apart b o ⟨0, _, _, rfl, rfl, rfl, ⟨rfl, h1, h2⟩⟩
    have hfz : ∀ o, w.frozen? ⟨b, o, none⟩ = false := fun o => by simp [World.frozen?, hbl]
    have hflat := ins_flat hfe hv i
    by_cases hin : i = n
    · by_cases hfit : n + 1 ≤ cap
      · subst hin
        have hst := run_storeCells_at Tryz.prog b (base + i * 6) el vs 0 arr w hbl (by omega) h1v
        simp only [Nat.add_zero] at hst
        have hrun : ∀ ty, (Builtin.append_ #[50, 50] ty #[.slice (some ⟨b, base, none⟩) i cap, .slice (some ⟨vb, vo, none⟩) 1 c2]).run Tryz.prog w = .ok (.slice (some ⟨b, base, none⟩) (i + 1) cap) (w.setRow b (arr.toList.take (base + i * 6) ++ vs ++ arr.toList.drop (base + i * 6 + vs.length)).toArray) := fun ty =>
          run_app_fit (P := Tryz.prog) (ty := ty) (ob := some ⟨b, base, none⟩) und35 und35 hs78 vs _ (hvfc w rfl) hfit (fun ad e => by cases e; rw [Addr.add_lit]; exact hst) (fun e => by cases e)
        refine (ins_end _ i cap vb vo c2 w _ _ (by omega) hn2 (fun e => by cases e) hrun).mono ?_
        rintro e w' ⟨rfl, rfl⟩
        have hget : ∀ q, (arr.toList.take (base + i * 6) ++ vs ++ arr.toList.drop (base + i * 6 + vs.length)).toArray[q]? = if q < base + i * 6 then arr[q]? else if q < base + i * 6 + vs.length then vs[q - (base + i * 6)]? else arr[q]? := fun q => by
          rw [splice_get _ _ _ _ (by have : arr.toList.length = arr.size := Array.length_toList; omega)]; simp
        have hsize : (arr.toList.take (base + i * 6) ++ vs ++ arr.toList.drop (base + i * 6 + vs.length)).toArray.size = arr.size := by simp; omega
        generalize (arr.toList.take (base + i * 6) ++ vs ++ arr.toList.drop (base + i * 6 + vs.length)).toArray = arr' at hget hsize
        refine post_move (c' := .at b base hi' 6) hI (FrameOk.setRow hbl hsize fun q hq => ?_) (fun b' o' h => .inl h) (hflat.box (setRow_heap w b arr arr' el _ hbl) (fun k v hk => ?_) (by rw [hflat.len.symm.trans (by simp; omega : _ = (i + 1) * 6)]; omega) (by omega)) ?_
        · rw [hget]
          have hout : ¬ (base ≤ q ∧ q < hi') := fun hh => hq ⟨rfl, hh.1, hh.2⟩
          by_cases h5 : q < base + i * 6
          · rw [if_pos h5]
          · rw [if_neg h5, if_neg (by omega)]
        · rw [hget]
          rcases ins_get hcl hvl (Nat.le_refl _) hk with ⟨h1, h2⟩ | ⟨h1, h2, h3⟩ | ⟨h1, h2, h3⟩
          · rw [if_pos (by omega)]; exact hcar k v h2
          · rw [if_neg (by omega), if_pos (by omega), ← h3]; congr 1; omega
          · omega
        · have := @Rep.bs K ([.at b base hi' 6] ++ [.at b base hi' 6]) 1 0 (i + 1) b base hi' 6 cap rfl (by omega) hfit
          simpa using this
      · refine endGrow (some ⟨b, base, none⟩) cap cs hin (by omega) (by omega) (fun e => by cases e) hfe (fun w' hw => ?_)
        refine run_firstCells_some w' 6 n ⟨b, base, none⟩ n cap cs (by omega) (fun j u hu => ?_)
        rw [Addr.add_lit]
        have := hcs j u hu
        simp only [World.cell?, hw] at this ⊢; exact this
    · have hil : i < n := by omega
      by_cases hfit : n + 1 ≤ cap
      · have hlb : arr.toList.length = arr.size := Array.length_toList
        have hsh : w.shape? b = some (el, arr.size) := by simp [World.shape?, hbl]
        refine (ins_shift b base n cap i vb vo c2 cs vs w hil hfit hn2 (fun j k hj hk e hne => ?_) hcl hvl hcs (fun j hj => ?_) (fun j _ => hfz _) hvs h1c h1v tA el kA arr.size hsa hsh (by omega) hkA hfz).mono ?_
        · have hk1 := hvK j _ (List.getElem?_eq_getElem (by omega))
          rw [e, hne, hnk _ (by omega) (by omega)] at hk1
          cases hk1
        · simp only [World.cell?, hbl]
          rw [Array.getElem?_eq_getElem (by omega)]; rfl
        rintro e w' ⟨rfl, rfl⟩
        have hdl : (cs.drop (i * 6)).length = (n - i) * 6 := by rw [List.length_drop, hcl]; omega
        have hbl2 : w.drew.heap[b]? = some (.cells arr el (0, 0)) := hbl
        rw [setCells_row w.drew b _ arr el _ hbl2 (by omega) (fun v hv' => h1c v (List.mem_of_mem_drop hv'))]
        have hget1 := fun q => splice_get arr.toList (cs.drop (i * 6)) (base + (i + 1) * 6) q (by omega)
        have hsz1 : (arr.toList.take (base + (i + 1) * 6) ++ cs.drop (i * 6) ++ arr.toList.drop (base + (i + 1) * 6 + (cs.drop (i * 6)).length)).toArray.size = arr.size := by
          simp only [List.size_toArray, List.length_append, List.length_take, List.length_drop, hlb]; omega
        generalize (arr.toList.take (base + (i + 1) * 6) ++ cs.drop (i * 6) ++ arr.toList.drop (base + (i + 1) * 6 + (cs.drop (i * 6)).length)).toArray = arr1 at hget1 hsz1 ⊢
        have hb1 := setRow_heap w.drew b arr arr1 el (0, 0) hbl2
        have hlb1 : arr1.toList.length = arr1.size := Array.length_toList
        rw [setCells_row _ b _ arr1 el _ hb1 (by omega) h1v]
        have hget2 := fun q => splice_get arr1.toList vs (base + i * 6) q (by omega)
        have hsz2 : (arr1.toList.take (base + i * 6) ++ vs ++ arr1.toList.drop (base + i * 6 + vs.length)).toArray.size = arr1.size := by
          simp only [List.size_toArray, List.length_append, List.length_take, List.length_drop, hlb1]; omega
        generalize (arr1.toList.take (base + i * 6) ++ vs ++ arr1.toList.drop (base + i * 6 + vs.length)).toArray = arr2 at hget2 hsz2 ⊢
        have hb2 := setRow_heap _ b arr1 arr2 el (0, 0) hb1
        simp only [Array.getElem?_toList] at hget1 hget2
        refine post_move (c' := .at b base hi' 6) hI (FrameOk.trans (FrameOk.drew _ w) (FrameOk.trans (FrameOk.setRow hbl2 hsz1 fun q hq => ?_) (FrameOk.setRow (S := (CB.at b base hi' 6).owns) hb1 hsz2 fun q hq => ?_) (fun _ _ _ h => h)) (fun _ _ _ h => h)) (fun b' o' h => .inl h) (hflat.box hb2 (fun k v hk => ?_) ?_ (by omega)) ?_
        · rw [hget1]
          have hout : ¬ (base ≤ q ∧ q < hi') := fun hh => hq ⟨rfl, hh.1, hh.2⟩
          by_cases h5 : q < base + (i + 1) * 6
          · rw [if_pos h5]
          · rw [if_neg h5, if_neg (by omega)]
        · rw [hget2]
          have hout : ¬ (base ≤ q ∧ q < hi') := fun hh => hq ⟨rfl, hh.1, hh.2⟩
          by_cases h5 : q < base + i * 6
          · rw [if_pos h5]
          · rw [if_neg h5, if_neg (by omega)]
        · rw [hget2]
          rcases ins_get hcl hvl hi hk with ⟨h1, h2⟩ | ⟨h1, h2, h3⟩ | ⟨h1, h2, h3⟩
          · rw [if_pos (by omega), hget1, if_pos (by omega)]; exact hcar k v h2
          · rw [if_neg (by omega), if_pos (by omega), ← h3]; congr 1; omega
          · rw [if_neg (by omega), if_neg (by omega), hget1, if_neg (by omega), if_pos (by omega), List.getElem?_drop, ← h3]; congr 1; omega
        · have := hflat.len
          simp only [List.length_append, List.length_take, List.length_drop, List.length_singleton]
          omega
        · have := @Rep.bs K ([.at b base hi' 6] ++ [.at b base hi' 6]) 1 0 (n + 1) b base hi' 6 cap rfl (by omega) hfit
          simpa using this
      · refine (ins_grow b base n cap i vb vo c2 cs vs w hil (by omega) (by omega) (by omega) hcl hvl hcs hvs h1c h1v).mono ?_
        rintro e w' ⟨G, tl, hG, rfl, htl, rfl⟩
        have hdl : (cs.drop (i * 6)).length = (n - i) * 6 := by rw [List.length_drop, hcl]; omega
        have hTl : (cs.take (i * 6)).length = i * 6 := by rw [List.length_take]; omega
        generalize hA : (cs.take (i * 6) ++ tl).toArray = A
        have hAs : A.size = G * 6 := by rw [← hA, List.size_toArray, List.length_append, hTl, htl]; omega
        have hlA : A.toList.length = A.size := Array.length_toList
        have hb0 : (w.alloc (.cells A 53)).drew.heap[w.heap.size]? = some (.cells A 53 (0, 0)) := alloc_get w _
        rw [setCells_row _ _ _ A 53 _ hb0 (by omega) h1v]
        have hget1 := fun q => splice_get A.toList vs (i * 6) q (by omega)
        have hsz1 : (A.toList.take (i * 6) ++ vs ++ A.toList.drop (i * 6 + vs.length)).toArray.size = A.size := by
          simp only [List.size_toArray, List.length_append, List.length_take, List.length_drop, hlA]; omega
        generalize (A.toList.take (i * 6) ++ vs ++ A.toList.drop (i * 6 + vs.length)).toArray = arr1 at hget1 hsz1 ⊢
        have hb1 := setRow_heap _ w.heap.size A arr1 53 (0, 0) hb0
        have hlb1 : arr1.toList.length = arr1.size := Array.length_toList
        have hb1' : ((w.alloc (.cells A 53)).drew.setRow w.heap.size arr1).drew.heap[w.heap.size]? = some (.cells arr1 53 (0, 0)) := hb1
        rw [setCells_row _ _ _ arr1 53 _ hb1' (by omega) (fun v hv' => h1c v (List.mem_of_mem_drop hv'))]
        have hget2 := fun q => splice_get arr1.toList (cs.drop (i * 6)) ((i + 1) * 6) q (by omega)
        have hsz2 : (arr1.toList.take ((i + 1) * 6) ++ cs.drop (i * 6) ++ arr1.toList.drop ((i + 1) * 6 + (cs.drop (i * 6)).length)).toArray.size = arr1.size := by
          simp only [List.size_toArray, List.length_append, List.length_take, List.length_drop, hlb1]; omega
        generalize (arr1.toList.take ((i + 1) * 6) ++ cs.drop (i * 6) ++ arr1.toList.drop ((i + 1) * 6 + (cs.drop (i * 6)).length)).toArray = arr2 at hget2 hsz2 ⊢
        have hb2 := setRow_heap _ w.heap.size arr1 arr2 53 (0, 0) hb1'
        simp only [Array.getElem?_toList] at hget1 hget2
        have hfr : FrameOk (CB.at b base hi' 6).owns w (((w.alloc (.cells A 53)).drew.setRow w.heap.size arr1).drew.setRow w.heap.size arr2) := by
          have f1 : FrameOk (fun p _ => p = w.heap.size) w (((w.alloc (.cells A 53)).drew.setRow w.heap.size arr1).drew.setRow w.heap.size arr2) :=
            FrameOk.trans (FrameOk.alloc (S := fun p _ => p = w.heap.size) w _) (FrameOk.trans (FrameOk.drew _ _) (FrameOk.trans (FrameOk.setRow hb0 hsz1 fun q hq => absurd rfl hq) (FrameOk.trans (FrameOk.drew _ _) (FrameOk.setRow hb1' hsz2 fun q hq => absurd rfl hq) (fun _ _ _ h => h)) (fun _ _ _ h => h)) (fun _ _ _ h => h)) (fun _ _ _ h => h)
          exact f1.mono fun p o hp h => by omega
        refine post_move (c' := .at w.heap.size 0 (G * 6) 6) hI hfr (fun b' o' h => .inr (by rw [h.1]; exact Nat.le_refl _)) (hflat.box hb2 (fun k v hk => ?_) ?_ (by omega)) ?_
        · rw [Nat.zero_add, hget2]
          rcases ins_get hcl hvl hi hk with ⟨h1, h2⟩ | ⟨h1, h2, h3⟩ | ⟨h1, h2, h3⟩
          · rw [if_pos (by omega), hget1, if_pos (by omega), ← hA, List.getElem?_toArray, List.getElem?_append_left (by omega), List.getElem?_take, if_pos h1]; exact h2
          · rw [if_pos (by omega), hget1, if_neg (by omega), if_pos (by omega)]; exact h3
          · rw [if_neg (by omega), if_pos (by omega), List.getElem?_drop, ← h3]; congr 1; omega
        · simp only [List.length_append, List.length_take, List.length_drop, List.length_singleton]
          omega
        · have := @Rep.bs K ([.at b base hi' 6] ++ [.at w.heap.size 0 (G * 6) 6]) 1 0 (n + 1) w.heap.size 0 (G * 6) 6 G rfl (by omega) (by omega)
          simpa using this
end
end Go.Proofs.YtejenmhcebfnlaaGreatDoor.Iv

namespace Go.Proofs
open Go.Shelf
def Tryz.laysItoa_ren : Go.Shelf.Ren := ⟨fun | 171 => 83 | 243 => 125 | 246 => 169 | 283 => 205 | 284 => 206 | 285 => 207 | 286 => 208 | 129 => 104 | 317 => 234 | 318 => 235 | 319 => 236 | 320 => 237 | 337 => 276 | 338 => 277 | n => n, fun | 3 => 3 | 9 => 9 | 2 => 2 | 4 => 4 | 171 => 274 | 0 => 0 | 53 => 178 | 37 => 22 | 5 => 5 | 173 => 276 | 212 => 302 | 51 => 176 | 20 => 20 | 213 => 303 | 46 => 125 | 232 => 342 | 233 => 343 | n => n, fun | 17 => 1 | 18 => 6 | 19 => 7 | n => n⟩
theorem Tryz.laysItoa : Go.Proofs.LaysM.n171 Tryz.prog Tryz.laysItoa_ren := {
  mixed := by kernel_rfl
  f129 := Tryz.func104.trans (congrArg some (by kernel_rfl))
  f171 := Tryz.func83.trans (congrArg some (by kernel_rfl))
  f243 := Tryz.func125.trans (congrArg some (by kernel_rfl))
  f246 := Tryz.func169.trans (congrArg some (by kernel_rfl))
  f283 := Tryz.func205.trans (congrArg some (by kernel_rfl))
  f284 := Tryz.func206.trans (congrArg some (by kernel_rfl))
  f285 := Tryz.func207.trans (congrArg some (by kernel_rfl))
  f286 := Tryz.func208.trans (congrArg some (by kernel_rfl))
  f317 := Tryz.func234.trans (congrArg some (by kernel_rfl))
  f318 := Tryz.func235.trans (congrArg some (by kernel_rfl))
  f319 := Tryz.func236.trans (congrArg some (by kernel_rfl))
  f320 := Tryz.func237.trans (congrArg some (by kernel_rfl))
  f337 := Tryz.func276.trans (congrArg some (by kernel_rfl))
  f338 := Tryz.func277.trans (congrArg some (by kernel_rfl))
  t0 := Tryz.underlying0
  a0 := Tryz.isAgg0
  z0 := Tryz.sizeOf0
  v0 := Tryz.zeroValue0
  t2 := Tryz.underlying2
  a2 := Tryz.isAgg2
  z2 := Tryz.sizeOf2
  v2 := Tryz.zeroValue2
  t3 := Tryz.underlying3
  a3 := Tryz.isAgg3
  z3 := Tryz.sizeOf3
  v3 := Tryz.zeroValue3
  t4 := Tryz.underlying4
  a4 := Tryz.isAgg4
  z4 := Tryz.sizeOf4
  v4 := Tryz.zeroValue4
  t5 := Tryz.underlying5
  a5 := Tryz.isAgg5
  z5 := Tryz.sizeOf5
  v5 := Tryz.zeroValue5
  t9 := Tryz.underlying9
  a9 := Tryz.isAgg9
  z9 := Tryz.sizeOf9
  v9 := Tryz.zeroValue9
  t20 := Tryz.underlying20
  a20 := Tryz.isAgg20
  z20 := Tryz.sizeOf20
  v20 := Tryz.zeroValue20
  t37 := Tryz.underlying22
  a37 := Tryz.isAgg22
  z37 := Tryz.sizeOf22
  v37 := Tryz.zeroValue22
  t46 := Tryz.underlying125
  a46 := Tryz.isAgg125
  z46 := Tryz.sizeOf125
  v46 := Tryz.zeroValue125
  t51 := Tryz.underlying176
  a51 := Tryz.isAgg176
  z51 := Tryz.sizeOf176
  v51 := Tryz.zeroValue176
  t53 := Tryz.underlying178
  a53 := Tryz.isAgg178
  z53 := Tryz.sizeOf178
  v53 := Tryz.zeroValue178
  t171 := Tryz.underlying274
  a171 := Tryz.isAgg274
  z171 := Tryz.sizeOf274
  v171 := Tryz.zeroValue274
  t173 := Tryz.underlying276
  a173 := Tryz.isAgg276
  z173 := Tryz.sizeOf276
  v173 := Tryz.zeroValue276
  t212 := Tryz.underlying302
  a212 := Tryz.isAgg302
  z212 := Tryz.sizeOf302
  v212 := Tryz.zeroValue302
  t213 := Tryz.underlying303
  a213 := Tryz.isAgg303
  z213 := Tryz.sizeOf303
  t232 := Tryz.underlying342
  a232 := Tryz.isAgg342
  z232 := Tryz.sizeOf342
  v232 := Tryz.zeroValue342
  t233 := Tryz.underlying343
  a233 := Tryz.isAgg343
  z233 := Tryz.sizeOf343
  v233 := Tryz.zeroValue343
  g17 := by kernel_rfl
  g18 := by kernel_rfl
  g19 := by kernel_rfl
  i0 := by kernel_rfl
  i2 := by kernel_rfl
  i3 := by kernel_rfl
  i4 := by kernel_rfl
  i5 := by kernel_rfl
  i9 := by kernel_rfl
  i20 := by kernel_rfl
  i37 := by kernel_rfl
  i46 := by kernel_rfl
  i51 := by kernel_rfl
  i53 := by kernel_rfl
  i171 := by kernel_rfl
  i173 := by kernel_rfl
  i212 := by kernel_rfl
  i232 := by kernel_rfl
  i233 := by kernel_rfl
  m17 := by kernel_rfl
  m18 := by kernel_rfl
  m19 := by kernel_rfl }
def Tryz.laysDec_ren : Go.Shelf.Ren := ⟨fun | 197 => 226 | 260 => 266 | n => n, fun | 9 => 9 | 21 => 21 | 3 => 3 | 4 => 4 | 5 => 5 | 105 => 291 | 119 => 321 | 0 => 0 | 46 => 125 | 139 => 324 | 138 => 323 | n => n, fun | 3 => 2 | 4 => 3 | n => n⟩
theorem Tryz.laysDec : Go.Proofs.Lays.n197 Tryz.prog Tryz.laysDec_ren := {
  mixed := by kernel_rfl
  f197 := Tryz.func226.trans (congrArg some (by kernel_rfl))
  f260 := Tryz.func266.trans (congrArg some (by kernel_rfl))
  t0 := Tryz.underlying0
  a0 := Tryz.isAgg0
  z0 := Tryz.sizeOf0
  v0 := Tryz.zeroValue0
  t3 := Tryz.underlying3
  a3 := Tryz.isAgg3
  z3 := Tryz.sizeOf3
  v3 := Tryz.zeroValue3
  t4 := Tryz.underlying4
  a4 := Tryz.isAgg4
  z4 := Tryz.sizeOf4
  v4 := Tryz.zeroValue4
  t5 := Tryz.underlying5
  a5 := Tryz.isAgg5
  z5 := Tryz.sizeOf5
  v5 := Tryz.zeroValue5
  t9 := Tryz.underlying9
  a9 := Tryz.isAgg9
  z9 := Tryz.sizeOf9
  v9 := Tryz.zeroValue9
  t21 := Tryz.underlying21
  a21 := Tryz.isAgg21
  z21 := Tryz.sizeOf21
  v21 := Tryz.zeroValue21
  t46 := Tryz.underlying125
  a46 := Tryz.isAgg125
  z46 := Tryz.sizeOf125
  v46 := Tryz.zeroValue125
  t105 := Tryz.underlying291
  a105 := Tryz.isAgg291
  z105 := Tryz.sizeOf291
  v105 := Tryz.zeroValue291
  t119 := Tryz.underlying321
  a119 := Tryz.isAgg321
  z119 := Tryz.sizeOf321
  t138 := Tryz.underlying323
  a138 := Tryz.isAgg323
  z138 := Tryz.sizeOf323
  v138 := Tryz.zeroValue323
  t139 := Tryz.underlying324
  a139 := Tryz.isAgg324
  z139 := Tryz.sizeOf324
  v139 := Tryz.zeroValue324
  g3 := by kernel_rfl
  g4 := by kernel_rfl }
def Tryz.laysRep_ren : Go.Shelf.Ren := ⟨fun | 105 => 230 | 212 => 269 | 99 => 180 | 165 => 270 | 166 => 271 | 170 => 272 | 169 => 197 | 263 => 284 | 264 => 285 | 206 => 218 | 240 => 227 | 241 => 286 | 276 => 267 | 277 => 292 | n => n, fun | 9 => 9 | 3 => 3 | 4 => 4 | 20 => 20 | 0 => 0 | 46 => 125 | 109 => 327 | 5 => 5 | 72 => 265 | 76 => 251 | 51 => 176 | 146 => 337 | 53 => 178 | 148 => 339 | 70 => 263 | 37 => 22 | 75 => 250 | 127 => 294 | 164 => 325 | 80 => 267 | n => n, fun | n => n⟩
theorem Tryz.laysRep : Go.Proofs.Lays.n105 Tryz.prog Tryz.laysRep_ren := {
  mixed := by kernel_rfl
  f99 := Tryz.func180.trans (congrArg some (by kernel_rfl))
  f105 := Tryz.func230.trans (congrArg some (by kernel_rfl))
  f165 := Tryz.func270.trans (congrArg some (by kernel_rfl))
  f166 := Tryz.func271.trans (congrArg some (by kernel_rfl))
  f169 := Tryz.func197.trans (congrArg some (by kernel_rfl))
  f170 := Tryz.func272.trans (congrArg some (by kernel_rfl))
  f206 := Tryz.func218.trans (congrArg some (by kernel_rfl))
  f212 := Tryz.func269.trans (congrArg some (by kernel_rfl))
  f240 := Tryz.func227.trans (congrArg some (by kernel_rfl))
  f241 := Tryz.func286.trans (congrArg some (by kernel_rfl))
  f263 := Tryz.func284.trans (congrArg some (by kernel_rfl))
  f264 := Tryz.func285.trans (congrArg some (by kernel_rfl))
  f276 := Tryz.func267.trans (congrArg some (by kernel_rfl))
  f277 := Tryz.func292.trans (congrArg some (by kernel_rfl))
  t0 := Tryz.underlying0
  a0 := Tryz.isAgg0
  z0 := Tryz.sizeOf0
  v0 := Tryz.zeroValue0
  t3 := Tryz.underlying3
  a3 := Tryz.isAgg3
  z3 := Tryz.sizeOf3
  v3 := Tryz.zeroValue3
  t4 := Tryz.underlying4
  a4 := Tryz.isAgg4
  z4 := Tryz.sizeOf4
  v4 := Tryz.zeroValue4
  t5 := Tryz.underlying5
  a5 := Tryz.isAgg5
  z5 := Tryz.sizeOf5
  v5 := Tryz.zeroValue5
  t9 := Tryz.underlying9
  a9 := Tryz.isAgg9
  z9 := Tryz.sizeOf9
  v9 := Tryz.zeroValue9
  t20 := Tryz.underlying20
  a20 := Tryz.isAgg20
  z20 := Tryz.sizeOf20
  v20 := Tryz.zeroValue20
  t37 := Tryz.underlying22
  a37 := Tryz.isAgg22
  z37 := Tryz.sizeOf22
  v37 := Tryz.zeroValue22
  t46 := Tryz.underlying125
  a46 := Tryz.isAgg125
  z46 := Tryz.sizeOf125
  v46 := Tryz.zeroValue125
  t51 := Tryz.underlying176
  a51 := Tryz.isAgg176
  z51 := Tryz.sizeOf176
  v51 := Tryz.zeroValue176
  t53 := Tryz.underlying178
  a53 := Tryz.isAgg178
  z53 := Tryz.sizeOf178
  v53 := Tryz.zeroValue178
  t70 := Tryz.underlying263
  a70 := Tryz.isAgg263
  z70 := Tryz.sizeOf263
  v70 := Tryz.zeroValue263
  t72 := Tryz.underlying265
  a72 := Tryz.isAgg265
  z72 := Tryz.sizeOf265
  v72 := Tryz.zeroValue265
  t75 := Tryz.underlying250
  a75 := Tryz.isAgg250
  z75 := Tryz.sizeOf250
  v75 := Tryz.zeroValue250
  t76 := Tryz.underlying251
  a76 := Tryz.isAgg251
  z76 := Tryz.sizeOf251
  v76 := Tryz.zeroValue251
  t109 := Tryz.underlying327
  a109 := Tryz.isAgg327
  z109 := Tryz.sizeOf327
  v109 := Tryz.zeroValue327
  t127 := Tryz.underlying294
  a127 := Tryz.isAgg294
  z127 := Tryz.sizeOf294
  v127 := Tryz.zeroValue294
  t146 := Tryz.underlying337
  a146 := Tryz.isAgg337
  z146 := Tryz.sizeOf337
  v146 := Tryz.zeroValue337
  t148 := Tryz.underlying339
  a148 := Tryz.isAgg339
  z148 := Tryz.sizeOf339
  v148 := Tryz.zeroValue339
  t164 := Tryz.underlying325
  a164 := Tryz.isAgg325
  z164 := Tryz.sizeOf325
  v164 := Tryz.zeroValue325 }
def Tryz.laysBS_ren : Go.Shelf.Ren := ⟨fun | 169 => 197 | n => n, fun | 70 => 263 | 9 => 9 | 0 => 0 | 72 => 265 | 37 => 22 | 127 => 294 | 3 => 3 | 5 => 5 | n => n, fun | n => n⟩
theorem Tryz.laysBS : Go.Proofs.Lays.n169 Tryz.prog Tryz.laysBS_ren := {
  mixed := by kernel_rfl
  f169 := Tryz.func197.trans (congrArg some (by kernel_rfl))
  t0 := Tryz.underlying0
  a0 := Tryz.isAgg0
  z0 := Tryz.sizeOf0
  v0 := Tryz.zeroValue0
  t3 := Tryz.underlying3
  a3 := Tryz.isAgg3
  z3 := Tryz.sizeOf3
  v3 := Tryz.zeroValue3
  t9 := Tryz.underlying9
  a9 := Tryz.isAgg9
  z9 := Tryz.sizeOf9
  v9 := Tryz.zeroValue9
  t37 := Tryz.underlying22
  a37 := Tryz.isAgg22
  z37 := Tryz.sizeOf22
  v37 := Tryz.zeroValue22
  t70 := Tryz.underlying263
  a70 := Tryz.isAgg263
  z70 := Tryz.sizeOf263
  v70 := Tryz.zeroValue263
  t72 := Tryz.underlying265
  a72 := Tryz.isAgg265
  z72 := Tryz.sizeOf265
  v72 := Tryz.zeroValue265
  t127 := Tryz.underlying294
  a127 := Tryz.isAgg294
  z127 := Tryz.sizeOf294
  v127 := Tryz.zeroValue294 }
def Tryz.laysAtoi_ren : Go.Shelf.Ren := ⟨fun | 172 => 182 | 244 => 220 | 245 => 221 | 247 => 259 | 279 => 260 | 280 => 261 | 281 => 262 | 282 => 263 | 287 => 281 | 316 => 282 | 171 => 83 | 205 => 283 | 321 => 290 | 322 => 291 | 243 => 125 | 246 => 169 | 283 => 205 | 284 => 206 | 285 => 207 | 286 => 208 | 129 => 104 | 317 => 234 | 318 => 235 | 319 => 236 | 320 => 237 | 337 => 276 | 338 => 277 | n => n, fun | 9 => 9 | 3 => 3 | 75 => 250 | 76 => 251 | 4 => 4 | 5 => 5 | 167 => 314 | 37 => 22 | 0 => 0 | 85 => 315 | 2 => 2 | 168 => 317 | 53 => 178 | 175 => 332 | 46 => 125 | 210 => 335 | 127 => 294 | 145 => 348 | 143 => 346 | 21 => 21 | 171 => 274 | 173 => 276 | 212 => 302 | 51 => 176 | 20 => 20 | 213 => 303 | 232 => 342 | 233 => 343 | 80 => 267 | n => n, fun | 15 => 4 | 16 => 5 | 17 => 1 | 18 => 6 | 19 => 7 | n => n⟩
theorem Tryz.laysAtoi : Go.Proofs.LaysC.n172 Tryz.prog Tryz.laysAtoi_ren := {
  mixed := by kernel_rfl
  f129 := Tryz.func104.trans (congrArg some (by kernel_rfl))
  f171 := Tryz.func83.trans (congrArg some (by kernel_rfl))
  f172 := Tryz.func182.trans (congrArg some (by kernel_rfl))
  f205 := Tryz.func283.trans (congrArg some (by kernel_rfl))
  f243 := Tryz.func125.trans (congrArg some (by kernel_rfl))
  f244 := Tryz.func220.trans (congrArg some (by kernel_rfl))
  f245 := Tryz.func221.trans (congrArg some (by kernel_rfl))
  f246 := Tryz.func169.trans (congrArg some (by kernel_rfl))
  f247 := Tryz.func259.trans (congrArg some (by kernel_rfl))
  f279 := Tryz.func260.trans (congrArg some (by kernel_rfl))
  f280 := Tryz.func261.trans (congrArg some (by kernel_rfl))
  f281 := Tryz.func262.trans (congrArg some (by kernel_rfl))
  f282 := Tryz.func263.trans (congrArg some (by kernel_rfl))
  f283 := Tryz.func205.trans (congrArg some (by kernel_rfl))
  f284 := Tryz.func206.trans (congrArg some (by kernel_rfl))
  f285 := Tryz.func207.trans (congrArg some (by kernel_rfl))
  f286 := Tryz.func208.trans (congrArg some (by kernel_rfl))
  f287 := Tryz.func281.trans (congrArg some (by kernel_rfl))
  f316 := Tryz.func282.trans (congrArg some (by kernel_rfl))
  f317 := Tryz.func234.trans (congrArg some (by kernel_rfl))
  f318 := Tryz.func235.trans (congrArg some (by kernel_rfl))
  f319 := Tryz.func236.trans (congrArg some (by kernel_rfl))
  f320 := Tryz.func237.trans (congrArg some (by kernel_rfl))
  f321 := Tryz.func290.trans (congrArg some (by kernel_rfl))
  f322 := Tryz.func291.trans (congrArg some (by kernel_rfl))
  f337 := Tryz.func276.trans (congrArg some (by kernel_rfl))
  f338 := Tryz.func277.trans (congrArg some (by kernel_rfl))
  t0 := Tryz.underlying0
  a0 := Tryz.isAgg0
  z0 := Tryz.sizeOf0
  v0 := Tryz.zeroValue0
  t2 := Tryz.underlying2
  a2 := Tryz.isAgg2
  z2 := Tryz.sizeOf2
  v2 := Tryz.zeroValue2
  t3 := Tryz.underlying3
  a3 := Tryz.isAgg3
  z3 := Tryz.sizeOf3
  v3 := Tryz.zeroValue3
  t4 := Tryz.underlying4
  a4 := Tryz.isAgg4
  z4 := Tryz.sizeOf4
  v4 := Tryz.zeroValue4
  t5 := Tryz.underlying5
  a5 := Tryz.isAgg5
  z5 := Tryz.sizeOf5
  v5 := Tryz.zeroValue5
  t9 := Tryz.underlying9
  a9 := Tryz.isAgg9
  z9 := Tryz.sizeOf9
  v9 := Tryz.zeroValue9
  t20 := Tryz.underlying20
  a20 := Tryz.isAgg20
  z20 := Tryz.sizeOf20
  v20 := Tryz.zeroValue20
  t21 := Tryz.underlying21
  a21 := Tryz.isAgg21
  z21 := Tryz.sizeOf21
  v21 := Tryz.zeroValue21
  t37 := Tryz.underlying22
  a37 := Tryz.isAgg22
  z37 := Tryz.sizeOf22
  v37 := Tryz.zeroValue22
  t46 := Tryz.underlying125
  a46 := Tryz.isAgg125
  z46 := Tryz.sizeOf125
  v46 := Tryz.zeroValue125
  t51 := Tryz.underlying176
  a51 := Tryz.isAgg176
  z51 := Tryz.sizeOf176
  v51 := Tryz.zeroValue176
  t53 := Tryz.underlying178
  a53 := Tryz.isAgg178
  z53 := Tryz.sizeOf178
  v53 := Tryz.zeroValue178
  t75 := Tryz.underlying250
  a75 := Tryz.isAgg250
  z75 := Tryz.sizeOf250
  v75 := Tryz.zeroValue250
  t76 := Tryz.underlying251
  a76 := Tryz.isAgg251
  z76 := Tryz.sizeOf251
  v76 := Tryz.zeroValue251
  t85 := Tryz.underlying315
  a85 := Tryz.isAgg315
  z85 := Tryz.sizeOf315
  v85 := Tryz.zeroValue315
  t127 := Tryz.underlying294
  a127 := Tryz.isAgg294
  z127 := Tryz.sizeOf294
  v127 := Tryz.zeroValue294
  t143 := Tryz.underlying346
  a143 := Tryz.isAgg346
  z143 := Tryz.sizeOf346
  v143 := Tryz.zeroValue346
  t145 := Tryz.underlying348
  a145 := Tryz.isAgg348
  z145 := Tryz.sizeOf348
  v145 := Tryz.zeroValue348
  t167 := Tryz.underlying314
  a167 := Tryz.isAgg314
  z167 := Tryz.sizeOf314
  v167 := Tryz.zeroValue314
  t168 := Tryz.underlying317
  a168 := Tryz.isAgg317
  z168 := Tryz.sizeOf317
  v168 := Tryz.zeroValue317
  t171 := Tryz.underlying274
  a171 := Tryz.isAgg274
  z171 := Tryz.sizeOf274
  v171 := Tryz.zeroValue274
  t173 := Tryz.underlying276
  a173 := Tryz.isAgg276
  z173 := Tryz.sizeOf276
  v173 := Tryz.zeroValue276
  t175 := Tryz.underlying332
  a175 := Tryz.isAgg332
  z175 := Tryz.sizeOf332
  v175 := Tryz.zeroValue332
  t210 := Tryz.underlying335
  a210 := Tryz.isAgg335
  z210 := Tryz.sizeOf335
  v210 := Tryz.zeroValue335
  t212 := Tryz.underlying302
  a212 := Tryz.isAgg302
  z212 := Tryz.sizeOf302
  v212 := Tryz.zeroValue302
  t213 := Tryz.underlying303
  a213 := Tryz.isAgg303
  z213 := Tryz.sizeOf303
  t232 := Tryz.underlying342
  a232 := Tryz.isAgg342
  z232 := Tryz.sizeOf342
  v232 := Tryz.zeroValue342
  t233 := Tryz.underlying343
  a233 := Tryz.isAgg343
  z233 := Tryz.sizeOf343
  v233 := Tryz.zeroValue343
  g15 := by kernel_rfl
  g16 := by kernel_rfl
  g17 := by kernel_rfl
  g18 := by kernel_rfl
  g19 := by kernel_rfl
  t80 := Tryz.underlying267
  a80 := Tryz.isAgg267
  z80 := Tryz.sizeOf267
  v80 := Tryz.zeroValue267
  i0 := by kernel_rfl
  i2 := by kernel_rfl
  i3 := by kernel_rfl
  i4 := by kernel_rfl
  i5 := by kernel_rfl
  i9 := by kernel_rfl
  i20 := by kernel_rfl
  i21 := by kernel_rfl
  i37 := by kernel_rfl
  i46 := by kernel_rfl
  i51 := by kernel_rfl
  i53 := by kernel_rfl
  i75 := by kernel_rfl
  i76 := by kernel_rfl
  i80 := by kernel_rfl
  i85 := by kernel_rfl
  i127 := by kernel_rfl
  i143 := by kernel_rfl
  i145 := by kernel_rfl
  i167 := by kernel_rfl
  i168 := by kernel_rfl
  i171 := by kernel_rfl
  i173 := by kernel_rfl
  i175 := by kernel_rfl
  i210 := by kernel_rfl
  i212 := by kernel_rfl
  i232 := by kernel_rfl
  i233 := by kernel_rfl
  m15 := by kernel_rfl
  m16 := by kernel_rfl
  m17 := by kernel_rfl
  m18 := by kernel_rfl
  m19 := by kernel_rfl
  c0 := by kernel_rfl
  c2 := by kernel_rfl
  c3 := by kernel_rfl
  c4 := by kernel_rfl
  c5 := by kernel_rfl
  c9 := by kernel_rfl
  c20 := by kernel_rfl
  c21 := by kernel_rfl
  c37 := by kernel_rfl
  c46 := by kernel_rfl
  c51 := by kernel_rfl
  c53 := by kernel_rfl
  c75 := by kernel_rfl
  c76 := by kernel_rfl
  c80 := by kernel_rfl
  c85 := by kernel_rfl
  c127 := by kernel_rfl
  c143 := by kernel_rfl
  c145 := by kernel_rfl
  c167 := by kernel_rfl
  c168 := by kernel_rfl
  c171 := by kernel_rfl
  c173 := by kernel_rfl
  c175 := by kernel_rfl
  c210 := by kernel_rfl
  c212 := by kernel_rfl
  c213 := by kernel_rfl
  c232 := by kernel_rfl
  c233 := by kernel_rfl }
def Tryz.laysWR_ren : Go.Shelf.Ren := ⟨fun | 168 => 196 | 240 => 227 | 242 => 228 | 276 => 267 | 278 => 268 | n => n, fun | 70 => 263 | 21 => 21 | 3 => 3 | 75 => 250 | 0 => 0 | 72 => 265 | 37 => 22 | 4 => 4 | 164 => 325 | 51 => 176 | 5 => 5 | 46 => 125 | 80 => 267 | 9 => 9 | n => n, fun | n => n⟩
theorem Tryz.laysWR : Go.Proofs.Lays.n168 Tryz.prog Tryz.laysWR_ren := {
  mixed := by kernel_rfl
  f168 := Tryz.func196.trans (congrArg some (by kernel_rfl))
  f240 := Tryz.func227.trans (congrArg some (by kernel_rfl))
  f242 := Tryz.func228.trans (congrArg some (by kernel_rfl))
  f276 := Tryz.func267.trans (congrArg some (by kernel_rfl))
  f278 := Tryz.func268.trans (congrArg some (by kernel_rfl))
  t0 := Tryz.underlying0
  a0 := Tryz.isAgg0
  z0 := Tryz.sizeOf0
  v0 := Tryz.zeroValue0
  t3 := Tryz.underlying3
  a3 := Tryz.isAgg3
  z3 := Tryz.sizeOf3
  v3 := Tryz.zeroValue3
  t4 := Tryz.underlying4
  a4 := Tryz.isAgg4
  z4 := Tryz.sizeOf4
  v4 := Tryz.zeroValue4
  t5 := Tryz.underlying5
  a5 := Tryz.isAgg5
  z5 := Tryz.sizeOf5
  v5 := Tryz.zeroValue5
  t9 := Tryz.underlying9
  a9 := Tryz.isAgg9
  z9 := Tryz.sizeOf9
  v9 := Tryz.zeroValue9
  t20 := Tryz.underlying20
  a20 := Tryz.isAgg20
  z20 := Tryz.sizeOf20
  v20 := Tryz.zeroValue20
  t21 := Tryz.underlying21
  a21 := Tryz.isAgg21
  z21 := Tryz.sizeOf21
  v21 := Tryz.zeroValue21
  t37 := Tryz.underlying22
  a37 := Tryz.isAgg22
  z37 := Tryz.sizeOf22
  v37 := Tryz.zeroValue22
  t46 := Tryz.underlying125
  a46 := Tryz.isAgg125
  z46 := Tryz.sizeOf125
  v46 := Tryz.zeroValue125
  t51 := Tryz.underlying176
  a51 := Tryz.isAgg176
  z51 := Tryz.sizeOf176
  v51 := Tryz.zeroValue176
  t70 := Tryz.underlying263
  a70 := Tryz.isAgg263
  z70 := Tryz.sizeOf263
  v70 := Tryz.zeroValue263
  t72 := Tryz.underlying265
  a72 := Tryz.isAgg265
  z72 := Tryz.sizeOf265
  v72 := Tryz.zeroValue265
  t75 := Tryz.underlying250
  a75 := Tryz.isAgg250
  z75 := Tryz.sizeOf250
  v75 := Tryz.zeroValue250
  t164 := Tryz.underlying325
  a164 := Tryz.isAgg325
  z164 := Tryz.sizeOf325
  v164 := Tryz.zeroValue325 }
def Tryz.laysIdx_ren : Go.Shelf.Ren := ⟨fun | 219 => 258 | 217 => 279 | 225 => 257 | 224 => 256 | 267 => 280 | 266 => 288 | 314 => 289 | n => n, fun | 9 => 9 | 3 => 3 | 4 => 4 | 5 => 5 | 46 => 125 | 146 => 337 | 51 => 176 | n => n, fun | 1 => 0 | n => n⟩
theorem Tryz.laysIdx : Go.Proofs.Lays.n219 Tryz.prog Tryz.laysIdx_ren := {
  mixed := by kernel_rfl
  f217 := Tryz.func279.trans (congrArg some (by kernel_rfl))
  f219 := Tryz.func258.trans (congrArg some (by kernel_rfl))
  f224 := Tryz.func256.trans (congrArg some (by kernel_rfl))
  f225 := Tryz.func257.trans (congrArg some (by kernel_rfl))
  f266 := Tryz.func288.trans (congrArg some (by kernel_rfl))
  f267 := Tryz.func280.trans (congrArg some (by kernel_rfl))
  f314 := Tryz.func289.trans (congrArg some (by kernel_rfl))
  t3 := Tryz.underlying3
  a3 := Tryz.isAgg3
  z3 := Tryz.sizeOf3
  v3 := Tryz.zeroValue3
  t4 := Tryz.underlying4
  a4 := Tryz.isAgg4
  z4 := Tryz.sizeOf4
  v4 := Tryz.zeroValue4
  t5 := Tryz.underlying5
  a5 := Tryz.isAgg5
  z5 := Tryz.sizeOf5
  v5 := Tryz.zeroValue5
  t9 := Tryz.underlying9
  a9 := Tryz.isAgg9
  z9 := Tryz.sizeOf9
  v9 := Tryz.zeroValue9
  t46 := Tryz.underlying125
  a46 := Tryz.isAgg125
  z46 := Tryz.sizeOf125
  v46 := Tryz.zeroValue125
  t51 := Tryz.underlying176
  a51 := Tryz.isAgg176
  z51 := Tryz.sizeOf176
  v51 := Tryz.zeroValue176
  t146 := Tryz.underlying337
  a146 := Tryz.isAgg337
  z146 := Tryz.sizeOf337
  v146 := Tryz.zeroValue337
  g1 := by kernel_rfl }
def Tryz.laysAny_ren : Go.Shelf.Ren := ⟨fun | 153 => 179 | 152 => 214 | 226 => 215 | 227 => 216 | 228 => 217 | 137 => 254 | 119 => 255 | 224 => 256 | 225 => 257 | 217 => 279 | 266 => 288 | n => n, fun | 9 => 9 | 3 => 3 | 4 => 4 | 5 => 5 | 21 => 21 | 117 => 286 | 116 => 285 | 0 => 0 | 46 => 125 | 124 => 313 | n => n, fun | n => n⟩
theorem Tryz.laysAny : Go.Proofs.Lays.n153 Tryz.prog Tryz.laysAny_ren := {
  mixed := by kernel_rfl
  f119 := Tryz.func255.trans (congrArg some (by kernel_rfl))
  f137 := Tryz.func254.trans (congrArg some (by kernel_rfl))
  f152 := Tryz.func214.trans (congrArg some (by kernel_rfl))
  f153 := Tryz.func179.trans (congrArg some (by kernel_rfl))
  f217 := Tryz.func279.trans (congrArg some (by kernel_rfl))
  f224 := Tryz.func256.trans (congrArg some (by kernel_rfl))
  f225 := Tryz.func257.trans (congrArg some (by kernel_rfl))
  f226 := Tryz.func215.trans (congrArg some (by kernel_rfl))
  f227 := Tryz.func216.trans (congrArg some (by kernel_rfl))
  f228 := Tryz.func217.trans (congrArg some (by kernel_rfl))
  f266 := Tryz.func288.trans (congrArg some (by kernel_rfl))
  t0 := Tryz.underlying0
  a0 := Tryz.isAgg0
  z0 := Tryz.sizeOf0
  v0 := Tryz.zeroValue0
  t3 := Tryz.underlying3
  a3 := Tryz.isAgg3
  z3 := Tryz.sizeOf3
  v3 := Tryz.zeroValue3
  t4 := Tryz.underlying4
  a4 := Tryz.isAgg4
  z4 := Tryz.sizeOf4
  v4 := Tryz.zeroValue4
  t5 := Tryz.underlying5
  a5 := Tryz.isAgg5
  z5 := Tryz.sizeOf5
  v5 := Tryz.zeroValue5
  t9 := Tryz.underlying9
  a9 := Tryz.isAgg9
  z9 := Tryz.sizeOf9
  v9 := Tryz.zeroValue9
  t21 := Tryz.underlying21
  a21 := Tryz.isAgg21
  z21 := Tryz.sizeOf21
  v21 := Tryz.zeroValue21
  t46 := Tryz.underlying125
  a46 := Tryz.isAgg125
  z46 := Tryz.sizeOf125
  v46 := Tryz.zeroValue125
  t116 := Tryz.underlying285
  a116 := Tryz.isAgg285
  z116 := Tryz.sizeOf285
  t117 := Tryz.underlying286
  a117 := Tryz.isAgg286
  z117 := Tryz.sizeOf286
  v117 := Tryz.zeroValue286
  t124 := Tryz.underlying313
  a124 := Tryz.isAgg313
  z124 := Tryz.sizeOf313
  v124 := Tryz.zeroValue313 }
end Go.Proofs

/- Itoa: the worked proof of the kit, turned to what is known of the table's cells alone. -/
namespace Go.Proofs
open Go.Shelf Go.RowKit Go.Sort Go.Lib
variable {P : Program} {ρ : Ren}
/-- The powers of ten lie in the cells of the variable with this number. -/
def PowIs (g : Nat) (w : World) : Prop := ∀ i, i < 20 → w.cell? ⟨g, i, none⟩ = some (.int .u64 ((10 ^ i : Nat) : Int))
theorem PowIs.alloc {g : Nat} {w : World} (h : PowIs g w) (o : Obj) : PowIs g (w.alloc o) := fun i hi => by
  have := h i hi
  have hne : g ≠ w.heap.size := fun e => by
    simp_all[World.cell?]
  unfold World.cell? at this ⊢
  unfold World.alloc<;>simp_all[Array.getElem?_push]
set_option maxHeartbeats 2000000 in
set_option maxRecDepth 100000 in
/-- internal/strconv.numDigits, at a d that is not 0: THE NUMBER OF d's DECIMAL DIGITS. The world is as it was. -/
theorem AnyC.internal_strconv_numDigits (L : LaysM.n284 P ρ) (u : Nat) (h1 : 1 ≤ u) (h2 : u < 18446744073709551616) (w : World)
    (htab : PowIs (ρ.g 17) w) :
    Calls P (ρ.f 284) #[.int .u64 u] w fun e w' => e = .returned (.int .i64 (Lib.nDigits u)) ∧ w' = w := by
  have mixed := L.mixed
  have t53 := L.t53; have a53 := L.a53; have z53 := L.z53; have v53 := L.v53
  have t3 := L.t3; have a3 := L.a3; have z3 := L.z3; have v3 := L.v3
  have t212 := L.t212; have a212 := L.a212; have z212 := L.z212; have v212 := L.v212
  have t0 := L.t0; have a0 := L.a0; have z0 := L.z0; have v0 := L.v0
  have t4 := L.t4; have a4 := L.a4; have z4 := L.z4; have v4 := L.v4
  have e129 : ∀ args w, (callFunc (ρ.f 129) args).run P w = .ok (.enter (ρ.f 129) args) w := enters_of L.f129 (by kernel_rfl) rfl
  have e317 : ∀ args w, (callFunc (ρ.f 317) args).run P w = .ok (.enter (ρ.f 317) args) w := enters_of L.f317 (by kernel_rfl) rfl
  have e318 : ∀ args w, (callFunc (ρ.f 318) args).run P w = .ok (.enter (ρ.f 318) args) w := enters_of L.f318 (by kernel_rfl) rfl
  obtain ⟨hnd, h19⟩ := Lib.numDigits_eq u h1 h2
  have hL := Lib.bitLen_le u 64 (Nat.le_refl _) h2
  have hcell : w.cell? ⟨(ρ.g 17), Lib.l10 (Lib.bitLen u), none⟩ = some (.int .u64 ((10 ^ Lib.l10 (Lib.bitLen u) : Nat) : Int)) := by
    exact htab _ (by omega)
  have hto : ((u : Int)).toNat = u := by omega
  -- the two numbers under names (the equations stay: by them the walk writes the names in)
  generalize hq : Lib.l10 (Lib.bitLen u) = q at hnd h19 hcell
  generalize hT : 10 ^ q = T at hnd hcell
  have h20 : q < 20 := by omega
  have Hnd := Lib.hid hnd
  clear hnd htab
  go_enter L.f284, Body.n284_ntmps ρ
  go_wp2_with (first
    | (go_at_fn (ρ.f 129); refine (Any.bits_Len64 { L with } _ _ (by omega) (by omega)).mono ?_; rintro e w' ⟨rfl, rfl⟩)
    | (go_at_fn (ρ.f 317); refine (Any.internal_strconv_log10Pow2 { L with } _ (by grind) _).mono ?_; rintro e w' ⟨rfl, rfl⟩)
    | (go_at_fn (ρ.f 318); refine (Any.internal_strconv_bool2_int { L with } _ _).mono ?_; rintro e w' ⟨rfl, rfl⟩))
  all_goals go_ret
  all_goals (
    refine ⟨?_, rfl⟩
    have hnd := Hnd.out
    congr 2
    split at hnd <;> simp_all <;> omega)


set_option maxHeartbeats 6400000 in
set_option maxRecDepth 100000 in
/-- internal/strconv.FormatInt: "FormatInt returns the string representation of i in the given base": AT BASE 10: i's decimal numeral, for every int64. The world behind the call: the world before it, new blocks behind the heap, draws. -/
theorem AnyC.internal_strconv_FormatInt_10 (L : LaysM.n246 P ρ) (n : Int) (h0 : -9223372036854775808 ≤ n) (h1 : n ≤ 9223372036854775807) (w : World)
    (htab : PowIs (ρ.g 17) w) :
    Calls P (ρ.f 246) #[.int .i64 n, .int .i64 10] w fun e w' => e = .returned (.string ⟨(Lib.itoa n).toArray⟩) ∧ ∃ k os, w' = grow (w.drewN k) os := by
  have mixed := L.mixed
  have t2 := L.t2; have a2 := L.a2; have z2 := L.z2; have v2 := L.v2
  have t3 := L.t3; have a3 := L.a3; have z3 := L.z3; have v3 := L.v3
  have t9 := L.t9; have a9 := L.a9; have z9 := L.z9; have v9 := L.v9
  have t4 := L.t4; have a4 := L.a4; have z4 := L.z4; have v4 := L.v4
  have t171 := L.t171; have a171 := L.a171; have z171 := L.z171; have v171 := L.v171
  have t0 := L.t0; have a0 := L.a0; have z0 := L.z0; have v0 := L.v0
  have t53 := L.t53; have a53 := L.a53; have z53 := L.z53; have v53 := L.v53
  have t37 := L.t37; have a37 := L.a37; have z37 := L.z37; have v37 := L.v37
  have t5 := L.t5; have a5 := L.a5; have z5 := L.z5; have v5 := L.v5
  have t173 := L.t173; have a173 := L.a173; have z173 := L.z173; have v173 := L.v173
  have e283 : ∀ args w, (callFunc (ρ.f 283) args).run P w = .ok (.enter (ρ.f 283) args) w := enters_of L.f283 (by kernel_rfl) rfl
  have e284 : ∀ args w, (callFunc (ρ.f 284) args).run P w = .ok (.enter (ρ.f 284) args) w := enters_of L.f284 (by kernel_rfl) rfl
  have e285 : ∀ args w, (callFunc (ρ.f 285) args).run P w = .ok (.enter (ρ.f 285) args) w := enters_of L.f285 (by kernel_rfl) rfl
  by_cases hs : 0 ≤ n ∧ n < 100
  · -- 0 .. 99: two constants
    obtain ⟨i, rfl⟩ : ∃ i : Nat, n = i := ⟨n.toNat, by omega⟩
    have hi : i < 100 := by omega
    go_enter L.f246, Body.n246_ntmps ρ
    go_wp2_with (go_at_fn (ρ.f 283); refine (Any.internal_strconv_small { L with } i hi _).mono ?_; rintro e w' ⟨rfl, rfl⟩)
    go_ret
    refine ⟨?_, 0, #[], by simp [World.drewN_zero]⟩
    rw [Lib.itoa_nonneg]
    rfl
  · by_cases hneg : n < 0
    · obtain ⟨u, rfl⟩ : ∃ u : Nat, n = -(u : Int) := ⟨n.natAbs, by omega⟩
      have hu1 : 1 ≤ u := by omega
      have hu64 : u < 18446744073709551616 := by omega
      have hnd20 : Lib.nDigits u ≤ 20 := by have := Lib.numDigits_eq u hu1 hu64; split at this <;> omega
      -- 'u := uint64(i); u = -u', for the walk to take
      have hwr : IntKind.u64.wrap (-IntKind.u64.wrap (-(u : Int))) = (u : Int) := by rw [IntKind.wrap_u64, IntKind.wrap_u64]; omega
      have hb3 : Lib.nDigits u ≤ 23 := by omega
      have hal : P.arrayLen (ρ.t 171) = 24 := by simp [Program.arrayLen, L.t171]
      -- 'a[1 : 1+nd]', for the walk to take
      have hsl1 : ∀ W, (Instr.sliceAt (ρ.t 171) (.pointer (some ⟨w.heap.size, 0, none⟩)) (some (.int .i64 1)) (some (.int .i64 (1 + (Lib.nDigits u : Int)))) none).run P W = .ok (.slice (some ⟨w.heap.size, 1, none⟩) (Lib.nDigits u) 23) W := fun W => by
        rw [run_sliceAt_array_lh W (ρ.t 171) ⟨w.heap.size, 0, none⟩ (by grind[Program.elem]) .i64 .i64 1 (1 + (Lib.nDigits u : Int)) (by omega) (by omega) (by grind)]
        go_simp
        omega
      -- formatBase10's contract at the new block's row of zeros
      have hH0 := Lib.holds_zero w (ρ.t 171) (Lib.nDigits u) (by omega)
      have hfmt := Any.internal_strconv_formatBase10 { L with } w.heap.size 1 23 u (Array.replicate (Lib.nDigits u) 0) (w.alloc (.cells Lib.zeros24 (ρ.t 171))) hH0 (by grind[Lib.lt_pow_nDigits]) hu64 (by grind)
      rw [Array.size_replicate] at hfmt
      have HH0 := Lib.hid hH0
      clear hH0 hal
      go_enter L.f246, Body.n246_ntmps ρ
      go_wp2_with (first
        | (go_at_fn (ρ.f 284); refine (AnyC.internal_strconv_numDigits { L with } u hu1 hu64 _ (htab.alloc _)).mono ?_; rintro e w' ⟨rfl, rfl⟩))
      go_at_fn (ρ.f 285)
      refine hfmt.mono ?_
      rintro e w' ⟨rfl, k, v', dk, rfl, hF⟩
      -- 'a[0] = '-'': its cell, in the world behind formatBase10
      have hc0 : ((putRow (fun (b : UInt8) => Value.int .u8 (b.toNat : Int)) (w.alloc (.cells Lib.zeros24 (ρ.t 171))) w.heap.size 1 dk).drewN k).cell? ⟨w.heap.size, 0, none⟩ = some (.int .u8 0) := by
        rw [World.cell?_drewN, cell?_putRow_other _ _ _ _ _ _ (Or.inr (Or.inl (Nat.zero_lt_one))), World.cell?_alloc_new]
        exact Lib.zeros24_at 0 (by omega)
      have hf0 : ((putRow (fun (b : UInt8) => Value.int .u8 (b.toNat : Int)) (w.alloc (.cells Lib.zeros24 (ρ.t 171))) w.heap.size 1 dk).drewN k).frozen? ⟨w.heap.size, 0, none⟩ = false := by
        rw [World.frozen?_drewN, frozen?_putRow]
        exact World.frozen?_alloc_new _ _ _ _
      -- 'a[: 1+nd]', for the walk to take
      have hal : P.arrayLen (ρ.t 171) = 24 := by simp [Program.arrayLen, L.t171]
      have hsl2 : ∀ W, (Instr.sliceAt (ρ.t 171) (.pointer (some ⟨w.heap.size, 0, none⟩)) none (some (.int .i64 (1 + (Lib.nDigits u : Int)))) none).run P W = .ok (.slice (some ⟨w.heap.size, 0, none⟩) (1 + Lib.nDigits u) 24) W := fun W => by
        rw [run_sliceAt_array_h W (ρ.t 171) ⟨w.heap.size, 0, none⟩ (by simp_all[Program.elem]) .i64 (1 + (Lib.nDigits u : Int)) (by omega) (by omega)]
        go_simp
        omega
      clear hal
      -- 'string(a[: 1+nd])', for the walk to take: '-', then the numeral
      have hcv : (convert (ρ.t 37) (ρ.t 9) (.slice (some ⟨w.heap.size, 0, none⟩) (1 + Lib.nDigits u) 24)).run P (((putRow (fun (b : UInt8) => Value.int .u8 (b.toNat : Int)) (w.alloc (.cells Lib.zeros24 (ρ.t 171))) w.heap.size 1 dk).drewN k).setCell ⟨w.heap.size, 0, none⟩ (.int .u8 45)) = .ok (.string ⟨(45 :: Lib.decDigits u).toArray⟩) (((putRow (fun (b : UInt8) => Value.int .u8 (b.toNat : Int)) (w.alloc (.cells Lib.zeros24 (ρ.t 171))) w.heap.size 1 dk).drewN k).setCell ⟨w.heap.size, 0, none⟩ (.int .u8 45)) := by
        have h := run_convert_bytes_back (P := P) (((putRow (fun (b : UInt8) => Value.int .u8 (b.toNat : Int)) (w.alloc (.cells Lib.zeros24 (ρ.t 171))) w.heap.size 1 dk).drewN k).setCell ⟨w.heap.size, 0, none⟩ (.int .u8 45)) (ρ.t 37) (ρ.t 9) (ρ.t 5) ⟨w.heap.size, 0, none⟩ 24 (45 :: Lib.decDigits u) L.t37 L.t5 L.t9 (fun j hj => by
          rw [Lib.add_plain]
          cases j with
          | zero => simp_all[World.cell?_setCell_same]
          | succ i =>
            have hi : i < (Lib.decDigits u).length := by simpa using hj
            rw [World.cell?_setCell_other _ _ _ _ (by simp), List.getElem_cons_succ, Lib.row_is_numeral hF i hi, World.cell?_drewN, show 0 + (i + 1) = 1 + i by omega]
            exact cell?_putRow (fun (b : UInt8) => Value.int .u8 (b.toNat : Int)) _ w.heap.size 1 _ dk HH0.out (by rw [hF.size, Array.size_replicate]) i (by rw [hF.size]<;>simp_all[Lib.decDigits_length]))
        rw [List.length_cons, Lib.decDigits_length, Nat.add_comm] at h
        exact h
      go_wp2
      go_ret
      obtain ⟨os, eo⟩ := Lib.fin_neg w (.cells Lib.zeros24 (ρ.t 171)) dk k (.int .u8 45)
      refine ⟨?_, k, os, eo⟩
      rw [Lib.itoa_neg u hu1]
      rfl
    · obtain ⟨u, rfl⟩ : ∃ u : Nat, n = u := ⟨n.toNat, by omega⟩
      have hu1 : 1 ≤ u := by omega
      have hu64 : u < 18446744073709551616 := by omega
      have hnd20 : Lib.nDigits u ≤ 20 := by have := Lib.numDigits_eq u hu1 hu64; split at this <;> omega
      have hb3 : Lib.nDigits u ≤ 23 := by omega
      have hal : P.arrayLen (ρ.t 171) = 24 := by simp [Program.arrayLen, L.t171]
      -- 'a[1 : 1+nd]', for the walk to take
      have hsl1 : ∀ W, (Instr.sliceAt (ρ.t 171) (.pointer (some ⟨w.heap.size, 0, none⟩)) (some (.int .i64 1)) (some (.int .i64 (1 + (Lib.nDigits u : Int)))) none).run P W = .ok (.slice (some ⟨w.heap.size, 1, none⟩) (Lib.nDigits u) 23) W := fun W => by
        rw [run_sliceAt_array_lh W (ρ.t 171) ⟨w.heap.size, 0, none⟩ (by grind[Program.elem]) .i64 .i64 1 (1 + (Lib.nDigits u : Int)) (by omega) (by omega) (by grind)]
        go_simp
        omega
      -- formatBase10's contract at the new block's row of zeros
      have hH0 := Lib.holds_zero w (ρ.t 171) (Lib.nDigits u) (by omega)
      have hfmt := Any.internal_strconv_formatBase10 { L with } w.heap.size 1 23 u (Array.replicate (Lib.nDigits u) 0) (w.alloc (.cells Lib.zeros24 (ρ.t 171))) hH0 (by grind[Lib.lt_pow_nDigits]) hu64 (by grind)
      rw [Array.size_replicate] at hfmt
      have HH0 := Lib.hid hH0
      clear hH0 hal
      go_enter L.f246, Body.n246_ntmps ρ
      go_wp2_with (first
        | (go_at_fn (ρ.f 284); refine (AnyC.internal_strconv_numDigits { L with } u hu1 hu64 _ (htab.alloc _)).mono ?_; rintro e w' ⟨rfl, rfl⟩))
      go_at_fn (ρ.f 285)
      refine hfmt.mono ?_
      rintro e w' ⟨rfl, k, v', dk, rfl, hF⟩
      -- 'string(a[1 : 1+nd])', for the walk to take: the row reads as the numeral
      have hcv : (convert (ρ.t 37) (ρ.t 9) (.slice (some ⟨w.heap.size, 1, none⟩) (Lib.nDigits u) 23)).run P ((putRow (fun (b : UInt8) => Value.int .u8 (b.toNat : Int)) (w.alloc (.cells Lib.zeros24 (ρ.t 171))) w.heap.size 1 dk).drewN k) = .ok (.string ⟨(Lib.decDigits u).toArray⟩) ((putRow (fun (b : UInt8) => Value.int .u8 (b.toNat : Int)) (w.alloc (.cells Lib.zeros24 (ρ.t 171))) w.heap.size 1 dk).drewN k) := by
        have h := run_convert_bytes_back (P := P) ((putRow (fun (b : UInt8) => Value.int .u8 (b.toNat : Int)) (w.alloc (.cells Lib.zeros24 (ρ.t 171))) w.heap.size 1 dk).drewN k) (ρ.t 37) (ρ.t 9) (ρ.t 5) ⟨w.heap.size, 1, none⟩ 23 (Lib.decDigits u) L.t37 L.t5 L.t9 (fun j hj => by
          rw [Lib.row_is_numeral hF j hj, Lib.add_plain, World.cell?_drewN]
          exact cell?_putRow (fun (b : UInt8) => Value.int .u8 (b.toNat : Int)) _ w.heap.size 1 _ dk HH0.out (by rw [hF.size, Array.size_replicate]) j (by rw [hF.size]<;>simp_all[Lib.decDigits_length]))
        rw [Lib.decDigits_length] at h
        exact h
      go_wp2
      go_ret
      obtain ⟨os, eo⟩ := Lib.fin_pos w (.cells Lib.zeros24 (ρ.t 171)) dk k
      refine ⟨?_, k, os, eo⟩
      rw [Lib.itoa_nonneg]
      rfl

set_option maxRecDepth 100000 in
/-- internal/strconv.Itoa: "Itoa is equivalent to FormatInt(int64(i), 10).": i's decimal numeral, for every int. -/
theorem AnyC.internal_strconv_Itoa (L : LaysM.n243 P ρ) (n : Int) (h0 : -9223372036854775808 ≤ n) (h1 : n ≤ 9223372036854775807) (w : World)
    (htab : PowIs (ρ.g 17) w) :
    Calls P (ρ.f 243) #[.int .i64 n] w fun e w' => e = .returned (.string ⟨(Lib.itoa n).toArray⟩) ∧ ∃ k os, w' = grow (w.drewN k) os := by
  have mixed := L.mixed
  have t3 := L.t3; have a3 := L.a3; have z3 := L.z3; have v3 := L.v3
  have t9 := L.t9; have a9 := L.a9; have z9 := L.z9; have v9 := L.v9
  have t2 := L.t2; have a2 := L.a2; have z2 := L.z2; have v2 := L.v2
  have e246 : ∀ args w, (callFunc (ρ.f 246) args).run P w = .ok (.enter (ρ.f 246) args) w := enters_of L.f246 (by kernel_rfl) rfl
  go_enter L.f243, Body.n243_ntmps ρ
  go_wp2_with (go_at_fn (ρ.f 246); refine (AnyC.internal_strconv_FormatInt_10 { L with } n h0 h1 _ htab).mono ?_; rintro e w' ⟨rfl, k, os, rfl⟩)
  go_ret
  exact ⟨rfl, k, os, rfl⟩

set_option maxRecDepth 100000 in
/-- strconv.Itoa: "Itoa is equivalent to FormatInt(int64(i), 10).": i's DECIMAL NUMERAL ('Lib.itoa': a '-' where i is negative, then the digits), FOR EVERY int. The world behind the call: the world before it, new blocks behind the heap (the library's 'var a [24]byte'), draws. -/
theorem AnyC.strconv_Itoa (L : LaysM.n171 P ρ) (n : Int) (h0 : -9223372036854775808 ≤ n) (h1 : n ≤ 9223372036854775807) (w : World)
    (htab : PowIs (ρ.g 17) w) :
    Calls P (ρ.f 171) #[.int .i64 n] w fun e w' => e = .returned (.string ⟨(Lib.itoa n).toArray⟩) ∧ ∃ k os, w' = grow (w.drewN k) os := by
  have mixed := L.mixed
  have t3 := L.t3; have a3 := L.a3; have z3 := L.z3; have v3 := L.v3
  have t9 := L.t9; have a9 := L.a9; have z9 := L.z9; have v9 := L.v9
  have e243 : ∀ args w, (callFunc (ρ.f 243) args).run P w = .ok (.enter (ρ.f 243) args) w := enters_of L.f243 (by kernel_rfl) rfl
  go_enter L.f171, Body.n171_ntmps ρ
  go_wp2_with (go_at_fn (ρ.f 243); refine (AnyC.internal_strconv_Itoa { L with } n h0 h1 _ htab).mono ?_; rintro e w' ⟨rfl, k, os, rfl⟩)
  go_ret
  exact ⟨rfl, k, os, rfl⟩

end Go.Proofs
