/- slices.Insert at the slots: what it says to its caller. -/
import Derived.WalkKit
import Derived.Deep.LoopGhost
import Derived.Shelf.Spec.SlicesInsertGrow
import Derived.Laws.AppendOwn
import Derived.Shelf.Slices.Clone
import Derived.Shelf.Unicode.ValidAny
import Derived.Shelf.Strings.IndexAnyAll
import Derived.LaidMore
import Derived.LaidSub
import Derived.Test.YtbfnfldmnombgaaGreatDoorRows
import Derived.Lay
import Derived.OpenShut
import Derived.ProofKit
import Derived.Test.YtbfnfldmnombgaaGreatDoorEmQ7
import Derived.Test.YtbfnfldmnombgaaGreatDoorEmQ8
import Derived.Test.YtbfnfldmnombgaaGreatDoorEmQ10
import Derived.Test.YtbfnfldmnombgaaGreatDoorQ11
import Derived.Test.YtbfnfldmnombgaaGreatDoorQ22
namespace Go.Proofs.YtbfnfldmnombgaaGreatDoor.Im
open Go.Em Go.RowKit Go.Lib

section
variable {P : Program} {R : CodeRel} {K : Kn}
theorem post_move {w w' : World} {c0 c' : CB} {sz : Nat} {rows new : List (List X)} {res : X} {v : Value} (hI : Inv P R K [c0] [.row sz rows] w) (hf : FrameOk c0.owns w w') (hown : ∀ b o, c'.owns b o → c0.owns b o ∨ w.heap.size ≤ b)
    (hB : BoxOk P R K ([c0] ++ [c']) w' (.row sz new) c') (hres : Rep K ([c0] ++ [c']) res v) : Post P R K [c0] [.row sz rows] w res [.dead, .row sz new] (.returned v) w' := by
  have hdead : ∀ b o, ¬ Owns [c0] [Bx.dead] b o := by
    rintro b o ⟨i, c, B, h1, h2, h3, h4⟩
    cases i with
    | zero => simp at h2; subst h2; simp [Bx.live] at h3
    | succ i => simp at h2
  have hin : ∀ b o, c0.owns b o → Owns [c0] [Bx.row sz rows] b o := fun b o h => ⟨0, c0, .row sz rows, rfl, rfl, rfl, h⟩
  have hk := hI.kill 0
  have hk' : Inv P R K [c0] [.dead] w' := Inv.frame hk hf (fun b o v e ho => by
    have := hI.apart b o (hin b o ho); rw [this] at e; cases e) (fun b o ho => absurd ho (hdead b o))
  refine ⟨v, K, [c'], rfl, ⟨hk'.push hB (fun b o ho => ?_) (fun b o _ => hdead b o), hres, KLe.refl _, fun b o u e => .inl e, fun b o ho => ?_, hf.mono fun b o _ h => hin b o h, fun i B e hl => ?_⟩⟩
  · rcases hown b o ho with h | h
    · exact hI.apart b o (hin b o h)
    · cases hk : K b o with
      | none => rfl
      | some u => have := hI.known_lt hk; omega
  · obtain ⟨i, c, B, h1, h2, h3, h4⟩ := ho
    match i, h1, h2 with
    | 0, h1, h2 => simp at h2; subst h2; simp [Bx.live] at h3
    | 1, h1, h2 =>
      simp at h1; subst h1
      rcases hown b o h4 with h | h
      · exact .inl (hin b o h)
      · exact .inr h
    | i + 2, h1, h2 => simp at h2
  · cases i with
    | zero => simp at e; subst e; cases hl
    | succ i => simp at e

theorem splice_get (l vs : List Value) (o q : Nat) (h : o + vs.length ≤ l.length) : (l.take o ++ vs ++ l.drop (o + vs.length)).toArray[q]? = if q < o then l[q]? else if q < o + vs.length then vs[q - o]? else l[q]? := by
  have hT : (l.take o).length = o := by rw [List.length_take]; omega
  rw [List.getElem?_toArray]
  by_cases h5 : q < o
  · rw [if_pos h5, List.append_assoc, List.getElem?_append_left (by omega), List.getElem?_take, if_pos h5]
  · rw [if_neg h5, List.append_assoc, List.getElem?_append_right (by omega), hT]
    by_cases h6 : q < o + vs.length
    · rw [if_pos h6, List.getElem?_append_left (by omega)]
    · rw [if_neg h6, List.getElem?_append_right (by omega), List.getElem?_drop]
      congr 1; omega
theorem setCells_row (W : World) (b o : Nat) (arr : Array Value) (el : TypeId) (vs : List Value) (hb : W.heap[b]? = some (.cells arr el (0, 0))) (hl : o + vs.length ≤ arr.size) (h1 : ∀ v ∈ vs, v.oneCell' = true) :
    W.setCells b o vs = W.setRow b (arr.toList.take o ++ vs ++ arr.toList.drop (o + vs.length)).toArray := by
  have hc : ∀ j, j < vs.length → (W.cell? ⟨b, o + j, none⟩).isSome = true := fun j hj => by
    simp only [World.cell?, hb]
    rw [Array.getElem?_eq_getElem (by omega)]; rfl
  have hf : ∀ j, j < vs.length → W.frozen? ⟨b, o + j, none⟩ = false := fun j hj => by simp [World.frozen?, hb]
  have e1 := run_storeCells_cells (P := Tryz.prog) b o vs 0 W (by simpa using hc) (by simpa using hf) h1
  have e2 := run_storeCells_at Tryz.prog b o el vs 0 arr W hb (by omega) h1
  rw [e1] at e2
  simp only [Nat.add_zero] at e2
  injection e2

/-- The new row, where the elements lay or in a place of its own. -/
theorem ins_flat {K : Kn} {rows : List (List X)} {x : List X} {cs vs : List Value} (hf : Flat K 10 rows cs) (hv : Flat K 10 [x] vs) (i : Nat) : Flat K 10 (rows.take i ++ [x] ++ rows.drop i) (cs.take (i * 10) ++ vs ++ cs.drop (i * 10)) :=
  ((hf.take i).append hv).append (hf.drop i)
theorem ins_get {cs vs : List Value} {n i k : Nat} {v : Value} (hcl : cs.length = n * 10) (hvl : vs.length = 10) (hi : i ≤ n) (h : (cs.take (i * 10) ++ vs ++ cs.drop (i * 10))[k]? = some v) :
    (k < i * 10 ∧ cs[k]? = some v) ∨ (i * 10 ≤ k ∧ k < (i + 1) * 10 ∧ vs[k - i * 10]? = some v) ∨ ((i + 1) * 10 ≤ k ∧ k < (n + 1) * 10 ∧ cs[k - 10]? = some v) := by
  have hT : (cs.take (i * 10)).length = i * 10 := by rw [List.length_take]; omega
  by_cases h1 : k < i * 10
  · rw [List.append_assoc, List.getElem?_append_left (by omega), List.getElem?_take, if_pos h1] at h
    exact .inl ⟨h1, h⟩
  · rw [List.append_assoc, List.getElem?_append_right (by omega), hT] at h
    by_cases h2 : k < (i + 1) * 10
    · rw [List.getElem?_append_left (by omega)] at h
      exact .inr (.inl ⟨by omega, h2, h⟩)
    · rw [List.getElem?_append_right (by omega), List.getElem?_drop] at h
      have e : i * 10 + (k - i * 10 - vs.length) = k - 10 := by omega
      rw [e] at h
      have := (List.getElem?_eq_some_iff.1 h).1
      exact .inr (.inr ⟨by omega, by omega, h⟩)

set_option maxRecDepth 100000 in
theorem ins_sem {R : CodeRel} (n i : Nat) (t : Bool) (x : List X) (rows : List (List X)) (hi : i ≤ n) (hn : n = rows.length) (hn2 : n ≤ 1000) :
    FSem Tryz.prog R 63 [.bs 0 0 n, .v (.int .i64 (Int.ofNat i)), .sl t 10 [x]] [.row 10 rows] (.bs 1 0 (n + 1)) [.dead, .row 10 (rows.take i ++ [x] ++ rows.drop i)] := by
  intro K C w cargs hI ha
  have hs : cargs.size = 3 := ha.1
  have r0 := ha.2 0 _ cargs[0] rfl (Array.getElem?_eq_getElem (by omega))
  have r1 := ha.2 1 _ cargs[1] rfl (Array.getElem?_eq_getElem (by omega))
  have r2 := ha.2 2 _ cargs[2] rfl (Array.getElem?_eq_getElem (by omega))
  have hca : cargs = #[cargs[0], cargs[1], cargs[2]] := by
    refine Array.ext (by simp [hs]) fun j h1 h2 => ?_
    match j, h1, h2 with
    | 0, _, _ => rfl
    | 1, _, _ => rfl
    | 2, _, _ => rfl
    | j + 3, h1, _ => omega
  rw [hca]
  generalize cargs[0] = v0 at r0
  generalize cargs[1] = v1 at r1
  generalize cargs[2] = v2 at r2
  obtain rfl := rep_v r1
  obtain ⟨c0, hC⟩ : ∃ c0, C = [c0] := by
    have := hI.size
    match C, this with
    | [c0], _ => exact ⟨c0, rfl⟩
  subst hC
  obtain ⟨vb, vo, c2, rfl⟩ : ∃ vb vo c2, v2 = .slice (some ⟨vb, vo, none⟩) 1 c2 := by
    generalize hx : X.sl t 10 [x] = y at r2
    cases r2 <;> try cases hx
    exact ⟨_, _, _, rfl⟩
  obtain ⟨vs, hv, hvK⟩ := r2.flat
  have hvl : vs.length = 10 := by simpa using hv.len
  have hvs : ∀ j v, vs[j]? = some v → w.cell? ⟨vb, vo + j, none⟩ = some v := fun j v h => hI.known _ _ _ (hvK j v h)
  have h1v := hv.oneCell
  obtain ⟨tA, kA, hsa, hkA⟩ : ∃ tA kA, w.shape? vb = some (tA, kA) ∧ kA ≠ 0 := by
    have h0 := hvs 0 _ (List.getElem?_eq_getElem (by omega))
    unfold World.cell? at h0
    split at h0
    · rename_i arr el fr hh
      refine ⟨el, arr.size, by simp [World.shape?, hh], fun e => ?_⟩
      have := (Array.getElem?_eq_some_iff.1 h0).1
      omega
    · cases h0
  have hvfc : ∀ w' : World, w'.heap = w.heap → (Builtin.firstCells 10 1 (.slice (some ⟨vb, vo, none⟩) 1 c2)).run Tryz.prog w' = .ok vs.toArray w' := fun w' hw => by
    refine run_firstCells_some w' 10 1 ⟨vb, vo, none⟩ 1 c2 vs (by omega) (fun j u hu => ?_)
    rw [Addr.add_lit]
    have := hvs j u hu
    simp only [World.cell?, hw] at this ⊢; exact this
  have hz78 : (zeroP Tryz.prog 51).isSome = true := by kernel_rfl
  obtain ⟨z78, hz78⟩ := Option.isSome_iff_exists.1 hz78
  have hs78 : sizeP Tryz.prog 51 = some 10 := by kernel_rfl
  have hb78 : bytesP Tryz.prog 51 = some 152 := by kernel_rfl
  -- a new row, at the end
  have endGrow : ∀ (ob : Option Addr) (c : Nat) (olds : List Value), i = n → n ≤ c → c < n + 1 → (ob = none → n = 0 ∧ c = 0) → Flat K 10 rows olds → (∀ w' : World, w'.heap = w.heap → (Builtin.firstCells 10 n (.slice ob n c)).run Tryz.prog w' = .ok olds.toArray w') →
      Calls Tryz.prog 63 #[.slice ob n c, .int .i64 (Int.ofNat i), .slice (some ⟨vb, vo, none⟩) 1 c2] w (Post Tryz.prog R K [c0] [.row 10 rows] w (.bs 1 0 (n + 1)) [.dead, .row 10 (rows.take i ++ [x] ++ rows.drop i)]) := by
    intro ob c olds hin hnc hcn hnil hfo hfco
    subst hin
    have hex : ∃ rest : List Value, (∀ ty, (Builtin.append_ #[56, 56] ty #[.slice ob i c, .slice (some ⟨vb, vo, none⟩) 1 c2]).run Tryz.prog w = .ok (.slice (some ⟨w.heap.size, 0, none⟩) (i + 1) (grownCap w (i + 1) c 51)) (w.drew.alloc (.cells (olds ++ vs ++ rest).toArray 51))) ∧ rest.length = (grownCap w (i + 1) c 51 - (i + 1)) * 10 := by
      obtain ⟨rest, h1, h2⟩ := run_app_grow (P := Tryz.prog) (w := w) (ty := 0) (ob := ob) (oc := some ⟨vb, vo, none⟩) (n := i) (cap := c) (m := 1) (c := c2) und35 und35 hs78 hb78 hz78 olds vs hfco hvfc hcn (by omega) (by omega) (by omega)
      exact ⟨rest, fun ty => h1, h2⟩
    obtain ⟨rest, hrun, hrl⟩ := hex
    have hm := grownCap_ge w (i + 1) c 51
    generalize grownCap w (i + 1) c 51 = m at hrun hrl hm
    refine (ins_end ob i c vb vo c2 w _ _ hnc hn2 hnil hrun).mono ?_
    rintro e w' ⟨rfl, rfl⟩
    have hfl := hfo.append hv
    have e1 : rows.take i ++ [x] ++ rows.drop i = rows ++ [x] := by
      rw [hn, List.take_length, List.drop_length, List.append_nil]
    rw [e1]
    have hol : olds.length = i * 10 := by rw [hfo.len, ← hn]
    have hsz : (olds ++ vs ++ rest).toArray.size = m * 10 := by
      simp only [List.size_toArray, List.length_append, hol, hvl, hrl]; omega
    refine post_move (c' := .at w.heap.size 0 (m * 10) 10) hI (FrameOk.trans (FrameOk.drew _ w) (FrameOk.alloc (S := c0.owns) _ _) (fun _ _ _ h => h)) (fun b o h => .inr (by rw [h.1]; exact Nat.le_refl _)) (hfl.box (alloc_get w.drew _) (fun k v hk => ?_) (by simp only [List.length_append, List.length_singleton]; omega) (by omega)) ?_
    · rw [Nat.zero_add, List.getElem?_toArray, List.getElem?_append_left (List.getElem?_eq_some_iff.1 hk).1]; exact hk
    · have := @Rep.bs K ([c0] ++ [.at w.heap.size 0 (m * 10) 10]) 1 0 (i + 1) w.heap.size 0 (m * 10) 10 m rfl (by omega) (by omega)
      simpa using this
  generalize hx0 : X.bs 0 0 n = y0 at r0
  cases r0 <;> try cases hx0
  case bsNil ob hc =>
    have e0 : c0 = .ghost := by simpa using hc
    subst e0
    have hi0 : i = 0 := by omega
    have hr0 : rows = [] := List.eq_nil_of_length_eq_zero hn.symm
    refine endGrow ob 0 [] hi0 (Nat.le_refl _) (by omega) (fun _ => ⟨rfl, rfl⟩) (by rw [hr0]; exact Flat.nil) (fun w' _ => ?_)
    cases ob <;> simp [Builtin.firstCells, loadCells, loadCellsFrom]
  case bs b base hi' sz cap hc hcap hlen =>
    have e0 : c0 = .at b base hi' sz := by simpa using hc
    subst e0
    obtain ⟨arr, el, g1, g2, g3, hbl, hfe⟩ := (hI.box 0 _ _ rfl rfl).flat
    subst g1
    simp only [Nat.zero_mul, Nat.zero_add, Nat.add_zero] at hcap ⊢
    generalize hcd : (arr.toList.drop base).take (rows.length * 10) = cs at hfe
    have hcl : cs.length = n * 10 := by rw [hfe.len, ← hn]
    have hcar : ∀ j v, cs[j]? = some v → arr[base + j]? = some v := fun j v h => by
      rw [← hcd, List.getElem?_take] at h
      split at h
      · rw [List.getElem?_drop] at h; simpa using h
      · cases h
    have hcs : ∀ j v, cs[j]? = some v → w.cell? ⟨b, base + j, none⟩ = some v := fun j v h => by
      simp only [World.cell?, hbl]; exact hcar j v h
    have h1c := hfe.oneCell
    have hnk : ∀ o, base ≤ o → o < hi' → K b o = none := fun o h1 h2 => hI.apart b o ⟨0, _, _, rfl, rfl, rfl, ⟨rfl, h1, h2⟩⟩
    have hfz : ∀ o, w.frozen? ⟨b, o, none⟩ = false := fun o => by simp [World.frozen?, hbl]
    have hflat := ins_flat hfe hv i
    by_cases hin : i = n
    · by_cases hfit : n + 1 ≤ cap
      · subst hin
        have hst := run_storeCells_at Tryz.prog b (base + i * 10) el vs 0 arr w hbl (by omega) h1v
        simp only [Nat.add_zero] at hst
        have hrun : ∀ ty, (Builtin.append_ #[56, 56] ty #[.slice (some ⟨b, base, none⟩) i cap, .slice (some ⟨vb, vo, none⟩) 1 c2]).run Tryz.prog w = .ok (.slice (some ⟨b, base, none⟩) (i + 1) cap) (w.setRow b (arr.toList.take (base + i * 10) ++ vs ++ arr.toList.drop (base + i * 10 + vs.length)).toArray) := fun ty =>
          run_app_fit (P := Tryz.prog) (ty := ty) (ob := some ⟨b, base, none⟩) und35 und35 hs78 vs _ (hvfc w rfl) hfit (fun ad e => by cases e; rw [Addr.add_lit]; exact hst) (fun e => by cases e)
        refine (ins_end _ i cap vb vo c2 w _ _ (by omega) hn2 (fun e => by cases e) hrun).mono ?_
        rintro e w' ⟨rfl, rfl⟩
        have hget : ∀ q, (arr.toList.take (base + i * 10) ++ vs ++ arr.toList.drop (base + i * 10 + vs.length)).toArray[q]? = if q < base + i * 10 then arr[q]? else if q < base + i * 10 + vs.length then vs[q - (base + i * 10)]? else arr[q]? := fun q => by
          rw [splice_get _ _ _ _ (by have : arr.toList.length = arr.size := Array.length_toList; omega)]; simp
        have hsize : (arr.toList.take (base + i * 10) ++ vs ++ arr.toList.drop (base + i * 10 + vs.length)).toArray.size = arr.size := by simp; omega
        generalize (arr.toList.take (base + i * 10) ++ vs ++ arr.toList.drop (base + i * 10 + vs.length)).toArray = arr' at hget hsize
        refine post_move (c' := .at b base hi' 10) hI (FrameOk.setRow hbl hsize fun q hq => ?_) (fun b' o' h => .inl h) (hflat.box (setRow_heap w b arr arr' el _ hbl) (fun k v hk => ?_) (by rw [hflat.len.symm.trans (by simp; omega : _ = (i + 1) * 10)]; omega) (by omega)) ?_
        · rw [hget]
          have hout : ¬ (base ≤ q ∧ q < hi') := fun hh => hq ⟨rfl, hh.1, hh.2⟩
          by_cases h5 : q < base + i * 10
          · rw [if_pos h5]
          · rw [if_neg h5, if_neg (by omega)]
        · rw [hget]
          rcases ins_get hcl hvl (Nat.le_refl _) hk with ⟨h1, h2⟩ | ⟨h1, h2, h3⟩ | ⟨h1, h2, h3⟩
          · rw [if_pos (by omega)]; exact hcar k v h2
          · rw [if_neg (by omega), if_pos (by omega), ← h3]; congr 1; omega
          · omega
        · have := @Rep.bs K ([.at b base hi' 10] ++ [.at b base hi' 10]) 1 0 (i + 1) b base hi' 10 cap rfl (by omega) hfit
          simpa using this
      · refine endGrow (some ⟨b, base, none⟩) cap cs hin (by omega) (by omega) (fun e => by cases e) hfe (fun w' hw => ?_)
        refine run_firstCells_some w' 10 n ⟨b, base, none⟩ n cap cs (by omega) (fun j u hu => ?_)
        rw [Addr.add_lit]
        have := hcs j u hu
        simp only [World.cell?, hw] at this ⊢; exact this
    · have hil : i < n := by omega
      by_cases hfit : n + 1 ≤ cap
      · have hlb : arr.toList.length = arr.size := Array.length_toList
        have hsh : w.shape? b = some (el, arr.size) := by simp [World.shape?, hbl]
        refine (ins_shift b base n cap i vb vo c2 cs vs w hil hfit hn2 (fun j k hj hk e hne => ?_) hcl hvl hcs (fun j hj => ?_) (fun j _ => hfz _) hvs h1c h1v tA el kA arr.size hsa hsh (by omega) hkA hfz).mono ?_
        · have hk1 := hvK j _ (List.getElem?_eq_getElem (by omega))
          rw [e, hne, hnk _ (by omega) (by omega)] at hk1
          cases hk1
        · simp only [World.cell?, hbl]
          rw [Array.getElem?_eq_getElem (by omega)]; rfl
        rintro e w' ⟨rfl, rfl⟩
        have hdl : (cs.drop (i * 10)).length = (n - i) * 10 := by rw [List.length_drop, hcl]; omega
        have hbl2 : w.drew.heap[b]? = some (.cells arr el (0, 0)) := hbl
        rw [setCells_row w.drew b _ arr el _ hbl2 (by omega) (fun v hv' => h1c v (List.mem_of_mem_drop hv'))]
        have hget1 := fun q => splice_get arr.toList (cs.drop (i * 10)) (base + (i + 1) * 10) q (by omega)
        have hsz1 : (arr.toList.take (base + (i + 1) * 10) ++ cs.drop (i * 10) ++ arr.toList.drop (base + (i + 1) * 10 + (cs.drop (i * 10)).length)).toArray.size = arr.size := by
          simp only [List.size_toArray, List.length_append, List.length_take, List.length_drop, hlb]; omega
        generalize (arr.toList.take (base + (i + 1) * 10) ++ cs.drop (i * 10) ++ arr.toList.drop (base + (i + 1) * 10 + (cs.drop (i * 10)).length)).toArray = arr1 at hget1 hsz1 ⊢
        have hb1 := setRow_heap w.drew b arr arr1 el (0, 0) hbl2
        have hlb1 : arr1.toList.length = arr1.size := Array.length_toList
        rw [setCells_row _ b _ arr1 el _ hb1 (by omega) h1v]
        have hget2 := fun q => splice_get arr1.toList vs (base + i * 10) q (by omega)
        have hsz2 : (arr1.toList.take (base + i * 10) ++ vs ++ arr1.toList.drop (base + i * 10 + vs.length)).toArray.size = arr1.size := by
          simp only [List.size_toArray, List.length_append, List.length_take, List.length_drop, hlb1]; omega
        generalize (arr1.toList.take (base + i * 10) ++ vs ++ arr1.toList.drop (base + i * 10 + vs.length)).toArray = arr2 at hget2 hsz2 ⊢
        have hb2 := setRow_heap _ b arr1 arr2 el (0, 0) hb1
        simp only [Array.getElem?_toList] at hget1 hget2
        refine post_move (c' := .at b base hi' 10) hI (FrameOk.trans (FrameOk.drew _ w) (FrameOk.trans (FrameOk.setRow hbl2 hsz1 fun q hq => ?_) (FrameOk.setRow (S := (CB.at b base hi' 10).owns) hb1 hsz2 fun q hq => ?_) (fun _ _ _ h => h)) (fun _ _ _ h => h)) (fun b' o' h => .inl h) (hflat.box hb2 (fun k v hk => ?_) ?_ (by omega)) ?_
        · rw [hget1]
          have hout : ¬ (base ≤ q ∧ q < hi') := fun hh => hq ⟨rfl, hh.1, hh.2⟩
          by_cases h5 : q < base + (i + 1) * 10
          · rw [if_pos h5]
          · rw [if_neg h5, if_neg (by omega)]
        · rw [hget2]
          have hout : ¬ (base ≤ q ∧ q < hi') := fun hh => hq ⟨rfl, hh.1, hh.2⟩
          by_cases h5 : q < base + i * 10
          · rw [if_pos h5]
          · rw [if_neg h5, if_neg (by omega)]
        · rw [hget2]
          rcases ins_get hcl hvl hi hk with ⟨h1, h2⟩ | ⟨h1, h2, h3⟩ | ⟨h1, h2, h3⟩
          · rw [if_pos (by omega), hget1, if_pos (by omega)]; exact hcar k v h2
          · rw [if_neg (by omega), if_pos (by omega), ← h3]; congr 1; omega
          · rw [if_neg (by omega), if_neg (by omega), hget1, if_neg (by omega), if_pos (by omega), List.getElem?_drop, ← h3]; congr 1; omega
        · have := hflat.len
          simp only [List.length_append, List.length_take, List.length_drop, List.length_singleton]
          omega
        · have := @Rep.bs K ([.at b base hi' 10] ++ [.at b base hi' 10]) 1 0 (n + 1) b base hi' 10 cap rfl (by omega) hfit
          simpa using this
      · refine (ins_grow b base n cap i vb vo c2 cs vs w hil (by omega) (by omega) (by omega) hcl hvl hcs hvs h1c h1v).mono ?_
        rintro e w' ⟨G, tl, hG, rfl, htl, rfl⟩
        have hdl : (cs.drop (i * 10)).length = (n - i) * 10 := by rw [List.length_drop, hcl]; omega
        have hTl : (cs.take (i * 10)).length = i * 10 := by rw [List.length_take]; omega
        generalize hA : (cs.take (i * 10) ++ tl).toArray = A
        have hAs : A.size = G * 10 := by rw [← hA, List.size_toArray, List.length_append, hTl, htl]; omega
        have hlA : A.toList.length = A.size := Array.length_toList
        have hb0 : (w.alloc (.cells A 51)).drew.heap[w.heap.size]? = some (.cells A 51 (0, 0)) := alloc_get w _
        rw [setCells_row _ _ _ A 51 _ hb0 (by omega) h1v]
        have hget1 := fun q => splice_get A.toList vs (i * 10) q (by omega)
        have hsz1 : (A.toList.take (i * 10) ++ vs ++ A.toList.drop (i * 10 + vs.length)).toArray.size = A.size := by
          simp only [List.size_toArray, List.length_append, List.length_take, List.length_drop, hlA]; omega
        generalize (A.toList.take (i * 10) ++ vs ++ A.toList.drop (i * 10 + vs.length)).toArray = arr1 at hget1 hsz1 ⊢
        have hb1 := setRow_heap _ w.heap.size A arr1 51 (0, 0) hb0
        have hlb1 : arr1.toList.length = arr1.size := Array.length_toList
        have hb1' : ((w.alloc (.cells A 51)).drew.setRow w.heap.size arr1).drew.heap[w.heap.size]? = some (.cells arr1 51 (0, 0)) := hb1
        rw [setCells_row _ _ _ arr1 51 _ hb1' (by omega) (fun v hv' => h1c v (List.mem_of_mem_drop hv'))]
        have hget2 := fun q => splice_get arr1.toList (cs.drop (i * 10)) ((i + 1) * 10) q (by omega)
        have hsz2 : (arr1.toList.take ((i + 1) * 10) ++ cs.drop (i * 10) ++ arr1.toList.drop ((i + 1) * 10 + (cs.drop (i * 10)).length)).toArray.size = arr1.size := by
          simp only [List.size_toArray, List.length_append, List.length_take, List.length_drop, hlb1]; omega
        generalize (arr1.toList.take ((i + 1) * 10) ++ cs.drop (i * 10) ++ arr1.toList.drop ((i + 1) * 10 + (cs.drop (i * 10)).length)).toArray = arr2 at hget2 hsz2 ⊢
        have hb2 := setRow_heap _ w.heap.size arr1 arr2 51 (0, 0) hb1'
        simp only [Array.getElem?_toList] at hget1 hget2
        have hfr : FrameOk (CB.at b base hi' 10).owns w (((w.alloc (.cells A 51)).drew.setRow w.heap.size arr1).drew.setRow w.heap.size arr2) := by
          have f1 : FrameOk (fun p _ => p = w.heap.size) w (((w.alloc (.cells A 51)).drew.setRow w.heap.size arr1).drew.setRow w.heap.size arr2) :=
            FrameOk.trans (FrameOk.alloc (S := fun p _ => p = w.heap.size) w _) (FrameOk.trans (FrameOk.drew _ _) (FrameOk.trans (FrameOk.setRow hb0 hsz1 fun q hq => absurd rfl hq) (FrameOk.trans (FrameOk.drew _ _) (FrameOk.setRow hb1' hsz2 fun q hq => absurd rfl hq) (fun _ _ _ h => h)) (fun _ _ _ h => h)) (fun _ _ _ h => h)) (fun _ _ _ h => h)
          exact f1.mono fun p o hp h => by omega
        refine post_move (c' := .at w.heap.size 0 (G * 10) 10) hI hfr (fun b' o' h => .inr (by rw [h.1]; exact Nat.le_refl _)) (hflat.box hb2 (fun k v hk => ?_) ?_ (by omega)) ?_
        · rw [Nat.zero_add, hget2]
          rcases ins_get hcl hvl hi hk with ⟨h1, h2⟩ | ⟨h1, h2, h3⟩ | ⟨h1, h2, h3⟩
          · rw [if_pos (by omega), hget1, if_pos (by omega), ← hA, List.getElem?_toArray, List.getElem?_append_left (by omega), List.getElem?_take, if_pos h1]; exact h2
          · rw [if_pos (by omega), hget1, if_neg (by omega), if_pos (by omega)]; exact h3
          · rw [if_neg (by omega), if_pos (by omega), List.getElem?_drop, ← h3]; congr 1; omega
        · simp only [List.length_append, List.length_take, List.length_drop, List.length_singleton]
          omega
        · have := @Rep.bs K ([.at b base hi' 10] ++ [.at w.heap.size 0 (G * 10) 10]) 1 0 (n + 1) w.heap.size 0 (G * 10) 10 G rfl (by omega) (by omega)
          simpa using this
end
end Go.Proofs.YtbfnfldmnombgaaGreatDoor.Im

/- slices.Insert at the slots: copies of elements of more than one cell. -/
namespace Go.Proofs.YtbfnfldmnombgaaGreatDoor.Iv
open Go.Em Go.RowKit Go.Lib

theorem run_copy_k {P : Program} (w : World) (dT sT ty elem : TypeId) (k : Nat) (b o dLen dCap : Nat) (a : Addr) (sLen sCap : Nat) (cs : List Value)
    (hu : P.underlying dT = some (.slice elem)) (hs : (P.info? elem).map (·.size) = some k) (hn : cs.length = Nat.min sLen dLen * k)
    (hsrc : ∀ j v, cs[j]? = some v → w.cell? (a.add j) = some v) (hc : ∀ j, j < cs.length → (w.cell? ⟨b, o + j, none⟩).isSome = true) (hf : ∀ j, j < cs.length → w.frozen? ⟨b, o + j, none⟩ = false) (h1 : ∀ v ∈ cs, v.oneCell' = true) :
    (Builtin.copy_ #[dT, sT] ty #[.slice (some ⟨b, o, none⟩) dLen dCap, .slice (some a) sLen sCap]).run P w = .ok (goInt (Nat.min sLen dLen)) (w.setCells b o cs) := by
  have hl := run_loadCells_list (P := P) w a cs hsrc
  have hst := run_storeCells_cells (P := P) b o cs 0 w (by simpa using hc) (by simpa using hf) h1
  cases hq : P.info? elem with
  | none => simp [hq] at hs
  | some i =>
    have hi : i.size = k := by simpa [hq] using hs
    simp [Builtin.copy_, run_underlying hu, Builtin.lenOf, Builtin.firstCells, sizeOf, typeInfo, hq, hi, ← hn, hl, hst]

/-- The model's entry for slices.overlaps: two blocks, the second of which is plain memory. -/
theorem run_overlaps_own {P : Program} (w : World) (tS tR e : TypeId) (ht : P.underlying tS = some (.slice e)) (size : Nat) (hz : ∀ w, (Go.sizeOf e).run P w = .ok size w)
    (a b : Addr) (la ca lb cb : Nat) (hne : a.block ≠ b.block) (tA tB : TypeId) (kA kB : Nat)
    (hsa : w.shape? a.block = some (tA, kA)) (hsb : w.shape? b.block = some (tB, kB)) (hkB : kB ≠ 0) (hkA : kA ≠ 0)
    (hfb : w.frozen? b = false) (hfe : w.frozen? { block := b.block, off := kB } = false) :
    (Extern.SlicesOverlaps.overlaps #[tS, tS] #[tR] #[.slice (some a) la ca, .slice (some b) lb cb]).run P w = .ok (.bool false) w := by
  have hnb : (a.block != b.block) = true := by simpa using hne
  have hnb' : (a.block == b.block) = false := by simpa using hne
  change Sem.run P (α := Value) (do
    let some t := (#[tS, tS] : Array TypeId)[0]? | stuck "slices.overlaps: no parameter types"
    let .slice elem ← underlying t | stuck "slices.overlaps: slice type expected"
    let size ← sizeOf elem
    match (some a : Option Addr), (some b : Option Addr) with
    | some a, some b =>
      if la = 0 ∨ lb = 0 ∨ size = 0 then pure (Value.bool false)
      else if a.block != b.block && (← frozen a) && (← frozen b) then unsupported .addressObserved
      else do
        if a.block != b.block then do
          noView a; noView b
          if ← mayBeOne a b then return Value.bool ((← choose (.extern "sameAddr.stringBytes" 2)) == 1)
        pure (Value.bool (a.block == b.block && a.off < b.off + lb * size && b.off < a.off + la * size))
    | _, _ => pure (Value.bool false)) w = _
  by_cases h0 : la = 0 ∨ lb = 0 ∨ size = 0
  · simp [run_underlying ht, hz, h0]
  · cases kB with
    | zero => exact absurd rfl hkB
    | succ kB =>
      obtain ⟨kA, rfl⟩ : ∃ k, kA = k + 1 := ⟨kA - 1, by omega⟩
      cases hfa : w.frozen? a with
      | true => simp [run_underlying ht, hz, h0, hnb, hnb', frozen, noView, viewAt, mayBeOne, stringish, shape, Sem.run, hsa, hsb, hfb, hfe, hfa]
      | false =>
        cases hfx : w.frozen? { block := a.block, off := kA + 1 } with
        | true => simp [run_underlying ht, hz, h0, hnb, hnb', frozen, noView, viewAt, mayBeOne, stringish, shape, Sem.run, hsa, hsb, hfb, hfe, hfa, hfx]
        | false => simp [run_underlying ht, hz, h0, hnb, hnb', frozen, noView, viewAt, mayBeOne, stringish, shape, Sem.run, hsa, hsb, hfb, hfe, hfa, hfx]
/-- .. and where both lie in one block, apart. -/
theorem run_overlaps_same {P : Program} (w : World) (tS tR e : TypeId) (ht : P.underlying tS = some (.slice e)) (size : Nat) (hz : ∀ w, (Go.sizeOf e).run P w = .ok size w)
    (a b : Addr) (la ca lb cb : Nat) (hsame : a.block = b.block) (hd : ¬ (a.off < b.off + lb * size ∧ b.off < a.off + la * size)) :
    (Extern.SlicesOverlaps.overlaps #[tS, tS] #[tR] #[.slice (some a) la ca, .slice (some b) lb cb]).run P w = .ok (.bool false) w := by
  have hnb : (a.block != b.block) = false := by simpa using hsame
  have hnb' : (a.block == b.block) = true := by simpa using hsame
  have hd' : (decide (a.off < b.off + lb * size) && decide (b.off < a.off + la * size)) = false := by
    cases h : (decide (a.off < b.off + lb * size) && decide (b.off < a.off + la * size)) with
    | false => rfl
    | true => exact absurd (by simpa using h) hd
  change Sem.run P (α := Value) (do
    let some t := (#[tS, tS] : Array TypeId)[0]? | stuck "slices.overlaps: no parameter types"
    let .slice elem ← underlying t | stuck "slices.overlaps: slice type expected"
    let size ← sizeOf elem
    match (some a : Option Addr), (some b : Option Addr) with
    | some a, some b =>
      if la = 0 ∨ lb = 0 ∨ size = 0 then pure (Value.bool false)
      else if a.block != b.block && (← frozen a) && (← frozen b) then unsupported .addressObserved
      else do
        if a.block != b.block then do
          noView a; noView b
          if ← mayBeOne a b then return Value.bool ((← choose (.extern "sameAddr.stringBytes" 2)) == 1)
        pure (Value.bool (a.block == b.block && a.off < b.off + lb * size && b.off < a.off + la * size))
    | _, _ => pure (Value.bool false)) w = _
  by_cases h0 : la = 0 ∨ lb = 0 ∨ size = 0
  · simp [run_underlying ht, hz, h0]
  · simp [run_underlying ht, hz, h0, hnb, hnb', hd', frozen, Sem.run]
end Go.Proofs.YtbfnfldmnombgaaGreatDoor.Iv

/- slices.Insert at the slots, where there is room. -/
namespace Go.Proofs.YtbfnfldmnombgaaGreatDoor.Iv
open Go.Em Go.RowKit Go.Lib

theorem und35 : Tryz.prog.underlying 44 = some (.slice 47) := by kernel_rfl
theorem info78 : (Tryz.prog.info? 47).map (·.size) = some 6 := by kernel_rfl
theorem size78 : ∀ w, (Go.sizeOf 47).run Tryz.prog w = .ok 6 w := Tryz.sizeOf47

set_option maxHeartbeats 4000000 in
set_option maxRecDepth 100000 in
theorem ins_shift (b off n c i vb voff vc : Nat) (cs vs : List Value) (w : World) (hi : i < n) (hroom : n + 1 ≤ c) (hn3 : n ≤ 1000) (hdis : ∀ j k, j < 6 → k < (n + 1) * 6 → vb = b → voff + j ≠ off + k)
    (hcl : cs.length = n * 6) (hvl : vs.length = 6)
    (hcs : ∀ j v, cs[j]? = some v → w.cell? ⟨b, off + j, none⟩ = some v) (hsp : ∀ j, j < (n + 1) * 6 → (w.cell? ⟨b, off + j, none⟩).isSome = true) (hfz : ∀ j, j < (n + 1) * 6 → w.frozen? ⟨b, off + j, none⟩ = false)
    (hvs : ∀ j v, vs[j]? = some v → w.cell? ⟨vb, voff + j, none⟩ = some v) (h1c : ∀ v ∈ cs, v.oneCell' = true) (h1v : ∀ v ∈ vs, v.oneCell' = true)
    (tA tB : TypeId) (kA kB : Nat) (hsa : w.shape? vb = some (tA, kA)) (hsb : w.shape? b = some (tB, kB)) (hkB : kB ≠ 0) (hkA : kA ≠ 0) (hfb : ∀ o, w.frozen? ⟨b, o, none⟩ = false) :
    Calls Tryz.prog 65 #[.slice (some ⟨b, off, none⟩) n c, .int .i64 i, .slice (some ⟨vb, voff, none⟩) 1 vc] w fun e w' =>
      e = .returned (.slice (some ⟨b, off, none⟩) (n + 1) c) ∧ w' = (w.drew.setCells b (off + (i + 1) * 6) (cs.drop (i * 6))).setCells b (off + i * 6) vs := by
  have hz2 : ¬ ((i : Int) = (n : Int)) := by omega
  have hov : ∀ cb, (callFunc 109 #[.slice (some ⟨vb, voff, none⟩) 1 vc, .slice (some ⟨b, off + (i + 1) * 6, none⟩) (n - i) cb]).run Tryz.prog w = .ok (.value (.bool false)) w := fun cb => by
    rw [run_callFunc_extern Tryz.func109 (by kernel_rfl) (by kernel_rfl) (by kernel_rfl) (e := Extern.SlicesOverlaps.overlaps #[44, 44] #[4]) (by kernel_rfl)]
    by_cases hvb : vb = b
    · rw [run_overlaps_same w 44 4 47 und35 6 size78 ⟨vb, voff, none⟩ ⟨b, off + (i + 1) * 6, none⟩ 1 vc (n - i) cb hvb (fun h => by
        obtain ⟨h1, h2⟩ := h
        dsimp only at h1 h2
        by_cases hlo : off + (i + 1) * 6 ≤ voff
        · exact hdis 0 (voff - off) (by omega) (by omega) hvb (by omega)
        · exact hdis (off + (i + 1) * 6 - voff) ((i + 1) * 6) (by omega) (by omega) hvb (by omega))]
      rfl
    · rw [run_overlaps_own w 44 4 47 und35 6 size78 ⟨vb, voff, none⟩ ⟨b, off + (i + 1) * 6, none⟩ 1 vc (n - i) cb hvb tA tB kA kB hsa hsb hkB hkA (hfb _) (hfb _)]
      rfl
  have hdl : (cs.drop (i * 6)).length = (n - i) * 6 := by rw [List.length_drop, hcl]; omega
  have hw1 : IntKind.i64.wrap ((i : Int) + 1) = (i : Int) + 1 := by rw [IntKind.wrap_i64]; omega
  have hb1 : (0 : Int) ≤ (i : Int) + 1 := by omega
  have hin : i ≤ n := by omega
  have htn : ((i : Int) + 1).toNat = i + 1 := by omega
  have hb2 : ¬ (c = i + 1) := by omega
  have hb3 : (i : Int) ≤ (n : Int) + 1 := by omega
  have hb4 : ¬ (c = i) := by omega
  have hcp1 : ∀ ty dc sc, (Builtin.copy_ #[44, 44] ty #[.slice (some ⟨b, off + (i + 1) * 6, none⟩) (n - i) dc, .slice (some ⟨b, off + i * 6, none⟩) (n + 1 - i) sc]).run Tryz.prog w.drew = .ok (goInt (Nat.min (n + 1 - i) (n - i))) (w.drew.setCells b (off + (i + 1) * 6) (cs.drop (i * 6))) := fun ty dc sc =>
    run_copy_k w.drew _ _ ty 47 6 b (off + (i + 1) * 6) (n - i) dc ⟨b, off + i * 6, none⟩ (n + 1 - i) sc (cs.drop (i * 6)) und35 info78 (by rw [hdl]; congr 1; simp only [Nat.min_def]; split <;> omega)
      (fun j v hj => by rw [Addr.add_lit, Nat.add_assoc]; exact hcs (i * 6 + j) v (by rwa [List.getElem?_drop] at hj))
      (fun j hj => by rw [Nat.add_assoc]; exact hsp _ (by omega)) (fun j hj => by rw [Nat.add_assoc]; exact hfz _ (by omega)) (fun v hv => h1c v (List.mem_of_mem_drop hv))
  obtain ⟨W1, hW1⟩ : ∃ W1, W1 = w.drew.setCells b (off + (i + 1) * 6) (cs.drop (i * 6)) := ⟨_, rfl⟩
  have hsp1 : ∀ k, k < (n + 1) * 6 → (W1.cell? ⟨b, off + k, none⟩).isSome = true := fun k hk => by
    rw [hW1]
    exact isSome_setCells b _ _ _ (fun j hj => by rw [Nat.add_assoc]; exact hsp _ (by omega)) _ (hsp k hk)
  have hcp2 : ∀ (W : World), (∀ x, W.cell? x = W1.cell? x) → (∀ x, W.frozen? x = W1.frozen? x) → ∀ ty dc, (Builtin.copy_ #[44, 44] ty #[.slice (some ⟨b, off + i * 6, none⟩) (n + 1 - i) dc, .slice (some ⟨vb, voff, none⟩) 1 vc]).run Tryz.prog W = .ok (goInt (Nat.min 1 (n + 1 - i))) (W.setCells b (off + i * 6) vs) := fun W hWc hWf ty dc =>
    run_copy_k W _ _ ty 47 6 b (off + i * 6) (n + 1 - i) dc ⟨vb, voff, none⟩ 1 vc vs und35 info78 (by rw [hvl]; simp only [Nat.min_def]; split <;> omega)
      (fun j v hj => by
        have hj' : j < 6 := by rw [← hvl]; exact (List.getElem?_eq_some_iff.1 hj).1
        rw [Addr.add_lit, hWc, hW1, World.cell?_setCells_out b _ _ _ _ (fun h _ => by
          dsimp only at h ⊢
          have h5 := hdis j (voff + j - off) hj'
          by_cases h6 : off ≤ voff + j ∧ voff + j - off < (n + 1) * 6
          · exact absurd (by omega) (h5 h6.2 h)
          · omega)]
        exact hvs j v hj)
      (fun j hj => by rw [hWc, Nat.add_assoc]; exact hsp1 _ (by omega)) (fun j hj => by rw [hWf, hW1, World.frozen?_setCells, Nat.add_assoc]; exact hfz _ (by omega)) h1v
  rw [← hW1] at hcp1
  have mixed : Tryz.prog.follows .mixedOrders = true := by kernel_rfl
  go_enter Tryz.func65, Tryz.ntmps65
  go_wp2_with (simp only [hov])
  go_region_law_o (refine step_copy_runI rfl _ _ 44 44 rfl _ _ (by simp [Act.eval, Act.put]) (by simp [Act.eval, Act.put]) (hcp1 _ _ _) ?_)
  go_wp2_with (at_builtin; refine wpList_copy_runI _ rfl _ _ 44 44 rfl _ _ rfl rfl (hcp2 _ (fun _ => rfl) (fun _ => rfl) _ _) ?_)
  go_ret
  first | exact ⟨rfl, rfl⟩ | exact ⟨rfl, by rw [hW1]⟩
end Go.Proofs.YtbfnfldmnombgaaGreatDoor.Iv

/- slices.Insert at the slots: at the end, and where there is no room. -/
namespace Go.Proofs.YtbfnfldmnombgaaGreatDoor.Iv
open Go.Em Go.RowKit Go.Lib

set_option maxHeartbeats 4000000 in
set_option maxRecDepth 100000 in
theorem ins_end (ob : Option Addr) (n c vb voff vc : Nat) (w w1 : World) (v : Value) (hnc : n ≤ c) (hn3 : n ≤ 1000) (hnil : ob = none → n = 0 ∧ c = 0)
    (hrun : ∀ ty, (Builtin.append_ #[44, 44] ty #[.slice ob n c, .slice (some ⟨vb, voff, none⟩) 1 vc]).run Tryz.prog w = .ok v w1) :
    Calls Tryz.prog 65 #[.slice ob n c, .int .i64 n, .slice (some ⟨vb, voff, none⟩) 1 vc] w fun e w' => e = .returned v ∧ w' = w1 := by
  have mixed : Tryz.prog.follows .mixedOrders = true := by kernel_rfl
  go_enter Tryz.func65, Tryz.ntmps65
  cases ob with
  | none =>
    obtain ⟨rfl, rfl⟩ := hnil rfl
    go_wp2_with (at_builtin; refine Lib.wpList_append_run _ rfl _ _ _ _ rfl _ _ rfl rfl _ _ (hrun _) ?_)
    go_ret
    exact ⟨rfl, rfl⟩
  | some a =>
    obtain ⟨ab, ao, asp⟩ := a
    go_wp2_with (at_builtin; refine Lib.wpList_append_run _ rfl _ _ _ _ rfl _ _ rfl rfl _ _ (hrun _) ?_)
    all_goals (go_ret; exact ⟨rfl, rfl⟩)

def IsRow (r : Array Value) (l : List Value) : Prop := r = l.toArray
theorem info78b : (Tryz.prog.info? 47).map (fun i => (i.zero.map (·.cells.size), i.size, i.bytes)) = some (some 6, 6, 88) := by kernel_rfl
theorem und3 : Tryz.prog.underlying 3 = some (.int .i64) := by kernel_rfl

set_option maxHeartbeats 4000000 in
set_option maxRecDepth 100000 in
theorem ins_grow (b off n c i vb voff vc : Nat) (cs vs : List Value) (w : World) (hi : i < n) (hnc : n ≤ c) (hroom : c < n + 1) (hc63 : c ≤ 1000000) 
    (hcl : cs.length = n * 6) (hvl : vs.length = 6)
    (hcs : ∀ j v, cs[j]? = some v → w.cell? ⟨b, off + j, none⟩ = some v)
    (hvs : ∀ j v, vs[j]? = some v → w.cell? ⟨vb, voff + j, none⟩ = some v) (h1c : ∀ v ∈ cs, v.oneCell' = true) (h1v : ∀ v ∈ vs, v.oneCell' = true) :
    Calls Tryz.prog 65 #[.slice (some ⟨b, off, none⟩) n c, .int .i64 i, .slice (some ⟨vb, voff, none⟩) 1 vc] w fun e w' =>
      ∃ (G : Nat) (tl : List Value), n + 1 ≤ G ∧ e = .returned (.slice (some ⟨w.heap.size, 0, none⟩) (n + 1) G) ∧ tl.length = (G - i) * 6 ∧
      w' = (((w.alloc (.cells ((cs.take (i * 6)) ++ tl).toArray 47)).drew.setCells w.heap.size (i * 6) vs).drew).setCells w.heap.size ((i + 1) * 6) (cs.drop (i * 6)) := by
  obtain ⟨i0, hi0, hz0, hzs, hzb⟩ : ∃ i0, Tryz.prog.info? 47 = some i0 ∧ i0.zero.map (·.cells.size) = some 6 ∧ i0.size = 6 ∧ i0.bytes = 88 := by
    obtain ⟨i0, h1, h2⟩ := Option.map_eq_some_iff.1 info78b
    simp only [Prod.mk.injEq] at h2
    exact ⟨i0, h1, h2.1, h2.2.1, h2.2.2⟩
  obtain ⟨zv, hz0, hzc⟩ := Option.map_eq_some_iff.1 hz0
  have hz2 : ¬ ((i : Int) = (n : Int)) := by omega
  have hz3 : (c : Int) < (n : Int) + 1 := by omega
  have hbw : b < w.heap.size := block_lt_of_cell (hcs 0 _ (List.getElem?_eq_getElem (by omega)))
  have hvw : vb < w.heap.size := block_lt_of_cell (hvs 0 _ (List.getElem?_eq_getElem (by omega)))
  have hkk : (n : Int) + 1 - (i : Int) = ((n + 1 - i : Nat) : Int) := by omega
  have hik : i + (n + 1 - i) = n + 1 := by omega
  have hold : (Builtin.firstCells i0.size i (.slice (some ⟨b, off, none⟩) i c)).run Tryz.prog w.drew = .ok (cs.take (i * 6)).toArray w.drew := by
    rw [hzs]
    exact run_firstCells_some w.drew 6 i ⟨b, off, none⟩ i c (cs.take (i * 6)) (by rw [List.length_take]; omega) (fun j v hj => by
      rw [Addr.add_lit]
      rw [List.getElem?_take] at hj
      split at hj
      · exact hcs j v hj
      · cases hj)
  have hrz : ∀ ty, (Builtin.append_ #[44, 3] ty #[.slice (some ⟨b, off, none⟩) i c, .int .i64 ((n : Int) + 1 - (i : Int))]).run Tryz.prog w =
      .ok (.slice (some ⟨w.heap.size, 0, none⟩) (n + 1) (grownCap w (n + 1) c 47)) (w.drew.alloc (.cells ((cs.take (i * 6)).toArray ++ Builtin.zeroCells zv.cells (n + 1 - i) ++ Builtin.zeroCells zv.cells (grownCap w (n + 1) c 47 - (n + 1))) 47)) := fun ty => by
    have h := Lib.run_append_grow_zeros w 44 3 ty 47 i0 zv .i64 .i64 und35 und3 hi0 hz0 (some ⟨b, off, none⟩) i c (cs.take (i * 6)) hold (n + 1 - i) (by omega) (by omega) (by omega) (by omega) (by rw [hzb]; omega) (by rw [hzb, hik]; exact growslice_fits hroom (by omega))
    rw [hik] at h
    rw [hkk]
    exact h
  have hGn : n + 1 ≤ grownCap w (n + 1) c 47 := grownCap_ge w _ _ _
  have hG63 : grownCap w (n + 1) c 47 ≤ 9223372036854775807 := by
    have := grownCap_le_maxLen w (n + 1) c 47 (by unfold maxLen; omega)
    unfold maxLen at this
    omega
  generalize grownCap w (n + 1) c 47 = G at hrz hGn hG63
  have hzl : ∀ k, (Builtin.zeroCells zv.cells k).size = k * 6 := fun k => by simp [Builtin.zeroCells, hzc]
  obtain ⟨tl, htl⟩ : ∃ tl : List Value, (cs.take (i * 6)).toArray ++ Builtin.zeroCells zv.cells (n + 1 - i) ++ Builtin.zeroCells zv.cells (G - (n + 1)) = ((cs.take (i * 6)) ++ tl).toArray ∧ tl.length = (G - i) * 6 := by
    refine ⟨(Builtin.zeroCells zv.cells (n + 1 - i)).toList ++ (Builtin.zeroCells zv.cells (G - (n + 1))).toList, ?_, ?_⟩
    · apply Array.toList_inj.1; simp
    · rw [List.length_append, Array.length_toList, Array.length_toList, hzl, hzl]; omega
  obtain ⟨htl, htll⟩ := htl
  rw [htl] at hrz
  obtain ⟨ROW, hROW⟩ : ∃ ROW : Array Value, ROW = ((cs.take (i * 6)) ++ tl).toArray := ⟨_, rfl⟩
  have hRl : (n + 1) * 6 ≤ ROW.size := by
    rw [hROW]
    simp only [List.size_toArray, List.length_append, List.length_take, htll]
    omega
  rw [← hROW] at hrz
  obtain ⟨W1, hW1⟩ : ∃ W1, W1 = w.drew.alloc (.cells ROW 47) := ⟨_, rfl⟩
  rw [← hW1] at hrz
  have hN : ∀ j, j < (n + 1) * 6 → (W1.cell? ⟨w.heap.size, j, none⟩).isSome = true := fun j hj => by
    rw [hW1, World.cell?_alloc_at (w := w.drew) ROW _ w.heap.size j rfl, Array.getElem?_eq_getElem (by omega)]; rfl
  have hNf : ∀ j, W1.frozen? ⟨w.heap.size, j, none⟩ = false := fun j => by rw [hW1]; exact World.frozen?_alloc_at (w := w.drew) ROW _ w.heap.size j rfl
  have hOb : ∀ j v, w.cell? ⟨b, j, none⟩ = some v → W1.cell? ⟨b, j, none⟩ = some v := fun j v h => by rw [hW1, World.cell?_alloc_past (w := w.drew) _ b j hbw]; exact h
  have hOv : ∀ j v, w.cell? ⟨vb, j, none⟩ = some v → W1.cell? ⟨vb, j, none⟩ = some v := fun j v h => by rw [hW1, World.cell?_alloc_past (w := w.drew) _ vb j hvw]; exact h
  have hcpA : ∀ (W : World), (∀ x, W.cell? x = W1.cell? x) → (∀ x, W.frozen? x = W1.frozen? x) → ∀ ty dc, (Builtin.copy_ #[44, 44] ty #[.slice (some ⟨w.heap.size, i * 6, none⟩) (n + 1 - i) dc, .slice (some ⟨vb, voff, none⟩) 1 vc]).run Tryz.prog W = .ok (goInt (Nat.min 1 (n + 1 - i))) (W.setCells w.heap.size (i * 6) vs) := fun W hWc hWf ty dc =>
    run_copy_k W _ _ ty 47 6 w.heap.size (i * 6) (n + 1 - i) dc ⟨vb, voff, none⟩ 1 vc vs und35 info78 (by rw [hvl]; simp only [Nat.min_def]; split <;> omega)
      (fun j v hj => by rw [Addr.add_lit, hWc]; exact hOv _ v (hvs j v hj))
      (fun j hj => by rw [hWc]; exact hN _ (by omega)) (fun j hj => by rw [hWf]; exact hNf _) h1v
  have hGi : ¬ (G = i) := by omega
  have hGim : ¬ (G = i + 1) := by omega
  have hci : ¬ (c = i) := by omega
  have hbN : b ≠ w.heap.size := by omega
  have hdl : (cs.drop (i * 6)).length = (n - i) * 6 := by rw [List.length_drop, hcl]; omega
  have hcpB : ∀ (W : World), (∀ x, W.cell? x = (W1.setCells w.heap.size (i * 6) vs).cell? x) → (∀ x, W.frozen? x = (W1.setCells w.heap.size (i * 6) vs).frozen? x) → ∀ ty dc sc, (Builtin.copy_ #[44, 44] ty #[.slice (some ⟨w.heap.size, (i + 1) * 6, none⟩) (n - i) dc, .slice (some ⟨b, off + i * 6, none⟩) (n - i) sc]).run Tryz.prog W = .ok (goInt (Nat.min (n - i) (n - i))) (W.setCells w.heap.size ((i + 1) * 6) (cs.drop (i * 6))) := fun W hWc hWf ty dc sc =>
    run_copy_k W _ _ ty 47 6 w.heap.size ((i + 1) * 6) (n - i) dc ⟨b, off + i * 6, none⟩ (n - i) sc (cs.drop (i * 6)) und35 info78 (by rw [hdl]; simp)
      (fun j v hj => by
        rw [Addr.add_lit, hWc, World.cell?_setCells_out _ _ _ _ _ (fun h _ => absurd h hbN), Nat.add_assoc]
        exact hOb _ v (hcs (i * 6 + j) v (by rwa [List.getElem?_drop] at hj)))
      (fun j hj => by rw [hWc]; exact isSome_setCells _ _ _ _ (fun t ht => hN _ (by omega)) _ (hN _ (by omega)))
      (fun j hj => by rw [hWf, World.frozen?_setCells]; exact hNf _) (fun v hv => h1c v (List.mem_of_mem_drop hv))
  subst hW1
  have hE1 : ∀ x, ((w.alloc (.cells ROW 47)).drew).cell? x = (w.drew.alloc (.cells ROW 47)).cell? x := fun x => rfl
  have hE2 : ∀ x, ((w.alloc (.cells ROW 47)).drew).frozen? x = (w.drew.alloc (.cells ROW 47)).frozen? x := fun x => rfl
  have hF1 : ∀ x, (((w.alloc (.cells ROW 47)).drew.setCells w.heap.size (i * 6) vs).drew).cell? x = ((w.drew.alloc (.cells ROW 47)).setCells w.heap.size (i * 6) vs).cell? x := fun x => rfl
  have hF2 : ∀ x, (((w.alloc (.cells ROW 47)).drew.setCells w.heap.size (i * 6) vs).drew).frozen? x = ((w.drew.alloc (.cells ROW 47)).setCells w.heap.size (i * 6) vs).frozen? x := fun x => rfl
  have hw1 : IntKind.i64.wrap ((i : Int) + 1) = (i : Int) + 1 := by rw [IntKind.wrap_i64]; omega
  have hb1 : (0 : Int) ≤ (i : Int) + 1 := by omega
  have hin : i ≤ n := by omega
  have htn : ((i : Int) + 1).toNat = i + 1 := by omega
  have hb3 : (i : Int) ≤ (n : Int) := by omega
  have mixed : Tryz.prog.follows .mixedOrders = true := by kernel_rfl
  have hkeep : IsRow ROW ((cs.take (i * 6)) ++ tl) := hROW
  clear hkk hik hold hRl htl hROW
  go_enter Tryz.func65, Tryz.ntmps65
  go_wp2_with (first
    | (at_builtin; refine Lib.wpList_append_run _ rfl _ _ _ _ rfl _ _ rfl rfl _ _ (hrz _) ?_)
    | (at_builtin; refine wpList_copy_runI _ rfl _ _ 44 44 rfl _ _ rfl rfl (hcpA _ hE1 hE2 _ _) ?_)
    | (at_builtin; refine wpList_copy_runI _ rfl _ _ 44 44 rfl _ _ rfl rfl (hcpB _ (fun _ => rfl) (fun _ => rfl) _ _ _) ?_))
  go_region_law_o (refine step_copy_runI rfl _ _ 44 44 rfl (.slice (some ⟨w.heap.size, (i + 1) * 6, none⟩) (n - i) (G - (i + 1))) (.slice (some ⟨b, off + i * 6, none⟩) (n - i) (c - i)) (by simp [Act.eval, Act.put]) (by simp [Act.eval, Act.put]) (hcpB _ hF1 hF2 3 (G - (i + 1)) (c - i)) ?_)
  go_wp2
  go_ret
  exact ⟨G, tl, hGn, rfl, htll, by unfold IsRow at hkeep; rw [← hkeep]⟩
end Go.Proofs.YtbfnfldmnombgaaGreatDoor.Iv

/- slices.Insert at the slots: what it says to its caller. -/
namespace Go.Proofs.YtbfnfldmnombgaaGreatDoor.Iv
open Go.Em Go.RowKit Go.Lib

section
variable {P : Program} {R : CodeRel} {K : Kn}
theorem post_move {w w' : World} {c0 c' : CB} {sz : Nat} {rows new : List (List X)} {res : X} {v : Value} (hI : Inv P R K [c0] [.row sz rows] w) (hf : FrameOk c0.owns w w') (hown : ∀ b o, c'.owns b o → c0.owns b o ∨ w.heap.size ≤ b)
    (hB : BoxOk P R K ([c0] ++ [c']) w' (.row sz new) c') (hres : Rep K ([c0] ++ [c']) res v) : Post P R K [c0] [.row sz rows] w res [.dead, .row sz new] (.returned v) w' := by
  have hdead : ∀ b o, ¬ Owns [c0] [Bx.dead] b o := by
    rintro b o ⟨i, c, B, h1, h2, h3, h4⟩
    cases i with
    | zero => simp at h2; subst h2; simp [Bx.live] at h3
    | succ i => simp at h2
  have hin : ∀ b o, c0.owns b o → Owns [c0] [Bx.row sz rows] b o := fun b o h => ⟨0, c0, .row sz rows, rfl, rfl, rfl, h⟩
  have hk := hI.kill 0
  have hk' : Inv P R K [c0] [.dead] w' := Inv.frame hk hf (fun b o v e ho => by
    have := hI.apart b o (hin b o ho); rw [this] at e; cases e) (fun b o ho => absurd ho (hdead b o))
  refine ⟨v, K, [c'], rfl, ⟨hk'.push hB (fun b o ho => ?_) (fun b o _ => hdead b o), hres, KLe.refl _, fun b o u e => .inl e, fun b o ho => ?_, hf.mono fun b o _ h => hin b o h, fun i B e hl => ?_⟩⟩
  · rcases hown b o ho with h | h
    · exact hI.apart b o (hin b o h)
    · cases hk : K b o with
      | none => rfl
      | some u => have := hI.known_lt hk; omega
  · obtain ⟨i, c, B, h1, h2, h3, h4⟩ := ho
    match i, h1, h2 with
    | 0, h1, h2 => simp at h2; subst h2; simp [Bx.live] at h3
    | 1, h1, h2 =>
      simp at h1; subst h1
      rcases hown b o h4 with h | h
      · exact .inl (hin b o h)
      · exact .inr h
    | i + 2, h1, h2 => simp at h2
  · cases i with
    | zero => simp at e; subst e; cases hl
    | succ i => simp at e

theorem splice_get (l vs : List Value) (o q : Nat) (h : o + vs.length ≤ l.length) : (l.take o ++ vs ++ l.drop (o + vs.length)).toArray[q]? = if q < o then l[q]? else if q < o + vs.length then vs[q - o]? else l[q]? := by
  have hT : (l.take o).length = o := by rw [List.length_take]; omega
  rw [List.getElem?_toArray]
  by_cases h5 : q < o
  · rw [if_pos h5, List.append_assoc, List.getElem?_append_left (by omega), List.getElem?_take, if_pos h5]
  · rw [if_neg h5, List.append_assoc, List.getElem?_append_right (by omega), hT]
    by_cases h6 : q < o + vs.length
    · rw [if_pos h6, List.getElem?_append_left (by omega)]
    · rw [if_neg h6, List.getElem?_append_right (by omega), List.getElem?_drop]
      congr 1; omega
theorem setCells_row (W : World) (b o : Nat) (arr : Array Value) (el : TypeId) (vs : List Value) (hb : W.heap[b]? = some (.cells arr el (0, 0))) (hl : o + vs.length ≤ arr.size) (h1 : ∀ v ∈ vs, v.oneCell' = true) :
    W.setCells b o vs = W.setRow b (arr.toList.take o ++ vs ++ arr.toList.drop (o + vs.length)).toArray := by
  have hc : ∀ j, j < vs.length → (W.cell? ⟨b, o + j, none⟩).isSome = true := fun j hj => by
    simp only [World.cell?, hb]
    rw [Array.getElem?_eq_getElem (by omega)]; rfl
  have hf : ∀ j, j < vs.length → W.frozen? ⟨b, o + j, none⟩ = false := fun j hj => by simp [World.frozen?, hb]
  have e1 := run_storeCells_cells (P := Tryz.prog) b o vs 0 W (by simpa using hc) (by simpa using hf) h1
  have e2 := run_storeCells_at Tryz.prog b o el vs 0 arr W hb (by omega) h1
  rw [e1] at e2
  simp only [Nat.add_zero] at e2
  injection e2

/-- The new row, where the elements lay or in a place of its own. -/
theorem ins_flat {K : Kn} {rows : List (List X)} {x : List X} {cs vs : List Value} (hf : Flat K 6 rows cs) (hv : Flat K 6 [x] vs) (i : Nat) : Flat K 6 (rows.take i ++ [x] ++ rows.drop i) (cs.take (i * 6) ++ vs ++ cs.drop (i * 6)) :=
  ((hf.take i).append hv).append (hf.drop i)
theorem ins_get {cs vs : List Value} {n i k : Nat} {v : Value} (hcl : cs.length = n * 6) (hvl : vs.length = 6) (hi : i ≤ n) (h : (cs.take (i * 6) ++ vs ++ cs.drop (i * 6))[k]? = some v) :
    (k < i * 6 ∧ cs[k]? = some v) ∨ (i * 6 ≤ k ∧ k < (i + 1) * 6 ∧ vs[k - i * 6]? = some v) ∨ ((i + 1) * 6 ≤ k ∧ k < (n + 1) * 6 ∧ cs[k - 6]? = some v) := by
  have hT : (cs.take (i * 6)).length = i * 6 := by rw [List.length_take]; omega
  by_cases h1 : k < i * 6
  · rw [List.append_assoc, List.getElem?_append_left (by omega), List.getElem?_take, if_pos h1] at h
    exact .inl ⟨h1, h⟩
  · rw [List.append_assoc, List.getElem?_append_right (by omega), hT] at h
    by_cases h2 : k < (i + 1) * 6
    · rw [List.getElem?_append_left (by omega)] at h
      exact .inr (.inl ⟨by omega, h2, h⟩)
    · rw [List.getElem?_append_right (by omega), List.getElem?_drop] at h
      have e : i * 6 + (k - i * 6 - vs.length) = k - 6 := by omega
      rw [e] at h
      have := (List.getElem?_eq_some_iff.1 h).1
      exact .inr (.inr ⟨by omega, by omega, h⟩)

set_option maxRecDepth 100000 in
theorem ins_sem {R : CodeRel} (n i : Nat) (t : Bool) (x : List X) (rows : List (List X)) (hi : i ≤ n) (hn : n = rows.length) (hn2 : n ≤ 1000) :
    FSem Tryz.prog R 65 [.bs 0 0 n, .v (.int .i64 (Int.ofNat i)), .sl t 6 [x]] [.row 6 rows] (.bs 1 0 (n + 1)) [.dead, .row 6 (rows.take i ++ [x] ++ rows.drop i)] := by
  intro K C w cargs hI ha
  have hs : cargs.size = 3 := ha.1
  have r0 := ha.2 0 _ cargs[0] rfl (Array.getElem?_eq_getElem (by omega))
  have r1 := ha.2 1 _ cargs[1] rfl (Array.getElem?_eq_getElem (by omega))
  have r2 := ha.2 2 _ cargs[2] rfl (Array.getElem?_eq_getElem (by omega))
  have hca : cargs = #[cargs[0], cargs[1], cargs[2]] := by
    refine Array.ext (by simp [hs]) fun j h1 h2 => ?_
    match j, h1, h2 with
    | 0, _, _ => rfl
    | 1, _, _ => rfl
    | 2, _, _ => rfl
    | j + 3, h1, _ => omega
  rw [hca]
  generalize cargs[0] = v0 at r0
  generalize cargs[1] = v1 at r1
  generalize cargs[2] = v2 at r2
  obtain rfl := rep_v r1
  obtain ⟨c0, hC⟩ : ∃ c0, C = [c0] := by
    have := hI.size
    match C, this with
    | [c0], _ => exact ⟨c0, rfl⟩
  subst hC
  obtain ⟨vb, vo, c2, rfl⟩ : ∃ vb vo c2, v2 = .slice (some ⟨vb, vo, none⟩) 1 c2 := by
    generalize hx : X.sl t 6 [x] = y at r2
    cases r2 <;> try cases hx
    exact ⟨_, _, _, rfl⟩
  obtain ⟨vs, hv, hvK⟩ := r2.flat
  have hvl : vs.length = 6 := by simpa using hv.len
  have hvs : ∀ j v, vs[j]? = some v → w.cell? ⟨vb, vo + j, none⟩ = some v := fun j v h => hI.known _ _ _ (hvK j v h)
  have h1v := hv.oneCell
  obtain ⟨tA, kA, hsa, hkA⟩ : ∃ tA kA, w.shape? vb = some (tA, kA) ∧ kA ≠ 0 := by
    have h0 := hvs 0 _ (List.getElem?_eq_getElem (by omega))
    unfold World.cell? at h0
    split at h0
    · rename_i arr el fr hh
      refine ⟨el, arr.size, by simp [World.shape?, hh], fun e => ?_⟩
      have := (Array.getElem?_eq_some_iff.1 h0).1
      omega
    · cases h0
  have hvfc : ∀ w' : World, w'.heap = w.heap → (Builtin.firstCells 6 1 (.slice (some ⟨vb, vo, none⟩) 1 c2)).run Tryz.prog w' = .ok vs.toArray w' := fun w' hw => by
    refine run_firstCells_some w' 6 1 ⟨vb, vo, none⟩ 1 c2 vs (by omega) (fun j u hu => ?_)
    rw [Addr.add_lit]
    have := hvs j u hu
    simp only [World.cell?, hw] at this ⊢; exact this
  have hz78 : (zeroP Tryz.prog 47).isSome = true := by kernel_rfl
  obtain ⟨z78, hz78⟩ := Option.isSome_iff_exists.1 hz78
  have hs78 : sizeP Tryz.prog 47 = some 6 := by kernel_rfl
  have hb78 : bytesP Tryz.prog 47 = some 88 := by kernel_rfl
  -- a new row, at the end
  have endGrow : ∀ (ob : Option Addr) (c : Nat) (olds : List Value), i = n → n ≤ c → c < n + 1 → (ob = none → n = 0 ∧ c = 0) → Flat K 6 rows olds → (∀ w' : World, w'.heap = w.heap → (Builtin.firstCells 6 n (.slice ob n c)).run Tryz.prog w' = .ok olds.toArray w') →
      Calls Tryz.prog 65 #[.slice ob n c, .int .i64 (Int.ofNat i), .slice (some ⟨vb, vo, none⟩) 1 c2] w (Post Tryz.prog R K [c0] [.row 6 rows] w (.bs 1 0 (n + 1)) [.dead, .row 6 (rows.take i ++ [x] ++ rows.drop i)]) := by
    intro ob c olds hin hnc hcn hnil hfo hfco
    subst hin
    have hex : ∃ rest : List Value, (∀ ty, (Builtin.append_ #[44, 44] ty #[.slice ob i c, .slice (some ⟨vb, vo, none⟩) 1 c2]).run Tryz.prog w = .ok (.slice (some ⟨w.heap.size, 0, none⟩) (i + 1) (grownCap w (i + 1) c 47)) (w.drew.alloc (.cells (olds ++ vs ++ rest).toArray 47))) ∧ rest.length = (grownCap w (i + 1) c 47 - (i + 1)) * 6 := by
      obtain ⟨rest, h1, h2⟩ := run_app_grow (P := Tryz.prog) (w := w) (ty := 0) (ob := ob) (oc := some ⟨vb, vo, none⟩) (n := i) (cap := c) (m := 1) (c := c2) und35 und35 hs78 hb78 hz78 olds vs hfco hvfc hcn (by omega) (by omega) (by omega)
      exact ⟨rest, fun ty => h1, h2⟩
    obtain ⟨rest, hrun, hrl⟩ := hex
    have hm := grownCap_ge w (i + 1) c 47
    generalize grownCap w (i + 1) c 47 = m at hrun hrl hm
    refine (ins_end ob i c vb vo c2 w _ _ hnc hn2 hnil hrun).mono ?_
    rintro e w' ⟨rfl, rfl⟩
    have hfl := hfo.append hv
    have e1 : rows.take i ++ [x] ++ rows.drop i = rows ++ [x] := by
      rw [hn, List.take_length, List.drop_length, List.append_nil]
    rw [e1]
    have hol : olds.length = i * 6 := by rw [hfo.len, ← hn]
    have hsz : (olds ++ vs ++ rest).toArray.size = m * 6 := by
      simp only [List.size_toArray, List.length_append, hol, hvl, hrl]; omega
    refine post_move (c' := .at w.heap.size 0 (m * 6) 6) hI (FrameOk.trans (FrameOk.drew _ w) (FrameOk.alloc (S := c0.owns) _ _) (fun _ _ _ h => h)) (fun b o h => .inr (by rw [h.1]; exact Nat.le_refl _)) (hfl.box (alloc_get w.drew _) (fun k v hk => ?_) (by simp only [List.length_append, List.length_singleton]; omega) (by omega)) ?_
    · rw [Nat.zero_add, List.getElem?_toArray, List.getElem?_append_left (List.getElem?_eq_some_iff.1 hk).1]; exact hk
    · have := @Rep.bs K ([c0] ++ [.at w.heap.size 0 (m * 6) 6]) 1 0 (i + 1) w.heap.size 0 (m * 6) 6 m rfl (by omega) (by omega)
      simpa using this
  generalize hx0 : X.bs 0 0 n = y0 at r0
  cases r0 <;> try cases hx0
  case bsNil ob hc =>
    have e0 : c0 = .ghost := by simpa using hc
    subst e0
    have hi0 : i = 0 := by omega
    have hr0 : rows = [] := List.eq_nil_of_length_eq_zero hn.symm
    refine endGrow ob 0 [] hi0 (Nat.le_refl _) (by omega) (fun _ => ⟨rfl, rfl⟩) (by rw [hr0]; exact Flat.nil) (fun w' _ => ?_)
    cases ob <;> simp [Builtin.firstCells, loadCells, loadCellsFrom]
  case bs b base hi' sz cap hc hcap hlen =>
    have e0 : c0 = .at b base hi' sz := by simpa using hc
    subst e0
    obtain ⟨arr, el, g1, g2, g3, hbl, hfe⟩ := (hI.box 0 _ _ rfl rfl).flat
    subst g1
    simp only [Nat.zero_mul, Nat.zero_add, Nat.add_zero] at hcap ⊢
    generalize hcd : (arr.toList.drop base).take (rows.length * 6) = cs at hfe
    have hcl : cs.length = n * 6 := by rw [hfe.len, ← hn]
    have hcar : ∀ j v, cs[j]? = some v → arr[base + j]? = some v := fun j v h => by
      rw [← hcd, List.getElem?_take] at h
      split at h
      · rw [List.getElem?_drop] at h; simpa using h
      · cases h
    have hcs : ∀ j v, cs[j]? = some v → w.cell? ⟨b, base + j, none⟩ = some v := fun j v h => by
      simp only [World.cell?, hbl]; exact hcar j v h
    have h1c := hfe.oneCell
    have hnk : ∀ o, base ≤ o → o < hi' → K b o = none := fun o h1 h2 => hI.apart b o ⟨0, _, _, rfl, rfl, rfl, ⟨rfl, h1, h2⟩⟩
    have hfz : ∀ o, w.frozen? ⟨b, o, none⟩ = false := fun o => by simp [World.frozen?, hbl]
    have hflat := ins_flat hfe hv i
    by_cases hin : i = n
    · by_cases hfit : n + 1 ≤ cap
      · subst hin
        have hst := run_storeCells_at Tryz.prog b (base + i * 6) el vs 0 arr w hbl (by omega) h1v
        simp only [Nat.add_zero] at hst
        have hrun : ∀ ty, (Builtin.append_ #[44, 44] ty #[.slice (some ⟨b, base, none⟩) i cap, .slice (some ⟨vb, vo, none⟩) 1 c2]).run Tryz.prog w = .ok (.slice (some ⟨b, base, none⟩) (i + 1) cap) (w.setRow b (arr.toList.take (base + i * 6) ++ vs ++ arr.toList.drop (base + i * 6 + vs.length)).toArray) := fun ty =>
          run_app_fit (P := Tryz.prog) (ty := ty) (ob := some ⟨b, base, none⟩) und35 und35 hs78 vs _ (hvfc w rfl) hfit (fun ad e => by cases e; rw [Addr.add_lit]; exact hst) (fun e => by cases e)
        refine (ins_end _ i cap vb vo c2 w _ _ (by omega) hn2 (fun e => by cases e) hrun).mono ?_
        rintro e w' ⟨rfl, rfl⟩
        have hget : ∀ q, (arr.toList.take (base + i * 6) ++ vs ++ arr.toList.drop (base + i * 6 + vs.length)).toArray[q]? = if q < base + i * 6 then arr[q]? else if q < base + i * 6 + vs.length then vs[q - (base + i * 6)]? else arr[q]? := fun q => by
          rw [splice_get _ _ _ _ (by have : arr.toList.length = arr.size := Array.length_toList; omega)]; simp
        have hsize : (arr.toList.take (base + i * 6) ++ vs ++ arr.toList.drop (base + i * 6 + vs.length)).toArray.size = arr.size := by simp; omega
        generalize (arr.toList.take (base + i * 6) ++ vs ++ arr.toList.drop (base + i * 6 + vs.length)).toArray = arr' at hget hsize
        refine post_move (c' := .at b base hi' 6) hI (FrameOk.setRow hbl hsize fun q hq => ?_) (fun b' o' h => .inl h) (hflat.box (setRow_heap w b arr arr' el _ hbl) (fun k v hk => ?_) (by rw [hflat.len.symm.trans (by simp; omega : _ = (i + 1) * 6)]; omega) (by omega)) ?_
        · rw [hget]
          have hout : ¬ (base ≤ q ∧ q < hi') := fun hh => hq ⟨rfl, hh.1, hh.2⟩
          by_cases h5 : q < base + i * 6
          · rw [if_pos h5]
          · rw [if_neg h5, if_neg (by omega)]
        · rw [hget]
          rcases ins_get hcl hvl (Nat.le_refl _) hk with ⟨h1, h2⟩ | ⟨h1, h2, h3⟩ | ⟨h1, h2, h3⟩
          · rw [if_pos (by omega)]; exact hcar k v h2
          · rw [if_neg (by omega), if_pos (by omega), ← h3]; congr 1; omega
          · omega
        · have := @Rep.bs K ([.at b base hi' 6] ++ [.at b base hi' 6]) 1 0 (i + 1) b base hi' 6 cap rfl (by omega) hfit
          simpa using this
      · refine endGrow (some ⟨b, base, none⟩) cap cs hin (by omega) (by omega) (fun e => by cases e) hfe (fun w' hw => ?_)
        refine run_firstCells_some w' 6 n ⟨b, base, none⟩ n cap cs (by omega) (fun j u hu => ?_)
        rw [Addr.add_lit]
        have := hcs j u hu
        simp only [World.cell?, hw] at this ⊢; exact this
    · have hil : i < n := by omega
      by_cases hfit : n + 1 ≤ cap
      · have hlb : arr.toList.length = arr.size := Array.length_toList
        have hsh : w.shape? b = some (el, arr.size) := by simp [World.shape?, hbl]
        refine (ins_shift b base n cap i vb vo c2 cs vs w hil hfit hn2 (fun j k hj hk e hne => ?_) hcl hvl hcs (fun j hj => ?_) (fun j _ => hfz _) hvs h1c h1v tA el kA arr.size hsa hsh (by omega) hkA hfz).mono ?_
        · have hk1 := hvK j _ (List.getElem?_eq_getElem (by omega))
          rw [e, hne, hnk _ (by omega) (by omega)] at hk1
          cases hk1
        · simp only [World.cell?, hbl]
          rw [Array.getElem?_eq_getElem (by omega)]; rfl
        rintro e w' ⟨rfl, rfl⟩
        have hdl : (cs.drop (i * 6)).length = (n - i) * 6 := by rw [List.length_drop, hcl]; omega
        have hbl2 : w.drew.heap[b]? = some (.cells arr el (0, 0)) := hbl
        rw [setCells_row w.drew b _ arr el _ hbl2 (by omega) (fun v hv' => h1c v (List.mem_of_mem_drop hv'))]
        have hget1 := fun q => splice_get arr.toList (cs.drop (i * 6)) (base + (i + 1) * 6) q (by omega)
        have hsz1 : (arr.toList.take (base + (i + 1) * 6) ++ cs.drop (i * 6) ++ arr.toList.drop (base + (i + 1) * 6 + (cs.drop (i * 6)).length)).toArray.size = arr.size := by
          simp only [List.size_toArray, List.length_append, List.length_take, List.length_drop, hlb]; omega
        generalize (arr.toList.take (base + (i + 1) * 6) ++ cs.drop (i * 6) ++ arr.toList.drop (base + (i + 1) * 6 + (cs.drop (i * 6)).length)).toArray = arr1 at hget1 hsz1 ⊢
        have hb1 := setRow_heap w.drew b arr arr1 el (0, 0) hbl2
        have hlb1 : arr1.toList.length = arr1.size := Array.length_toList
        rw [setCells_row _ b _ arr1 el _ hb1 (by omega) h1v]
        have hget2 := fun q => splice_get arr1.toList vs (base + i * 6) q (by omega)
        have hsz2 : (arr1.toList.take (base + i * 6) ++ vs ++ arr1.toList.drop (base + i * 6 + vs.length)).toArray.size = arr1.size := by
          simp only [List.size_toArray, List.length_append, List.length_take, List.length_drop, hlb1]; omega
        generalize (arr1.toList.take (base + i * 6) ++ vs ++ arr1.toList.drop (base + i * 6 + vs.length)).toArray = arr2 at hget2 hsz2 ⊢
        have hb2 := setRow_heap _ b arr1 arr2 el (0, 0) hb1
        simp only [Array.getElem?_toList] at hget1 hget2
        refine post_move (c' := .at b base hi' 6) hI (FrameOk.trans (FrameOk.drew _ w) (FrameOk.trans (FrameOk.setRow hbl2 hsz1 fun q hq => ?_) (FrameOk.setRow (S := (CB.at b base hi' 6).owns) hb1 hsz2 fun q hq => ?_) (fun _ _ _ h => h)) (fun _ _ _ h => h)) (fun b' o' h => .inl h) (hflat.box hb2 (fun k v hk => ?_) ?_ (by omega)) ?_
        · rw [hget1]
          have hout : ¬ (base ≤ q ∧ q < hi') := fun hh => hq ⟨rfl, hh.1, hh.2⟩
          by_cases h5 : q < base + (i + 1) * 6
          · rw [if_pos h5]
          · rw [if_neg h5, if_neg (by omega)]
        · rw [hget2]
          have hout : ¬ (base ≤ q ∧ q < hi') := fun hh => hq ⟨rfl, hh.1, hh.2⟩
          by_cases h5 : q < base + i * 6
          · rw [if_pos h5]
          · rw [if_neg h5, if_neg (by omega)]
        · rw [hget2]
          rcases ins_get hcl hvl hi hk with ⟨h1, h2⟩ | ⟨h1, h2, h3⟩ | ⟨h1, h2, h3⟩
          · rw [if_pos (by omega), hget1, if_pos (by omega)]; exact hcar k v h2
          · rw [if_neg (by omega), if_pos (by omega), ← h3]; congr 1; omega
          · rw [if_neg (by omega), if_neg (by omega), hget1, if_neg (by omega), if_pos (by omega), List.getElem?_drop, ← h3]; congr 1; omega
        · have := hflat.len
          simp only [List.length_append, List.length_take, List.length_drop, List.length_singleton]
          omega
        · have := @Rep.bs K ([.at b base hi' 6] ++ [.at b base hi' 6]) 1 0 (n + 1) b base hi' 6 cap rfl (by omega) hfit
          simpa using this
      · refine (ins_grow b base n cap i vb vo c2 cs vs w hil (by omega) (by omega) (by omega) hcl hvl hcs hvs h1c h1v).mono ?_
        rintro e w' ⟨G, tl, hG, rfl, htl, rfl⟩
        have hdl : (cs.drop (i * 6)).length = (n - i) * 6 := by rw [List.length_drop, hcl]; omega
        have hTl : (cs.take (i * 6)).length = i * 6 := by rw [List.length_take]; omega
        generalize hA : (cs.take (i * 6) ++ tl).toArray = A
        have hAs : A.size = G * 6 := by rw [← hA, List.size_toArray, List.length_append, hTl, htl]; omega
        have hlA : A.toList.length = A.size := Array.length_toList
        have hb0 : (w.alloc (.cells A 47)).drew.heap[w.heap.size]? = some (.cells A 47 (0, 0)) := alloc_get w _
        rw [setCells_row _ _ _ A 47 _ hb0 (by omega) h1v]
        have hget1 := fun q => splice_get A.toList vs (i * 6) q (by omega)
        have hsz1 : (A.toList.take (i * 6) ++ vs ++ A.toList.drop (i * 6 + vs.length)).toArray.size = A.size := by
          simp only [List.size_toArray, List.length_append, List.length_take, List.length_drop, hlA]; omega
        generalize (A.toList.take (i * 6) ++ vs ++ A.toList.drop (i * 6 + vs.length)).toArray = arr1 at hget1 hsz1 ⊢
        have hb1 := setRow_heap _ w.heap.size A arr1 47 (0, 0) hb0
        have hlb1 : arr1.toList.length = arr1.size := Array.length_toList
        have hb1' : ((w.alloc (.cells A 47)).drew.setRow w.heap.size arr1).drew.heap[w.heap.size]? = some (.cells arr1 47 (0, 0)) := hb1
        rw [setCells_row _ _ _ arr1 47 _ hb1' (by omega) (fun v hv' => h1c v (List.mem_of_mem_drop hv'))]
        have hget2 := fun q => splice_get arr1.toList (cs.drop (i * 6)) ((i + 1) * 6) q (by omega)
        have hsz2 : (arr1.toList.take ((i + 1) * 6) ++ cs.drop (i * 6) ++ arr1.toList.drop ((i + 1) * 6 + (cs.drop (i * 6)).length)).toArray.size = arr1.size := by
          simp only [List.size_toArray, List.length_append, List.length_take, List.length_drop, hlb1]; omega
        generalize (arr1.toList.take ((i + 1) * 6) ++ cs.drop (i * 6) ++ arr1.toList.drop ((i + 1) * 6 + (cs.drop (i * 6)).length)).toArray = arr2 at hget2 hsz2 ⊢
        have hb2 := setRow_heap _ w.heap.size arr1 arr2 47 (0, 0) hb1'
        simp only [Array.getElem?_toList] at hget1 hget2
        have hfr : FrameOk (CB.at b base hi' 6).owns w (((w.alloc (.cells A 47)).drew.setRow w.heap.size arr1).drew.setRow w.heap.size arr2) := by
          have f1 : FrameOk (fun p _ => p = w.heap.size) w (((w.alloc (.cells A 47)).drew.setRow w.heap.size arr1).drew.setRow w.heap.size arr2) :=
            FrameOk.trans (FrameOk.alloc (S := fun p _ => p = w.heap.size) w _) (FrameOk.trans (FrameOk.drew _ _) (FrameOk.trans (FrameOk.setRow hb0 hsz1 fun q hq => absurd rfl hq) (FrameOk.trans (FrameOk.drew _ _) (FrameOk.setRow hb1' hsz2 fun q hq => absurd rfl hq) (fun _ _ _ h => h)) (fun _ _ _ h => h)) (fun _ _ _ h => h)) (fun _ _ _ h => h)
          exact f1.mono fun p o hp h => by omega
        refine post_move (c' := .at w.heap.size 0 (G * 6) 6) hI hfr (fun b' o' h => .inr (by rw [h.1]; exact Nat.le_refl _)) (hflat.box hb2 (fun k v hk => ?_) ?_ (by omega)) ?_
        · rw [Nat.zero_add, hget2]
          rcases ins_get hcl hvl hi hk with ⟨h1, h2⟩ | ⟨h1, h2, h3⟩ | ⟨h1, h2, h3⟩
          · rw [if_pos (by omega), hget1, if_pos (by omega), ← hA, List.getElem?_toArray, List.getElem?_append_left (by omega), List.getElem?_take, if_pos h1]; exact h2
          · rw [if_pos (by omega), hget1, if_neg (by omega), if_pos (by omega)]; exact h3
          · rw [if_neg (by omega), if_pos (by omega), List.getElem?_drop, ← h3]; congr 1; omega
        · simp only [List.length_append, List.length_take, List.length_drop, List.length_singleton]
          omega
        · have := @Rep.bs K ([.at b base hi' 6] ++ [.at w.heap.size 0 (G * 6) 6]) 1 0 (n + 1) w.heap.size 0 (G * 6) 6 G rfl (by omega) (by omega)
          simpa using this
end
end Go.Proofs.YtbfnfldmnombgaaGreatDoor.Iv

/- slices.Clone at structs. -/
namespace Go.Proofs.YtbfnfldmnombgaaGreatDoor
open Go.Em Go.RowKit Go.Lib

theorem tabOk0 : TabOk Tryz.prog gl tab := by
  intro f fd h
  unfold tab at h
  split at h
  · exact ⟨_, h⟩
  · cases h
def ext0 : Ext := fun _ => none
theorem machine0 (n : Nat) : GamOk Tryz.prog (RCode Tryz.prog gl) (callF tab ext0 n) := callF_ok tabOk0 (fun _ _ h => by cases h) n
theorem roomC {n b : Nat} (h : n ≤ 1000000) (hb : b ≤ 1000) : roomOk n b = true := by
  have : n * b ≤ 1000000 * 1000 := Nat.mul_le_mul h hb
  simp only [roomOk, Bool.and_eq_true, decide_eq_true_eq]; omega

section
theorem clI113 : (Tryz.prog.info? 51).map (fun i => (i.zero.map (·.cells.size), i.size, i.bytes)) = some (some 10, 10, 152) := by kernel_rfl
theorem clU113 : Tryz.prog.underlying 56 = some (.slice 51) := by kernel_rfl
set_option maxHeartbeats 1000000 in
theorem clN113 (n c : Nat) (w : World) : Calls Tryz.prog 113 #[.slice none n c] w fun e w' => e = .returned (.slice none 0 0) ∧ w' = w := by
  have mixed : Tryz.prog.follows .mixedOrders = true := by kernel_rfl
  have q : ∀ (w : World) (a : Option Addr) (n c n' c' : Nat), (binOp .eql 56 (.slice a n c) (.slice none n' c')).run Tryz.prog w = .ok (.bool a.isNone) w := fun w a n c n' c' => Lib.run_eql_slice_nil w _ _ a n c n' c' clU113
  go_enter Tryz.func113, Tryz.ntmps113
  go_wp2
  go_ret
  exact ⟨rfl, rfl⟩
set_option maxHeartbeats 2000000 in
set_option maxRecDepth 100000 in
theorem clZ113 (a : Addr) (c : Nat) (w : World) : Calls Tryz.prog 113 #[.slice (some a) 0 c] w fun e w' => ∃ v', e = .returned v' ∧ w'.ownsRow w.heap.size 51 10 v' 0 [] ∧ Below w.heap.size w w' := by
  have mixed : Tryz.prog.follows .mixedOrders = true := by kernel_rfl
  obtain ⟨i0, hi, hzz⟩ := Option.map_eq_some_iff.1 clI113
  simp only [Prod.mk.injEq] at hzz
  obtain ⟨hz0, hz1, hz2⟩ := hzz
  obtain ⟨z, hz, hzs⟩ := Option.map_eq_some_iff.1 hz0
  have q : ∀ (w : World) (a : Option Addr) (n c n' c' : Nat), (binOp .eql 56 (.slice a n c) (.slice none n' c')).run Tryz.prog w = .ok (.bool a.isNone) w := fun w a n c n' c' => Lib.run_eql_slice_nil w _ _ a n c n' c' clU113
  have u : ∀ w, Sem.run Tryz.prog (underlying 56) w = .ok (TypeDesc.slice 51) w := run_underlying clU113
  go_enter Tryz.func113, Tryz.ntmps113
  go_wp2_with (at_builtin; refine wpList_append_own _ rfl _ _ 56 rfl w.heap.size 51 i0 z 10 152 clU113 hi hz hz1 hz2 hzs (by decide) _ _ _ rfl (World.ownsRow_made w #[] 0 (Nat.le_refl _) (Nat.zero_le _) rfl) a 0 c [] rfl rfl (by intro j u hj; simp at hj) (by intro u hu; cases hu) (by unfold maxLen; omega) (by omega) (by simp) ?_)
  intro v' w1 hown hgrow hnil
  go_wp2
  go_ret
  refine ⟨v', rfl, by simpa using hown, ?_⟩
  exact ((Below.refl _ w).alloc (Nat.le_refl _) _).grown hgrow (by simp) (by intro k hk; simp [Value.ownBlock] at hk; omega)
theorem clM113 (e : List X) (r : List (List X)) (t : Bool) (N : Nat) (h : (e :: r).length ≤ 1000000) : callF tab ext0 (N + 1) (.fn 113) [.sl t 10 (e :: r)] [] = some (.bs 0 0 (e :: r).length, [.row 10 (e :: r)]) := by
  have := callF_of (T := tab) (ext := ext0) (N := N) (f := 113) (args := [.sl t 10 (e :: r)]) (inb := []) (r := some (.bs 0 0 (0 + (e :: r).length), [.row 10 ([] ++ (e :: r))])) [(7, .fresh)] [] (pf1 (a := (e :: r).isEmpty = false ∧ roomOk (0 + (e :: r).length) 152 = true) ⟨rfl, by rw [Nat.zero_add]; exact roomC h (by decide)⟩) (by kernel_rfl)
  rw [Nat.zero_add, List.nil_append] at this
  exact this
theorem cl_sem113 (t : Bool) (es : List (List X)) (h : es.length ≤ 1000000) : FSem Tryz.prog (RCode Tryz.prog gl) 113 [.sl t 10 es] [] (.bs 0 0 es.length) [.row 10 es] := by
  cases es with
  | cons e r => exact ((machine0 1).fn _ _ _ _ _ (clM113 e r t 0 h)).2
  | nil =>
    intro K C w cargs hI ha
    have hs : cargs.size = 1 := ha.1
    have r0 := ha.2 0 _ cargs[0] rfl (Array.getElem?_eq_getElem (by omega))
    have hca : cargs = #[cargs[0]] := by
      refine Array.ext (by simp [hs]) fun i h1 h2 => ?_
      match i, h1, h2 with
      | 0, _, _ => rfl
      | i + 1, h1, _ => omega
    rw [hca]
    generalize cargs[0] = v at r0
    have key : Calls Tryz.prog 113 #[v] w fun e w' => ∃ v', e = .returned v' ∧ w'.ownsRow w.heap.size 51 10 v' 0 [] ∧ Below w.heap.size w w' := by
      generalize hx : X.sl t 10 [] = x at r0
      cases r0 <;> try cases hx
      case slNil ob =>
        cases ob with
        | none =>
          refine (clN113 0 0 w).mono ?_
          rintro e w' ⟨rfl, rfl⟩
          exact ⟨_, rfl, World.ownsRow_nil _ _ _ _, Below.refl _ _⟩
        | some a => exact clZ113 a 0 w
      case sl => exact clZ113 _ _ w
    exact fsem_none (inb := []) (args := []) hI key
end

section
theorem clI114 : (Tryz.prog.info? 47).map (fun i => (i.zero.map (·.cells.size), i.size, i.bytes)) = some (some 6, 6, 88) := by kernel_rfl
theorem clU114 : Tryz.prog.underlying 44 = some (.slice 47) := by kernel_rfl
set_option maxHeartbeats 1000000 in
theorem clN114 (n c : Nat) (w : World) : Calls Tryz.prog 114 #[.slice none n c] w fun e w' => e = .returned (.slice none 0 0) ∧ w' = w := by
  have mixed : Tryz.prog.follows .mixedOrders = true := by kernel_rfl
  have q : ∀ (w : World) (a : Option Addr) (n c n' c' : Nat), (binOp .eql 44 (.slice a n c) (.slice none n' c')).run Tryz.prog w = .ok (.bool a.isNone) w := fun w a n c n' c' => Lib.run_eql_slice_nil w _ _ a n c n' c' clU114
  go_enter Tryz.func114, Tryz.ntmps114
  go_wp2
  go_ret
  exact ⟨rfl, rfl⟩
set_option maxHeartbeats 2000000 in
set_option maxRecDepth 100000 in
theorem clZ114 (a : Addr) (c : Nat) (w : World) : Calls Tryz.prog 114 #[.slice (some a) 0 c] w fun e w' => ∃ v', e = .returned v' ∧ w'.ownsRow w.heap.size 47 6 v' 0 [] ∧ Below w.heap.size w w' := by
  have mixed : Tryz.prog.follows .mixedOrders = true := by kernel_rfl
  obtain ⟨i0, hi, hzz⟩ := Option.map_eq_some_iff.1 clI114
  simp only [Prod.mk.injEq] at hzz
  obtain ⟨hz0, hz1, hz2⟩ := hzz
  obtain ⟨z, hz, hzs⟩ := Option.map_eq_some_iff.1 hz0
  have q : ∀ (w : World) (a : Option Addr) (n c n' c' : Nat), (binOp .eql 44 (.slice a n c) (.slice none n' c')).run Tryz.prog w = .ok (.bool a.isNone) w := fun w a n c n' c' => Lib.run_eql_slice_nil w _ _ a n c n' c' clU114
  have u : ∀ w, Sem.run Tryz.prog (underlying 44) w = .ok (TypeDesc.slice 47) w := run_underlying clU114
  go_enter Tryz.func114, Tryz.ntmps114
  go_wp2_with (at_builtin; refine wpList_append_own _ rfl _ _ 44 rfl w.heap.size 47 i0 z 6 88 clU114 hi hz hz1 hz2 hzs (by decide) _ _ _ rfl (World.ownsRow_made w #[] 0 (Nat.le_refl _) (Nat.zero_le _) rfl) a 0 c [] rfl rfl (by intro j u hj; simp at hj) (by intro u hu; cases hu) (by unfold maxLen; omega) (by omega) (by simp) ?_)
  intro v' w1 hown hgrow hnil
  go_wp2
  go_ret
  refine ⟨v', rfl, by simpa using hown, ?_⟩
  exact ((Below.refl _ w).alloc (Nat.le_refl _) _).grown hgrow (by simp) (by intro k hk; simp [Value.ownBlock] at hk; omega)
theorem clM114 (e : List X) (r : List (List X)) (t : Bool) (N : Nat) (h : (e :: r).length ≤ 1000000) : callF tab ext0 (N + 1) (.fn 114) [.sl t 6 (e :: r)] [] = some (.bs 0 0 (e :: r).length, [.row 6 (e :: r)]) := by
  have := callF_of (T := tab) (ext := ext0) (N := N) (f := 114) (args := [.sl t 6 (e :: r)]) (inb := []) (r := some (.bs 0 0 (0 + (e :: r).length), [.row 6 ([] ++ (e :: r))])) [(7, .fresh)] [] (pf1 (a := (e :: r).isEmpty = false ∧ roomOk (0 + (e :: r).length) 88 = true) ⟨rfl, by rw [Nat.zero_add]; exact roomC h (by decide)⟩) (by kernel_rfl)
  rw [Nat.zero_add, List.nil_append] at this
  exact this
theorem cl_sem114 (t : Bool) (es : List (List X)) (h : es.length ≤ 1000000) : FSem Tryz.prog (RCode Tryz.prog gl) 114 [.sl t 6 es] [] (.bs 0 0 es.length) [.row 6 es] := by
  cases es with
  | cons e r => exact ((machine0 1).fn _ _ _ _ _ (clM114 e r t 0 h)).2
  | nil =>
    intro K C w cargs hI ha
    have hs : cargs.size = 1 := ha.1
    have r0 := ha.2 0 _ cargs[0] rfl (Array.getElem?_eq_getElem (by omega))
    have hca : cargs = #[cargs[0]] := by
      refine Array.ext (by simp [hs]) fun i h1 h2 => ?_
      match i, h1, h2 with
      | 0, _, _ => rfl
      | i + 1, h1, _ => omega
    rw [hca]
    generalize cargs[0] = v at r0
    have key : Calls Tryz.prog 114 #[v] w fun e w' => ∃ v', e = .returned v' ∧ w'.ownsRow w.heap.size 47 6 v' 0 [] ∧ Below w.heap.size w w' := by
      generalize hx : X.sl t 6 [] = x at r0
      cases r0 <;> try cases hx
      case slNil ob =>
        cases ob with
        | none =>
          refine (clN114 0 0 w).mono ?_
          rintro e w' ⟨rfl, rfl⟩
          exact ⟨_, rfl, World.ownsRow_nil _ _ _ _, Below.refl _ _⟩
        | some a => exact clZ114 a 0 w
      case sl => exact clZ114 _ _ w
    exact fsem_none (inb := []) (args := []) hI key
end

section
theorem clI95 : (Tryz.prog.info? 75).map (fun i => (i.zero.map (·.cells.size), i.size, i.bytes)) = some (some 5, 5, 80) := by kernel_rfl
theorem clU95 : Tryz.prog.underlying 27 = some (.slice 75) := by kernel_rfl
set_option maxHeartbeats 1000000 in
theorem clN95 (n c : Nat) (w : World) : Calls Tryz.prog 95 #[.slice none n c] w fun e w' => e = .returned (.slice none 0 0) ∧ w' = w := by
  have mixed : Tryz.prog.follows .mixedOrders = true := by kernel_rfl
  have q : ∀ (w : World) (a : Option Addr) (n c n' c' : Nat), (binOp .eql 27 (.slice a n c) (.slice none n' c')).run Tryz.prog w = .ok (.bool a.isNone) w := fun w a n c n' c' => Lib.run_eql_slice_nil w _ _ a n c n' c' clU95
  go_enter Tryz.func95, Tryz.ntmps95
  go_wp2
  go_ret
  exact ⟨rfl, rfl⟩
set_option maxHeartbeats 2000000 in
set_option maxRecDepth 100000 in
theorem clZ95 (a : Addr) (c : Nat) (w : World) : Calls Tryz.prog 95 #[.slice (some a) 0 c] w fun e w' => ∃ v', e = .returned v' ∧ w'.ownsRow w.heap.size 75 5 v' 0 [] ∧ Below w.heap.size w w' := by
  have mixed : Tryz.prog.follows .mixedOrders = true := by kernel_rfl
  obtain ⟨i0, hi, hzz⟩ := Option.map_eq_some_iff.1 clI95
  simp only [Prod.mk.injEq] at hzz
  obtain ⟨hz0, hz1, hz2⟩ := hzz
  obtain ⟨z, hz, hzs⟩ := Option.map_eq_some_iff.1 hz0
  have q : ∀ (w : World) (a : Option Addr) (n c n' c' : Nat), (binOp .eql 27 (.slice a n c) (.slice none n' c')).run Tryz.prog w = .ok (.bool a.isNone) w := fun w a n c n' c' => Lib.run_eql_slice_nil w _ _ a n c n' c' clU95
  have u : ∀ w, Sem.run Tryz.prog (underlying 27) w = .ok (TypeDesc.slice 75) w := run_underlying clU95
  go_enter Tryz.func95, Tryz.ntmps95
  go_wp2_with (at_builtin; refine wpList_append_own _ rfl _ _ 27 rfl w.heap.size 75 i0 z 5 80 clU95 hi hz hz1 hz2 hzs (by decide) _ _ _ rfl (World.ownsRow_made w #[] 0 (Nat.le_refl _) (Nat.zero_le _) rfl) a 0 c [] rfl rfl (by intro j u hj; simp at hj) (by intro u hu; cases hu) (by unfold maxLen; omega) (by omega) (by simp) ?_)
  intro v' w1 hown hgrow hnil
  go_wp2
  go_ret
  refine ⟨v', rfl, by simpa using hown, ?_⟩
  exact ((Below.refl _ w).alloc (Nat.le_refl _) _).grown hgrow (by simp) (by intro k hk; simp [Value.ownBlock] at hk; omega)
theorem clM95 (e : List X) (r : List (List X)) (t : Bool) (N : Nat) (h : (e :: r).length ≤ 1000000) : callF tab ext0 (N + 1) (.fn 95) [.sl t 5 (e :: r)] [] = some (.bs 0 0 (e :: r).length, [.row 5 (e :: r)]) := by
  have := callF_of (T := tab) (ext := ext0) (N := N) (f := 95) (args := [.sl t 5 (e :: r)]) (inb := []) (r := some (.bs 0 0 (0 + (e :: r).length), [.row 5 ([] ++ (e :: r))])) [(7, .fresh)] [] (pf1 (a := (e :: r).isEmpty = false ∧ roomOk (0 + (e :: r).length) 80 = true) ⟨rfl, by rw [Nat.zero_add]; exact roomC h (by decide)⟩) (by kernel_rfl)
  rw [Nat.zero_add, List.nil_append] at this
  exact this
theorem cl_sem95 (t : Bool) (es : List (List X)) (h : es.length ≤ 1000000) : FSem Tryz.prog (RCode Tryz.prog gl) 95 [.sl t 5 es] [] (.bs 0 0 es.length) [.row 5 es] := by
  cases es with
  | cons e r => exact ((machine0 1).fn _ _ _ _ _ (clM95 e r t 0 h)).2
  | nil =>
    intro K C w cargs hI ha
    have hs : cargs.size = 1 := ha.1
    have r0 := ha.2 0 _ cargs[0] rfl (Array.getElem?_eq_getElem (by omega))
    have hca : cargs = #[cargs[0]] := by
      refine Array.ext (by simp [hs]) fun i h1 h2 => ?_
      match i, h1, h2 with
      | 0, _, _ => rfl
      | i + 1, h1, _ => omega
    rw [hca]
    generalize cargs[0] = v at r0
    have key : Calls Tryz.prog 95 #[v] w fun e w' => ∃ v', e = .returned v' ∧ w'.ownsRow w.heap.size 75 5 v' 0 [] ∧ Below w.heap.size w w' := by
      generalize hx : X.sl t 5 [] = x at r0
      cases r0 <;> try cases hx
      case slNil ob =>
        cases ob with
        | none =>
          refine (clN95 0 0 w).mono ?_
          rintro e w' ⟨rfl, rfl⟩
          exact ⟨_, rfl, World.ownsRow_nil _ _ _ _, Below.refl _ _⟩
        | some a => exact clZ95 a 0 w
      case sl => exact clZ95 _ _ w
    exact fsem_none (inb := []) (args := []) hI key
end

end Go.Proofs.YtbfnfldmnombgaaGreatDoor

/- The abstract machine with this table is sound for the program: the functions of the library that are not walked. -/
namespace Go.Proofs
open Go.Shelf
def Tryz.laysClone_ren : Go.Shelf.Ren := ⟨fun | 15 => 108 | n => n, fun | 22 => 32 | 3 => 3 | 4 => 4 | n => n, fun | n => n⟩
theorem Tryz.laysClone : Go.Proofs.Lays2.n15 Tryz.prog Tryz.laysClone_ren := {
  mixed := by kernel_rfl
  f15 := Tryz.func108.trans (congrArg some (by kernel_rfl))
  t3 := Tryz.underlying3
  a3 := Tryz.isAgg3
  z3 := Tryz.sizeOf3
  v3 := Tryz.zeroValue3
  t4 := Tryz.underlying4
  a4 := Tryz.isAgg4
  z4 := Tryz.sizeOf4
  v4 := Tryz.zeroValue4
  t22 := Tryz.underlying32
  a22 := Tryz.isAgg32
  z22 := Tryz.sizeOf32
  v22 := Tryz.zeroValue32
  i3 := by kernel_rfl }
def Tryz.laysValid_ren : Go.Shelf.Ren := ⟨fun | 196 => 134 | 259 => 174 | n => n, fun | 9 => 9 | 4 => 4 | 3 => 3 | 5 => 5 | 12 => 12 | 119 => 241 | 0 => 0 | 46 => 182 | 139 => 244 | 138 => 243 | 53 => 238 | n => n, fun | 3 => 1 | 4 => 2 | n => n⟩
theorem Tryz.laysValid : Go.Proofs.Lays.n196 Tryz.prog Tryz.laysValid_ren := {
  mixed := by kernel_rfl
  f196 := Tryz.func134.trans (congrArg some (by kernel_rfl))
  f259 := Tryz.func174.trans (congrArg some (by kernel_rfl))
  t0 := Tryz.underlying0
  a0 := Tryz.isAgg0
  z0 := Tryz.sizeOf0
  v0 := Tryz.zeroValue0
  t3 := Tryz.underlying3
  a3 := Tryz.isAgg3
  z3 := Tryz.sizeOf3
  v3 := Tryz.zeroValue3
  t4 := Tryz.underlying4
  a4 := Tryz.isAgg4
  z4 := Tryz.sizeOf4
  v4 := Tryz.zeroValue4
  t5 := Tryz.underlying5
  a5 := Tryz.isAgg5
  z5 := Tryz.sizeOf5
  v5 := Tryz.zeroValue5
  t9 := Tryz.underlying9
  a9 := Tryz.isAgg9
  z9 := Tryz.sizeOf9
  v9 := Tryz.zeroValue9
  t12 := Tryz.underlying12
  a12 := Tryz.isAgg12
  z12 := Tryz.sizeOf12
  v12 := Tryz.zeroValue12
  t46 := Tryz.underlying182
  a46 := Tryz.isAgg182
  z46 := Tryz.sizeOf182
  v46 := Tryz.zeroValue182
  t53 := Tryz.underlying238
  a53 := Tryz.isAgg238
  z53 := Tryz.sizeOf238
  v53 := Tryz.zeroValue238
  t119 := Tryz.underlying241
  a119 := Tryz.isAgg241
  z119 := Tryz.sizeOf241
  t138 := Tryz.underlying243
  a138 := Tryz.isAgg243
  z138 := Tryz.sizeOf243
  v138 := Tryz.zeroValue243
  t139 := Tryz.underlying244
  a139 := Tryz.isAgg244
  z139 := Tryz.sizeOf244
  v139 := Tryz.zeroValue244
  g3 := by kernel_rfl
  g4 := by kernel_rfl }
def Tryz.laysAny_ren : Go.Shelf.Ren := ⟨fun | 153 => 247 | 152 => 278 | 226 => 279 | 227 => 280 | 228 => 281 | 137 => 302 | 119 => 303 | 224 => 304 | 225 => 305 | 217 => 325 | 266 => 334 | n => n, fun | 9 => 9 | 3 => 3 | 4 => 4 | 5 => 5 | 21 => 21 | 117 => 345 | 116 => 344 | 0 => 0 | 46 => 182 | 124 => 367 | n => n, fun | n => n⟩
theorem Tryz.laysAny : Go.Proofs.Lays.n153 Tryz.prog Tryz.laysAny_ren := {
  mixed := by kernel_rfl
  f119 := Tryz.func303.trans (congrArg some (by kernel_rfl))
  f137 := Tryz.func302.trans (congrArg some (by kernel_rfl))
  f152 := Tryz.func278.trans (congrArg some (by kernel_rfl))
  f153 := Tryz.func247.trans (congrArg some (by kernel_rfl))
  f217 := Tryz.func325.trans (congrArg some (by kernel_rfl))
  f224 := Tryz.func304.trans (congrArg some (by kernel_rfl))
  f225 := Tryz.func305.trans (congrArg some (by kernel_rfl))
  f226 := Tryz.func279.trans (congrArg some (by kernel_rfl))
  f227 := Tryz.func280.trans (congrArg some (by kernel_rfl))
  f228 := Tryz.func281.trans (congrArg some (by kernel_rfl))
  f266 := Tryz.func334.trans (congrArg some (by kernel_rfl))
  t0 := Tryz.underlying0
  a0 := Tryz.isAgg0
  z0 := Tryz.sizeOf0
  v0 := Tryz.zeroValue0
  t3 := Tryz.underlying3
  a3 := Tryz.isAgg3
  z3 := Tryz.sizeOf3
  v3 := Tryz.zeroValue3
  t4 := Tryz.underlying4
  a4 := Tryz.isAgg4
  z4 := Tryz.sizeOf4
  v4 := Tryz.zeroValue4
  t5 := Tryz.underlying5
  a5 := Tryz.isAgg5
  z5 := Tryz.sizeOf5
  v5 := Tryz.zeroValue5
  t9 := Tryz.underlying9
  a9 := Tryz.isAgg9
  z9 := Tryz.sizeOf9
  v9 := Tryz.zeroValue9
  t21 := Tryz.underlying21
  a21 := Tryz.isAgg21
  z21 := Tryz.sizeOf21
  v21 := Tryz.zeroValue21
  t46 := Tryz.underlying182
  a46 := Tryz.isAgg182
  z46 := Tryz.sizeOf182
  v46 := Tryz.zeroValue182
  t116 := Tryz.underlying344
  a116 := Tryz.isAgg344
  z116 := Tryz.sizeOf344
  t117 := Tryz.underlying345
  a117 := Tryz.isAgg345
  z117 := Tryz.sizeOf345
  v117 := Tryz.zeroValue345
  t124 := Tryz.underlying367
  a124 := Tryz.isAgg367
  z124 := Tryz.sizeOf367
  v124 := Tryz.zeroValue367 }
namespace YtbfnfldmnombgaaGreatDoor
open Go.RowKit Go.Em

set_option maxHeartbeats 1000000 in
set_option maxRecDepth 100000 in
theorem compare_calls (a b : ByteArray) (w : World) :
    Calls Tryz.prog 124 #[.string a, .string b] w fun e w' => e = .returned (.int .i64 (Lib.compareBytes a.data.toList b.data.toList)) ∧ w' = w := by
  go_enter Tryz.func124, Tryz.ntmps124
  go_wp2
  rw [run_callFunc_extern Tryz.func173 (by kernel_rfl) (by kernel_rfl) (by kernel_rfl) (e := Extern.BytealgCompare.compare) (by kernel_rfl), Lib.run_compareString]
  simp only [Result.andThen]
  rw [Oper.upon_value]
  go_wp2
  go_ret
  exact ⟨rfl, rfl⟩

section
variable {P : Program} {R : CodeRel}
/-- A function that gives back a value of one word, and may make blocks of its own. -/
theorem fsem_word {f : FuncId} {args : List X} {inb : List Bx} {u : Value} (hu : okV u = true) (h : ∀ (cargs : Array Value) (w : World) (K : Kn) (C : List CB), Inv P R K C inb w → ArgsRep K C args cargs → Calls P f cargs w fun e w' => e = .returned u ∧ Below w.heap.size w w') : FSem P R f args inb (.v u) inb := by
  intro K C w cargs hI ha
  refine (h cargs w K C hI ha).mono ?_
  rintro e w' ⟨rfl, hB⟩
  have hf := frame_of_below hB
  exact ⟨u, K, [], rfl, owns_same (hI.still hf), .v hu, KLe.refl _, fun b o v e => .inl e, fun b o ho => .inl (by rw [List.append_nil] at ho; exact ho), hf.mono (fun b o _ hs => hs.elim), fun i B hB hl => ⟨B, hB, hl⟩⟩
end
theorem intsOf_length : ∀ {es : List (List X)} {zs : List Int}, intsOf es = some zs → es.length = zs.length ∧ ∀ j, j < zs.length → es[j]? = some [.v (.int .i64 (zs.getD j 0))]
  | [], zs, h => by
    simp only [intsOf, Option.some.injEq] at h; subst h
    exact ⟨rfl, fun j hj => by simp at hj⟩
  | e :: r, zs, h => by
    unfold intsOf at h
    split at h
    · rename_i heq; cases heq
    · rename_i z r' heq
      obtain ⟨rfl, rfl⟩ := List.cons.inj heq
      split at h
      · rename_i l hl
        simp only [Option.some.injEq] at h; subst h
        obtain ⟨h1, h2⟩ := intsOf_length hl
        refine ⟨by simp [h1], fun j hj => ?_⟩
        cases j with
        | zero => rfl
        | succ j =>
          have := h2 j (by simpa using hj)
          simpa using this
      · cases h
    · cases h
theorem clone_sem {R : CodeRel} (t : Bool) (es : List (List X)) (zs : List Int) (h : intsOf es = some zs) (hz : zs.length ≤ 1000000) (inb : List Bx) : FSem Tryz.prog R 108 [.sl t 1 es] inb (.bs inb.length 0 zs.length) (inb ++ [.row 1 (intRow zs)]) := by
  refine fsem_ints (el := 3) zs fun cargs w K C hI ha => ?_
  obtain ⟨h1, h2⟩ := intsOf_length h
  have hs : cargs.size = 1 := ha.1
  have r0 := ha.2 0 _ cargs[0] rfl (Array.getElem?_eq_getElem (by omega))
  have hca : cargs = #[cargs[0]] := by
    refine Array.ext (by simp [hs]) fun i h1 h2 => ?_
    match i, h1, h2 with
    | 0, _, _ => rfl
    | i + 1, h1, _ => omega
  rw [hca]
  generalize cargs[0] = v at r0
  generalize hx : X.sl t 1 es = x at r0
  cases r0 <;> try cases hx
  case slNil ob =>
    simp only [intsOf, Option.some.injEq] at h; subst h
    cases ob with
    | none =>
      refine (Any.slices_Clone_int_nil Tryz.laysClone 0 0 w).mono ?_
      rintro e w' ⟨rfl, rfl⟩
      exact ⟨_, rfl, ⟨rfl, .inl ⟨rfl, rfl⟩⟩, Below.refl _ _⟩
    | some a =>
      refine (Any.slices_Clone_int_zero Tryz.laysClone a 0 w).mono ?_
      rintro e w' ⟨v', rfl, ho, _, hB⟩
      exact ⟨v', rfl, ho, hB⟩
  case sl b o cap vals hcap hcell hr htight hlen hk =>
    have hcells : ∀ j, j < zs.length → w.cell? ⟨b, o + j, none⟩ = some (.int .i64 (zs.getD j 0)) := fun j hj => by
      have e1 := h2 j hj
      have e2 : at2 es j 0 = some (.v (.int .i64 (zs.getD j 0))) := by simp [at2, e1]
      have e3 := hI.known _ _ _ (hk j 0 _ e2)
      have e4 := rep_v (hr j 0 _ e2)
      rw [← e4]
      simpa using e3
    refine (Any.slices_Clone_int Tryz.laysClone b o es.length cap zs w (by omega) (by omega) hcells).mono ?_
    rintro e w' ⟨v', rfl, ho, _, hB⟩
    refine ⟨v', rfl, ?_, hB⟩
    rw [h1, List.take_length] at ho
    exact ho

/-- The tables of the library's text, as they lie in memory. -/
theorem tabs_of {R : CodeRel} (hR : R.gl = gl) {K : Kn} {C : List CB} {bx : List Bx} {w : World} (hI : Inv Tryz.prog R K C bx w) : Lib.Utf8Tabs (Tryz.laysValid_ren.g 3) (Tryz.laysValid_ren.g 4) w := by
  have cell : ∀ (g : Nat) (cs : List X), gl g = some cs → ∀ (j : Nat) (v : Value), cs[j]? = some (.v v) → w.cell? ⟨g, j, none⟩ = some v := fun g cs hg j v hj => by
    have h := hI.glob g cs (by rw [hR]; exact hg)
    cases h with
    | dp vals hcell hk hr =>
      have e3 := hI.known _ _ _ (hk j _ hj)
      rw [← rep_v (hr j _ hj)]
      simpa using e3
  have g3 : Tryz.laysValid_ren.g 3 = 1 := by kernel_rfl
  have g4 : Tryz.laysValid_ren.g 4 = 2 := by kernel_rfl
  rw [g3, g4]
  constructor
  · intro c hc
    have hall : ((List.range 256).all fun c => match (bytesX Go.Pinned.utf8FirstZ)[c]? with
      | some (.v (.int .u8 z)) => z == Lib.firstT c
      | _ => false) = true := by kernel_rfl
    have h1 := List.all_eq_true.1 hall c (List.mem_range.2 hc)
    split at h1
    · rename_i z hz
      rw [cell 1 _ rfl c _ hz, eq_of_beq h1]
    · cases h1
  · intro i hi
    have hall : ((List.range 16).all fun i => (match (bytesX ([128, 191, 160, 191, 128, 159, 144, 191, 128, 143] ++ List.replicate 22 0))[2 * i]? with
      | some (.v (.int .u8 z)) => z == Lib.accLo i
      | _ => false) && (match (bytesX ([128, 191, 160, 191, 128, 159, 144, 191, 128, 143] ++ List.replicate 22 0))[2 * i + 1]? with
      | some (.v (.int .u8 z)) => z == Lib.accHi i
      | _ => false)) = true := by kernel_rfl
    have h1 := List.all_eq_true.1 hall i (List.mem_range.2 hi)
    rw [Bool.and_eq_true] at h1
    obtain ⟨h1, h2⟩ := h1
    constructor
    · split at h1
      · rename_i z hz
        rw [cell 2 _ rfl (2 * i) _ hz, eq_of_beq h1]
      · cases h1
    · split at h2
      · rename_i z hz
        rw [cell 2 _ rfl (2 * i + 1) _ hz, eq_of_beq h2]
      · cases h2

theorem valid_sem {R : CodeRel} (hR : R.gl = gl) (s : ByteArray) (hs : s.size ≤ 9223372036854775807) (inb : List Bx) : FSem Tryz.prog R 134 [.v (.string s)] inb (.v (.bool (Lib.validD s.data.toList))) inb := by
  refine fsem_word rfl fun cargs w K C hI ha => ?_
  have h2 : cargs = #[.string s] := by
    have hs : cargs.size = 1 := ha.1
    have r0 := rep_v (ha.2 0 _ cargs[0] rfl (Array.getElem?_eq_getElem (by omega)))
    refine Array.ext (by simp [hs]) fun i h1 h2 => ?_
    match i, h1, h2 with
    | 0, _, _ => simpa using r0
    | i + 1, h1, _ => omega
  rw [h2]
  exact Any.utf8_ValidString Tryz.laysValid s w hs (tabs_of hR hI)

theorem ascii_mem {s : ByteArray} (h : asciiB s = true) (j : Nat) (b : UInt8) (hb : s.data.toList[j]? = some b) : b.toNat < 128 := by
  have h1 := List.all_eq_true.1 h b (List.mem_of_getElem? hb)
  exact of_decide_eq_true h1
theorem any_sem {R : CodeRel} (s t : ByteArray) (hs : s.size < 4294967281) (ht : t.size < 4294967281) (ha : asciiB s = true) (hb : asciiB t = true) (inb : List Bx) : FSem Tryz.prog R 247 [.v (.string s), .v (.string t)] inb (.v (.int .i64 (Lib.indexAny s.data.toList t.data.toList))) inb := by
  refine fsem_word rfl fun cargs w K C hI hc => ?_
  have h2 : cargs = #[.string s, .string t] := by
    have hs : cargs.size = 2 := hc.1
    have r0 := rep_v (hc.2 0 _ cargs[0] rfl (Array.getElem?_eq_getElem (by omega)))
    have r1 := rep_v (hc.2 1 _ cargs[1] rfl (Array.getElem?_eq_getElem (by omega)))
    refine Array.ext (by simp [hs]) fun i h1 h2 => ?_
    match i, h1, h2 with
    | 0, _, _ => simpa using r0
    | 1, _, _ => simpa using r1
    | i + 2, h1, _ => omega
  rw [h2]
  exact Any.strings_IndexAny_laid Tryz.laysAny (by kernel_rfl) s t w hs ht (ascii_mem ha) (ascii_mem hb)

theorem ite_some {α : Type} {c : Bool} {a g : α} {b : Option α} (h : (if c = true then some a else b) = some g) : (c = true ∧ a = g) ∨ (c = false ∧ b = some g) := by
  cases c with
  | true => exact .inl ⟨rfl, Option.some.inj h⟩
  | false => exact .inr ⟨rfl, h⟩
theorem tabOk : TabOk Tryz.prog gl tab := by
  intro f fd h
  unfold tab at h
  split at h
  · exact ⟨_, h⟩
  · cases h

theorem extOk : ExtOk Tryz.prog gl ext := by
  intro f g hg args inb res outb h
  unfold ext at hg
  rcases ite_some hg with ⟨hf, hq⟩ | ⟨_, hg0⟩
  · have hf' : f = 124 := by simpa using hf
    subst hf'
    subst hq
    unfold compareExt at h
    split at h
    · rename_i a b
      simp only [Option.some.injEq, Prod.mk.injEq] at h
      obtain ⟨rfl, rfl⟩ := h
      refine ⟨fnOk Tryz.func124 (fun e => absurd e (of_decide_eq_false (by kernel_rfl))) (fun e => by simpa [e] using (show Tryz.f124.body.isSome = true by kernel_rfl)), fsem_pure rfl fun cargs w K C ha => ?_⟩
      have h2 : cargs = #[.string a, .string b] := by
        have hs : cargs.size = 2 := ha.1
        have r0 := rep_v (ha.2 0 _ cargs[0] rfl (Array.getElem?_eq_getElem (by omega)))
        have r1 := rep_v (ha.2 1 _ cargs[1] rfl (Array.getElem?_eq_getElem (by omega)))
        refine Array.ext (by simp [hs]) fun i h1 h2 => ?_
        match i, h1, h2 with
        | 0, _, _ => simpa using r0
        | 1, _, _ => simpa using r1
        | i + 2, h1, _ => omega
      rw [h2]
      exact compare_calls a b w
    · cases h
  · rcases ite_some hg0 with ⟨hf, hq⟩ | ⟨_, hg1⟩
    · have hf' : f = 134 := by simpa using hf
      subst hf'
      subst hq
      unfold validExt at h
      split at h
      · split at h
        · rename_i a hsz
          simp only [Option.some.injEq, Prod.mk.injEq] at h
          obtain ⟨rfl, rfl⟩ := h
          exact ⟨fnOk Tryz.func134 (fun e => absurd e (of_decide_eq_false (by kernel_rfl))) (fun e => by simpa [e] using (show Tryz.f134.body.isSome = true by kernel_rfl)), valid_sem rfl a hsz inb⟩
        · cases h
      · cases h
    · rcases ite_some hg1 with ⟨hf, hq⟩ | ⟨_, hg2⟩
      · have hf' : f = 108 := by simpa using hf
        subst hf'
        subst hq
        unfold cloneExt at h
        split at h
        · split at h
          · rename_i zs hzs
            split at h
            · rename_i hle
              simp only [Option.some.injEq, Prod.mk.injEq] at h
              obtain ⟨rfl, rfl⟩ := h
              exact ⟨fnOk Tryz.func108 (fun e => absurd e (of_decide_eq_false (by kernel_rfl))) (fun e => by simpa [e] using (show Tryz.f108.body.isSome = true by kernel_rfl)), clone_sem _ _ zs hzs hle inb⟩
            · cases h
          · cases h
        · cases h
      · rcases ite_some hg2 with ⟨hf, hq⟩ | ⟨_, hg3⟩
        · have hf' : f = 247 := by simpa using hf
          subst hf'
          subst hq
          unfold indexAnyExt at h
          split at h
          · split at h
            · rename_i a b hc
              obtain ⟨h1, h2, h3, h4⟩ := hc
              simp only [Option.some.injEq, Prod.mk.injEq] at h
              obtain ⟨rfl, rfl⟩ := h
              exact ⟨fnOk Tryz.func247 (fun e => absurd e (of_decide_eq_false (by kernel_rfl))) (fun e => by simpa [e] using (show Tryz.f247.body.isSome = true by kernel_rfl)), any_sem a b h1 h2 h3 h4 inb⟩
            · cases h
          · cases h
        · rcases ite_some hg3 with ⟨hf, hq⟩ | ⟨_, hg4⟩
          · have hf' : f = 118 := by simpa using hf
            subst hf'
            subst hq
            unfold insExt at h
            split at h
            · split at h
              · rename_i n z t k1 x k2 rows hc
                obtain ⟨hk1, hk2, h1, h2, h3, h4⟩ := hc
                subst hk1
                subst hk2
                simp only [Option.some.injEq, Prod.mk.injEq] at h
                obtain ⟨rfl, rfl⟩ := h
                have e : z = Int.ofNat z.toNat := by simp only [Int.ofNat_eq_natCast]; omega
                have := ins_sem (R := RCode Tryz.prog gl) n z.toNat t x rows h4 h1 h2
                rw [← e] at this
                exact ⟨fnOk Tryz.func118 (fun e => absurd e (of_decide_eq_false (by kernel_rfl))) (fun e => by simpa [e] using (show Tryz.f118.body.isSome = true by kernel_rfl)), this⟩
              · cases h
            · cases h
          · rcases ite_some hg4 with ⟨hf, hq⟩ | ⟨_, hg5⟩
            · have hf' : f = 63 := by simpa using hf
              subst hf'
              subst hq
              unfold insExt at h
              split at h
              · split at h
                · rename_i n z t k1 x k2 rows hc
                  obtain ⟨hk1, hk2, h1, h2, h3, h4⟩ := hc
                  subst hk1
                  subst hk2
                  simp only [Option.some.injEq, Prod.mk.injEq] at h
                  obtain ⟨rfl, rfl⟩ := h
                  have e : z = Int.ofNat z.toNat := by simp only [Int.ofNat_eq_natCast]; omega
                  have := Im.ins_sem (R := RCode Tryz.prog gl) n z.toNat t x rows h4 h1 h2
                  rw [← e] at this
                  exact ⟨fnOk Tryz.func63 (fun e => absurd e (of_decide_eq_false (by kernel_rfl))) (fun e => by simpa [e] using (show Tryz.f63.body.isSome = true by kernel_rfl)), this⟩
                · cases h
              · cases h
            · rcases ite_some hg5 with ⟨hf, hq⟩ | ⟨_, hg6⟩
              · have hf' : f = 65 := by simpa using hf
                subst hf'
                subst hq
                unfold insExt at h
                split at h
                · split at h
                  · rename_i n z t k1 x k2 rows hc
                    obtain ⟨hk1, hk2, h1, h2, h3, h4⟩ := hc
                    subst hk1
                    subst hk2
                    simp only [Option.some.injEq, Prod.mk.injEq] at h
                    obtain ⟨rfl, rfl⟩ := h
                    have e : z = Int.ofNat z.toNat := by simp only [Int.ofNat_eq_natCast]; omega
                    have := Iv.ins_sem (R := RCode Tryz.prog gl) n z.toNat t x rows h4 h1 h2
                    rw [← e] at this
                    exact ⟨fnOk Tryz.func65 (fun e => absurd e (of_decide_eq_false (by kernel_rfl))) (fun e => by simpa [e] using (show Tryz.f65.body.isSome = true by kernel_rfl)), this⟩
                  · cases h
                · cases h
              · rcases ite_some hg6 with ⟨hf, hq⟩ | ⟨_, hg7⟩
                · have hf' : f = 113 := by simpa using hf
                  subst hf'
                  subst hq
                  unfold cloneXExt at h
                  split at h
                  · split at h
                    · rename_i t k2 es hc
                      obtain ⟨hk2, h1⟩ := hc
                      subst hk2
                      simp only [Option.some.injEq, Prod.mk.injEq] at h
                      obtain ⟨rfl, rfl⟩ := h
                      exact ⟨fnOk Tryz.func113 (fun e => absurd e (of_decide_eq_false (by kernel_rfl))) (fun e => by simpa [e] using (show Tryz.f113.body.isSome = true by kernel_rfl)), cl_sem113 t es h1⟩
                    · cases h
                  · cases h
                · rcases ite_some hg7 with ⟨hf, hq⟩ | ⟨_, hg8⟩
                  · have hf' : f = 114 := by simpa using hf
                    subst hf'
                    subst hq
                    unfold cloneXExt at h
                    split at h
                    · split at h
                      · rename_i t k2 es hc
                        obtain ⟨hk2, h1⟩ := hc
                        subst hk2
                        simp only [Option.some.injEq, Prod.mk.injEq] at h
                        obtain ⟨rfl, rfl⟩ := h
                        exact ⟨fnOk Tryz.func114 (fun e => absurd e (of_decide_eq_false (by kernel_rfl))) (fun e => by simpa [e] using (show Tryz.f114.body.isSome = true by kernel_rfl)), cl_sem114 t es h1⟩
                      · cases h
                    · cases h
                  · rcases ite_some hg8 with ⟨hf, hq⟩ | ⟨_, hg9⟩
                    · have hf' : f = 95 := by simpa using hf
                      subst hf'
                      subst hq
                      unfold cloneXExt at h
                      split at h
                      · split at h
                        · rename_i t k2 es hc
                          obtain ⟨hk2, h1⟩ := hc
                          subst hk2
                          simp only [Option.some.injEq, Prod.mk.injEq] at h
                          obtain ⟨rfl, rfl⟩ := h
                          exact ⟨fnOk Tryz.func95 (fun e => absurd e (of_decide_eq_false (by kernel_rfl))) (fun e => by simpa [e] using (show Tryz.f95.body.isSome = true by kernel_rfl)), cl_sem95 t es h1⟩
                        · cases h
                      · cases h
                    · cases hg9

theorem machine (n : Nat) : GamOk Tryz.prog (RCode Tryz.prog gl) (callF tab ext n) := callF_ok tabOk extOk n
end YtbfnfldmnombgaaGreatDoor
end Go.Proofs

/- The library's tables, laid as the rows say, are those of the machine. -/
namespace Go.Proofs.YtbfnfldmnombgaaGreatDoor
open Go.Em Go.ChangeShapes Go.WideShapes Go.ChangeAt Go.RowKit
set_option maxRecDepth 100000

def laid2 : List (String × DataW Unit) := [("unicode/utf8.acceptRanges", Rows.laid_unicode_utf8_acceptRanges), ("unicode/utf8.first", Rows.laid_unicode_utf8_first)]
def laidZ : List (String × DataW Unit) := [("math/bits.deBruijn32tab", Rows.laid_math_bits_deBruijn32tab), ("math/bits.deBruijn64tab", Rows.laid_math_bits_deBruijn64tab), ("internal/strconv.uint64pow10", Rows.laid_internal_strconv_uint64pow10), ("unicode/utf8.acceptRanges", Rows.laid_unicode_utf8_acceptRanges), ("strconv.ErrRange", Rows.laid_strconv_ErrRange), ("strconv.ErrSyntax", Rows.laid_strconv_ErrSyntax), ("unicode/utf8.first", Rows.laid_unicode_utf8_first)]
def keepZ (x : String × DataW Unit) : Bool := x.1 == "unicode/utf8.acceptRanges" || x.1 == "unicode/utf8.first"
theorem laid_keep : laidZ.filter keepZ = laid2 := by kernel_rfl
def fieldsZ (P : Program) (t : TypeId) : Array Field := match P.underlying t with
  | some (.struct fs) => fs
  | _ => #[]
theorem under5 : Tryz.prog.underlying 5 = some (.int .u8) := by kernel_rfl
theorem under241 : Tryz.prog.underlying 241 = some (.array 256 5) := by kernel_rfl
theorem under244 : Tryz.prog.underlying 244 = some (.array 16 243) := by kernel_rfl
theorem under243 : Tryz.prog.underlying 243 = some (.struct (fieldsZ Tryz.prog 243)) := by kernel_rfl
theorem field0 : ((fieldsZ Tryz.prog 243)[0]?).map (fun f => (f.type, f.offset)) = some (5, 0) := by kernel_rfl
theorem field1 : ((fieldsZ Tryz.prog 243)[1]?).map (fun f => (f.type, f.offset)) = some (5, 1) := by kernel_rfl
theorem rep_bytes {W : World} {g : Nat} {l : List Nat} (h : ∀ j z, l[j]? = some z → W.cell? ⟨g, j, none⟩ = some (.int .u8 (Int.ofNat z))) : Rep (Kw W) [] (.dp (bytesX l)) (.pointer (some ⟨g, 0, none⟩)) := by
  have hx : ∀ (j : Nat) (x : X), (bytesX l)[j]? = some x → ∃ z, l[j]? = some z ∧ x = .v (.int .u8 (Int.ofNat z)) := fun j x e => by
    unfold bytesX at e
    rw [List.getElem?_map, Option.map_eq_some_iff] at e
    obtain ⟨z, hz, rfl⟩ := e
    exact ⟨z, hz, rfl⟩
  refine .dp (fun j => .int .u8 (Int.ofNat (l.getD j 0))) (fun j x e => ?_) (fun j x e => ?_) (fun j x e => ?_)
  · obtain ⟨z, _, rfl⟩ := hx j x e; rfl
  · obtain ⟨z, hz, rfl⟩ := hx j x e
    show W.cell? ⟨g, 0 + j, none⟩ = _
    rw [Nat.zero_add, h j z hz, List.getD_eq_getElem?_getD, hz]; rfl
  · obtain ⟨z, hz, rfl⟩ := hx j x e
    rw [List.getD_eq_getElem?_getD, hz]
    exact .v rfl
theorem globs {W : World} (h : laidMetH Tryz.prog laid2 W) : (∀ j z, Go.Pinned.utf8FirstZ[j]? = some z → W.cell? ⟨1, j, none⟩ = some (.int .u8 (Int.ofNat z))) ∧ ∀ j z, ([128, 191, 160, 191, 128, 159, 144, 191, 128, 143] ++ List.replicate 22 0)[j]? = some z → W.cell? ⟨2, j, none⟩ = some (.int .u8 (Int.ofNat z)) := by
  rw [MakeChecks.laidMetH_plain _ _ _ (by kernel_rfl)] at h
  obtain ⟨ps, ⟨g, t, cs, fuel, p, q, hg, ht, hv, hd, ⟨g', t', cs', fuel', p', q', hg', ht', hv', hd', _, _⟩, _⟩, _, _⟩ := h
  obtain rfl := Option.some.inj ((show Tryz.prog.globalNamed "unicode/utf8.acceptRanges" = some 2 by kernel_rfl).symm.trans hg)
  obtain rfl := Option.some.inj ((show (Tryz.prog.globals[2]?).map (·.type) = some 244 by kernel_rfl).symm.trans ht)
  obtain rfl := Option.some.inj ((show Tryz.prog.globalNamed "unicode/utf8.first" = some 1 by kernel_rfl).symm.trans hg')
  obtain rfl := Option.some.inj ((show (Tryz.prog.globals[1]?).map (·.type) = some 241 by kernel_rfl).symm.trans ht')
  have c5 : Tryz.prog.cellsOf 5 = 1 := by kernel_rfl
  have c243 : Tryz.prog.cellsOf 243 = 2 := by kernel_rfl
  constructor
  · intro j z hz
    obtain ⟨xs, m, _, ex, _, hl, hel⟩ := DataW.trod_array under241 hd'
    have hlen : Go.Pinned.utf8FirstZ.length = 256 := by kernel_rfl
    have hj : j < 256 := by rw [← hlen]; exact (List.getElem?_eq_some_iff.1 hz).1
    have hE := hel j hj
    rw [c5, Nat.mul_one, List.getElem?_eq_getElem (by omega)] at hE
    obtain ⟨y, e1, e2, _⟩ := DataW.trod_int under5 hE
    have e3 : (xs.map (·.1)) = Go.Pinned.utf8FirstZ.map fun (n : Nat) => .lit (.int .u8 (Int.ofNat n)) := (DataW.agg.inj (Prod.mk.inj ex).1).symm
    have e4 : (xs.map (·.1))[j]? = (Go.Pinned.utf8FirstZ.map fun (n : Nat) => (DataW.lit (.int .u8 (Int.ofNat n)) : DataW Unit))[j]? := by rw [e3]
    rw [List.getElem?_map, List.getElem?_map, List.getElem?_eq_getElem (by omega : j < xs.length), hz, e2] at e4
    simp only [Option.map_some, Option.some.injEq, DataW.lit.injEq, Lit.int.injEq, true_and] at e4
    subst e4
    rw [World.var?_cell hg' hv' j]
    have : cs'.toList[j]? = some (.int .u8 (Int.ofNat z)) := by
      have h0 : ((cs'.toList.drop j).take 1)[0]? = some (.int .u8 (Int.ofNat z)) := by rw [e1]; rfl
      simpa using h0
    simpa using this
  · intro j z hz
    obtain ⟨xs, m, _, ex, _, hl, hel⟩ := DataW.trod_array under244 hd
    have hlen : ([128, 191, 160, 191, 128, 159, 144, 191, 128, 143] ++ List.replicate 22 0).length = 32 := by kernel_rfl
    have hj : j < 32 := by rw [← hlen]; exact (List.getElem?_eq_some_iff.1 hz).1
    have hE := hel (j / 2) (by omega)
    rw [c243, List.getElem?_eq_getElem (by omega)] at hE
    obtain ⟨ys, m2, _, ey, _, hl2, hel2⟩ := DataW.trod_struct under243 hE
    have f2 : (fieldsZ Tryz.prog 243).size = 2 := by kernel_rfl
    have hk : j % 2 < 2 := Nat.mod_lt _ (by omega)
    have hfo : ∀ k, k < 2 → ((fieldsZ Tryz.prog 243)[k]?).map (fun f => (f.type, f.offset)) = some (5, k) := fun k hk => by
      match k, hk with
      | 0, _ => exact field0
      | 1, _ => exact field1
    obtain ⟨f, hf, hf2⟩ := Option.map_eq_some_iff.1 (hfo (j % 2) hk)
    have hE2 := hel2 (j % 2) f hf
    obtain ⟨hft, hfo'⟩ := Prod.mk.inj hf2
    rw [hft, hfo', c5, List.getElem?_eq_getElem (by omega)] at hE2
    obtain ⟨y, e1, e2, _⟩ := DataW.trod_int under5 hE2
    have hall : ((List.range 32).all fun j => match (Rows.laid_unicode_utf8_acceptRanges : DataW Unit) with
      | .agg l => match l[j / 2]? with
        | some (.agg r) => match r[j % 2]?, ([128, 191, 160, 191, 128, 159, 144, 191, 128, 143] ++ List.replicate 22 0)[j]? with
          | some (.lit (.int .u8 z)), some z' => z == Int.ofNat z'
          | _, _ => false
        | _ => false
      | _ => false) = true := by kernel_rfl
    have h1 := List.all_eq_true.1 hall j (List.mem_range.2 hj)
    have e3 : (Rows.laid_unicode_utf8_acceptRanges : DataW Unit) = .agg (xs.map (·.1)) := (Prod.mk.inj ex).1
    have e5 : (xs.map (·.1))[j / 2]? = some (.agg (ys.map (·.1))) := by
      rw [List.getElem?_map, List.getElem?_eq_getElem (by omega : j / 2 < xs.length), ey]; rfl
    have e6 : (ys.map (·.1))[j % 2]? = some (.lit (.int .u8 y)) := by
      rw [List.getElem?_map, List.getElem?_eq_getElem (by omega : j % 2 < ys.length), e2]; rfl
    rw [e3] at h1
    dsimp only at h1
    rw [e5] at h1
    dsimp only at h1
    rw [e6, hz] at h1
    have hy : y = Int.ofNat z := eq_of_beq h1
    subst hy
    rw [World.var?_cell hg hv j]
    have : cs.toList[j]? = some (.int .u8 (Int.ofNat z)) := by
      have h0 : ((((cs.toList.drop (j / 2 * 2)).take 2).drop (j % 2)).take 1)[0]? = some (.int .u8 (Int.ofNat z)) := by rw [e1]; rfl
      rw [List.getElem?_take, if_pos (by omega), List.getElem?_drop, List.getElem?_take, if_pos (by omega), List.getElem?_drop] at h0
      have : j / 2 * 2 + (j % 2 + 0) = j := by omega
      rw [this] at h0
      exact h0
    simpa using this
theorem globOk {W : World} (h7 : laidMetH Tryz.prog laidZ W) : GlobOk (RCode Tryz.prog gl) (Kw W) := by
  have h := h7.filter keepZ
  rw [laid_keep] at h
  obtain ⟨h0, h1⟩ := globs h
  intro g cs e
  change gl g = some cs at e
  unfold gl at e
  split at e
  · rename_i hg
    obtain rfl : g = 1 := by simpa using hg
    cases e
    exact rep_bytes h0
  · split at e
    · rename_i hg
      obtain rfl : g = 2 := by simpa using hg
      cases e
      exact rep_bytes h1
    · cases e
end Go.Proofs.YtbfnfldmnombgaaGreatDoor
