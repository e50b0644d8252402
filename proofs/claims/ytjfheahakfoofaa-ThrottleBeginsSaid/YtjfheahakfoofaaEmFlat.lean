/- The abstract machine: the cells of a slice in one list. -/
import Derived.Test.YtjfheahakfoofaaEmOps
import Derived.Laws.Append
import Derived.Laws.MakeOwn
namespace Go.Em
variable {P : Program} {R : CodeRel} {x : Ctx} {K : Kn} {C : List CB} {σ : St} {a : Act} {w : World}

/-- The elements 'es', of 'sz' cells each, lie in 'flat' one behind the other. -/
structure Flat (K : Kn) (sz : Nat) (es : List (List X)) (flat : List Value) : Prop where
  len : flat.length = es.length * sz
  elems : ∀ (e : List X), e ∈ es → e.length = sz
  get : ∀ (i j : Nat) (y : X), at2 es i j = some y → y.isCell = true ∧ ∃ v, flat[i * sz + j]? = some v ∧ Rep K [] y v

theorem at2_lt {es : List (List X)} {sz i j : Nat} {y : X} (h : ∀ (e : List X), e ∈ es → e.length = sz) (e : at2 es i j = some y) : i < es.length ∧ j < sz ∧ i * sz + j < es.length * sz := by
  obtain ⟨e0, he, hj⟩ := at2_some.1 e
  have h1 := (List.getElem?_eq_some_iff.1 he).1
  have h2 := (List.getElem?_eq_some_iff.1 hj).1
  rw [h e0 (List.mem_of_getElem? he)] at h2
  refine ⟨h1, h2, ?_⟩
  have := Nat.mul_le_mul_right sz (show i + 1 ≤ es.length from h1)
  rw [Nat.add_mul, Nat.one_mul] at this; omega

theorem Flat.mono {K K' : Kn} {sz : Nat} {es : List (List X)} {flat : List Value} (h : Flat K sz es flat) (hK : KLe K K') : Flat K' sz es flat :=
  ⟨h.len, h.elems, fun i j y e => let ⟨hc, v, hv, hr⟩ := h.get i j y e; ⟨hc, v, hv, hr.mono hK (CLe.refl _)⟩⟩

theorem Flat.nil {K : Kn} {sz : Nat} : Flat K sz [] [] := ⟨by simp, by simp, by simp [at2]⟩

theorem Flat.append {sz : Nat} {es fs : List (List X)} {l m : List Value} (h : Flat K sz es l) (h' : Flat K sz fs m) : Flat K sz (es ++ fs) (l ++ m) := by
  refine ⟨by simp [h.len, h'.len, Nat.add_mul], fun e he => ?_, fun i j y e => ?_⟩
  · rcases List.mem_append.1 he with he | he
    · exact h.elems e he
    · exact h'.elems e he
  · obtain ⟨e0, he, hj⟩ := at2_some.1 e
    by_cases hi : i < es.length
    · rw [List.getElem?_append_left hi] at he
      obtain ⟨hc, v, hv, hr⟩ := h.get i j y (at2_some.2 ⟨e0, he, hj⟩)
      exact ⟨hc, v, by rw [List.getElem?_append_left (List.getElem?_eq_some_iff.1 hv).1]; exact hv, hr⟩
    · rw [List.getElem?_append_right (by omega)] at he
      obtain ⟨hc, v, hv, hr⟩ := h'.get (i - es.length) j y (at2_some.2 ⟨e0, he, hj⟩)
      refine ⟨hc, v, ?_, hr⟩
      have hm : es.length * sz ≤ i * sz := Nat.mul_le_mul_right sz (by omega)
      rw [List.getElem?_append_right (by rw [h.len]; omega), h.len, ← hv]
      congr 1
      rw [Nat.sub_mul]; omega

theorem Flat.drop {sz : Nat} {es : List (List X)} {l : List Value} (h : Flat K sz es l) (n : Nat) : Flat K sz (es.drop n) (l.drop (n * sz)) := by
  refine ⟨by simp [h.len, Nat.sub_mul], fun e he => h.elems e (List.mem_of_mem_drop he), fun i j y e => ?_⟩
  obtain ⟨e0, he, hj⟩ := at2_some.1 e
  rw [List.getElem?_drop] at he
  obtain ⟨hc, v, hv, hr⟩ := h.get (n + i) j y (at2_some.2 ⟨e0, he, hj⟩)
  refine ⟨hc, v, ?_, hr⟩
  rw [List.getElem?_drop, ← hv]
  congr 1
  rw [Nat.add_mul]; omega

theorem Flat.take {sz : Nat} {es : List (List X)} {l : List Value} (h : Flat K sz es l) (n : Nat) : Flat K sz (es.take n) (l.take (n * sz)) := by
  refine ⟨?_, fun e he => h.elems e (List.mem_of_mem_take he), fun i j y e => ?_⟩
  · rw [List.length_take, List.length_take, h.len]
    by_cases hn : n ≤ es.length
    · rw [Nat.min_eq_left hn, Nat.min_eq_left (Nat.mul_le_mul_right sz hn)]
    · have h2 : es.length ≤ n := by omega
      rw [Nat.min_eq_right h2, Nat.min_eq_right (Nat.mul_le_mul_right sz h2)]
  obtain ⟨e0, he, hj⟩ := at2_some.1 e
  rw [List.getElem?_take] at he
  split at he
  · rename_i hi
    have hb := at2_lt h.elems (at2_some.2 ⟨e0, he, hj⟩)
    obtain ⟨hc, v, hv, hr⟩ := h.get i j y (at2_some.2 ⟨e0, he, hj⟩)
    refine ⟨hc, v, ?_, hr⟩
    have := Nat.mul_le_mul_right sz (show i + 1 ≤ n from hi)
    rw [Nat.add_mul, Nat.one_mul] at this
    rw [List.getElem?_take, if_pos (by omega)]; exact hv
  · simp at he

theorem Flat.one {sz : Nat} {e : List X} {l : List Value} (h : CRep K [] e l) (he : e.length = sz) : Flat K sz [e] l := by
  refine ⟨by simp [h.len, he], by simp [he], fun i j y ey => ?_⟩
  obtain ⟨e0, h0, hj⟩ := at2_some.1 ey
  have hi := (List.getElem?_eq_some_iff.1 h0).1
  simp at hi; subst hi
  simp at h0; subst h0
  obtain ⟨v, hv, hr⟩ := h.get hj
  exact ⟨h.cell y (List.mem_of_getElem? hj), v, by simpa using hv, hr⟩

theorem Flat.oneCell {sz : Nat} {es : List (List X)} {l : List Value} (h : Flat K sz es l) : ∀ v, v ∈ l → v.oneCell' = true := by
  intro v hv
  obtain ⟨k, hk, rfl⟩ := List.mem_iff_getElem.1 hv
  have hsz : 0 < sz := by
    rcases Nat.eq_zero_or_pos sz with h0 | h0
    · rw [h.len, h0] at hk; simp at hk
    · exact h0
  have hi : k / sz < es.length := by
    rw [h.len] at hk
    exact (Nat.div_lt_iff_lt_mul hsz).2 hk
  have he := List.getElem?_eq_getElem hi
  have hj : k % sz < (es[k / sz]).length := by rw [h.elems _ (List.getElem_mem hi)]; exact Nat.mod_lt _ hsz
  obtain ⟨hc, u, hu, hr⟩ := h.get (k / sz) (k % sz) _ (at2_some.2 ⟨_, he, List.getElem?_eq_getElem hj⟩)
  have : k / sz * sz + k % sz = k := by rw [Nat.mul_comm]; exact Nat.div_add_mod k sz
  rw [this, List.getElem?_eq_getElem hk] at hu
  cases hu
  exact hr.oneCell hc

/-- A slice that never changes, as a list of its cells. -/
theorem Rep.flat {t : Bool} {sz : Nat} {es : List (List X)} {b o cap n : Nat} (h : Rep K C (.sl t sz es) (.slice (some ⟨b, o, none⟩) n cap)) :
    ∃ l, Flat K sz es l ∧ ∀ k v, l[k]? = some v → K b (o + k) = some v := by
  cases h with
  | sl vals hlen ht hcap hcell hk hr =>
    refine ⟨(List.range (es.length * sz)).map fun k => vals (k / sz) (k % sz), ⟨by simp, hlen, fun i j y e => ?_⟩, fun k v hv => ?_⟩
    · obtain ⟨h1, h2, h3⟩ := at2_lt hlen e
      refine ⟨hcell i j y e, vals i j, ?_, hr i j y e⟩
      have hsz : 0 < sz := by omega
      have e1 : (i * sz + j) / sz = i := by
        rw [Nat.mul_comm, Nat.mul_add_div hsz, Nat.div_eq_of_lt h2]; rfl
      have e2 : (i * sz + j) % sz = j := by
        rw [Nat.mul_comm, Nat.mul_add_mod, Nat.mod_eq_of_lt h2]
      simp [h3, e1, e2]
    · rw [List.getElem?_map] at hv
      obtain ⟨k', hk', rfl⟩ := Option.map_eq_some_iff.1 hv
      have hlt := (List.getElem?_eq_some_iff.1 hk').1
      simp at hlt
      have : k' = k := by simpa [hlt] using hk'.symm
      subst this
      have hsz : 0 < sz := by
        rcases Nat.eq_zero_or_pos sz with h0 | h0
        · rw [h0] at hlt; simp at hlt
        · exact h0
      have hi : k' / sz < es.length := (Nat.div_lt_iff_lt_mul hsz).2 hlt
      have hj : k' % sz < (es[k' / sz]).length := by rw [hlen _ (List.getElem_mem hi)]; exact Nat.mod_lt _ hsz
      have := hk (k' / sz) (k' % sz) _ (at2_some.2 ⟨_, List.getElem?_eq_getElem hi, List.getElem?_eq_getElem hj⟩)
      have e : k' / sz * sz + k' % sz = k' := by rw [Nat.mul_comm]; exact Nat.div_add_mod k' sz
      rw [Nat.add_assoc, e] at this; exact this

/-- Known cells make a slice that never changes. -/
theorem Flat.rep {t : Bool} {sz : Nat} {es : List (List X)} {l : List Value} {b o cap : Nat} (h : Flat K sz es l) (hk : ∀ k v, l[k]? = some v → K b (o + k) = some v)
    (ht : t = true → cap = es.length) (hcap : es.length ≤ cap) : Rep K C (.sl t sz es) (.slice (some ⟨b, o, none⟩) es.length cap) := by
  refine .sl (fun i j => l.getD (i * sz + j) undef) h.elems ht hcap (fun i j y e => (h.get i j y e).1) (fun i j y e => ?_) (fun i j y e => ?_)
  · obtain ⟨_, v, hv, _⟩ := h.get i j y e
    rw [Nat.add_assoc, hk _ v hv]; simp [List.getD, hv]
  · obtain ⟨_, v, hv, hr⟩ := h.get i j y e
    simp only [List.getD, hv]; exact hr

/-- A row of a box, as a list of its cells. -/
theorem BoxOk.flat {sz sz' : Nat} {es : List (List X)} {b base hi : Nat} (h : BoxOk P R K C w (.row sz es) (.at b base hi sz')) :
    ∃ (arr : Array Value) (el : TypeId), sz' = sz ∧ base + es.length * sz ≤ hi ∧ hi ≤ arr.size ∧ w.heap[b]? = some (.cells arr el (0, 0)) ∧ Flat K sz es ((arr.toList.drop base).take (es.length * sz)) := by
  obtain ⟨h1, h2, h3, arr, el, hb, hl, hr⟩ := h
  refine ⟨arr, el, h1, h2, hl, hb, ⟨by simp; omega, h3, fun i j y e => ?_⟩⟩
  obtain ⟨hc, v, hv, hrv⟩ := hr i j y e
  obtain ⟨_, _, h4⟩ := at2_lt h3 e
  refine ⟨hc, v, ?_, hrv⟩
  rw [List.getElem?_take, if_pos h4, List.getElem?_drop, toArray_getElem?, ← Nat.add_assoc]; exact hv

theorem Flat.box {sz : Nat} {es : List (List X)} {l : List Value} {b base hi : Nat} {arr : Array Value} {el : TypeId} (h : Flat K sz es l) (hb : w.heap[b]? = some (.cells arr el (0, 0)))
    (hl : ∀ k v, l[k]? = some v → arr[base + k]? = some v) (hfit : base + es.length * sz ≤ hi) (hhi : hi ≤ arr.size) : BoxOk P R K C w (.row sz es) (.at b base hi sz) :=
  ⟨rfl, hfit, h.elems, arr, el, hb, hhi, fun i j y e => by
    obtain ⟨hc, v, hv, hr⟩ := h.get i j y e
    exact ⟨hc, v, by rw [Nat.add_assoc]; exact hl _ v hv, hr⟩⟩

theorem replicate_getElem? {α : Type} (n i : Nat) (z : α) : (List.replicate n z)[i]? = if i < n then some z else none := by
  rw [List.getElem?_replicate]

theorem Flat.made {sz n m : Nat} {z : List X} {zs : Array Value} (h : CRep K [] z zs.toList) (hz : z.length = sz) (hnm : n ≤ m) :
    Flat K sz (List.replicate n z) ((madeCells zs (m * sz)).toList.take (n * sz)) := by
  have hs : zs.size = sz := by have := h.len; simp at this; omega
  refine ⟨?_, fun e he => ?_, fun i j y e => ?_⟩
  · have := Nat.mul_le_mul_right sz hnm
    simp only [List.length_take, Array.length_toList, size_madeCells, List.length_replicate]; omega
  · rw [List.eq_of_mem_replicate he]; exact hz
  · obtain ⟨e0, he, hj⟩ := at2_some.1 e
    rw [replicate_getElem?] at he
    split at he
    · rename_i hi
      simp only [Option.some.injEq] at he; subst he
      obtain ⟨v, hv, hr⟩ := h.get hj
      refine ⟨h.cell y (List.mem_of_getElem? hj), v, ?_, hr⟩
      have hjs := (List.getElem?_eq_some_iff.1 hj).1
      have h1 := Nat.mul_le_mul_right sz (show i + 1 ≤ n from hi)
      rw [Nat.add_mul, Nat.one_mul] at h1
      have h2 := Nat.mul_le_mul_right sz hnm
      rw [List.getElem?_take, if_pos (by omega), toArray_getElem?]
      have hm : (i * sz + j) % zs.size = j := by rw [hs, Nat.mul_comm, Nat.mul_add_mod, Nat.mod_eq_of_lt (by omega)]
      unfold madeCells
      have hlt : i * sz + j < m * sz := by omega
      have hv' : zs[j]? = some v := by rw [← toArray_getElem?]; exact hv
      simp [hlt, hm, getElem!_def, hv']
    · simp at he

end Go.Em
