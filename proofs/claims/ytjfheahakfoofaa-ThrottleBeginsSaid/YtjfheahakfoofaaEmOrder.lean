/- The abstract machine: the orders that a region may draw. -/
import Derived.Test.YtjfheahakfoofaaEmStep2
import Derived.Orders
namespace Go.Em
variable {P : Program} {R : CodeRel} {x : Ctx} {K : Kn} {C : List CB} {σ : St} {a : Act} {w : World}
variable {A : Ann} {Γ : Gam}

/-! ### What a drawn order is -/
/-- 'M' goes on from 'acc' (what is listed already): each operation once, and behind whatever it must follow. -/
def GoesOn (md : Region.Mode) (ops : Array Oper) (acc M : List Nat) : Prop :=
  (acc ++ M).Nodup ∧ (∀ i, i ∈ M → i < ops.size) ∧ ∀ (M1 M2 : List Nat) (j : Nat), M = M1 ++ j :: M2 → ∀ (e : Edge), e ∈ (ops.getD j default).after.toList → Region.binds md e = true → e.on ∈ acc ∨ e.on ∈ M1

theorem ready_mem {md : Region.Mode} {ops : Array Oper} {listed : Array Bool} {acc : List Nat} (hs : listed.size = ops.size) (hl : ∀ i, i < ops.size → (listed.getD i true = true ↔ i ∈ acc)) (hf : ∀ i, ops.size ≤ i → listed.getD i false = false) {i : Nat} :
    i ∈ Region.ready md ops listed ↔ i < ops.size ∧ i ∉ acc ∧ ∀ (e : Edge), e ∈ (ops.getD i default).after.toList → Region.binds md e = true → e.on ∈ acc ∧ e.on < ops.size := by
  have hd : ∀ j, listed.getD j false = true ↔ j ∈ acc ∧ j < ops.size := by
    intro j
    by_cases hj : j < ops.size
    · have : listed.getD j false = listed.getD j true := by simp [Array.getD, hs, hj]
      rw [this, hl j hj]; simp [hj]
    · rw [hf j (by omega)]; simp [hj]
  simp only [Region.ready, List.mem_filter, List.mem_range, Bool.and_eq_true, Bool.not_eq_true']
  constructor
  · rintro ⟨h1, h2, h3⟩
    have ho : ops[i]? = some (ops.getD i default) := by simp [Array.getD, h1]
    rw [ho] at h3
    simp only [Option.map_some, Option.getD_some] at h3
    refine ⟨h1, (fun hm => by rw [(hl i h1).2 hm] at h2; simp at h2), fun e he hb => ?_⟩
    have := (Array.all_eq_true_iff_forall_mem.1 h3) e (by simpa using he)
    simp only [hb, Bool.not_true, Bool.false_or] at this
    exact (hd e.on).1 this
  · rintro ⟨h1, h2, h3⟩
    have ho : ops[i]? = some (ops.getD i default) := by simp [Array.getD, h1]
    refine ⟨h1, ?_, ?_⟩
    · cases hx : listed.getD i true with
      | false => rfl
      | true => exact absurd ((hl i h1).1 hx) h2
    · rw [ho]
      simp only [Option.map_some, Option.getD_some]
      refine Array.all_eq_true_iff_forall_mem.2 fun e he => ?_
      cases hb : Region.binds md e with
      | false => simp
      | true => simp [(hd e.on).2 (h3 e (by simpa using he) hb)]

theorem linearise_goes {md : Region.Mode} {ops : Array Oper} : ∀ (fuel t : Nat) (listed : Array Bool) (acc : List Nat), listed.size = ops.size → (∀ i, i < ops.size → (listed.getD i true = true ↔ i ∈ acc)) → acc.Nodup → (∀ i, i ∈ acc → i < ops.size) →
    GoesOn md ops acc (Region.linearise.go md ops fuel t listed []) ∧
      ((Region.linearise.go md ops fuel t listed []).length = fuel ∨ ∃ acc' : List Nat, (∀ i, i ∈ acc' ↔ i ∈ acc ∨ i ∈ Region.linearise.go md ops fuel t listed []) ∧ ∀ i, i < ops.size → i ∉ acc' → ∃ e : Edge, e ∈ (ops.getD i default).after.toList ∧ Region.binds md e = true ∧ ¬ (e.on ∈ acc' ∧ e.on < ops.size)) := by
  intro fuel
  induction fuel with
  | zero =>
    intro t listed acc hs hl hn hlt
    simp only [Region.linearise.go, List.reverse_nil]
    exact ⟨⟨by simpa using hn, by simp, fun M1 M2 j e => by simp at e⟩, .inl rfl⟩
  | succ fuel ih =>
    intro t listed acc hs hl hn hlt
    have hf : ∀ i, ops.size ≤ i → listed.getD i false = false := by intro i hi; simp [Array.getD, hs, Nat.not_lt.2 hi]
    simp only [Region.linearise.go]
    change GoesOn md ops acc (match (Region.ready md ops listed)[t % (Region.ready md ops listed).length]? with
      | some i => Region.linearise.go md ops fuel (t / (Region.ready md ops listed).length) (listed.setIfInBounds i true) [i]
      | none => [].reverse) ∧ ((match (Region.ready md ops listed)[t % (Region.ready md ops listed).length]? with
      | some i => Region.linearise.go md ops fuel (t / (Region.ready md ops listed).length) (listed.setIfInBounds i true) [i]
      | none => [].reverse).length = fuel + 1 ∨ ∃ acc' : List Nat, (∀ i, i ∈ acc' ↔ i ∈ acc ∨ i ∈ (match (Region.ready md ops listed)[t % (Region.ready md ops listed).length]? with
      | some i => Region.linearise.go md ops fuel (t / (Region.ready md ops listed).length) (listed.setIfInBounds i true) [i]
      | none => [].reverse)) ∧ ∀ i, i < ops.size → i ∉ acc' → ∃ e : Edge, e ∈ (ops.getD i default).after.toList ∧ Region.binds md e = true ∧ ¬ (e.on ∈ acc' ∧ e.on < ops.size))
    cases hi : (Region.ready md ops listed)[t % (Region.ready md ops listed).length]? with
    | none =>
      simp only [List.reverse_nil]
      have hnil : Region.ready md ops listed = [] := by
        cases hr : Region.ready md ops listed with
        | nil => rfl
        | cons u us =>
          rw [hr] at hi
          have hlt' : t % (u :: us).length < (u :: us).length := Nat.mod_lt _ (by simp)
          rw [List.getElem?_eq_getElem hlt'] at hi; cases hi
      refine ⟨⟨by simpa using hn, by simp, fun M1 M2 j e => by simp at e⟩, .inr ⟨acc, by simp, fun i h1 h2 => ?_⟩⟩
      have hno : i ∉ Region.ready md ops listed := by rw [hnil]; simp
      rw [ready_mem hs hl hf] at hno
      simp only [h1, h2, not_false_eq_true, true_and] at hno
      simp only [Classical.not_forall] at hno
      obtain ⟨e, he, hb, hx⟩ := hno
      exact ⟨e, he, hb, hx⟩
    | some i =>
      simp only []
      rw [linearise_go_acc, List.reverse_singleton, List.singleton_append]
      obtain ⟨r1, r2, r3⟩ := (ready_mem hs hl hf).1 (List.mem_of_getElem? hi)
      have hl' : ∀ j, j < ops.size → ((listed.setIfInBounds i true).getD j true = true ↔ j ∈ i :: acc) := by
        intro j hj
        by_cases hij : j = i
        · subst hij; simp [Array.getD, hs, hj]
        · have : (listed.setIfInBounds i true).getD j true = listed.getD j true := by
            simp only [Array.getD, Array.size_setIfInBounds, hs, hj, dif_pos]
            have := Array.getElem?_setIfInBounds_ne (xs := listed) (a := true) (i := i) (j := j) (fun e => hij e.symm)
            simpa [hs, hj] using this
          rw [this, hl j hj]; simp [hij]
      obtain ⟨⟨g1, g2, g3⟩, g4⟩ := ih (t / (Region.ready md ops listed).length) (listed.setIfInBounds i true) (i :: acc) (by simp [hs]) hl' (List.nodup_cons.2 ⟨r2, hn⟩) (by
        intro j hj; rcases List.mem_cons.1 hj with rfl | hj; exact r1; exact hlt j hj)
      refine ⟨⟨?_, ?_, ?_⟩, ?_⟩
      · rw [List.cons_append, List.nodup_cons] at g1
        have hp : (acc ++ i :: Region.linearise.go md ops fuel (t / (Region.ready md ops listed).length) (listed.setIfInBounds i true) []).Perm (i :: (acc ++ Region.linearise.go md ops fuel (t / (Region.ready md ops listed).length) (listed.setIfInBounds i true) [])) := List.perm_middle
        exact hp.nodup_iff.2 (List.nodup_cons.2 g1)
      · intro j hj; rcases List.mem_cons.1 hj with rfl | hj; exact r1; exact g2 j hj
      · intro M1 M2 j e ed hed hb
        cases M1 with
        | nil =>
          simp only [List.nil_append, List.cons.injEq] at e
          rw [← e.1] at hed
          exact .inl (r3 ed hed hb).1
        | cons u M1 =>
          simp only [List.cons_append, List.cons.injEq] at e
          rcases g3 M1 M2 j e.2 ed hed hb with h1 | h1
          · rcases List.mem_cons.1 h1 with h2 | h2
            · right; rw [h2, e.1]; simp
            · exact .inl h2
          · right; simp [h1]
      · rcases g4 with h1 | ⟨acc', h1, h2⟩
        · left; simp [h1]
        · right
          refine ⟨acc', fun j => ?_, h2⟩
          rw [h1 j]; simp only [List.mem_cons]; constructor
          · rintro ((h3 | h3) | h3)
            · exact .inr (.inl h3)
            · exact .inl h3
            · exact .inr (.inr h3)
          · rintro (h3 | h3 | h3)
            · exact .inl (.inr h3)
            · exact .inl (.inl h3)
            · exact .inr h3

theorem nodup_full {n : Nat} {l : List Nat} (hn : l.Nodup) (hlt : ∀ i, i ∈ l → i < n) (hl : l.length = n) : ∀ i, i < n → i ∈ l := by
  intro i hi
  have hsub : ∀ j, j ∈ l → j ∈ List.range n := fun j hj => List.mem_range.2 (hlt j hj)
  rcases Classical.em (i ∈ l) with h | h
  · exact h
  · have h1 : (i :: l).Nodup := List.nodup_cons.2 ⟨h, hn⟩
    have h2 : ∀ j, j ∈ i :: l → j ∈ List.range n := by
      intro j hj; rcases List.mem_cons.1 hj with rfl | hj; exact List.mem_range.2 hi; exact hsub j hj
    have := List.Nodup.length_le_of_subset h1 h2
    simp at this; omega

/-- An order in which every operation stands once, behind whatever it must follow. -/
structure Order (ops : Array Oper) (L : List Nat) : Prop where
  nodup : L.Nodup
  all : ∀ i, i ∈ L ↔ i < ops.size
  follows : ∀ (L1 L2 : List Nat) (j : Nat), L = L1 ++ j :: L2 → ∀ i, edged (ops.getD j default) i = true → i ∈ L1

theorem linearise_order {md : Region.Mode} {ops : Array Oper} (h0 : (Region.linearise md ops 0).length = ops.size) (t : Nat) : Order ops (Region.linearise md ops t) := by
  have hrep : ∀ i, i < ops.size → ((Array.replicate ops.size false).getD i true = true ↔ i ∈ ([] : List Nat)) := by
    intro i hi; simp [Array.getD, hi]
  have key := fun t => linearise_goes (md := md) (ops := ops) ops.size t (Array.replicate ops.size false) [] (by simp) hrep (by simp) (by simp)
  have e : ∀ t, Region.linearise md ops t = Region.linearise.go md ops ops.size t (Array.replicate ops.size false) [] := fun _ => rfl
  rw [e] at h0
  obtain ⟨⟨k1, k2, k3⟩, _⟩ := key 0
  have hall0 := nodup_full (by simpa using k1) k2 h0
  obtain ⟨⟨g1, g2, g3⟩, g4⟩ := key t
  rw [e]
  have hlen : (Region.linearise.go md ops ops.size t (Array.replicate ops.size false) []).length = ops.size := by
    rcases g4 with h1 | ⟨acc', h1, h2⟩
    · exact h1
    · -- stuck: take the first, in the whole order, of those that are left
      rcases Classical.em (∀ i, i < ops.size → i ∈ acc') with hA | hA
      · have hfull : ∀ i, i < ops.size → i ∈ Region.linearise.go md ops ops.size t (Array.replicate ops.size false) [] := fun i hi => by
          rcases (h1 i).1 (hA i hi) with h3 | h3
          · simp at h3
          · exact h3
        have h5 : (Region.linearise.go md ops ops.size t (Array.replicate ops.size false) []).length ≤ ops.size := by
          have := List.Nodup.length_le_of_subset (by simpa using g1) (fun j hj => List.mem_range.2 (g2 j hj))
          simpa using this
        have h6 : ops.size ≤ (Region.linearise.go md ops ops.size t (Array.replicate ops.size false) []).length := by
          have := List.Nodup.length_le_of_subset (List.nodup_range (n := ops.size)) (fun j hj => hfull j (List.mem_range.1 hj))
          simpa using this
        omega
      · exfalso
        have hex : ∃ L1 j L2, Region.linearise.go md ops ops.size 0 (Array.replicate ops.size false) [] = L1 ++ j :: L2 ∧ j ∉ acc' ∧ ∀ i, i ∈ L1 → i ∈ acc' := by
          have hsome : ∃ i, i ∈ Region.linearise.go md ops ops.size 0 (Array.replicate ops.size false) [] ∧ i ∉ acc' := by
            simp only [Classical.not_forall] at hA
            obtain ⟨i, hi, hni⟩ := hA
            exact ⟨i, hall0 i hi, hni⟩
          generalize Region.linearise.go md ops ops.size 0 (Array.replicate ops.size false) [] = L at hsome
          clear k1 k2 k3 hall0 h0
          induction L with
          | nil => obtain ⟨i, hi, _⟩ := hsome; simp at hi
          | cons u us ih =>
            by_cases hu : u ∈ acc'
            · obtain ⟨i, hi, hni⟩ := hsome
              rcases List.mem_cons.1 hi with rfl | hi
              · exact absurd hu hni
              · obtain ⟨L1, j, L2, e1, e2, e3⟩ := ih ⟨i, hi, hni⟩
                exact ⟨u :: L1, j, L2, by rw [e1]; rfl, e2, fun k hk => by rcases List.mem_cons.1 hk with rfl | hk; exact hu; exact e3 k hk⟩
            · exact ⟨[], u, us, rfl, hu, by simp⟩
        obtain ⟨L1, j, L2, e1, e2, e3⟩ := hex
        have hj : j < ops.size := k2 j (by rw [e1]; simp)
        obtain ⟨ed, hed, hb, hx⟩ := h2 j hj e2
        rcases k3 L1 L2 j e1 ed hed hb with h3 | h3
        · simp at h3
        · exact hx ⟨e3 _ h3, k2 _ (by rw [e1]; simp [h3])⟩
  have hall := nodup_full (by simpa using g1) g2 hlen
  refine ⟨by simpa using g1, fun i => ⟨g2 i, hall i⟩, fun L1 L2 j e i hed => ?_⟩
  simp only [edged, List.any_eq_true, Bool.and_eq_true, beq_iff_eq] at hed
  obtain ⟨ed, h1, h2, rfl⟩ := hed
  have hb : Region.binds md ed = true := by
    unfold Region.binds at h2 ⊢
    split at h2 <;> simp_all
  rcases g3 L1 L2 j e ed h1 hb with h3 | h3
  · simp at h3
  · exact h3

theorem schedule_order {ops : Array Oper} (h : edgesOk ops = true) (mixed : Bool) (t : Nat) : Order ops (Region.schedule mixed ops t) := by
  simp only [edgesOk, List.all_cons, List.all_nil, Bool.and_true, Bool.and_eq_true, beq_iff_eq] at h
  unfold Region.schedule
  split
  · exact linearise_order h.1 t
  · split
    · exact linearise_order h.2.1 _
    · exact linearise_order h.2.2 _

end Go.Em
