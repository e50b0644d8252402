/- A run over events: what holds behind each step. -/
import Derived.Test.YthphniobeigklaaGreatDoorA14
set_option linter.all false
namespace Go.Proofs.YthphniobeigklaaGreatDoor.Ag
open Go Go.Em Go.Proofs.YthphniobeigklaaGreatDoor
set_option maxRecDepth 100000

/-- The numbers of a node. -/
structure Pr where
  nu : Int
  ti : Int
  li : Int
  most : Int
  cd : Nat
structure Pr.ok (P : Pr) : Prop where
  cd : P.cd < 4
  ti : 0 ≤ P.ti ∧ P.ti ≤ 100
def Pr.node (P : Pr) : X := .agg (nodX P.nu P.ti P.li (exN P.cd) (tyX P.most) ruX)
def stpI (P : Pr) (gs : List Ga) (x : Iv) : Rs := match x.v with
  | .m (some q) n => stpM P.nu P.ti P.li P.most P.cd gs q x.now (x.i, n)
  | .m none n => stpN gs (x.i, n)
  | .c => clkR P.most x.i x.now gs
/-- An input that an event describes. -/
structure Iv.ok (x : Iv) : Prop where
  i : x.i < 40
  now : 0 ≤ x.now ∧ x.now ≤ 1000
  v : ∀ o n, x.v = .m o n → n < 4 ∧ ∀ q, o = some q → 0 ≤ q ∧ q ≤ 3
theorem GsI.mono {gs : List Ga} {i k : Nat} (h : GsI gs i) (hik : i ≤ k) : GsI gs k :=
  ⟨h.srt, h.few, h.key, h.ne, h.inc, fun x hx m hm => by have := h.place x hx m hm; omega, h.tim⟩
theorem GsI.del {gs : List Ga} {i : Nat} (h : GsI gs i) (g : Int) : GsI (delG g gs) i :=
  ⟨delG_srt h.srt, by have := delG_len g gs; have := h.few; omega, fun x hx => h.key x (delG_mem hx), fun x hx => h.ne x (delG_mem hx), fun x hx => h.inc x (delG_mem hx), fun x hx => h.place x (delG_mem hx), fun x hx => h.tim x (delG_mem hx)⟩
theorem GsI.get {gs : List Ga} {i : Nat} (h : GsI gs i) (q : Int) : (getG q gs).M.length ≤ i ∧ ((getG q gs).M.Pairwise fun a b => a.1 < b.1) ∧ (∀ m, m ∈ (getG q gs).M → m.1 < i ∧ m.2 < 4) ∧ 0 ≤ (getG q gs).t ∧ (getG q gs).t ≤ 200000 := by
  rcases getG_cases q gs with ⟨_, hm, _⟩ | ⟨_, e⟩
  · exact ⟨h.len _ hm, h.inc _ hm, h.place _ hm, h.tim _ hm⟩
  · rw [e]; exact ⟨Nat.zero_le _, .nil, by simp, Int.le_refl 0, (by show (0 : Int) ≤ 200000; decide)⟩
theorem GsI.put {gs : List Ga} {i : Nat} (h : GsI gs i) {q t : Int} {n : Nat} (hq : 0 ≤ q ∧ q ≤ 3) (hn : n < 4) (ht : 0 ≤ t ∧ t ≤ 200000) : GsI (putG ⟨q, t, addM gs q (i, n)⟩ gs) (i + 1) := by
  have hg := h.get q
  have hlen := putG_len ⟨q, t, addM gs q (i, n)⟩ gs
  have h4 := h.few4
  have hp : ∀ m, m ∈ addM gs q (i, n) → m.1 < i + 1 ∧ m.2 < 4 := fun m hm => by
    rcases List.mem_append.1 hm with hm | hm
    · have := hg.2.2.1 m hm; omega
    · rw [List.mem_singleton.1 hm]; exact ⟨by show i < i + 1; omega, hn⟩
  refine ⟨putG_srt h.srt, by omega, fun x hx => ?_, fun x hx => ?_, fun x hx => ?_, fun x hx => ?_, fun x hx => ?_⟩
  · rcases putG_mem hx with rfl | hx
    · exact hq
    · exact h.key x hx
  · rcases putG_mem hx with rfl | hx
    · simp [addM]
    · exact h.ne x hx
  · rcases putG_mem hx with rfl | hx
    · show (addM gs q (i, n)).Pairwise _
      unfold addM
      exact List.pairwise_append.2 ⟨hg.2.1, List.pairwise_singleton .., fun a ha b hb => by rw [List.mem_singleton.1 hb]; exact (hg.2.2.1 a ha).1⟩
    · exact h.inc x hx
  · rcases putG_mem hx with rfl | hx
    · exact hp
    · intro m hm; have := h.place x hx m hm; omega
  · rcases putG_mem hx with rfl | hx
    · exact ht
    · exact h.tim x hx
theorem GsI.nil : GsI [] 0 := ⟨.nil, by simp, by simp, by simp, by simp, by simp, by simp⟩
/-- A step: what holds of the groups; one fate or one that waits for each message. -/
structure StpOk (gs : List Ga) (i k : Nat) (r : Rs) : Prop where
  I : GsI r.gs (i + 1)
  fat : heldG r.gs + r.F.length = heldG gs + k
theorem clkR_I {gs : List Ga} {i : Nat} (h : GsI gs i) (most : Int) (k : Nat) (now : Int) : CkI gs (clkR most k now gs) ∧ ∀ y, y ∈ (clkR most k now gs).gs ↔ y ∈ gs ∧ ∀ x, x ∈ exG now gs → y.g ≠ x.g :=
  clk_fold (most := most) (s := clS k) (g0 := gs) (exG now gs) ⟨gs, [], [], []⟩ ⟨h.srt, fun x hx => hx, Nat.le_refl _, rfl, Nat.le_refl 0, Nat.le_refl 0⟩ (fun x hx => ⟨(exG_mem x hx).1, h.ne x (exG_mem x hx).1⟩) (exG_ne h.srt)
theorem stpI_ok {P : Pr} (hP : P.ok) {gs : List Ga} {x : Iv} (h : GsI gs x.i) (hx : x.ok) : StpOk gs x.i (match x.v with | .c => 0 | .m _ _ => 1) (stpI P gs x) := by
  obtain ⟨i, now, v⟩ := x
  obtain ⟨hi, hnow, hv⟩ := hx
  dsimp only at hi hnow hv h
  unfold stpI
  cases v with
  | c =>
    dsimp only
    obtain ⟨hc, hm⟩ := clkR_I h P.most i now
    refine ⟨⟨hc.srt, by have := hc.len; have := h.few; omega, fun x hx => h.key x (hc.sub x hx), fun x hx => h.ne x (hc.sub x hx), fun x hx => h.inc x (hc.sub x hx), fun x hx m hm => by have := h.place x (hc.sub x hx) m hm; omega, fun x hx => h.tim x (hc.sub x hx)⟩, ?_⟩
    have := hc.fat
    omega
  | m o n =>
    obtain ⟨hn, hq⟩ := hv o n rfl
    cases o with
    | none => exact ⟨h.mono (Nat.le_succ i), rfl⟩
    | some q =>
      have hq := hq q rfl
      dsimp only
      have hg := h.get q
      have hh := heldG_put ⟨q, if knG q gs = true then (getG q gs).t else tNew P.ti now, addM gs q (i, n)⟩ gs
      have hal : (addM gs q (i, n)).length = (getG q gs).M.length + 1 := by simp [addM]
      dsimp only at hh
      unfold stpM
      split
      · exact ⟨h.mono (by omega), rfl⟩
      · split
        · exact ⟨h.mono (by omega), rfl⟩
        · split
          · unfold finR
            have hgs : GsI (if knG q gs = true then delG q gs else gs) (i + 1) := by
              split
              · exact (h.del q).mono (by omega)
              · exact h.mono (by omega)
            have hfat : heldG (if knG q gs = true then delG q gs else gs) + (addM gs q (i, n)).length = heldG gs + 1 := by
              rcases getG_cases q gs with ⟨hk, _, _⟩ | ⟨hk, e⟩
              · rw [hk, if_pos rfl]
                have := heldG_del hk
                omega
              · rw [hk, if_neg (by simp)]
                rw [e] at hal
                simp only [List.length_nil] at hal
                omega
            split
            · exact ⟨hgs, by simpa [mrgF] using hfat⟩
            · exact ⟨hgs, by simpa [rejF] using hfat⟩
          · refine ⟨h.put hq hn ?_, by simp only [List.length_nil]; omega⟩
            split
            · exact ⟨hg.2.2.2.1, hg.2.2.2.2⟩
            · unfold tNew
              have := hP.ti
              split <;> omega
/-- The package's step at an input. -/
theorem step27 {P : Pr} (hP : P.ok) {gs : List Ga} {x : Iv} (h : GsI gs x.i) (hx : x.ok) (hh : heldG gs < 200) (N : Nat) (hN : 193000 ≤ N) :
    Gam.pureD (callF tab ext N) 27 [P.node, .agg (gst gs).cells, .agg (x.row false)] = some (.agg (stpI P gs x).cells) := by
  obtain ⟨i, now, v⟩ := x
  obtain ⟨hi, hnow, hv⟩ := hx
  dsimp only at hi hnow hv h
  have hti := hP.ti
  cases v with
  | c => exact step_clk P.nu P.ti P.li P.most P.cd gs now i h (by omega) hh N hN
  | m o n =>
    obtain ⟨hn, hq⟩ := hv o n rfl
    cases o with
    | none => exact step_none P.nu P.ti P.li P.most P.cd gs now i n (h.sm (by omega)) N hN
    | some q => exact step_msg P.nu P.ti P.li P.most P.cd gs q now i n hP.cd h hi (hq q rfl) hn ⟨by omega, by omega⟩ ⟨by omega, by omega⟩ hh N hN
/-- A list of inputs, in order. -/
structure IvsOk (xs : List Iv) : Prop where
  ok : ∀ x, x ∈ xs → x.ok
  inc : xs.Pairwise fun a b => a.i < b.i
theorem stL_ok {P : Pr} (hP : P.ok) : ∀ (xs : List Iv) (gs : List Ga) (k : Nat), GsI gs k → heldG gs ≤ k → IvsOk xs → (∀ x, x ∈ xs → k ≤ x.i) → ∃ k', GsI (stL (stpI P) gs xs) k' ∧ heldG (stL (stpI P) gs xs) ≤ k' ∧ (k' = k ∨ ∃ x, x ∈ xs ∧ k' = x.i + 1)
  | [], gs, k, h, hh, _, _ => ⟨k, h, hh, .inl rfl⟩
  | x :: r, gs, k, h, hh, hx, hk => by
    have hx0 := hx.ok x List.mem_cons_self
    have hk0 := hk x List.mem_cons_self
    have hs := stpI_ok hP (h.mono hk0) hx0
    have hp := List.pairwise_cons.1 hx.inc
    have hfat := hs.fat
    obtain ⟨k', h1, h2, h3⟩ := stL_ok hP r (stpI P gs x).gs (x.i + 1) hs.I (by
      revert hfat
      split <;> omega) ⟨fun y hy => hx.ok y (List.mem_cons_of_mem _ hy), hp.2⟩ (fun y hy => hp.1 y hy)
    refine ⟨k', h1, h2, .inr ?_⟩
    rcases h3 with rfl | ⟨y, hy, rfl⟩
    · exact ⟨x, List.mem_cons_self, rfl⟩
    · exact ⟨y, List.mem_cons_of_mem _ hy, rfl⟩
/-- The state before an input. -/
theorem st_at {P : Pr} (hP : P.ok) {xs : List Iv} (hx : IvsOk xs) (j : Nat) (hj : j < xs.length) : GsI (stL (stpI P) [] (xs.take j)) xs[j].i ∧ heldG (stL (stpI P) [] (xs.take j)) ≤ xs[j].i := by
  obtain ⟨k', h1, h2, h3⟩ := stL_ok hP (xs.take j) [] 0 GsI.nil (Nat.le_refl 0) ⟨fun y hy => hx.ok y (List.mem_of_mem_take hy), hx.inc.take⟩ (fun y _ => Nat.zero_le _)
  have hle : k' ≤ xs[j].i := by
    rcases h3 with rfl | ⟨x, hm, rfl⟩
    · exact Nat.zero_le _
    · obtain ⟨m, hm2, rfl⟩ := List.getElem_of_mem hm
      rw [List.length_take] at hm2
      rw [List.getElem_take]
      have := List.pairwise_iff_getElem.1 hx.inc m j (by omega) hj (by omega)
      omega
  exact ⟨h1.mono hle, by omega⟩
theorem runAll {P : Pr} (hP : P.ok) {xs : List Iv} (hx : IvsOk xs) (hl : xs.length ≤ 40) (N : Nat) (hN : 193001 ≤ N) :
    Gam.pureD (callF tab ext N) 14 [P.node, .sl false 23 (insC xs)] = some (.sl false 7 (rssC (rnL (stpI P) [] xs))) := by
  obtain ⟨M, rfl⟩ : ∃ M, N = M + 1 := ⟨N - 1, by omega⟩
  refine run14 (stpI P) P.nu P.ti P.li P.most (exN P.cd) xs (by omega) M (by omega) fun j hj => ?_
  have h := st_at hP hx j hj
  have hxo := hx.ok _ (List.getElem_mem hj)
  have := hxo.i
  exact step27 hP h.1 hxo (by omega) M (by omega)
/-! ### Events -/
theorem evV_ok (e : Ev) (i now : Nat) (hi : i < 40) (hn : now ≤ 1000) : Iv.ok ⟨i, (now : Int), evV e⟩ := by
  refine ⟨hi, ⟨(by show 0 ≤ (now : Int); omega), (by show (now : Int) ≤ 1000; omega)⟩, fun o n h => ?_⟩
  unfold evV at h
  dsimp only at h
  split at h
  · cases h
  · cases h
    refine ⟨Nat.mod_lt _ (by omega), fun q hq => ?_⟩
    split at hq
    · cases hq
    · cases hq
      omega
theorem inL_ok (l : List Ev) (hl : l.length ≤ 40) : IvsOk (inL 0 0 l) := by
  refine ⟨fun x hx => ?_, List.pairwise_iff_getElem.2 fun a b ha hb hab => ?_⟩
  · obtain ⟨j, hj, rfl⟩ := List.getElem_of_mem hx
    rw [inL_len] at hj
    rw [inL_get l 0 0 j hj]
    have := nwL_le (l.take j) 0
    rw [List.length_take] at this
    exact evV_ok _ _ _ (by omega) (by omega)
  · rw [inL_len] at ha hb
    rw [inL_get l 0 0 a ha, inL_get l 0 0 b hb]
    show 0 + a < 0 + b
    omega
end Go.Proofs.YthphniobeigklaaGreatDoor.Ag

/- The messages that wait in a state. -/
namespace Go.Proofs.YthphniobeigklaaGreatDoor
open Go.Em
set_option maxRecDepth 100000

section
variable (l items acc : List (List X)) (n j k m i : Nat) (x : List X)
def waH : St := ⟨[(3, .bs 0 0 k), (9, .sl false 10 l), (10, nat n), (11, nat j)], [.row 10 acc]⟩
def wiH : St := ⟨[(3, .bs 0 0 k), (9, .sl false 10 l), (10, nat n), (11, nat j), (16, .sl false 10 items), (17, nat m), (18, nat i)], [.row 10 acc]⟩
def wiH' : St := ⟨[(3, .bs 2 0 (k + 1)), (9, .sl false 10 l), (10, nat n), (11, nat j), (16, .sl false 10 items), (17, nat m), (18, nat (i + 1))], [.dead, .var x, .row 10 (acc ++ [x])]⟩
def wiE : St := ⟨[(3, .bs 0 0 k), (9, .sl false 10 l), (10, nat n), (11, nat j), (16, .sl false 10 items), (17, nat m), (18, nat m), (19, boolX false)], [.row 10 acc]⟩
theorem wa_canon : canon 0 (waH l acc n j k) = some (waH l acc n j k) := by kernel_rfl
theorem wi_canon' : canon 0 (wiH' l items acc n j k m i x) = some (wiH l items (acc ++ [x]) n j (k + 1) m (i + 1)) := by kernel_rfl
end
theorem wi_loop (M : Nat) (hM : 190010 ≤ M) (l : List (List X)) (n j : Nat) (acc items : List Msg) (hok : ∀ m, m ∈ items → m.ok) (hl : acc.length + items.length ≤ 60000) {τ : St} (hτ : canon 0 τ = some (wiH l (msgsC items) (msgsC acc) n j acc.length (msgsC items).length 0)) :
    run (callF tab ext M) 0 M (.loop (loopAt 20 1)) τ = some (.exit 2, wiE l (msgsC items) (msgsC (acc ++ items)) n j (acc ++ items).length (msgsC items).length) := by
  have hn := msgsC_length items
  refine loop_for (σ := fun i => wiH l (msgsC items) (msgsC (acc ++ items.take i)) n j (acc ++ items.take i).length (msgsC items).length i) (k := (msgsC items).length) (by rw [List.take_zero, List.append_nil]; exact hτ) (fun i hi => ?_) ?_ (by simp) (by omega)
  · have hi' : i < items.length := by omega
    have hg := msgsC_get hi'
    have hc := clone_msg M items[i] (hok _ (List.getElem_mem hi')) (by omega)
    have hlen : (acc ++ items.take i).length = acc.length + i := by rw [List.length_append, List.length_take]; omega
    have hml := msgsC_length (acc ++ items.take i)
    have e1 : acc ++ items.take (i + 1) = (acc ++ items.take i) ++ [items[i]] := by rw [List.take_succ_eq_append_getElem hi', List.append_assoc]
    have e2 : msgsC ((acc ++ items.take i) ++ [items[i]]) = msgsC (acc ++ items.take i) ++ [items[i].cells] := by simp only [msgsC, List.map_append, List.map_cons, List.map_nil]
    have e3 : ((acc ++ items.take i) ++ [items[i]]).length = (acc ++ items.take i).length + 1 := List.length_append.trans rfl
    rw [e1, e2, e3]
    generalize items[i] = x at hg hc
    obtain ⟨⟨a1, a2⟩, a3, a4, a5, a6, a7, a8, a9, a0⟩ := x
    generalize acc ++ items.take i = q at hlen hml
    exact ⟨wiH' l (msgsC items) (msgsC q) n j q.length (msgsC items).length i (Msg.mk ⟨a1, a2⟩ a3 a4 (Val.mk a5 a6 a7 a8 a9 a0)).cells,
      run_of [(19, .b true), (20, .e (Msg.mk ⟨a1, a2⟩ a3 a4 (Val.mk a5 a6 a7 a8 a9 a0)).cells), (24, .p (.agg (Msg.mk ⟨a1, a2⟩ a3 a4 (Val.mk a5 a6 a7 a8 a9 a0)).cells)), (26, .app), (27, .i (Int.ofNat (i + 1)))] []
        (pf5 (lt_nat hi) hg hc (app_ok (acc := msgsC q) q.length 0 152 (by omega) (by omega) (by omega)) (next_nat (j := i) (by omega))) (lo' := []) (by kernel_rfl), wi_canon' ..⟩
  · have e : items.take (msgsC items).length = items := List.take_of_length_le (by omega)
    rw [e]
    exact run_of [(19, .b false)] [] (pf1 (nlt_nat (Nat.lt_irrefl (msgsC items).length))) (lo' := []) (by kernel_rfl)
theorem waiting_pure (s : Stt) (hs : s.small) (N : Nat) (hN : 190020 ≤ N) : Gam.pureD (callF tab ext N) 20 [.agg s.cells] = some (.sl false 10 (msgsC (accOf s.slots))) := by
  obtain ⟨M, rfl⟩ : ∃ M, N = M + 1 := ⟨N - 1, by omega⟩
  have hl := hs.slots
  have hx := hs.slot
  obtain ⟨a, b, ss⟩ := s
  dsimp only at hl hx ⊢
  have hn := sltsC_length ss
  have hloop : run (callF tab ext M) 0 M (.loop (loopAt 20 0)) ⟨[(3, .bs 1 0 0), (9, .sl false 10 (sltsC ss)), (10, nat (sltsC ss).length), (11, nat 0)], [.var [num a, num b, .sl false 10 (sltsC ss)], .row 10 []]⟩ = some (.exit 0, ⟨[(3, .bs 0 0 (accOf ss).length), (9, .sl false 10 (sltsC ss)), (10, nat (sltsC ss).length), (11, nat (sltsC ss).length), (12, boolX false)], [.row 10 (msgsC (accOf ss))]⟩) := by
    refine loop_for (σ := fun j => waH (sltsC ss) (msgsC (accOf (ss.take j))) (sltsC ss).length j (accOf (ss.take j)).length) (k := (sltsC ss).length) (by kernel_rfl) (fun j hj => ?_) ?_ (by simp) (by omega)
    · have hj' : j < ss.length := by omega
      have hg := sltsC_get hj'
      have hla := accOf_length (ss.take j) fun x hxx => (hx x (List.mem_of_mem_take hxx)).2.1
      have hlt : (ss.take j).length ≤ 100 := by rw [List.length_take]; omega
      obtain ⟨hok, hi, _⟩ := hx _ (List.getElem_mem hj')
      have hit := hok.item
      rw [accOf_take hj']
      generalize ss[j] = x at hg hi hit
      obtain ⟨⟨k0, i0, s0, t0, l0, f0⟩, n0, d0, items, vals⟩ := x
      dsimp only at hi hit ⊢
      generalize accOf (ss.take j) = q at hla ⊢
      have hw := wi_loop M (by omega) (sltsC ss) (sltsC ss).length j q items hit (by omega) (τ := ⟨[(3, .bs 0 0 q.length), (9, .sl false 10 (sltsC ss)), (10, nat (sltsC ss).length), (11, nat j), (16, .sl false 10 (msgsC items)), (17, nat (msgsC items).length), (18, nat 0)], [.row 10 (msgsC q), .var (slotC k0 i0 s0 t0 (cellsL l0) (cellsF f0) n0 d0 (msgsC items) (cellsL vals))]⟩) (by kernel_rfl)
      exact ⟨waH (sltsC ss) (msgsC (q ++ items)) (sltsC ss).length (j + 1) (q ++ items).length, run_of [(12, .b true), (13, .e (slotC k0 i0 s0 t0 (cellsL l0) (cellsF f0) n0 d0 (msgsC items) (cellsL vals))), (28, .i (Int.ofNat (j + 1)))] [(.exit 2, wiE (sltsC ss) (msgsC items) (msgsC (q ++ items)) (sltsC ss).length j (q ++ items).length (msgsC items).length)]
        (pf4 (lt_nat hj) hg hw (next_nat (j := j) (by omega))) (lo' := []) (by kernel_rfl), wa_canon ..⟩
    · have e : ss.take (sltsC ss).length = ss := List.take_of_length_le (by omega)
      rw [e]
      exact run_of [(12, .b false)] [] (pf1 (nlt_nat (Nat.lt_irrefl (sltsC ss).length))) (lo' := []) (by kernel_rfl)
  have hd : (X.bs 0 0 (accOf ss).length).data [.row 10 (msgsC (accOf ss))] false = some (.sl false 10 (msgsC (accOf ss))) := by
    have hml := msgsC_length (accOf ss)
    simp only [X.data, rowOf, List.getElem?_cons_zero, Nat.zero_add, hml, Nat.le_refl, if_true, Option.map_some, List.drop_zero]
    rw [List.take_of_length_le (by omega)]
  exact pure_of [] [(.exit 0, ⟨[(3, .bs 0 0 (accOf ss).length), (9, .sl false 10 (sltsC ss)), (10, nat (sltsC ss).length), (11, nat (sltsC ss).length), (12, boolX false)], [.row 10 (msgsC (accOf ss))]⟩)] (pf1 hloop) (bx := [.row 10 (msgsC (accOf ss))]) (by kernel_rfl) hd
end Go.Proofs.YthphniobeigklaaGreatDoor

/- The mass of messages, of what a state holds. -/
namespace Go.Proofs.YthphniobeigklaaGreatDoor.Ag
open Go Go.Em Go.Proofs.YthphniobeigklaaGreatDoor
set_option maxRecDepth 100000

def AllMass (l : List Msg) : Prop := ∀ m, m ∈ l → 0 ≤ m.mass ∧ m.mass ≤ 100000
theorem heavy44 (m : Msg) (h : 0 ≤ m.mass ∧ m.mass ≤ 100000) (N : Nat) : Gam.pureD (callF tab ext (N + 11)) 44 [.agg m.cells] = some (boolX false) := by
  have h1 := heavy45 m.mass h N
  obtain ⟨⟨a1, a2⟩, a3, a4, a5, a6, a7, a8, a9, a0⟩ := m
  exact pure_of [(5, .p (boolX false))] [] (pf1 h1) (x := boolX false) (bx := []) (by kernel_rfl) rfl
theorem idx78 (l : List Msg) (hl : l.length ≤ 1024) (hm : AllMass l) (N : Nat) (hN : 2000 ≤ N) : Gam.pureD (callF tab ext N) 78 [.sl false 10 (msgsC l), .fn 44 []] = some (num (-1)) := by
  obtain ⟨M, rfl⟩ : ∃ M, N = M + 12 := ⟨N - 12, by omega⟩
  have hn := msgsC_length l
  have hloop : run (callF tab ext (M + 11)) 0 (M + 11) (.loop (loopAt 78 0)) (imH (msgsC l) (.fn 44 []) (msgsC l).length 0) = some (.exit 0, ⟨[(0, .sl false 10 (msgsC l)), (1, .fn 44 []), (7, nat (msgsC l).length), (8, nat (msgsC l).length), (9, boolX false)], []⟩) := by
    refine loop_for (σ := fun j => imH (msgsC l) (.fn 44 []) (msgsC l).length j) (k := (msgsC l).length) (by kernel_rfl) (fun j hj => ?_) ?_ (by simp) (by omega)
    · have hj' : j < l.length := by omega
      have hg := msgsC_get hj'
      have hb := heavy44 l[j] (hm _ (List.getElem_mem hj')) M
      generalize l[j] = o at hg hb
      obtain ⟨⟨a1, a2⟩, a3, a4, a5, a6, a7, a8, a9, a0⟩ := o
      exact ⟨imH (msgsC l) (.fn 44 []) (msgsC l).length (j + 1), run_of [(9, .b true), (14, .e (Msg.mk ⟨a1, a2⟩ a3 a4 (Val.mk a5 a6 a7 a8 a9 a0)).cells), (16, .p (boolX false)), (18, .i (Int.ofNat (j + 1)))] [] (pf4 (lt_nat hj) hg hb (next_nat (j := j) (by omega))) (lo' := []) (by kernel_rfl), by kernel_rfl⟩
    · exact run_of [(9, .b false)] [] (pf1 (nlt_nat (Nat.lt_irrefl (msgsC l).length))) (lo' := []) (by kernel_rfl)
  exact pure_of [] [(.exit 0, ⟨[(0, .sl false 10 (msgsC l)), (1, .fn 44 []), (7, nat (msgsC l).length), (8, nat (msgsC l).length), (9, boolX false)], []⟩)] (pf1 hloop) (x := num (-1)) (bx := []) (by kernel_rfl) rfl
theorem cont43 (l : List Msg) (hl : l.length ≤ 1024) (hm : AllMass l) (N : Nat) (hN : 2001 ≤ N) : Gam.pureD (callF tab ext N) 43 [.sl false 10 (msgsC l), .fn 44 []] = some (boolX false) := by
  obtain ⟨M, rfl⟩ : ∃ M, N = M + 1 := ⟨N - 1, by omega⟩
  exact pure_of [(7, .p (num (-1)))] [] (pf1 (idx78 l hl hm M (by omega))) (x := boolX false) (bx := []) (by kernel_rfl) rfl
def maH (es : List (List X)) (n j : Nat) (acc : Int) : St := ⟨[(3, num acc), (13, .sl false 10 es), (14, nat n), (15, nat j)], []⟩
theorem mass25 (l : List Msg) (hl : l.length ≤ 1024) (hm : AllMass l) (N : Nat) (hN : 2002 ≤ N) : Gam.pureD (callF tab ext N) 25 [.sl false 10 (msgsC l)] = some (num (massL l)) := by
  obtain ⟨M, rfl⟩ : ∃ M, N = M + 1 := ⟨N - 1, by omega⟩
  have hn := msgsC_length l
  have h1 : decide (Int.ofNat (msgsC l).length > 1024) = false := decide_eq_false (by rw [hn]; simp only [Int.ofNat_eq_natCast]; omega)
  have h2 := cont43 l hl hm M (by omega)
  have hloop : run (callF tab ext M) 0 M (.loop (loopAt 25 0)) (maH (msgsC l) (msgsC l).length 0 0) = some (.exit 0, ⟨[(3, num (massL l)), (13, .sl false 10 (msgsC l)), (14, nat (msgsC l).length), (15, nat (msgsC l).length), (16, boolX false)], []⟩) := by
    refine loop_for (σ := fun j => maH (msgsC l) (msgsC l).length j (massL (l.take j))) (k := (msgsC l).length) (by kernel_rfl) (fun j hj => ?_) ?_ (by simp) (by omega)
    · have hj' : j < l.length := by omega
      have hg := msgsC_get hj'
      have hmm := hm _ (List.getElem_mem hj')
      have hb := massL_le (ms := l.take j) fun m hx => hm m (List.mem_of_mem_take hx)
      rw [List.length_take] at hb
      rw [List.take_succ_eq_append_getElem hj', massL_snoc]
      have hw : IntKind.i64.wrap (massL (l.take j) + l[j].mass) = massL (l.take j) + l[j].mass := by rw [IntKind.wrap_i64]; omega
      generalize massL (l.take j) = acc at *
      generalize l[j] = o at hg hmm hw ⊢
      obtain ⟨⟨a1, a2⟩, a3, a4, a5, a6, a7, a8, a9, a0⟩ := o
      dsimp only at hw ⊢
      generalize acc + a3 = s at hw ⊢
      exact rd_of [(16, .b true), (17, .e (Msg.mk ⟨a1, a2⟩ a3 a4 (Val.mk a5 a6 a7 a8 a9 a0)).cells), (22, .i s), (23, .i (Int.ofNat (j + 1)))] (pf4 (lt_nat hj) hg hw (next_nat (j := j) (by omega))) (by kernel_rfl)
    · rw [List.take_of_length_le (by omega)]
      exact run_of [(16, .b false)] [] (pf1 (nlt_nat (Nat.lt_irrefl (msgsC l).length))) (lo' := []) (by kernel_rfl)
  generalize massL l = s at *
  exact pure_of [(8, .b false), (11, .p (boolX false))] [(.exit 0, ⟨[(3, num s), (13, .sl false 10 (msgsC l)), (14, nat (msgsC l).length), (15, nat (msgsC l).length), (16, boolX false)], []⟩)] (pf3 h1 h2 hloop) (x := num s) (bx := []) (by kernel_rfl) rfl
/-- All messages that wait. -/
def waitG (gs : List Ga) : List Msg := gs.flatMap fun x => x.M.map (msV x.g)
theorem accOf_gst (gs : List Ga) : accOf (gst gs).slots = waitG gs := by
  simp [accOf, gst, waitG, Ga.slt, List.flatMap_map]
theorem waitG_len (gs : List Ga) : (waitG gs).length = heldG gs := by simp [waitG, heldG, List.length_flatMap]
theorem waitG_mass {gs : List Ga} {i : Nat} (h : GsI gs i) (hi : i ≤ 40) : AllMass (waitG gs) := fun m hm => by
  obtain ⟨x, hx, hm⟩ := List.mem_flatMap.1 hm
  obtain ⟨p, hp, rfl⟩ := List.mem_map.1 hm
  have := (h.place x hx p hp).1
  show 0 ≤ 100 + (p.1 : Int) ∧ 100 + (p.1 : Int) ≤ 100000
  omega
theorem mass24 {gs : List Ga} {i : Nat} (h : GsI gs i) (hi : i ≤ 40) (hh : heldG gs ≤ 1000) (N : Nat) (hN : 190030 ≤ N) : Gam.pureD (callF tab ext N) 24 [.agg (gst gs).cells] = some (num (massL (waitG gs))) := by
  obtain ⟨M, rfl⟩ : ∃ M, N = M + 1 := ⟨N - 1, by omega⟩
  have h1 := waiting_pure (gst gs) (gst_small gs (h.sm hi)) M (by omega)
  rw [accOf_gst] at h1
  have h2 := mass25 (waitG gs) (by rw [waitG_len]; omega) (waitG_mass h hi) M (by omega)
  generalize massL (waitG gs) = s at *
  exact pure_of [(4, .p (.sl false 10 (msgsC (waitG gs)))), (5, .p (num s))] [] (pf2 h1 h2) (x := num s) (bx := []) (by kernel_rfl) rfl
end Go.Proofs.YthphniobeigklaaGreatDoor.Ag

/- Masses are kept: the plain law. -/
namespace Go.Proofs.YthphniobeigklaaGreatDoor.Ag
open Go Go.Em Go.Proofs.YthphniobeigklaaGreatDoor
set_option maxRecDepth 100000

def ms1 (x : Ga) : Int := massL (x.M.map (msV x.g))
def massG (gs : List Ga) : Int := (gs.map ms1).sum
theorem massL_app (a b : List Msg) : massL (a ++ b) = massL a + massL b := by simp [massL]
theorem massG_wait (gs : List Ga) : massL (waitG gs) = massG gs := by
  induction gs with
  | nil => rfl
  | cons x r ih =>
    have e : waitG (x :: r) = x.M.map (msV x.g) ++ waitG r := by simp [waitG]
    rw [e, massL_app, ih]
    simp [massG, ms1]
theorem massG_app (a b : List Ga) : massG (a ++ b) = massG a + massG b := by simp [massG]
theorem massG_split (g : Int) (gs : List Ga) : massG gs = massG (gs.take (lowG g gs)) + massG (if knG g gs then [getG g gs] else []) + massG (gs.drop (lowG g gs + kn1 g gs)) := by
  conv => lhs; rw [split_at g gs]
  rw [massG_app, massG_app]
theorem massG_put (x : Ga) (gs : List Ga) : massG (putG x gs) + ms1 (getG x.g gs) = massG gs + ms1 x := by
  have e := massG_split x.g gs
  rw [putG_eq, massG_app, massG_app, e]
  have h1 : massG [x] = ms1 x := by simp [massG]
  rw [h1]
  cases hk : knG x.g gs with
  | true =>
    simp only [if_true]
    have : massG [getG x.g gs] = ms1 (getG x.g gs) := by simp [massG]
    omega
  | false =>
    rw [getG_new hk]
    simp only [Bool.false_eq_true, if_false]
    have h0 : massG [] = 0 := rfl
    have h2 : ms1 ⟨x.g, 0, []⟩ = 0 := rfl
    omega
theorem massG_del {g : Int} {gs : List Ga} (hk : knG g gs = true) : massG (delG g gs) + ms1 (getG g gs) = massG gs := by
  have e := massG_split g gs
  have k1 : kn1 g gs = 1 := by unfold kn1; rw [hk]; rfl
  rw [e, k1, hk]
  unfold delG
  rw [massG_app]
  have : massG [getG g gs] = ms1 (getG g gs) := by simp [massG]
  simp only [if_true]
  omega
def massO (l : List Otp) : Int := massL (l.map (·.m))
theorem massO_app (a b : List Otp) : massO (a ++ b) = massO a + massO b := by unfold massO; rw [List.map_append, massL_app]
theorem massO_one (o : Otp) : massO [o] = o.m.mass := by simp [massO, massL]
theorem getG_g (q : Int) (gs : List Ga) : (getG q gs).g = q := by
  rcases getG_cases q gs with ⟨_, _, h⟩ | ⟨_, e⟩
  · exact h
  · rw [e]
theorem ms_add (gs : List Ga) (q : Int) (m : Nat × Nat) : massL ((addM gs q m).map (msV q)) = ms1 (getG q gs) + (100 + (m.1 : Int)) := by
  unfold addM
  rw [List.map_append, massL_app]
  have h1 : massL ([m].map (msV q)) = 100 + (m.1 : Int) := by simp [massL, msV]
  rw [h1]
  unfold ms1
  rw [getG_g]
theorem clk1_mass {g0 : List Ga} {most : Int} {s : Stp} {c : Rs} {x : Ga} (h : CkI g0 c) (hx : x ∈ c.gs) : massG (clk1 most s c x).gs + massO (clk1 most s c x).O + massL (clk1 most s c x).L = massG c.gs + massO c.O + massL c.L := by
  obtain ⟨hk, hg⟩ := kn_mem h.srt hx
  have hd := massG_del hk
  rw [hg] at hd
  unfold clk1
  split
  · dsimp only
    rw [massO_app, massO_one]
    show massG (delG x.g c.gs) + (massO c.O + massL (x.M.map (msV x.g))) + massL c.L = _
    have : ms1 x = massL (x.M.map (msV x.g)) := rfl
    omega
  · dsimp only
    rw [massL_app]
    have : ms1 x = massL (x.M.map (msV x.g)) := rfl
    omega
theorem clk_mass {g0 : List Ga} {most : Int} {s : Stp} : ∀ (E : List Ga) (c : Rs), CkI g0 c → (∀ x, x ∈ E → x ∈ c.gs ∧ x.M ≠ []) → (E.Pairwise fun a b => a.g ≠ b.g) →
    massG (E.foldl (clk1 most s) c).gs + massO (E.foldl (clk1 most s) c).O + massL (E.foldl (clk1 most s) c).L = massG c.gs + massO c.O + massL c.L
  | [], c, _, _, _ => rfl
  | x :: E, c, h, hx, hp => by
    obtain ⟨hx1, hxE⟩ := hx x List.mem_cons_self
    have hp2 := List.pairwise_cons.1 hp
    have h1 := clk1_I (most := most) (s := s) h hx1 hxE
    have ih := clk_mass (most := most) (s := s) E (clk1 most s c x) h1 (fun y hy => by
      have hy2 := hx y (List.mem_cons_of_mem _ hy)
      refine ⟨?_, hy2.2⟩
      rw [clk1_gs]
      exact (del_mem h.srt hx1).2 ⟨hy2.1, fun e => hp2.1 y hy e.symm⟩) hp2.2
    rw [List.foldl_cons, ih]
    exact clk1_mass h hx1
/-- The mass of what comes. -/
def inM (x : Iv) : Int := match x.v with
  | .c => 0
  | .m _ _ => 100 + (x.i : Int)
theorem stp_mass {P : Pr} {gs : List Ga} {x : Iv} (h : GsI gs x.i) : massG (stpI P gs x).gs + massO (stpI P gs x).O + massL (stpI P gs x).L = massG gs + inM x := by
  obtain ⟨i, now, v⟩ := x
  dsimp only at h
  unfold stpI inM
  cases v with
  | c =>
    dsimp only
    have := clk_mass (most := P.most) (s := clS i) (g0 := gs) (exG now gs) ⟨gs, [], [], []⟩ ⟨h.srt, fun x hx => hx, Nat.le_refl _, rfl, Nat.le_refl 0, Nat.le_refl 0⟩ (fun x hx => ⟨(exG_mem x hx).1, h.ne x (exG_mem x hx).1⟩) (exG_ne h.srt)
    have h0 : massO ([] : List Otp) = 0 := rfl
    have h1 : massL ([] : List Msg) = 0 := rfl
    unfold clkR
    rw [this]
    dsimp only
    omega
  | m o n =>
    cases o with
    | none =>
      show massG gs + massO [] + massL [msN (i, n)] = massG gs + (100 + (i : Int))
      have h1 : massO [] = 0 := rfl
      have h2 : massL [msN (i, n)] = 100 + (i : Int) := by simp [massL, msN]
      omega
    | some q =>
      dsimp only
      have hrej : massG gs + massO [] + massL [msV q (i, n)] = massG gs + (100 + (i : Int)) := by
        have h1 : massO [] = 0 := rfl
        have h2 : massL [msV q (i, n)] = 100 + (i : Int) := by simp [massL, msV]
        omega
      have hadd := ms_add gs q (i, n)
      have hput := massG_put ⟨q, if knG q gs = true then (getG q gs).t else tNew P.ti now, addM gs q (i, n)⟩ gs
      unfold stpM
      split
      · exact hrej
      · split
        · exact hrej
        · split
          · have hgs : massG (if knG q gs = true then delG q gs else gs) + ms1 (getG q gs) = massG gs := by
              rcases getG_cases q gs with ⟨hk, _, _⟩ | ⟨hk, e⟩
              · rw [hk, if_pos rfl]
                exact massG_del hk
              · rw [hk, if_neg (by simp), e]
                have : ms1 ⟨q, 0, []⟩ = 0 := rfl
                omega
            unfold finR
            split
            · dsimp only
              rw [massO_one]
              show massG _ + massL ((addM gs q (i, n)).map (msV q)) + massL [] = _
              have h0 : massL [] = 0 := rfl
              omega
            · dsimp only
              have h0 : massO [] = 0 := rfl
              omega
          · dsimp only
            have h0 : massO [] = 0 := rfl
            have h1 : massL [] = 0 := rfl
            have h2 : ms1 ⟨q, if knG q gs = true then (getG q gs).t else tNew P.ti now, addM gs q (i, n)⟩ = massL ((addM gs q (i, n)).map (msV q)) := rfl
            dsimp only at hput
            omega
end Go.Proofs.YthphniobeigklaaGreatDoor.Ag

/- AggregatorBalances. -/
namespace Go.Proofs.YthphniobeigklaaGreatDoor.Ag
open Go Go.Em Go.Proofs.YthphniobeigklaaGreatDoor
set_option maxRecDepth 100000

/-- The numbers of a sketch's node. -/
def skP (a b c d e : Int) : Pr := ⟨nuOf a, tiOf b, liOf c, mostOf e, cdOf d⟩
theorem skP_ok (a b c d e : Int) (hb : 0 ≤ b ∧ b < 256) : (skP a b c d e).ok := by
  refine ⟨?_, ?_⟩
  · show cdOf d < 4
    unfold cdOf; split <;> (try split) <;> omega
  · show 0 ≤ tiOf b ∧ tiOf b ≤ 100
    unfold tiOf
    obtain ⟨n, rfl⟩ := Int.eq_ofNat_of_zero_le hb.1
    have h4 : IntKind.i64.wrap ((n : Int).tmod 4) = ((n % 4 : Nat) : Int) := by rw [Int.tmod_eq_emod_of_nonneg (Int.natCast_nonneg n), IntKind.wrap_i64]; omega
    rw [h4]
    have := Nat.mod_lt n (show 0 < 4 by omega)
    generalize n % 4 = k at *
    have hk : k = 0 ∨ k = 1 ∨ k = 2 ∨ k = 3 := by omega
    rcases hk with rfl | rfl | rfl | rfl <;> decide
theorem sk12 (a b c d e : Int) (N : Nat) (hN : 300 ≤ N) : Gam.pureD (callF tab ext N) 12 [skX a b c d e] = some (skP a b c d e).node := by
  obtain ⟨K, rfl⟩ : ∃ K, N = K + 300 := ⟨N - 300, by omega⟩
  exact node12 a b c d e K
section
variable (ins rs : List (List X)) (i k : Nat) (bef sum acc : Int) (N : Nat)
def baH : St := ⟨[(5, .sl false 23 ins), (6, .sl false 7 rs), (7, num bef), (8, nat i)], []⟩
def baE : St := ⟨[(5, .sl false 23 ins), (6, .sl false 7 rs), (7, num bef), (8, nat i), (23, boolX false)], []⟩
def baI : St := ⟨[(5, .sl false 23 ins), (6, .sl false 7 rs), (7, num bef), (8, nat i), (9, num sum), (10, num acc), (11, nat k)], []⟩
def baJ : St := ⟨[(5, .sl false 23 ins), (6, .sl false 7 rs), (7, num bef), (8, nat i), (9, num sum), (10, num acc), (11, nat k), (55, boolX false)], []⟩
theorem ba_canon : canon 0 (baH ins rs i bef) = some (baH ins rs i bef) := by kernel_rfl
theorem bi_canon : canon 0 (baI ins rs i k bef sum acc) = some (baI ins rs i k bef sum acc) := by kernel_rfl
theorem ba_end (h : ¬ i < ins.length) : run (callF tab ext N) 0 N (loopAt 7 0) (baH ins rs i bef) = some (.exit 0, baE ins rs i bef) :=
  run_of [(23, .b false)] [] (pf1 (nlt_nat h)) (lo' := []) (by kernel_rfl)
theorem bi_end (r : Rs) (hr : rs[i]? = some r.cells) (h : ¬ k < (otpsC r.O).length) : run (callF tab ext N) 0 N (loopAt 7 1) (baI ins rs i k bef sum acc) = some (.exit 2, baJ ins rs i k bef sum acc) :=
  run_of [(51, .e r.cells), (55, .b false)] [] (pf2 hr (nlt_nat h)) (lo' := []) (by kernel_rfl)
theorem bi_round (r : Rs) (o : Otp) (hr : rs[i]? = some r.cells) (ho : (otpsC r.O)[k]? = some o.cells) (h : k < (otpsC r.O).length) (hk : k < 1000) (hm : 0 ≤ o.m.mass ∧ o.m.mass ≤ 100000000) (ha : 0 ≤ acc ∧ acc ≤ 1000000000000) :
    ∃ υ, run (callF tab ext N) 0 N (loopAt 7 1) (baI ins rs i k bef sum acc) = some (.norm, υ) ∧ canon 0 υ = some (baI ins rs i (k + 1) bef sum (acc + o.m.mass)) := by
  have hw : IntKind.i64.wrap (acc + o.m.mass) = acc + o.m.mass := by rw [IntKind.wrap_i64]; omega
  obtain ⟨p, ⟨⟨e, sp⟩, mm, os, ⟨a1, a2, a3, a4, a5, a6⟩⟩⟩ := o
  dsimp only at hw ⊢
  generalize acc + mm = z at hw ⊢
  exact rd_of [(51, .e r.cells), (55, .b true), (61, .e r.cells), (65, .e (Otp.mk p ⟨⟨e, sp⟩, mm, os, .mk a1 a2 a3 a4 a5 a6⟩).cells), (69, .i z), (57, .i (Int.ofNat (k + 1)))] (pf6 hr (lt_nat h) hr ho hw (next_nat (j := k) (by omega))) (by kernel_rfl)
theorem ba_round (x : Iv) (r : Rs) (m1 m2 a2 : Int) (n : Nat) (hi : i < ins.length) (hi2 : i < 1000) (he : ins[i]? = some (x.row true)) (hr : rs[i]? = some r.cells) (hxi : x.i < 1000) (hbef : 0 ≤ bef ∧ bef ≤ 100000000)
    (h24 : Gam.pureD (callF tab ext N) 24 [.agg (gst r.gs).cells] = some (num m1)) (h25 : Gam.pureD (callF tab ext N) 25 [.sl false 10 (msgsC r.L)] = some (num m2))
    (hl : run (callF tab ext N) 0 N (.loop (loopAt 7 1)) (baI ins rs i 0 m1 (bef + inM x) m1) = some (.exit 2, baJ ins rs i n m1 (bef + inM x) a2)) (hs : IntKind.i64.wrap (a2 + m2) = bef + inM x) :
    ∃ υ, run (callF tab ext N) 0 N (loopAt 7 0) (baH ins rs i bef) = some (.norm, υ) ∧ canon 0 υ = some (baH ins rs (i + 1) m1) := by
  have h1 := lt_nat hi
  have hn := next_nat (j := i) (by omega)
  obtain ⟨xi, now, v⟩ := x
  cases v with
  | c =>
    have e0 : inM ⟨xi, now, .c⟩ = 0 := rfl
    rw [e0, Int.add_zero] at hl hs
    have hne : (bef != bef) = false := by simp
    exact rl_of [(23, .b true), (29, .e (clR true xi now)), (43, .e r.cells), (46, .p (num m1)), (74, .e r.cells), (77, .p (num m2)), (78, .i bef), (79, .b false), (25, .i (Int.ofNat (i + 1)))] [(.exit 2, baJ ins rs i n m1 bef a2)] (pf10 h1 he hr h24 hl hr h25 hs hne hn) (by kernel_rfl)
  | m o q =>
    have e0 : inM ⟨xi, now, .m o q⟩ = 100 + (xi : Int) := rfl
    rw [e0] at hl hs
    dsimp only at hxi
    have hw : IntKind.i64.wrap (bef + Int.ofNat (100 + xi)) = bef + (100 + (xi : Int)) := by rw [IntKind.wrap_i64]; simp only [Int.ofNat_eq_natCast]; omega
    generalize bef + (100 + (xi : Int)) = s at *
    have hne : (s != s) = false := by simp
    cases o with
    | none => exact rl_of [(23, .b true), (29, .e (inR true xi now none q)), (36, .e (inR true xi now none q)), (40, .i s), (43, .e r.cells), (46, .p (num m1)), (74, .e r.cells), (77, .p (num m2)), (78, .i s), (79, .b false), (25, .i (Int.ofNat (i + 1)))] [(.exit 2, baJ ins rs i n m1 s a2)] (pf12 h1 he he hw hr h24 hl hr h25 hs hne hn) (by kernel_rfl)
    | some w => exact rl_of [(23, .b true), (29, .e (inR true xi now (some w) q)), (36, .e (inR true xi now (some w) q)), (40, .i s), (43, .e r.cells), (46, .p (num m1)), (74, .e r.cells), (77, .p (num m2)), (78, .i s), (79, .b false), (25, .i (Int.ofNat (i + 1)))] [(.exit 2, baJ ins rs i n m1 s a2)] (pf12 h1 he he hw hr h24 hl hr h25 hs hne hn) (by kernel_rfl)
end
/-! ### Bounds -/
theorem allMass_nil : AllMass [] := fun m hm => nomatch hm
theorem massL_one {ms : List Msg} (h : AllMass ms) (hl : ms.length ≤ 1000) : 0 ≤ massL ms ∧ massL ms ≤ 100000000 := by
  have := massL_le h
  omega
structure Small (r : Rs) : Prop where
  out : ∀ o, o ∈ r.O → 0 ≤ o.m.mass ∧ o.m.mass ≤ 100000000
  no : r.O.length ≤ 100
  let' : AllMass r.L
  nl : r.L.length ≤ 1000
theorem grp_mass {q : Int} {M : List (Nat × Nat)} (h : GrpOk q M) : AllMass (M.map (msV q)) := fun m hm => (h.ms m hm).2
theorem clk_small {gs : List Ga} {i : Nat} (h : GsI gs i) (hi : i ≤ 40) {most : Int} {s : Stp} : ∀ (E : List Ga) (c : Rs), (∀ x, x ∈ E → x ∈ gs) → Small ⟨c.gs, c.O, c.F, []⟩ → c.O.length + E.length ≤ 100 → AllMass c.L → c.L.length + 41 * E.length ≤ 1000 → Small (E.foldl (clk1 most s) c)
  | [], c, _, hs, hO, hL, hl => ⟨hs.out, by simpa using hO, hL, by simpa using hl⟩
  | x :: E, c, hE, hs, hO, hL, hl => by
    have hgo := h.grpOk hi (hE x List.mem_cons_self)
    have hlen := h.len x (hE x List.mem_cons_self)
    simp only [List.length_cons] at hO hl
    refine clk_small h hi E (clk1 most s c x) (fun y hy => hE y (List.mem_cons_of_mem _ hy)) ?_ ?_ ?_ ?_
    · refine ⟨fun o ho => ?_, ?_, allMass_nil, Nat.zero_le _⟩
      · unfold clk1 at ho
        split at ho
        · rcases List.mem_append.1 ho with ho | ho
          · exact hs.out o ho
          · rw [List.mem_singleton.1 ho]
            exact massL_one (grp_mass hgo) (by rw [List.length_map]; omega)
        · exact hs.out o ho
      · unfold clk1
        split
        · simp only [List.length_append, List.length_singleton]; omega
        · dsimp only; omega
    · unfold clk1
      split
      · simp only [List.length_append, List.length_singleton]; omega
      · dsimp only; omega
    · unfold clk1
      split
      · exact hL
      · intro m hm
        rcases List.mem_append.1 hm with hm | hm
        · exact hL m hm
        · exact grp_mass hgo m hm
    · unfold clk1
      split
      · dsimp only; omega
      · simp only [List.length_append, List.length_map]; omega
theorem stp_small {P : Pr} {gs : List Ga} {x : Iv} (h : GsI gs x.i) (hx : x.ok) : Small (stpI P gs x) := by
  obtain ⟨i, now, v⟩ := x
  obtain ⟨hi, hnow, hv⟩ := hx
  dsimp only at hi hnow hv h
  unfold stpI
  cases v with
  | c =>
    have h4 := h.few4
    have hEl := exG_len now gs
    exact clk_small h (by omega) (exG now gs) ⟨gs, [], [], []⟩ (fun x hx => (exG_mem x hx).1) ⟨by simp, by simp, allMass_nil, by simp⟩ (by simp; omega) (allMass_nil) (by simp; omega)
  | m o n =>
    obtain ⟨hn, hq⟩ := hv o n rfl
    have one : ∀ (m : Msg), m.mass = 100 + (i : Int) → AllMass [m] := fun m hm y hy => by
      rw [List.mem_singleton.1 hy, hm]
      omega
    cases o with
    | none => exact ⟨by simp [stpN], by simp [stpN], one (msN (i, n)) rfl, by simp [stpN]⟩
    | some q =>
      have hgo := h.grp hi q (hq q rfl) n hn
      have hgl := hgo.len
      have hrej : ∀ r, Small ⟨gs, [], rejF [msV q (i, n)] r, [msV q (i, n)]⟩ := fun r => ⟨by simp, by simp, one (msV q (i, n)) rfl, by simp⟩
      dsimp only
      unfold stpM
      split
      · exact hrej _
      · split
        · exact hrej _
        · split
          · unfold finR
            split
            · refine ⟨fun o ho => ?_, by simp, allMass_nil, by simp⟩
              rw [List.mem_singleton.1 ho]
              exact massL_one (grp_mass hgo) (by rw [List.length_map]; omega)
            · exact ⟨by simp, by simp, grp_mass hgo, by rw [List.length_map]; omega⟩
          · exact ⟨by simp, by simp, allMass_nil, by simp⟩
theorem massO_bnd : ∀ (l : List Otp), (∀ o, o ∈ l → 0 ≤ o.m.mass ∧ o.m.mass ≤ 100000000) → 0 ≤ massO l ∧ massO l ≤ 100000000 * l.length
  | [], _ => by simp [massO, massL]
  | o :: r, h => by
    have h1 := h o List.mem_cons_self
    have h2 := massO_bnd r fun x hx => h x (List.mem_cons_of_mem _ hx)
    have e : massO (o :: r) = o.m.mass + massO r := by simp [massO, massL]
    rw [e]
    simp only [List.length_cons]
    omega
theorem bi_loop (ins rs : List (List X)) (i : Nat) (bef sum : Int) (r : Rs) (hr : rs[i]? = some r.cells) (hs : Small r) (m1 : Int) (hm : 0 ≤ m1 ∧ m1 ≤ 100000000) (N : Nat) (hN : 1000 ≤ N) :
    run (callF tab ext N) 0 N (.loop (loopAt 7 1)) (baI ins rs i 0 bef sum m1) = some (.exit 2, baJ ins rs i r.O.length bef sum (m1 + massO r.O)) := by
  have hno := hs.no
  have hl := otpsC_length r.O
  refine loop_for (σ := fun k => baI ins rs i k bef sum (m1 + massO (r.O.take k))) (k := r.O.length) ?_ (fun k hk => ?_) ?_ (by simp) (by omega)
  · have := bi_canon ins rs i 0 bef sum m1
    simpa [massO, massL] using this
  · have hb := massO_bnd (r.O.take k) fun o ho => hs.out o (List.mem_of_mem_take ho)
    rw [List.length_take] at hb
    rw [List.take_succ_eq_append_getElem hk, massO_app, massO_one, ← Int.add_assoc]
    exact bi_round ins rs i k bef sum _ N r r.O[k] hr (otpsC_get hk) (by omega) (by omega) (hs.out _ (List.getElem_mem hk)) (by omega)
  · rw [List.take_length]
    exact bi_end ins rs i _ bef sum _ N r hr (by omega)
section
variable (a b c d e : Int) (hb : 0 ≤ b ∧ b < 256) (l : List Ev)
include hb
theorem balances_all (N : Nat) (hN : 194001 ≤ N) : Gam.pureD (callF tab ext N) 7 [skX a b c d e, .sl false 4 (evC l)] = some (boolX true) := by
  obtain ⟨M, rfl⟩ : ∃ M, N = M + 1 := ⟨N - 1, by omega⟩
  have hP := skP_ok a b c d e hb
  have hk := known11 M (by omega)
  have h13 := inputs13 l M (by omega)
  have h12 := sk12 a b c d e M (by omega)
  have hxs := inL_ok (l.take 40) (by rw [List.length_take]; omega)
  have hxl : (inL 0 0 (l.take 40)).length ≤ 40 := by rw [inL_len, List.length_take]; omega
  have h14 := runAll hP hxs hxl M (by omega)
  generalize inL 0 0 (l.take 40) = xs at *
  generalize skP a b c d e = P at *
  have hil := insC_len xs
  have hloop : run (callF tab ext M) 0 M (.loop (loopAt 7 0)) (baH (insC xs) (rssC (rnL (stpI P) [] xs)) 0 0) = some (.exit 0, baE (insC xs) (rssC (rnL (stpI P) [] xs)) (insC xs).length (massL (waitG (stL (stpI P) [] xs)))) := by
    refine loop_for (σ := fun j => baH (insC xs) (rssC (rnL (stpI P) [] xs)) j (massL (waitG (stL (stpI P) [] (xs.take j))))) (k := (insC xs).length) (ba_canon ..) (fun j hj => ?_) ?_ (by simp) (by omega)
    · have hj' : j < xs.length := by omega
      obtain ⟨hI, hh⟩ := st_at hP hxs j hj'
      have hxo := hxs.ok _ (List.getElem_mem hj')
      have hi40 := hxo.i
      have hst := stpI_ok hP hI hxo
      have hsm := stp_small (P := P) hI hxo
      have hms := stp_mass (P := P) hI
      have hfat := hst.fat
      have hr : (rssC (rnL (stpI P) [] xs))[j]? = some (stpI P (stL (stpI P) [] (xs.take j)) xs[j]).cells := by
        have hlen := rnL_len (stpI P) xs []
        have := rnL_get (stpI P) xs [] j hj'
        unfold rssC
        rw [List.getElem?_map, List.getElem?_eq_getElem (by omega), Option.map_some, this]
      rw [List.take_succ_eq_append_getElem hj', stL_snoc]
      have hb0 := massL_one (waitG_mass hI (by omega)) (by rw [waitG_len]; omega)
      generalize stL (stpI P) [] (xs.take j) = gs at *
      have hhs : heldG (stpI P gs xs[j]).gs ≤ 200 := by
        revert hfat
        split <;> omega
      have h24 := mass24 hst.I (by omega) (by omega) M (by omega)
      have hnl := hsm.nl
      have h25 := mass25 (stpI P gs xs[j]).L (by omega) hsm.let' M (by omega)
      have hb1 := massL_one (waitG_mass hst.I (by omega)) (by rw [waitG_len]; omega)
      have hb2 := massL_one hsm.let' hnl
      have hl2 := bi_loop (insC xs) (rssC (rnL (stpI P) [] xs)) j (massL (waitG (stpI P gs xs[j]).gs)) (massL (waitG gs) + inM xs[j]) _ hr hsm (massL (waitG (stpI P gs xs[j]).gs)) hb1 M (by omega)
      have hbO := massO_bnd (stpI P gs xs[j]).O hsm.out
      have hno := hsm.no
      rw [← massG_wait, ← massG_wait] at hms
      exact ba_round (insC xs) _ j (massL (waitG gs)) M xs[j] (stpI P gs xs[j]) _ _ _ _ hj (by omega) (insC_get hj') hr (by omega) hb0 h24 h25 hl2 (by rw [IntKind.wrap_i64]; omega)
    · have e : (insC xs).length = xs.length := hil
      rw [e, List.take_length]
      exact ba_end (insC xs) _ _ _ M (by omega)
  generalize massL (waitG (stL (stpI P) [] xs)) = fm at *
  generalize rssC (rnL (stpI P) [] xs) = R at *
  generalize insC xs = I at *
  have hloop' : run (callF tab ext M) 0 M (.loop (loopAt 7 0)) ⟨[(5, .sl false 23 I), (6, .sl false 7 R), (7, num 0), (8, num 0)], [.var [u8X a, u8X b, u8X c, u8X d, u8X e]]⟩ = some (.exit 0, baE I R I.length fm) := by
    rw [← hloop]
    exact loop_canon (by kernel_rfl) (ba_canon ..)
  exact pure_of [(12, .p (boolX true)), (15, .p (.sl false 23 I)), (17, .p P.node), (19, .p (.sl false 7 R))] [(.exit 0, baE I R I.length fm)] (pf5 hk h13 h12 h14 hloop') (x := boolX true) (bx := []) (by kernel_rfl) rfl
end
end Go.Proofs.YthphniobeigklaaGreatDoor.Ag
