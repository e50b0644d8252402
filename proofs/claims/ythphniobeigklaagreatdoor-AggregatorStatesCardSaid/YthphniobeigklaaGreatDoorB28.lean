/- members: the origins of an output are the entries of what was merged into it. -/
import Derived.Test.YthphniobeigklaaGreatDoorB20
set_option linter.all false
namespace Go.Proofs.YthphniobeigklaaGreatDoor.Ag
open Go Go.Em Go.Proofs.YthphniobeigklaaGreatDoor
set_option maxRecDepth 100000

section
variable (es : List (List X)) (se mm a1 a2 a3 : Int) (sp og : List Int) (a4 : ByteArray) (a5 : List Val) (a6 : List (ByteArray × Val)) (n j : Nat) (N : Nat)
variable (e : Int) (fp : List (List X)) (nm tx : ByteArray) (hj : j < es.length) (hj2 : j < 10000)
include hj hj2
variable (ae : Int) (ap : List (List X)) (hf : es[j]? = some [num e, .sl false 1 fp, num 2, strX nm, .sl false 2 [[num ae, .sl false 1 ap]], strX tx])
include hf
end
end Go.Proofs.YthphniobeigklaaGreatDoor.Ag

/- message.Check at the messages of a run: no fault. -/
namespace Go.Proofs.YthphniobeigklaaGreatDoor.Ag
open Go Go.Em Go.Proofs.YthphniobeigklaaGreatDoor
set_option maxRecDepth 100000

theorem bad1 (N : Nat) : Gam.pureD (callF tab ext (N + 1)) 291 [num 1] = some (boolX false) := pure_of [] [] pf0 (x := boolX false) (bx := []) (by kernel_rfl) rfl
theorem idx1 (N : Nat) : Gam.pureD (callF tab ext (N + 5)) 339 [.sl false 1 [[num 1]], .fn 291 []] = some (num (-1)) := by
  have hloop : run (callF tab ext (N + 4)) 0 (N + 4) (.loop (loopAt 339 0)) (ixH [[num 1]] 1 0) = some (.exit 0, ⟨[(0, .sl false 1 [[num 1]]), (1, .fn 291 []), (7, nat 1), (8, nat 1), (9, boolX false)], []⟩) := by
    refine loop_for (σ := fun j => ixH [[num 1]] 1 j) (k := 1) (ix_canon ..) (fun j hj => ?_) (run_of [] [] pf0 (lo' := []) (by kernel_rfl)) (by simp) (by omega)
    obtain rfl : j = 0 := by omega
    exact rd_of [(16, .p (boolX false))] (pf1 (bad1 (N + 3))) (by kernel_rfl)
  exact pure_of [] [(.exit 0, ⟨[(0, .sl false 1 [[num 1]]), (1, .fn 291 []), (7, nat 1), (8, nat 1), (9, boolX false)], []⟩)] (pf1 hloop) (x := num (-1)) (bx := []) (by kernel_rfl) rfl
theorem cont1 (N : Nat) : Gam.pureD (callF tab ext (N + 6)) 290 [.sl false 1 [[num 1]], .fn 291 []] = some (boolX false) :=
  pure_of [(7, .p (num (-1)))] [] (pf1 (idx1 N)) (x := boolX false) (bx := []) (by kernel_rfl) rfl
theorem stamp1 (i : Nat) (hi : i < 1000) (N : Nat) : Gam.pureD (callF tab ext (N + 7)) 225 [.agg [nat (i + 1), .sl false 1 [[num 1]]]] = some (num 0) := by
  have h1 : decide (Int.ofNat (i + 1) > 1048576) = false := decide_eq_false (by simp only [Int.ofNat_eq_natCast]; omega)
  exact pure_of [(10, .b false), (25, .p (boolX false))] [] (pf2 h1 (cont1 N)) (x := num 0) (bx := []) (by kernel_rfl) rfl
theorem entry1 (i : Nat) (hi : i < 1000) (N : Nat) : Gam.pureD (callF tab ext (N + 1)) 226 [nat (i + 1)] = some (boolX true) := by
  have h1 : decide (Int.ofNat (i + 1) ≥ 1) = true := decide_eq_true (by simp only [Int.ofNat_eq_natCast]; omega)
  have h2 : decide (Int.ofNat (i + 1) ≤ 1048576) = true := decide_eq_true (by simp only [Int.ofNat_eq_natCast]; omega)
  exact pure_of [(4, .b true), (7, .b true)] [] (pf2 h1 h2) (x := boolX true) (bx := []) (by kernel_rfl) rfl
theorem body1 (q : Int) (n : Nat) (hq : 0 ≤ q ∧ q ≤ 3) (hn : n < 4) (N : Nat) (hN : 61000 ≤ N) : Gam.pureD (callF tab ext N) 227 [.agg (bodyV (some q) n).cells] = some (num 0) := by
  obtain ⟨M, rfl⟩ : ∃ M, N = M + 1 := ⟨N - 1, by omega⟩
  have h1 := null_at (bodyV (some q) n) M (by omega)
  have h2 := chk_bd q n ⟨by omega, by omega⟩ (by omega) M (by omega)
  exact pure_of [(5, .p (boolX false)), (11, .p (num 0))] [] (pf2 h1 h2) (x := num 0) (bx := []) (by kernel_rfl) rfl
theorem msg1 (q : Int) (i n : Nat) (hq : 0 ≤ q ∧ q ≤ 3) (hn : n < 4) (hi : i < 1000) (N : Nat) (hN : 61002 ≤ N) : Gam.pureD (callF tab ext N) 151 [.agg (msV q (i, n)).cells] = some (num 0) := by
  obtain ⟨M, rfl⟩ : ∃ M, N = M + 8 := ⟨N - 8, by omega⟩
  have h225 := stamp1 i hi M
  have h45 := heavy45 (100 + (i : Int)) (by omega) (M + 7 - 10)
  have h227 := body1 q n hq hn (M + 7) (by omega)
  have h226 := entry1 i hi (M + 6)
  rw [show M + 7 - 10 + 10 = M + 7 by omega] at h45
  have hloop : run (callF tab ext (M + 7)) 0 (M + 7) (.loop (loopAt 151 0)) ⟨[(1, .ptr 0 0 0), (27, .sl false 1 [[nat (i + 1)]]), (28, nat 1), (29, nat 0)], [.var (msV q (i, n)).cells]⟩ = some (.exit 1, ⟨[(1, .ptr 0 0 0), (27, .sl false 1 [[nat (i + 1)]]), (28, nat 1), (29, nat 1), (30, boolX false)], [.var (msV q (i, n)).cells]⟩) := by
    refine loop_for (σ := fun j => ⟨[(1, .ptr 0 0 0), (27, .sl false 1 [[nat (i + 1)]]), (28, nat 1), (29, nat j)], [.var (msV q (i, n)).cells]⟩) (k := 1) (by kernel_rfl) (fun j hj => ?_) (run_of [] [] pf0 (lo' := []) (by kernel_rfl)) (by simp) (by omega)
    obtain rfl : j = 0 := by omega
    exact rd_of [(36, .p (boolX true))] (pf1 h226) (by kernel_rfl)
  exact pure_of [(8, .p (num 0)), (15, .p (boolX false)), (54, .p (num 0))] [(.exit 1, ⟨[(1, .ptr 0 0 0), (27, .sl false 1 [[nat (i + 1)]]), (28, nat 1), (29, nat 1), (30, boolX false)], [.var (msV q (i, n)).cells]⟩)] (pf4 h225 h45 hloop h227) (x := num 0) (bx := []) (by kernel_rfl) rfl
end Go.Proofs.YthphniobeigklaaGreatDoor.Ag

/- slots.Check of a state in which nothing is wrong. -/
namespace Go.Proofs.YthphniobeigklaaGreatDoor.Sc
open Go Go.Em Go.Proofs.YthphniobeigklaaGreatDoor Go.Proofs.YthphniobeigklaaGreatDoor.Ag
set_option maxRecDepth 100000

/-- slices.ContainsFunc: no message with the same stamp. -/
theorem cont_no (m : Msg) (l : List Msg) (hl : l.length ≤ 1000) (hs : ∀ o, o ∈ l → o.st.p.length ≤ 100 ∧ eqS o.st m.st = false) (N : Nat) (hN : 60018 ≤ N) : Gam.pureD (callF tab ext N) 43 [.sl false 10 (msgsC l), .fn 152 [.dp m.cells]] = some (boolX false) := by
  obtain ⟨M, rfl⟩ : ∃ M, N = M + 3 := ⟨N - 3, by omega⟩
  have hn := msgsC_length l
  have hm : ∃ b1 b2 b3 b4 b5 b6 b7 b8 b9 b0, m = Msg.mk ⟨b1, b2⟩ b3 b4 (Val.mk b5 b6 b7 b8 b9 b0) := by
    obtain ⟨⟨b1, b2⟩, b3, b4, b5, b6, b7, b8, b9, b0⟩ := m
    exact ⟨_, _, _, _, _, _, _, _, _, _, rfl⟩
  obtain ⟨b1, b2, b3, b4, b5, b6, b7, b8, b9, b0, rfl⟩ := hm
  have hloop : run (callF tab ext (M + 1)) 0 (M + 1) (.loop (loopAt 78 0)) (imH (msgsC l) (.fn 152 [.dp (Msg.mk ⟨b1, b2⟩ b3 b4 (Val.mk b5 b6 b7 b8 b9 b0)).cells]) (msgsC l).length 0) = some (.exit 0, ⟨[(0, .sl false 10 (msgsC l)), (1, .fn 152 [.dp (Msg.mk ⟨b1, b2⟩ b3 b4 (Val.mk b5 b6 b7 b8 b9 b0)).cells]), (7, nat (msgsC l).length), (8, nat (msgsC l).length), (9, boolX false)], []⟩) := by
    refine loop_for (σ := fun j => imH (msgsC l) (.fn 152 [.dp (Msg.mk ⟨b1, b2⟩ b3 b4 (Val.mk b5 b6 b7 b8 b9 b0)).cells]) (msgsC l).length j) (k := (msgsC l).length) (by kernel_rfl) (fun j hj => ?_) (run_of [(9, .b false)] [] (pf1 (nlt_nat (Nat.lt_irrefl (msgsC l).length))) (lo' := []) (by kernel_rfl)) (by simp) (by omega)
    have hj' : j < l.length := by omega
    have hg := msgsC_get hj'
    obtain ⟨hsp, hse⟩ := hs _ (List.getElem_mem hj')
    have h21 := eq_stamp M l[j].st ⟨b1, b2⟩ (by omega) (by omega)
    change Gam.pureD (callF tab ext M) 21 [.agg l[j].st.cells, .agg (Stp.mk b1 b2).cells] = some (boolX (eqS l[j].st ⟨b1, b2⟩)) at h21
    change eqS l[j].st ⟨b1, b2⟩ = false at hse
    rw [hse] at h21
    generalize l[j] = o at hg h21
    obtain ⟨⟨a1, a2⟩, a3, a4, a5, a6, a7, a8, a9, a0⟩ := o
    have hb : Gam.pureD (callF tab ext (M + 1)) 152 [.agg (Msg.mk ⟨a1, a2⟩ a3 a4 (Val.mk a5 a6 a7 a8 a9 a0)).cells, .dp (Msg.mk ⟨b1, b2⟩ b3 b4 (Val.mk b5 b6 b7 b8 b9 b0)).cells] = some (boolX false) :=
      pure_of [(8, .p (boolX false))] [] (pf1 h21) (x := boolX false) (bx := []) (by kernel_rfl) rfl
    exact rd_of [(9, .b true), (14, .e (Msg.mk ⟨a1, a2⟩ a3 a4 (Val.mk a5 a6 a7 a8 a9 a0)).cells), (16, .p (boolX false)), (18, .i (Int.ofNat (j + 1)))] (pf4 (lt_nat hj) hg hb (next_nat (j := j) (by omega))) (by kernel_rfl)
  have h78 : Gam.pureD (callF tab ext (M + 2)) 78 [.sl false 10 (msgsC l), .fn 152 [.dp (Msg.mk ⟨b1, b2⟩ b3 b4 (Val.mk b5 b6 b7 b8 b9 b0)).cells]] = some (num (-1)) :=
    pure_of [] [(.exit 0, ⟨[(0, .sl false 10 (msgsC l)), (1, .fn 152 [.dp (Msg.mk ⟨b1, b2⟩ b3 b4 (Val.mk b5 b6 b7 b8 b9 b0)).cells]), (7, nat (msgsC l).length), (8, nat (msgsC l).length), (9, boolX false)], []⟩)] (pf1 hloop) (x := num (-1)) (bx := []) (by kernel_rfl) rfl
  exact pure_of [(7, .p (num (-1)))] [] (pf1 h78) (x := boolX false) (bx := []) (by kernel_rfl) rfl
theorem ckx_false (k0 i0 s0 : Int) (t0 : ByteArray) (l0 f0 : List (List X)) (n0 d0 : Int) (items vals : List (List X)) (n j k v : Nat) (acc : List Msg) (m : Msg) (hm : m.ok) (hacc : ∀ o, o ∈ acc → o.ok) (hk : k = acc.length) (hkl : acc.length ≤ 60000) (hj : j < n) (hn : n ≤ 60000) (hg : items[j]? = some m.cells)
    (c : Int) (hc : ∀ N, 120040 ≤ N → Gam.pureD (callF tab ext N) 151 [.agg m.cells] = some (num c)) (hb : ∀ N, 60018 ≤ N → Gam.pureD (callF tab ext N) 43 [.sl false 10 (msgsC acc), .fn 152 [.dp m.cells]] = some (boolX false)) (h1 : (Int.ofNat k == 256) = false) (h2 : (!(c == 0)) = false) :
    (∃ υ, canon 2 υ = some (ckH true items n (j + 1) (k + 1) v (msgsC acc ++ [m.cells]) (slotC k0 i0 s0 t0 l0 f0 n0 d0 items vals)) ∧ ∀ M, 120040 ≤ M → run (callF tab ext M) 2 M (loopAt 105 0) (ckH false items n j k v (msgsC acc) (slotC k0 i0 s0 t0 l0 f0 n0 d0 items vals)) = some (.norm, υ)) := by
  have hlt := lt_nat hj
  have hal := msgsC_length acc
  obtain ⟨⟨a1, a2⟩, a3, a4, a5, a6, a7, a8, a9, a0⟩ := m
  exact ⟨⟨[(0, .ptr 0 0 0), (3, .ptr 2 0 0), (21, .sl false 10 items), (22, nat n), (23, nat (j + 1))], [.var [.bs 4 0 (k + 1), nat v], .dead, .var (slotC k0 i0 s0 t0 l0 f0 n0 d0 items vals), .dead, .row 10 (msgsC acc ++ [(Msg.mk ⟨a1, a2⟩ a3 a4 (Val.mk a5 a6 a7 a8 a9 a0)).cells])]⟩, by kernel_rfl, fun M hM => run_of [(24, .b true), (25, .e (Msg.mk ⟨a1, a2⟩ a3 a4 (Val.mk a5 a6 a7 a8 a9 a0)).cells), (32, .b false), (34, .p (num c)), (36, .b false), (43, .d [.sl false 10 (msgsC acc), .fn 152 [.dp (Msg.mk ⟨a1, a2⟩ a3 a4 (Val.mk a5 a6 a7 a8 a9 a0)).cells]] (boolX false)), (51, .app), (54, .i (Int.ofNat (j + 1)))] [] (pf8 hlt hg h1 (hc M (by omega)) h2 (⟨(data_row acc k 1 (.fn 152 [.dp (Msg.mk ⟨a1, a2⟩ a3 a4 (Val.mk a5 a6 a7 a8 a9 a0)).cells]) [.var [.bs 1 0 k, nat v], .row 10 (msgsC acc), .var (slotC k0 i0 s0 t0 l0 f0 n0 d0 items vals), .dead] rfl hk (by kernel_rfl)), hb M (by omega)⟩ : _ ∧ _) (app_ok (acc := msgsC acc) k 1 152 (by omega) (by omega) (by omega)) (next_nat (j := j) (by omega))) (lo' := []) (by kernel_rfl)⟩
theorem ckx_true (k0 i0 s0 : Int) (t0 : ByteArray) (l0 f0 : List (List X)) (n0 d0 : Int) (items vals : List (List X)) (n j k v : Nat) (acc : List Msg) (m : Msg) (hm : m.ok) (hacc : ∀ o, o ∈ acc → o.ok) (hk : k = acc.length) (hkl : acc.length ≤ 60000) (hj : j < n) (hn : n ≤ 60000) (hg : items[j]? = some m.cells)
    (c : Int) (hc : ∀ N, 120040 ≤ N → Gam.pureD (callF tab ext N) 151 [.agg m.cells] = some (num c)) (hb : ∀ N, 60018 ≤ N → Gam.pureD (callF tab ext N) 43 [.sl false 10 (msgsC acc), .fn 152 [.dp m.cells]] = some (boolX false)) (h1 : (Int.ofNat k == 256) = false) (h2 : (!(c == 0)) = false) :
    (∃ υ, canon 2 υ = some (ckH true items n (j + 1) (k + 1) v (msgsC acc ++ [m.cells]) (slotC k0 i0 s0 t0 l0 f0 n0 d0 items vals)) ∧ ∀ M, 120040 ≤ M → run (callF tab ext M) 2 M (loopAt 105 0) (ckH true items n j k v (msgsC acc) (slotC k0 i0 s0 t0 l0 f0 n0 d0 items vals)) = some (.norm, υ)) := by
  have hlt := lt_nat hj
  have hal := msgsC_length acc
  obtain ⟨⟨a1, a2⟩, a3, a4, a5, a6, a7, a8, a9, a0⟩ := m
  exact ⟨⟨[(0, .ptr 0 0 0), (3, .ptr 2 0 0), (21, .sl false 10 items), (22, nat n), (23, nat (j + 1))], [.var [.bs 5 0 (k + 1), nat v], .dead, .var (slotC k0 i0 s0 t0 l0 f0 n0 d0 items vals), .dead, .dead, .row 10 (msgsC acc ++ [(Msg.mk ⟨a1, a2⟩ a3 a4 (Val.mk a5 a6 a7 a8 a9 a0)).cells])]⟩, by kernel_rfl, fun M hM => run_of [(24, .b true), (25, .e (Msg.mk ⟨a1, a2⟩ a3 a4 (Val.mk a5 a6 a7 a8 a9 a0)).cells), (32, .b false), (34, .p (num c)), (36, .b false), (43, .d [.sl false 10 (msgsC acc), .fn 152 [.dp (Msg.mk ⟨a1, a2⟩ a3 a4 (Val.mk a5 a6 a7 a8 a9 a0)).cells]] (boolX false)), (51, .app), (54, .i (Int.ofNat (j + 1)))] [] (pf8 hlt hg h1 (hc M (by omega)) h2 (⟨(data_row acc k 3 (.fn 152 [.dp (Msg.mk ⟨a1, a2⟩ a3 a4 (Val.mk a5 a6 a7 a8 a9 a0)).cells]) [.var [.bs 3 0 k, nat v], .dead, .var (slotC k0 i0 s0 t0 l0 f0 n0 d0 items vals), .row 10 (msgsC acc), .dead] rfl hk (by kernel_rfl)), hb M (by omega)⟩ : _ ∧ _) (app_ok (acc := msgsC acc) k 3 152 (by omega) (by omega) (by omega)) (next_nat (j := j) (by omega))) (lo' := []) (by kernel_rfl)⟩
theorem itx (k0 i0 s0 : Int) (t0 : ByteArray) (l0 f0 : List (List X)) (n0 d0 : Int) (items : List Msg) (vals : List (List X)) (k v : Nat) (acc : List Msg) (hit : ∀ m, m ∈ items → m.ok ∧ ∀ N, 120040 ≤ N → Gam.pureD (callF tab ext N) 151 [.agg m.cells] = some (num 0)) (hacc : ∀ o, o ∈ acc → o.ok) (hk : k = acc.length) (hl : acc.length + items.length ≤ 250)
    (hps : ∀ m, m ∈ acc ++ items → m.st.p.length ≤ 100) (hd : (acc ++ items).Pairwise fun a b => eqS a.st b.st = false) :
    ∀ M, 120040 ≤ M → run (callF tab ext M) 2 M (.loop (loopAt 105 0)) (ckH false (msgsC items) (msgsC items).length 0 k v (msgsC acc) (slotC k0 i0 s0 t0 l0 f0 n0 d0 (msgsC items) vals)) = some (.exit 0, ⟨[(0, .ptr 0 0 0), (3, .ptr 2 0 0), (21, .sl false 10 (msgsC items)), (22, nat (msgsC items).length), (23, nat (msgsC items).length), (24, boolX false)], ckB (decide (0 < items.length)) (k + items.length) v (msgsC (acc ++ items)) (slotC k0 i0 s0 t0 l0 f0 n0 d0 (msgsC items) vals)⟩) := by
  have hn := msgsC_length items
  have hap : ∀ j (h : j < items.length), msgsC (acc ++ items.take j) ++ [items[j].cells] = msgsC (acc ++ items.take (j + 1)) := fun j h => by
    rw [List.take_succ_eq_append_getElem h, ← List.append_assoc]
    simp only [msgsC, List.map_append, List.map_cons, List.map_nil]
  have := scanN (nIn := 2) (B := 120040) (b := loopAt 105 0) (H := fun j => ckH (decide (0 < j)) (msgsC items) (msgsC items).length j (k + j) v (msgsC (acc ++ items.take j)) (slotC k0 i0 s0 t0 l0 f0 n0 d0 (msgsC items) vals))
    (τ := ckH false (msgsC items) (msgsC items).length 0 k v (msgsC acc) (slotC k0 i0 s0 t0 l0 f0 n0 d0 (msgsC items) vals)) (n := items.length) (e := .exit 0) (fin := ⟨[(0, .ptr 0 0 0), (3, .ptr 2 0 0), (21, .sl false 10 (msgsC items)), (22, nat (msgsC items).length), (23, nat (msgsC items).length), (24, boolX false)], ckB (decide (0 < items.length)) (k + items.length) v (msgsC (acc ++ items)) (slotC k0 i0 s0 t0 l0 f0 n0 d0 (msgsC items) vals)⟩) (fun _ => False) (by rw [List.take_zero, List.append_nil]; kernel_rfl) (fun j hj => by
      have hg := msgsC_get hj
      obtain ⟨hm, h151⟩ := hit _ (List.getElem_mem hj)
      have hacc' : ∀ o, o ∈ acc ++ items.take j → o.ok := fun o ho => by
        rcases List.mem_append.1 ho with h | h
        · exact hacc o h
        · exact (hit o (List.mem_of_mem_take h)).1
      have hlt : (items.take j).length = j := by rw [List.length_take]; omega
      have hlen : k + j = (acc ++ items.take j).length := by rw [List.length_append]; omega
      have hpw : ((acc ++ items.take j) ++ [items[j]]).Pairwise fun a b => eqS a.st b.st = false := by
        rw [List.append_assoc, ← List.take_succ_eq_append_getElem hj]
        exact hd.sublist (List.Sublist.append (List.Sublist.refl _) (List.take_sublist _ _))
      have h43 := cont_no items[j] (acc ++ items.take j) (by omega) (fun o ho => ⟨hps o (by
        rcases List.mem_append.1 ho with h | h
        · exact List.mem_append_left _ h
        · exact List.mem_append_right _ (List.mem_of_mem_take h)), (List.pairwise_append.1 hpw).2.2 o ho _ (List.mem_singleton.2 rfl)⟩)
      have h256 : (Int.ofNat (k + j) == 256) = false := beq_eq_false_iff_ne.2 (by simp only [Int.ofNat_eq_natCast]; omega)
      have e1 : decide (0 < j + 1) = true := by simp
      refine .inr ?_
      rw [← hap j hj, e1, show k + (j + 1) = k + j + 1 from rfl]
      cases j with
      | zero => exact ckx_false _ _ _ _ _ _ _ _ _ _ _ _ _ _ _ _ hm hacc' hlen (by omega) (by omega) (by omega) hg 0 h151 h43 h256 rfl
      | succ j => exact ckx_true _ _ _ _ _ _ _ _ _ _ _ _ _ _ _ _ hm hacc' hlen (by omega) (by omega) (by omega) hg 0 h151 h43 h256 rfl)
    (fun M _ => by
      have := ck_end k0 i0 s0 t0 l0 f0 n0 d0 (msgsC items) vals items.length (k + items.length) v (msgsC (acc ++ items)) (decide (0 < items.length)) M
      rw [List.take_length, hn]
      exact this) (by simp)
  rcases this with ⟨r, hr, h⟩ | h
  · exact hr.elim
  · exact fun M hM => h M hM (by omega)
theorem cvx (k v : Nat) (acc : List (List X)) {τ : St} (hτ : canon 2 τ = some (cvSt true [] 0 0 k v acc)) : ∀ M, 120040 ≤ M → run (callF tab ext M) 2 M (.loop (loopAt 105 1)) τ = some (.exit 2, cvFin true [] 0 0 k v acc) := by
  have := scanN (nIn := 2) (B := 120040) (b := loopAt 105 1) (H := fun j => cvSt true [] 0 j k v acc) (τ := τ) (n := 0) (e := .exit 2) (fin := cvFin true [] 0 0 k v acc) (fun _ => False) hτ (fun j hj => by omega)
    (fun M _ => run_of [] [] pf0 (lo' := []) (by kernel_rfl)) (by simp)
  rcases this with ⟨r, hr, h⟩ | h
  · exact hr.elim
  · exact fun M hM => h M hM (by omega)
theorem numsx (t : Int) (ht : 0 ≤ t ∧ t ≤ 17592186044416) (N : Nat) (hN : 2 ≤ N) : Gam.pureD (callF tab ext N) 103 [num 0, num t] = some (num 0) := by
  obtain ⟨M, rfl⟩ : ∃ M, N = M + 1 := ⟨N - 1, by omega⟩
  have h3 : decide (t < 0) = false := decide_eq_false (by omega)
  have h4 : decide (17592186044416 < t) = false := decide_eq_false (by omega)
  exact pure_of [(13, .b false), (17, .b false)] [] (pf2 h3 h4) (x := num 0) (bx := []) (by kernel_rfl) rfl
/-- checker.slot. -/
theorem slx (k0 i0 s0 : Int) (t0 : ByteArray) (l0 : List Val) (f0 : List (ByteArray × Val)) (d0 : Int) (hd0 : 0 ≤ d0 ∧ d0 ≤ 17592186044416) (items : List Msg) (k v : Nat) (acc : List Msg) (h0' : 0 < items.length) (hit : ∀ m, m ∈ items → m.ok ∧ ∀ N, 120040 ≤ N → Gam.pureD (callF tab ext N) 151 [.agg m.cells] = some (num 0)) (hacc : ∀ o, o ∈ acc → o.ok) (hk : k = acc.length) (hl : acc.length + items.length ≤ 250)
    (hps : ∀ m, m ∈ acc ++ items → m.st.p.length ≤ 100) (hd : (acc ++ items).Pairwise fun a b => eqS a.st b.st = false) (N : Nat) (hN : 120050 ≤ N) :
    callF tab ext N (.fn 105) [.ptr 0 0 0, .agg (slotC k0 i0 s0 t0 (cellsL l0) (cellsF f0) 0 d0 (msgsC items) (cellsL []))] [.var [.bs 1 0 k, nat v], .row 10 (msgsC acc)] = some (num 0, cvB true (k + items.length) (v + (cellsL []).length) (msgsC (acc ++ items))) := by
  obtain ⟨M, rfl⟩ : ∃ M, N = M + 1 := ⟨N - 1, by omega⟩
  have hA := itx k0 i0 s0 t0 (cellsL l0) (cellsF f0) 0 d0 items (cellsL []) k v acc hit hacc hk hl hps hd M (by omega)
  have e1 : decide (0 < items.length) = true := decide_eq_true h0'
  rw [e1] at hA
  have hB : canon 2 ⟨[(0, .ptr 0 0 0), (56, .sl false 6 (cellsL [])), (57, nat (cellsL []).length), (58, nat 0)], ckB true (k + items.length) v (msgsC (acc ++ items)) (slotC k0 i0 s0 t0 (cellsL l0) (cellsF f0) 0 d0 (msgsC items) (cellsL []))⟩ = some (cvSt true [] 0 0 (k + items.length) v (msgsC (acc ++ items))) := by kernel_rfl
  have hC := cvx (k + items.length) v (msgsC (acc ++ items)) hB M (by omega)
  have hc0 := numsx d0 hd0 M (by omega)
  exact callF_of [(16, .p (num 0))] [(.exit 0, ⟨[(0, .ptr 0 0 0), (3, .ptr 2 0 0), (21, .sl false 10 (msgsC items)), (22, nat (msgsC items).length), (23, nat (msgsC items).length), (24, boolX false)], ckB true (k + items.length) v (msgsC (acc ++ items)) (slotC k0 i0 s0 t0 (cellsL l0) (cellsF f0) 0 d0 (msgsC items) (cellsL []))⟩), (.exit 2, cvFin true [] 0 0 (k + items.length) v (msgsC (acc ++ items)))] (pf3 hc0 hA hC) (by kernel_rfl)
end Go.Proofs.YthphniobeigklaaGreatDoor.Sc

/- slots.Check, aggregator.Check at the groups of a run. -/
namespace Go.Proofs.YthphniobeigklaaGreatDoor.Sc
open Go Go.Em Go.Proofs.YthphniobeigklaaGreatDoor Go.Proofs.YthphniobeigklaaGreatDoor.Ag
set_option maxRecDepth 100000

theorem scx_zero (slots : List (List X)) (n k v : Nat) (acc : List Msg) (a b k0 i0 s0 : Int) (t0 : ByteArray) (l0 : List Val) (f0 : List (ByteArray × Val)) (n0 d0 : Int) (items : List Msg) (vals : List Val) (hlt : decide (Int.ofNat 0 < Int.ofNat n) = true) (hn : n ≤ 60000) (hj : 0 < n) (hg : slots[0]? = some (slotC k0 i0 s0 t0 (cellsL l0) (cellsF f0) n0 d0 (msgsC items) (cellsL vals)))
    (ce : Int) (hce : ∀ N, 120040 ≤ N → Gam.pureD (callF tab ext N) 104 [.agg (Val.mk k0 i0 s0 t0 l0 f0).cells] = some (num ce)) (h1 : (!(ce == 0)) = false)
    (hs : ∀ N, 120050 ≤ N → callF tab ext N (.fn 105) [.ptr 0 0 0, .agg (slotC k0 i0 s0 t0 (cellsL l0) (cellsF f0) n0 d0 (msgsC items) (cellsL vals))] [.var [.bs 1 0 k, nat v], .row 10 (msgsC acc)] = some (num 0, cvB true (k + items.length) (v + (cellsL vals).length) (msgsC (acc ++ items)))) :
    ∃ υ, canon 0 υ = some (scSt slots slots n (0 + 1) (k + items.length) (v + (cellsL vals).length) (msgsC (acc ++ items)) a b) ∧ ∀ M, 190050 ≤ M → run (callF tab ext M) 0 M (loopAt 65 0) (scSt slots slots n 0 k v (msgsC acc) a b) = some (.norm, υ) :=
  ⟨⟨[(1, .ptr 0 0 0), (4, .ptr 1 0 0), (22, .sl false 10 slots), (23, nat n), (24, nat (0 + 1))], [.var [num a, num b, .sl false 10 slots], .var [.bs 4 0 (k + items.length), nat (v + (cellsL vals).length)], .dead, .var (slotC k0 i0 s0 t0 (cellsL l0) (cellsF f0) n0 d0 (msgsC items) (cellsL vals)), .row 10 (msgsC (acc ++ items))]⟩, by kernel_rfl, fun M hM => run_of [(25, .b true), (27, .e (slotC k0 i0 s0 t0 (cellsL l0) (cellsF f0) n0 d0 (msgsC items) (cellsL vals))), (31, .p (num ce)), (33, .b false), (42, .b false), (58, .r (num 0) (cvB true (k + items.length) (v + (cellsL vals).length) (msgsC (acc ++ items)))), (62, .i (Int.ofNat (0 + 1)))] [] (pf7 hlt hg (hce M (by omega)) h1 zero_nat (hs M (by omega)) (next_nat (j := 0) (by omega))) (lo' := []) (by kernel_rfl)⟩
theorem scx_succ (slots : List (List X)) (n j k v : Nat) (acc : List Msg) (a b k0 i0 s0 : Int) (t0 : ByteArray) (l0 : List Val) (f0 : List (ByteArray × Val)) (n0 d0 : Int) (items : List Msg) (vals : List Val) (hlt : decide (Int.ofNat (j + 1) < Int.ofNat n) = true) (hn : n ≤ 60000) (hj : j + 1 < n) (hg : slots[j + 1]? = some (slotC k0 i0 s0 t0 (cellsL l0) (cellsF f0) n0 d0 (msgsC items) (cellsL vals)))
    (ce : Int) (hce : ∀ N, 120040 ≤ N → Gam.pureD (callF tab ext N) 104 [.agg (Val.mk k0 i0 s0 t0 l0 f0).cells] = some (num ce)) (h1 : (!(ce == 0)) = false)
    (hs : ∀ N, 120050 ≤ N → callF tab ext N (.fn 105) [.ptr 0 0 0, .agg (slotC k0 i0 s0 t0 (cellsL l0) (cellsF f0) n0 d0 (msgsC items) (cellsL vals))] [.var [.bs 1 0 k, nat v], .row 10 (msgsC acc)] = some (num 0, cvB true (k + items.length) (v + (cellsL vals).length) (msgsC (acc ++ items))))
    (p0 p1 p2 : Int) (p3 : ByteArray) (p4 : List Val) (p5 : List (ByteArray × Val)) (p6 p7 : Int) (p8 : List Msg) (p9 : List Val) (hp : slots[j]? = some (slotC p0 p1 p2 p3 (cellsL p4) (cellsF p5) p6 p7 (msgsC p8) (cellsL p9))) (cc : Int) (hcc : ∀ M, 190050 ≤ M → Gam.pureD (callF tab ext M) 37 [.agg (Val.mk k0 i0 s0 t0 l0 f0).cells, .agg (Val.mk p0 p1 p2 p3 p4 p5).cells] = some (num cc)) (h4 : (cc == 0) = false) (h5 : (cc == -1) = false) :
    ∃ υ, canon 0 υ = some (scSt slots slots n ((j + 1) + 1) (k + items.length) (v + (cellsL vals).length) (msgsC (acc ++ items)) a b) ∧ ∀ M, 190050 ≤ M → run (callF tab ext M) 0 M (loopAt 65 0) (scSt slots slots n (j + 1) k v (msgsC acc) a b) = some (.norm, υ) :=
  ⟨⟨[(1, .ptr 0 0 0), (4, .ptr 1 0 0), (22, .sl false 10 slots), (23, nat n), (24, nat ((j + 1) + 1))], [.var [num a, num b, .sl false 10 slots], .var [.bs 4 0 (k + items.length), nat (v + (cellsL vals).length)], .dead, .var (slotC k0 i0 s0 t0 (cellsL l0) (cellsF f0) n0 d0 (msgsC items) (cellsL vals)), .row 10 (msgsC (acc ++ items))]⟩, by kernel_rfl, fun M hM => run_of [(25, .b true), (27, .e (slotC k0 i0 s0 t0 (cellsL l0) (cellsF f0) n0 d0 (msgsC items) (cellsL vals))), (31, .p (num ce)), (33, .b false), (42, .b true), (48, .i (Int.ofNat j)), (49, .e (slotC p0 p1 p2 p3 (cellsL p4) (cellsF p5) p6 p7 (msgsC p8) (cellsL p9))), (52, .p (num cc)), (54, .b false), (56, .b false), (58, .r (num 0) (cvB true (k + items.length) (v + (cellsL vals).length) (msgsC (acc ++ items)))), (62, .i (Int.ofNat ((j + 1) + 1)))] [] (pf12 hlt hg (hce M (by omega)) h1 (pos_nat (j := j)) (pred_nat (j := j) (by omega)) hp (hcc M hM) h4 h5 (hs M (by omega)) (next_nat (j := (j + 1)) (by omega))) (lo' := []) (by kernel_rfl)⟩
def cW' (p : Nat) (l : List Msg) : Nat := l.countP fun m => eqS m.st (inS p)
/-- No two messages of the groups have the same place. -/
theorem wait_pw {gs : List Ga} (h : ∀ p, cG p gs ≤ 1) : (waitG gs).Pairwise fun a b => eqS a.st b.st = false := by
  have key : ∀ l : List Msg, (∀ m, m ∈ l → ∃ p, m.st = inS p) → (∀ p, cW' p l ≤ 1) → l.Pairwise fun a b => eqS a.st b.st = false := by
    intro l
    induction l with
    | nil => intro _ _; exact .nil
    | cons m r ih =>
      intro hm hc
      refine List.pairwise_cons.2 ⟨fun b hb => ?_, ih (fun x hx => hm x (List.mem_cons_of_mem _ hx)) (fun p => by
        have := hc p
        unfold cW' at this ⊢
        rw [List.countP_cons] at this
        omega)⟩
      obtain ⟨p, hp⟩ := hm m List.mem_cons_self
      cases he : eqS m.st b.st with
      | false => rfl
      | true =>
        have hbp : b.st = inS p := by rw [← (eqS_iff _ _).1 he, hp]
        have h1 := hc p
        unfold cW' at h1
        rw [List.countP_cons] at h1
        have h2 : 0 < r.countP (fun m => eqS m.st (inS p)) := List.countP_pos_iff.2 ⟨b, hb, by rw [hbp]; exact (eqS_iff _ _).2 rfl⟩
        have h3 : eqS m.st (inS p) = true := by rw [hp]; exact (eqS_iff _ _).2 rfl
        rw [h3] at h1
        simp only [if_true] at h1
        omega
  refine key (waitG gs) (fun m hm => ?_) (fun p => by unfold cW'; rw [wait_count]; exact h p)
  obtain ⟨x, _, hm⟩ := List.mem_flatMap.1 hm
  obtain ⟨q, _, rfl⟩ := List.mem_map.1 hm
  exact ⟨q.1, rfl⟩
theorem wait_short {gs : List Ga} : ∀ m, m ∈ waitG gs → m.st.p.length ≤ 100 := fun m hm => by
  obtain ⟨x, _, hm⟩ := List.mem_flatMap.1 hm
  obtain ⟨q, _, rfl⟩ := List.mem_map.1 hm
  show [(1 : Int)].length ≤ 100
  decide
theorem waitG_app (a b : List Ga) : waitG (a ++ b) = waitG a ++ waitG b := by simp [waitG]
theorem waitG_one (x : Ga) : waitG [x] = x.M.map (msV x.g) := by simp [waitG]
/-- slots.Check says nothing. -/
theorem check65 {gs : List Ga} {i : Nat} (h : GsI gs i) (hi : i ≤ 40) (hc : ∀ p, cG p gs ≤ 1) (hh : heldG gs ≤ 200) (N : Nat) (hN : 190060 ≤ N) : Gam.pureD (callF tab ext N) 65 [.agg (gst gs).cells] = some (num 0) := by
  obtain ⟨M, rfl⟩ : ∃ M, N = M + 1 := ⟨N - 1, by omega⟩
  have h4 := h.few4
  have hn : (sltsC (gst gs).slots).length = gs.length := by rw [sltsC_length]; simp [gst]
  have hget : ∀ j (hj : j < gs.length), (sltsC (gst gs).slots)[j]? = some (slotC 2 gs[j].g 0 ⟨#[]⟩ (cellsL []) (cellsF []) 0 gs[j].t (msgsC (gs[j].M.map (msV gs[j].g))) (cellsL [])) := fun j hj => by
    unfold sltsC gst
    rw [List.getElem?_map, List.getElem?_map, List.getElem?_eq_getElem hj]
    rfl
  have hpw := wait_pw hc
  have hloop := scan (B := 190050) (b := loopAt 65 0) (H := fun j => scSt (sltsC (gst gs).slots) (sltsC (gst gs).slots) (sltsC (gst gs).slots).length j (waitG (gs.take j)).length 0 (msgsC (waitG (gs.take j))) 0 0)
    (τ := ⟨[(1, .ptr 0 0 0), (4, .ptr 1 0 0), (22, .sl false 10 (sltsC (gst gs).slots)), (23, nat (sltsC (gst gs).slots).length), (24, nat 0)], [.var [num 0, num 0, .sl false 10 (sltsC (gst gs).slots)], .var [.bs 2 0 0, nat 0], .row 10 []]⟩) (n := gs.length) (e := .exit 0)
    (fin := ⟨(scSt (sltsC (gst gs).slots) (sltsC (gst gs).slots) (sltsC (gst gs).slots).length (sltsC (gst gs).slots).length (waitG gs).length 0 (msgsC (waitG gs)) 0 0).tm ++ [(25, boolX false)], (scSt (sltsC (gst gs).slots) (sltsC (gst gs).slots) (sltsC (gst gs).slots).length (sltsC (gst gs).slots).length (waitG gs).length 0 (msgsC (waitG gs)) 0 0).bx⟩)
    (fun _ => False) (by kernel_rfl) (fun j hj => by
      have hg := hget j hj
      have hx := List.getElem_mem hj
      have hgo := h.grpOk hi hx
      have hkey := h.key _ hx
      have htim := h.tim _ hx
      have hne : 0 < (gs[j].M.map (msV gs[j].g)).length := by rw [List.length_map]; exact hgo.pos
      have htake : waitG (gs.take (j + 1)) = waitG (gs.take j) ++ gs[j].M.map (msV gs[j].g) := by rw [List.take_succ_eq_append_getElem hj, waitG_app, waitG_one]
      have hall : waitG gs = waitG (gs.take (j + 1)) ++ waitG (gs.drop (j + 1)) := by rw [← waitG_app, List.take_append_drop]
      have hlen : (waitG (gs.take (j + 1))).length ≤ 200 := by
        have h1 : (waitG gs).length ≤ 200 := by rw [waitG_len]; exact hh
        rw [hall, List.length_append] at h1
        omega
      rw [htake, List.length_append] at hlen
      have hpw2 : (waitG (gs.take j) ++ gs[j].M.map (msV gs[j].g)).Pairwise fun a b => eqS a.st b.st = false := by
        rw [← htake]
        exact (List.pairwise_append.1 (hall ▸ hpw)).1
      have hps : ∀ m, m ∈ waitG (gs.take j) ++ gs[j].M.map (msV gs[j].g) → m.st.p.length ≤ 100 := fun m hm => by
        rw [← htake] at hm
        exact wait_short m hm
      have hit : ∀ m, m ∈ gs[j].M.map (msV gs[j].g) → m.ok ∧ ∀ N, 120040 ≤ N → Gam.pureD (callF tab ext N) 151 [.agg m.cells] = some (num 0) := fun m hm => by
        obtain ⟨q, hq, rfl⟩ := List.mem_map.1 hm
        have hq2 := h.place _ hx q hq
        exact ⟨msV_ok .., fun N hN => msg1 gs[j].g q.1 q.2 hkey hq2.2 (by omega) N (by omega)⟩
      have hacc : ∀ o, o ∈ waitG (gs.take j) → o.ok := fun o ho => by
        obtain ⟨x, _, hm⟩ := List.mem_flatMap.1 ho
        obtain ⟨q, _, rfl⟩ := List.mem_map.1 hm
        exact msV_ok ..
      have hs := fun N hN => slx 2 gs[j].g 0 ⟨#[]⟩ [] [] gs[j].t ⟨htim.1, by omega⟩ (gs[j].M.map (msV gs[j].g)) (waitG (gs.take j)).length 0 (waitG (gs.take j)) hne hit hacc rfl (by omega) hps hpw2 N hN
      have hce : ∀ N, 120040 ≤ N → Gam.pureD (callF tab ext N) 104 [.agg (Val.mk 2 gs[j].g 0 ⟨#[]⟩ [] []).cells] = some (num 0) := fun N hN => chk_kv gs[j].g ⟨by omega, by omega⟩ N (by omega)
      have hlt := lt_nat (j := j) (k := (sltsC (gst gs).slots).length) (by omega)
      refine .inr ?_
      rw [htake, List.length_append]
      cases j with
      | zero => exact scx_zero _ _ _ 0 _ 0 0 2 _ 0 _ [] [] 0 _ _ [] hlt (by omega) (by omega) hg 0 hce rfl hs
      | succ j =>
        have hpj := hget j (by omega)
        have hsrt := srtG_get h.srt (show j < j + 1 by omega) hj
        have hcc : ∀ M, 190050 ≤ M → Gam.pureD (callF tab ext M) 37 [.agg (Val.mk 2 gs[j + 1].g 0 ⟨#[]⟩ [] []).cells, .agg (Val.mk 2 (gs[j]'(by omega)).g 0 ⟨#[]⟩ [] []).cells] = some (num 1) := fun M hM => by
          have e := cmp_val (kv gs[j + 1].g).size M (kv gs[j + 1].g) (kv (gs[j]'(by omega)).g) (Nat.le_refl _) (by simp [kv, Val.size, sizeL, sizeF]; omega) (by simp [kv, Val.size, sizeL, sizeF])
          rw [cmp_kv] at e
          have e2 : ordI gs[j + 1].g (gs[j]'(by omega)).g = 1 := by
            unfold ordI
            rw [if_neg (by omega), if_pos (by omega)]
          rw [e2] at e
          exact e
        exact scx_succ _ _ j _ 0 _ 0 0 2 _ 0 _ [] [] 0 _ _ [] hlt (by omega) (by omega) hg 0 hce rfl hs 2 _ 0 _ [] [] 0 _ _ [] hpj 1 hcc rfl rfl)
    (fun M _ => by
      rw [List.take_length, ← hn]
      exact run_of [(25, .b false)] [] (pf1 (nlt_nat (Nat.lt_irrefl (sltsC (gst gs).slots).length))) (lo' := []) (by kernel_rfl)) (by simp)
  have hl2 := (hloop.resolve_left fun ⟨_, hr, _⟩ => hr.elim) M (by omega) (by omega)
  have hc0 := numsx 0 ⟨by omega, by omega⟩ M (by omega)
  have h1 : decide (1024 < Int.ofNat (sltsC (gst gs).slots).length) = false := decide_eq_false (by rw [hn]; simp only [Int.ofNat_eq_natCast]; omega)
  generalize waitG gs = ws at hl2
  generalize hsl : sltsC (gst gs).slots = ss at hl2 h1
  change Gam.pureD (callF tab ext (M + 1)) 65 [.agg [num 0, num 0, .sl false 10 (sltsC (gst gs).slots)]] = _
  rw [hsl]
  exact pure_of [(13, .p (num 0)), (20, .b false)] [(.exit 0, ⟨(scSt ss ss ss.length ss.length ws.length 0 (msgsC ws) 0 0).tm ++ [(25, boolX false)], (scSt ss ss ss.length ss.length ws.length 0 (msgsC ws) 0 0).bx⟩)] (pf3 hc0 h1 hl2) (x := num 0) (bx := []) (by kernel_rfl) rfl
end Go.Proofs.YthphniobeigklaaGreatDoor.Sc

/- AggregatorStates: aggregator.Check, Due, and the law. -/
namespace Go.Proofs.YthphniobeigklaaGreatDoor.Ag
open Go Go.Em Go.Proofs.YthphniobeigklaaGreatDoor Go.Proofs.YthphniobeigklaaGreatDoor.Sc
set_option maxRecDepth 100000

theorem sl_get {gs : List Ga} {j : Nat} (hj : j < gs.length) : (sltsC (gst gs).slots)[j]? = some (slX gs[j].g gs[j].t (msgsC (gs[j].M.map (msV gs[j].g)))) := by
  unfold sltsC gst
  rw [List.getElem?_map, List.getElem?_map, List.getElem?_eq_getElem hj]
  rfl
theorem sl_len (gs : List Ga) : (sltsC (gst gs).slots).length = gs.length := by rw [sltsC_length]; simp [gst]
theorem scal66 (q : Int) (N : Nat) : Gam.pureD (callF tab ext (N + 1)) 66 [.agg (kv q).cells] = some (boolX true) := pure_of [] [] pf0 (x := boolX true) (bx := []) (by kernel_rfl) rfl
def c34 (ss : List (List X)) (n j : Nat) : St := ⟨[(25, .sl false 10 ss), (26, nat n), (27, nat j)], []⟩
theorem check34 (nu ti li most : Int) (ex : List (List X)) {gs : List Ga} {i : Nat} (h : GsI gs i) (hi : i ≤ 40) (hc : ∀ p, cG p gs ≤ 1) (hh : heldG gs ≤ 200) (N : Nat) (hN : 190070 ≤ N) : Gam.pureD (callF tab ext N) 34 [.agg (nodX nu ti li ex (tyX most) ruX), .agg (gst gs).cells] = some (num 0) := by
  obtain ⟨M, rfl⟩ : ∃ M, N = M + 2 := ⟨N - 2, by omega⟩
  have h65 := check65 h hi hc hh (M + 1) (by omega)
  have hn := sl_len gs
  have h4 := h.few4
  have hloop : run (callF tab ext (M + 1)) 0 (M + 1) (.loop (loopAt 34 0)) (c34 (sltsC (gst gs).slots) (sltsC (gst gs).slots).length 0) = some (.exit 0, ⟨[(25, .sl false 10 (sltsC (gst gs).slots)), (26, nat (sltsC (gst gs).slots).length), (27, nat (sltsC (gst gs).slots).length), (28, boolX false)], []⟩) := by
    refine loop_for (σ := fun j => c34 (sltsC (gst gs).slots) (sltsC (gst gs).slots).length j) (k := (sltsC (gst gs).slots).length) (by kernel_rfl) (fun j hj => ?_) (run_of [(28, .b false)] [] (pf1 (nlt_nat (Nat.lt_irrefl (sltsC (gst gs).slots).length))) (lo' := []) (by kernel_rfl)) (by simp) (by omega)
    have hj' : j < gs.length := by omega
    have hg := sl_get hj'
    have hne := h.ne _ (List.getElem_mem hj')
    have h66 := scal66 gs[j].g M
    have h50 : (Int.ofNat (msgsC (gs[j].M.map (msV gs[j].g))).length == 0) = false := beq_eq_false_iff_ne.2 (by
      have := List.length_pos_iff.2 hne
      rw [msgsC_length, List.length_map]
      simp only [Int.ofNat_eq_natCast]
      omega)
    generalize gs[j].g = q at hg h66 h50
    generalize gs[j].t = t at hg
    generalize msgsC (gs[j].M.map (msV q)) = ms at hg h50
    exact rd_of [(28, .b true), (29, .e (slX q t ms)), (34, .p (boolX true)), (50, .b false), (51, .i (Int.ofNat (j + 1)))] (pf5 (lt_nat hj) hg h66 h50 (next_nat (j := j) (by omega))) (by kernel_rfl)
  change Gam.pureD (callF tab ext (M + 1)) 65 [.agg [num 0, num 0, .sl false 10 (sltsC (gst gs).slots)]] = _ at h65
  change Gam.pureD (callF tab ext (M + 2)) 34 [_, .agg [num 0, num 0, .sl false 10 (sltsC (gst gs).slots)]] = _
  generalize sltsC (gst gs).slots = ss at *
  exact pure_of [(12, .p (num 0))] [(.exit 0, ⟨[(25, .sl false 10 ss), (26, nat ss.length), (27, nat ss.length), (28, boolX false)], []⟩)] (pf2 h65 hloop) (x := num 0) (bx := []) (by kernel_rfl) rfl
/-! ### Due -/
def dueS (o : Int × Bool) (x : Ga) : Int × Bool := if 0 < x.t then (if o.2 then (if x.t < o.1 then x.t else o.1) else x.t, true) else o
def dueG (gs : List Ga) : Int × Bool := gs.foldl dueS (0, false)
theorem due_in : ∀ (gs : List Ga) (o : Int × Bool), (gs.foldl dueS o).2 = true → (o.2 = true ∧ (gs.foldl dueS o).1 = o.1) ∨ ∃ x, x ∈ gs ∧ 0 < x.t ∧ (gs.foldl dueS o).1 = x.t
  | [], o, h => .inl ⟨h, rfl⟩
  | x :: r, o, h => by
    rw [List.foldl_cons] at h ⊢
    rcases due_in r (dueS o x) h with ⟨h1, h2⟩ | ⟨y, hy, h3, h4⟩
    · rw [h2]
      unfold dueS at h1 ⊢
      split
      · rename_i ht
        split
        · rename_i ho
          split
          · exact .inr ⟨x, List.mem_cons_self, ht, rfl⟩
          · exact .inl ⟨ho, rfl⟩
        · exact .inr ⟨x, List.mem_cons_self, ht, rfl⟩
      · rename_i ht
        rw [if_neg ht] at h1
        exact .inl ⟨h1, rfl⟩
    · exact .inr ⟨y, List.mem_cons_of_mem _ hy, h3, h4⟩
def c33 (ss : List (List X)) (n j : Nat) (o : Int × Bool) : St := ⟨[(2, num o.1), (3, boolX o.2), (7, .sl false 10 ss), (8, nat n), (9, nat j)], []⟩
def e33 (ss : List (List X)) (n j : Nat) (o : Int × Bool) : St := ⟨[(2, num o.1), (3, boolX o.2), (7, .sl false 10 ss), (8, nat n), (9, nat j), (10, boolX false)], []⟩
theorem r33 (ss ms : List (List X)) (q t u : Int) (n j : Nat) (b : Bool) (hj : j < n) (hn : n < 1000) (hg : ss[j]? = some (slX q t ms)) (N : Nat) :
    ∃ υ, run (callF tab ext N) 0 N (loopAt 33 0) (c33 ss n j (u, b)) = some (.norm, υ) ∧ canon 0 υ = some (c33 ss n (j + 1) (dueS (u, b) ⟨q, t, []⟩)) := by
  have h1 := lt_nat hj
  have hnx := next_nat (j := j) (by omega)
  unfold dueS
  dsimp only
  by_cases ht : 0 < t
  · have h2 : decide (t > 0) = true := decide_eq_true ht
    rw [if_pos ht]
    cases b with
    | false => exact rd_of [(10, .b true), (11, .e (slX q t ms)), (15, .b true), (28, .i (Int.ofNat (j + 1)))] (pf4 h1 hg h2 hnx) (by kernel_rfl)
    | true =>
      rw [if_pos rfl]
      by_cases hu : t < u
      · have h3 : decide (t < u) = true := decide_eq_true hu
        rw [if_pos hu]
        exact rd_of [(10, .b true), (11, .e (slX q t ms)), (15, .b true), (23, .b true), (28, .i (Int.ofNat (j + 1)))] (pf5 h1 hg h2 h3 hnx) (by kernel_rfl)
      · have h3 : decide (t < u) = false := decide_eq_false hu
        rw [if_neg hu]
        exact rd_of [(10, .b true), (11, .e (slX q t ms)), (15, .b true), (23, .b false), (28, .i (Int.ofNat (j + 1)))] (pf5 h1 hg h2 h3 hnx) (by kernel_rfl)
  · have h2 : decide (t > 0) = false := decide_eq_false ht
    rw [if_neg ht]
    cases b with
    | false => exact rd_of [(10, .b true), (11, .e (slX q t ms)), (15, .b false), (28, .i (Int.ofNat (j + 1)))] (pf4 h1 hg h2 hnx) (by kernel_rfl)
    | true => exact rd_of [(10, .b true), (11, .e (slX q t ms)), (15, .b false), (28, .i (Int.ofNat (j + 1)))] (pf4 h1 hg h2 hnx) (by kernel_rfl)
theorem due33 (gs : List Ga) (hl : gs.length ≤ 100) (N : Nat) (hN : 200 ≤ N) : Gam.pureD (callF tab ext N) 33 [.agg (gst gs).cells] = some (.tup [num (dueG gs).1, boolX (dueG gs).2]) := by
  obtain ⟨M, rfl⟩ : ∃ M, N = M + 1 := ⟨N - 1, by omega⟩
  have hn := sl_len gs
  have hloop : run (callF tab ext M) 0 M (.loop (loopAt 33 0)) (c33 (sltsC (gst gs).slots) (sltsC (gst gs).slots).length 0 (0, false)) = some (.exit 0, e33 (sltsC (gst gs).slots) (sltsC (gst gs).slots).length gs.length (dueG gs)) := by
    refine loop_for (σ := fun j => c33 (sltsC (gst gs).slots) (sltsC (gst gs).slots).length j (dueG (gs.take j))) (k := gs.length) (by kernel_rfl) (fun j hj => ?_) ?_ (by simp) (by omega)
    · have hg := sl_get hj
      have e : dueG (gs.take (j + 1)) = dueS (dueG (gs.take j)) gs[j] := by
        unfold dueG
        rw [List.take_succ_eq_append_getElem hj, List.foldl_append]
        rfl
      rw [e]
      have e2 : dueS (dueG (gs.take j)) gs[j] = dueS (dueG (gs.take j)) ⟨gs[j].g, gs[j].t, []⟩ := rfl
      rw [e2]
      generalize dueG (gs.take j) = o
      obtain ⟨u, b⟩ := o
      exact r33 _ _ _ _ u _ j b (by omega) (by omega) hg M
    · rw [List.take_length]
      have hnl := nlt_nat (j := gs.length) (k := (sltsC (gst gs).slots).length) (by omega)
      generalize dueG gs = o
      obtain ⟨u, b⟩ := o
      cases b with
      | false => exact run_of [(10, .b false)] [] (pf1 hnl) (lo' := []) (by kernel_rfl)
      | true => exact run_of [(10, .b false)] [] (pf1 hnl) (lo' := []) (by kernel_rfl)
  change Gam.pureD (callF tab ext (M + 1)) 33 [.agg [num 0, num 0, .sl false 10 (sltsC (gst gs).slots)]] = _
  generalize sltsC (gst gs).slots = ss at *
  generalize dueG gs = o at *
  have hloop : run (callF tab ext M) 0 M (.loop (loopAt 33 0)) ⟨[(2, num 0), (3, boolX false), (7, .sl false 10 ss), (8, nat ss.length), (9, num 0)], [.var [num 0, num 0, .sl false 10 ss]]⟩ = some (.exit 0, e33 ss ss.length gs.length o) := by
    rw [← hloop]
    exact loop_canon (by kernel_rfl) (show canon 0 (c33 ss ss.length 0 (0, false)) = some (c33 ss ss.length 0 (0, false)) by kernel_rfl)
  obtain ⟨u, b⟩ := o
  cases b with
  | false => exact pure_of [] [(.exit 0, e33 ss ss.length gs.length (u, false))] (pf1 hloop) (x := .tup [num u, boolX false]) (bx := []) (by kernel_rfl) rfl
  | true => exact pure_of [] [(.exit 0, e33 ss ss.length gs.length (u, true))] (pf1 hloop) (x := .tup [num u, boolX true]) (bx := []) (by kernel_rfl) rfl
theorem due32 (nu ti li most : Int) (ex : List (List X)) (gs : List Ga) (hl : gs.length ≤ 100) (N : Nat) (hN : 201 ≤ N) : Gam.pureD (callF tab ext N) 32 [.agg (nodX nu ti li ex (tyX most) ruX), .agg (gst gs).cells] = some (.tup [num (dueG gs).1, boolX (dueG gs).2]) := by
  obtain ⟨M, rfl⟩ : ∃ M, N = M + 1 := ⟨N - 1, by omega⟩
  have h33 := due33 gs hl M (by omega)
  change Gam.pureD (callF tab ext M) 33 [.agg [num 0, num 0, .sl false 10 (sltsC (gst gs).slots)]] = _ at h33
  change Gam.pureD (callF tab ext (M + 1)) 32 [_, .agg [num 0, num 0, .sl false 10 (sltsC (gst gs).slots)]] = _
  generalize sltsC (gst gs).slots = ss at *
  generalize dueG gs = o at *
  obtain ⟨u, b⟩ := o
  cases b with
  | false => exact pure_of [(7, .p (.tup [num u, boolX false]))] [] (pf1 h33) (x := .tup [num u, boolX false]) (bx := []) (by kernel_rfl) rfl
  | true => exact pure_of [(7, .p (.tup [num u, boolX true]))] [] (pf1 h33) (x := .tup [num u, boolX true]) (bx := []) (by kernel_rfl) rfl
/-! ### The law -/
section
variable (nu ti li most : Int) (ex ins rs : List (List X)) (i : Nat) (N : Nat)
def saH : St := ⟨[(5, .ptr 0 0 0), (6, .sl false 23 ins), (7, .sl false 7 rs), (8, nat i)], [.var (nodX nu ti li ex (tyX most) ruX)]⟩
def saE : St := ⟨[(5, .ptr 0 0 0), (6, .sl false 23 ins), (7, .sl false 7 rs), (8, nat i), (26, boolX false)], [.var (nodX nu ti li ex (tyX most) ruX)]⟩
theorem sa_canon : canon 0 (saH nu ti li most ex ins rs i) = some (saH nu ti li most ex ins rs i) := by kernel_rfl
theorem sa_end (h : ¬ i < ins.length) : run (callF tab ext N) 0 N (loopAt 10 0) (saH nu ti li most ex ins rs i) = some (.exit 0, saE nu ti li most ex ins rs i) :=
  run_of [(26, .b false)] [] (pf1 (nlt_nat h)) (lo' := []) (by kernel_rfl)
variable (ss os F L : List (List X)) (t : Int) (hi : i < ins.length) (hi2 : i < 1000) (hr : rs[i]? = some [num 0, num 0, .sl false 10 ss, .sl false 11 os, .sl false 11 [], .sl false 6 F, .sl false 10 L])
variable (h34 : Gam.pureD (callF tab ext N) 34 [.agg (nodX nu ti li ex (tyX most) ruX), .agg [num 0, num 0, .sl false 10 ss]] = some (num 0))
include hi hi2 hr h34
theorem sa_f (kd now : Int) (row : List X) (he : ins[i]? = some (num kd :: num now :: row))
    (h32 : Gam.pureD (callF tab ext N) 32 [.agg (nodX nu ti li ex (tyX most) ruX), .agg [num 0, num 0, .sl false 10 ss]] = some (.tup [num t, boolX false])) (h33 : Gam.pureD (callF tab ext N) 33 [.agg [num 0, num 0, .sl false 10 ss]] = some (.tup [num t, boolX false])) (hk : kd = 1 ∨ kd = 2) :
    ∃ υ, run (callF tab ext N) 0 N (loopAt 10 0) (saH nu ti li most ex ins rs i) = some (.norm, υ) ∧ canon 0 υ = some (saH nu ti li most ex ins rs (i + 1)) := by
  have h52 : (t != t) = false := by simp
  rcases hk with rfl | rfl
  · exact rd_of [(26, .b true), (31, .e [num 0, num 0, .sl false 10 ss, .sl false 11 os, .sl false 11 [], .sl false 6 F, .sl false 10 L]), (37, .p (.tup [num t, boolX false])), (42, .p (.tup [num t, boolX false])), (47, .p (num 0)), (52, .b false), (62, .e (num 1 :: num now :: row)), (28, .i (Int.ofNat (i + 1)))] (pf8 (lt_nat hi) hr h32 h33 h34 h52 he (next_nat (j := i) (by omega))) (by kernel_rfl)
  · exact rd_of [(26, .b true), (31, .e [num 0, num 0, .sl false 10 ss, .sl false 11 os, .sl false 11 [], .sl false 6 F, .sl false 10 L]), (37, .p (.tup [num t, boolX false])), (42, .p (.tup [num t, boolX false])), (47, .p (num 0)), (52, .b false), (62, .e (num 2 :: num now :: row)), (28, .i (Int.ofNat (i + 1)))] (pf8 (lt_nat hi) hr h32 h33 h34 h52 he (next_nat (j := i) (by omega))) (by kernel_rfl)
theorem sa_t (kd now : Int) (row : List X) (he : ins[i]? = some (num kd :: num now :: row))
    (h32 : Gam.pureD (callF tab ext N) 32 [.agg (nodX nu ti li ex (tyX most) ruX), .agg [num 0, num 0, .sl false 10 ss]] = some (.tup [num t, boolX true])) (h33 : Gam.pureD (callF tab ext N) 33 [.agg [num 0, num 0, .sl false 10 ss]] = some (.tup [num t, boolX true])) (hk : kd = 1 ∨ (kd = 2 ∧ ¬ t ≤ now)) :
    ∃ υ, run (callF tab ext N) 0 N (loopAt 10 0) (saH nu ti li most ex ins rs i) = some (.norm, υ) ∧ canon 0 υ = some (saH nu ti li most ex ins rs (i + 1)) := by
  have h52 : (t != t) = false := by simp
  rcases hk with rfl | ⟨rfl, hle⟩
  · exact rd_of [(26, .b true), (31, .e [num 0, num 0, .sl false 10 ss, .sl false 11 os, .sl false 11 [], .sl false 6 F, .sl false 10 L]), (37, .p (.tup [num t, boolX true])), (42, .p (.tup [num t, boolX true])), (47, .p (num 0)), (52, .b false), (62, .e (num 1 :: num now :: row)), (28, .i (Int.ofNat (i + 1)))] (pf8 (lt_nat hi) hr h32 h33 h34 h52 he (next_nat (j := i) (by omega))) (by kernel_rfl)
  · have h76 : decide (t ≤ now) = false := decide_eq_false hle
    exact rd_of [(26, .b true), (31, .e [num 0, num 0, .sl false 10 ss, .sl false 11 os, .sl false 11 [], .sl false 6 F, .sl false 10 L]), (37, .p (.tup [num t, boolX true])), (42, .p (.tup [num t, boolX true])), (47, .p (num 0)), (52, .b false), (62, .e (num 2 :: num now :: row)), (73, .e (num 2 :: num now :: row)), (76, .b false), (28, .i (Int.ofNat (i + 1)))] (pf10 (lt_nat hi) hr h32 h33 h34 h52 he he h76 (next_nat (j := i) (by omega))) (by kernel_rfl)
end
theorem row_kind (x : Iv) : ∃ kd row, x.row true = num kd :: num x.now :: row ∧ ((kd = 1 ∧ x.v ≠ .c) ∨ (kd = 2 ∧ x.v = .c)) := by
  obtain ⟨i, now, v⟩ := x
  cases v with
  | c => exact ⟨2, _, rfl, .inr ⟨rfl, rfl⟩⟩
  | m o n => exact ⟨1, _, rfl, .inl ⟨rfl, by simp⟩⟩
/-- A place waits at most once. -/
theorem cG_one_at {P : Pr} (hP : P.ok) (p : Nat) (xs : List Iv) (hx : IvsOk xs) : cG p (stL (stpI P) [] xs) ≤ 1 := by
  have h := tot_cnt p hP xs [] 0 GsI.nil hx (fun _ _ => Nat.zero_le _)
  have h0 : cG p [] = 0 := rfl
  have h1 : ∀ l : List Iv, (l.Pairwise fun a b => a.i < b.i) → (l.map (inC p)).sum ≤ 1 := by
    intro l
    induction l with
    | nil => intro _; exact Nat.zero_le 1
    | cons x r ih =>
      intro hp
      have hp2 := List.pairwise_cons.1 hp
      rw [List.map_cons, List.sum_cons]
      by_cases hxp : x.i = p
      · rw [inC_lt p r (fun y hy => by have := hp2.1 y hy; omega)]
        unfold inC
        split
        · omega
        · split <;> omega
      · have h2 : inC p x = 0 := by
          unfold inC
          split
          · rfl
          · exact if_neg hxp
        have := ih hp2.2
        omega
  have := h1 xs hx.inc
  omega
/-- Behind a clock input no group waits whose time has come. -/
theorem clk_none {P : Pr} {gs : List Ga} {x : Iv} (h : GsI gs x.i) (hv : x.v = .c) : ∀ y, y ∈ (stpI P gs x).gs → ¬ (0 < y.t ∧ y.t ≤ x.now) := fun y hy hh => by
  obtain ⟨i, now, v⟩ := x
  dsimp only at hv h hh
  subst hv
  have hm := ((clkR_I h P.most i now).2 y).1 hy
  refine hm.2 y ?_ rfl
  exact (exG_perm now gs).mem_iff.2 (List.mem_filter.2 ⟨hm.1, by simpa [expB] using hh⟩)
theorem states_all (a b c d e : Int) (hb : 0 ≤ b ∧ b < 256) (l : List Ev) (N : Nat) (hN : 194001 ≤ N) : Gam.pureD (callF tab ext N) 10 [skX a b c d e, .sl false 4 (evC l)] = some (boolX true) := by
  obtain ⟨M, rfl⟩ : ∃ M, N = M + 1 := ⟨N - 1, by omega⟩
  have hP := skP_ok a b c d e hb
  have hk := known11 M (by omega)
  have h13 := inputs13 l M (by omega)
  have h12 := sk12 a b c d e M (by omega)
  have hxs := inL_ok (l.take 40) (by rw [List.length_take]; omega)
  have hxl : (inL 0 0 (l.take 40)).length ≤ 40 := by rw [inL_len, List.length_take]; omega
  have h14 := runAll hP hxs hxl M (by omega)
  generalize inL 0 0 (l.take 40) = xs at *
  generalize skP a b c d e = P at *
  have hil := insC_len xs
  have hloop : run (callF tab ext M) 0 M (.loop (loopAt 10 0)) (saH P.nu P.ti P.li P.most (exN P.cd) (insC xs) (rssC (rnL (stpI P) [] xs)) 0) = some (.exit 0, saE P.nu P.ti P.li P.most (exN P.cd) (insC xs) (rssC (rnL (stpI P) [] xs)) xs.length) := by
    refine loop_for (σ := fun j => saH P.nu P.ti P.li P.most (exN P.cd) (insC xs) (rssC (rnL (stpI P) [] xs)) j) (k := xs.length) (sa_canon ..) (fun j hj => ?_) (sa_end _ _ _ _ _ _ _ _ M (by omega)) (by simp) (by omega)
    obtain ⟨hI, hh⟩ := st_at hP hxs j hj
    have hxo := hxs.ok _ (List.getElem_mem hj)
    have hi40 := hxo.i
    have hst := stpI_ok hP hI hxo
    have hfat := hst.fat
    have hr : (rssC (rnL (stpI P) [] xs))[j]? = some (stpI P (stL (stpI P) [] (xs.take j)) xs[j]).cells := by
      have hlen := rnL_len (stpI P) xs []
      have := rnL_get (stpI P) xs [] j hj
      unfold rssC
      rw [List.getElem?_map, List.getElem?_eq_getElem (by omega), Option.map_some, this]
    have hc : ∀ p, cG p (stpI P (stL (stpI P) [] (xs.take j)) xs[j]).gs ≤ 1 := fun p => by
      rw [← stL_snoc, ← List.take_succ_eq_append_getElem hj]
      exact cG_one_at hP p _ ⟨fun y hy => hxs.ok y (List.mem_of_mem_take hy), hxs.inc.take⟩
    have hcn := clk_none (P := P) hI
    have hin := insC_get hj
    generalize stL (stpI P) [] (xs.take j) = gs at *
    generalize xs[j] = x at *
    have hhs : heldG (stpI P gs x).gs ≤ 200 := by
      revert hfat
      split <;> omega
    have h34 := check34 P.nu P.ti P.li P.most (exN P.cd) hst.I (by omega) hc hhs M (by omega)
    have hf := hst.I.few
    have h33 := due33 (stpI P gs x).gs hf M (by omega)
    have h32 := due32 P.nu P.ti P.li P.most (exN P.cd) (stpI P gs x).gs hf M (by omega)
    have hdue := due_in (stpI P gs x).gs (0, false)
    change (dueG (stpI P gs x).gs).2 = true → _ at hdue
    obtain ⟨kd, row, hrow, hkd⟩ := row_kind x
    rw [hrow] at hin
    cases hb : (dueG (stpI P gs x).gs).2 with
    | false =>
      rw [hb] at h32 h33
      exact sa_f _ _ _ _ _ _ _ _ M _ _ _ _ _ (by omega) (by omega) hr h34 kd x.now row hin h32 h33 (hkd.imp (·.1) (·.1))
    | true =>
      rw [hb] at h32 h33
      refine sa_t _ _ _ _ _ _ _ _ M _ _ _ _ _ (by omega) (by omega) hr h34 kd x.now row hin h32 h33 ?_
      rcases hkd with ⟨h1, _⟩ | ⟨h1, h2⟩
      · exact .inl h1
      · refine .inr ⟨h1, fun hle => ?_⟩
        rcases hdue hb with ⟨h3, _⟩ | ⟨y, hy, hy0, hyt⟩
        · cases h3
        · have e : (dueG (stpI P gs x).gs).1 = y.t := hyt
          exact hcn h2 y hy ⟨hy0, by rw [← e]; exact hle⟩
  generalize rssC (rnL (stpI P) [] xs) = R at *
  generalize xs.length = n at *
  generalize insC xs = I at *
  have hloop' : run (callF tab ext M) 0 M (.loop (loopAt 10 0)) ⟨[(5, .ptr 1 0 0), (6, .sl false 23 I), (7, .sl false 7 R), (8, num 0)], [.var [u8X a, u8X b, u8X c, u8X d, u8X e], .var (nodX P.nu P.ti P.li (exN P.cd) (tyX P.most) ruX)]⟩ = some (.exit 0, saE P.nu P.ti P.li P.most (exN P.cd) I R n) := by
    rw [← hloop]
    exact loop_canon (by kernel_rfl) (sa_canon ..)
  exact pure_of [(14, .p (boolX true)), (17, .p P.node), (19, .p (.sl false 23 I)), (22, .p (.sl false 7 R))] [(.exit 0, saE P.nu P.ti P.li P.most (exN P.cd) I R n)] (pf5 hk h12 h13 h14 hloop') (x := boolX true) (bx := []) (by kernel_rfl) rfl
end Go.Proofs.YthphniobeigklaaGreatDoor.Ag
