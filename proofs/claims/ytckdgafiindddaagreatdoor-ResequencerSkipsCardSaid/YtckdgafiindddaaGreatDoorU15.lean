/- DedupRuns comes to true on the machine. -/
import Derived.WalkKit
import Derived.Deep.LoopGhost
import Derived.Shelf.Spec.SlicesInsertGrow
import Derived.Test.YtckdgafiindddaaGreatDoorU13
import Derived.Test.YtckdgafiindddaaGreatDoorU14
set_option linter.all false
namespace Go.Proofs.YtckdgafiindddaaGreatDoor
open Go.Em
set_option maxRecDepth 100000

def u8 (n : Nat) : X := .v (.int .u8 (Int.ofNat n))
def u8s (l : List Nat) : List (List X) := l.map fun n => [u8 n]
section
variable (kk ac : List (List X)) (w i len : Nat) (fl : Bool) (a b : Int) (rows : List (List X))
end
theorem wrap_small {y : Nat} (h : y < 1000) : IntKind.i64.wrap (Int.ofNat y) = Int.ofNat y := by
  rw [IntKind.wrap_i64]; simp only [Int.ofNat_eq_natCast]; omega

section
variable (kk ac : List (List X)) (w i len y : Nat) (fl : Bool) (a b : Int) (rows : List (List X)) (M : Nat)
variable (h : i < kk.length) (h40 : i < 40) (hlen : len < 100) (hw : w < 1000) (hy : kk[i]? = some [u8 y]) (hyl : y < 256) (hM : 1000 ≤ M)
include h h40 hlen hw hy hyl hM
end

end Go.Proofs.YtckdgafiindddaaGreatDoor

/- Arguments of DedupRuns and DedupWindows, read as data. -/
namespace Go.Proofs.YtckdgafiindddaaGreatDoor
open Go.Em Go.ChangeShapes Go.WideShapes Go.ChangeAt Go.RowKit
set_option maxRecDepth 100000

def tysK : List TypeId := [5, 281]
theorem tysK_ok : dataTys Tryz.prog tysK = true := by kernel_rfl
theorem tysK_size : tysK.all (fun t => decide (t < Tryz.prog.types.size)) = true := by kernel_rfl
theorem tysK_lt {t : TypeId} (h : t ∈ tysK) : t < Tryz.prog.types.size := of_decide_eq_true (List.all_eq_true.1 tysK_size t h)
theorem tysK_kids : Kids Tryz.prog (fun t => t ∈ tysK ∧ t < Tryz.prog.types.size) := kids_data (kids_rows Tryz.laidOut Tryz.rowed) tysK_ok
theorem underK5 : Tryz.prog.underlying 5 = some (.int .u8) := by kernel_rfl
theorem underK281 : Tryz.prog.underlying 281 = some (.slice 5) := by kernel_rfl
theorem cellsK5 : Tryz.prog.cellsOf 5 = 1 := by kernel_rfl
theorem shape_u8 {n : Nat} {xs : List X} (h : Shape Tryz.prog n 5 xs) : ∃ k, k < 256 ∧ xs = [u8 k] := by
  obtain ⟨z, rfl, hz⟩ := shape_int underK5 h
  have h1 : 0 ≤ z ∧ z < 256 := by
    have h2 : IntKind.u8.min ≤ z ∧ z ≤ IntKind.u8.max := by simpa [Lit.wf] using hz
    have e1 : IntKind.u8.min = 0 := by decide
    have e2 : IntKind.u8.max = 255 := by decide
    omega
  refine ⟨z.toNat, by omega, ?_⟩
  unfold u8
  rw [show Int.ofNat z.toNat = z from Int.toNat_of_nonneg h1.1]
theorem shape_keys {n : Nat} {xs : List X} (h : Shape Tryz.prog n 281 xs) : ∃ l : List Nat, (∀ k, k ∈ l → k < 256) ∧ xs = [.sl false 1 (u8s l)] := by
  obtain ⟨es, rfl, _, m, _, hes⟩ := shape_slice underK281 h
  rw [cellsK5]
  have : ∀ es : List (List X), (∀ c, c ∈ es → Shape Tryz.prog m 5 c) → ∃ l : List Nat, (∀ k, k ∈ l → k < 256) ∧ es = u8s l := by
    intro es
    induction es with
    | nil => intro _; exact ⟨[], (fun k h => by cases h), rfl⟩
    | cons c r ih =>
      intro h
      obtain ⟨k, hk, rfl⟩ := shape_u8 (h c (List.mem_cons_self ..))
      obtain ⟨l, hl, rfl⟩ := ih (fun c hc => h c (List.mem_cons_of_mem _ hc))
      refine ⟨k :: l, fun j hj => ?_, rfl⟩
      rcases List.mem_cons.1 hj with rfl | hj
      · exact hk
      · exact hl j hj
  obtain ⟨l, hl, rfl⟩ := this es hes
  exact ⟨l, hl, rfl⟩
end Go.Proofs.YtckdgafiindddaaGreatDoor

/- ResequencerCompletes: the plain law. -/
namespace Go.Proofs.YtckdgafiindddaaGreatDoor

/-- How many of the held numbers follow a number without a gap. -/
def runL : Nat → List (Nat × Nat) → Nat
  | _, [] => 0
  | m, p :: r => if p.1 = m then runL (m + 1) r + 1 else 0
/-- The place of a number among held ones. -/
def lowL (v : Nat) : List (Nat × Nat) → Nat
  | [] => 0
  | p :: r => if p.1 < v then lowL v r + 1 else 0
def insL (v k : Nat) (H : List (Nat × Nat)) : List (Nat × Nat) := H.take (lowL v H) ++ [(v, k)] ++ H.drop (lowL v H)
def SrtL (H : List (Nat × Nat)) : Prop := H.Pairwise fun a b => a.1 < b.1

theorem runL_le : ∀ (m : Nat) (H : List (Nat × Nat)), runL m H ≤ H.length
  | _, [] => Nat.le_refl _
  | m, p :: r => by
    unfold runL
    split
    · have := runL_le (m + 1) r; simp; omega
    · omega
theorem lowL_le (v : Nat) : ∀ H : List (Nat × Nat), lowL v H ≤ H.length
  | [] => Nat.le_refl _
  | p :: r => by
    unfold lowL
    split
    · have := lowL_le v r; simp; omega
    · omega
theorem runL_get : ∀ (m : Nat) (H : List (Nat × Nat)) (j : Nat) (h : j < runL m H), (H[j]'(by have := runL_le m H; omega)).1 = m + j
  | _, [], _, h => by simp [runL] at h
  | m, p :: r, 0, h => by
    unfold runL at h
    split at h
    · simpa
    · omega
  | m, p :: r, j + 1, h => by
    unfold runL at h
    split at h
    · have := runL_get (m + 1) r j (by omega)
      simp only [List.getElem_cons_succ]
      omega
    · omega
theorem runL_stop : ∀ (m : Nat) (H : List (Nat × Nat)) (h : runL m H < H.length), H[runL m H].1 ≠ m + runL m H
  | _, [], h => by simp at h
  | m, p :: r, h => by
    by_cases hp : p.1 = m
    · have e : runL m (p :: r) = runL (m + 1) r + 1 := by show (if p.1 = m then runL (m + 1) r + 1 else 0) = _; rw [if_pos hp]
      simp only [e] at h ⊢
      have := runL_stop (m + 1) r (by simpa using h)
      simp only [List.getElem_cons_succ]
      omega
    · have e : runL m (p :: r) = 0 := by show (if p.1 = m then runL (m + 1) r + 1 else 0) = _; rw [if_neg hp]
      simp only [e, List.getElem_cons_zero]
      simpa using hp
theorem lowL_lt (v : Nat) : ∀ (H : List (Nat × Nat)) (j : Nat) (h : j < lowL v H), (H[j]'(by have := lowL_le v H; omega)).1 < v
  | [], _, h => by simp [lowL] at h
  | p :: r, 0, h => by
    unfold lowL at h
    split at h
    · simpa
    · omega
  | p :: r, j + 1, h => by
    unfold lowL at h
    split at h
    · simpa using lowL_lt v r j (by omega)
    · omega
theorem lowL_stop (v : Nat) : ∀ (H : List (Nat × Nat)) (h : lowL v H < H.length), ¬ H[lowL v H].1 < v
  | [], h => by simp at h
  | p :: r, h => by
    by_cases hp : p.1 < v
    · have e : lowL v (p :: r) = lowL v r + 1 := by show (if p.1 < v then lowL v r + 1 else 0) = _; rw [if_pos hp]
      simp only [e] at h ⊢
      simpa using lowL_stop v r (by simpa using h)
    · have e : lowL v (p :: r) = 0 := by show (if p.1 < v then lowL v r + 1 else 0) = _; rw [if_neg hp]
      simp only [e, List.getElem_cons_zero]
      exact hp

/-- What holds behind the numbers of L: all below nx are sent, H is held. -/
structure RsI (L : List Nat) (nx : Nat) (H : List (Nat × Nat)) : Prop where
  pos : 1 ≤ nx
  srt : SrtL H
  gt : ∀ p, p ∈ H → nx < p.1
  mem : ∀ v, v ∈ L ↔ (1 ≤ v ∧ v < nx) ∨ ∃ k, (v, k) ∈ H
theorem srt_get {H : List (Nat × Nat)} (h : SrtL H) {i j : Nat} (hi : i < j) (hj : j < H.length) : (H[i]'(by omega)).1 < H[j].1 := List.pairwise_iff_getElem.1 h i j (by omega) hj hi
theorem rsI_send {L : List Nat} {nx : Nat} {H : List (Nat × Nat)} (h : RsI L nx H) : RsI (L ++ [nx]) (nx + 1 + runL (nx + 1) H) (H.drop (runL (nx + 1) H)) := by
  have hle := runL_le (nx + 1) H
  refine ⟨by omega, h.srt.drop, fun p hp => ?_, fun v => ?_⟩
  · obtain ⟨j, hj, rfl⟩ := List.getElem_of_mem hp
    rw [List.length_drop] at hj
    rw [List.getElem_drop]
    have hr : runL (nx + 1) H < H.length := by omega
    have h1 := runL_stop (nx + 1) H hr
    have key : ∀ q (hq : q < H.length), q ≤ runL (nx + 1) H → nx + 1 + q ≤ H[q].1 := fun q hq hqr => by
      cases q with
      | zero => have := h.gt _ (List.getElem_mem (l := H) (n := 0) hq); omega
      | succ q =>
        have h3 := runL_get (nx + 1) H q (by omega)
        have h4 := srt_get h.srt (i := q) (j := q + 1) (by omega) hq
        omega
    have h2 := key _ hr (Nat.le_refl _)
    by_cases hj0 : j = 0
    · subst hj0; simp only [Nat.add_zero]; omega
    · have := srt_get h.srt (i := runL (nx + 1) H) (j := runL (nx + 1) H + j) (by omega) (by omega)
      omega
  · rw [List.mem_append, List.mem_singleton, h.mem v]
    have hsplit : (∃ k, (v, k) ∈ H) ↔ (∃ k, (v, k) ∈ H.take (runL (nx + 1) H)) ∨ ∃ k, (v, k) ∈ H.drop (runL (nx + 1) H) := by
      conv => lhs; rw [← List.take_append_drop (runL (nx + 1) H) H]
      simp only [List.mem_append]
      exact ⟨fun ⟨k, hk⟩ => hk.elim (fun a => .inl ⟨k, a⟩) (fun a => .inr ⟨k, a⟩), fun hk => hk.elim (fun ⟨k, a⟩ => ⟨k, .inl a⟩) (fun ⟨k, a⟩ => ⟨k, .inr a⟩)⟩
    have htake : (∃ k, (v, k) ∈ H.take (runL (nx + 1) H)) ↔ nx + 1 ≤ v ∧ v < nx + 1 + runL (nx + 1) H := by
      constructor
      · rintro ⟨k, hk⟩
        obtain ⟨j, hj, e⟩ := List.getElem_of_mem hk
        rw [List.length_take] at hj
        rw [List.getElem_take] at e
        have := runL_get (nx + 1) H j (by omega)
        rw [e] at this
        dsimp only at this
        omega
      · rintro ⟨h1, h2⟩
        have hj : v - (nx + 1) < runL (nx + 1) H := by omega
        have := runL_get (nx + 1) H (v - (nx + 1)) hj
        refine ⟨(H[v - (nx + 1)]'(by omega)).2, ?_⟩
        have e : (v, (H[v - (nx + 1)]'(by omega)).2) = H[v - (nx + 1)]'(by omega) := by
          apply Prod.ext
          · dsimp only; omega
          · rfl
        rw [e]
        exact List.mem_iff_getElem.2 ⟨v - (nx + 1), by rw [List.length_take]; omega, by rw [List.getElem_take]⟩
    rw [hsplit, htake]
    have hpos := h.pos
    constructor
    · rintro ((h1 | h1 | h1) | h1)
      · left; omega
      · left; omega
      · right; exact h1
      · left; omega
    · rintro (h1 | h1)
      · by_cases h2 : v < nx
        · left; left; omega
        · by_cases h3 : v = nx
          · right; exact h3
          · left; right; left; omega
      · left; right; right; exact h1
theorem rsI_hold {L : List Nat} {nx v k : Nat} {H : List (Nat × Nat)} (h : RsI L nx H) (hv : nx < v) (hn : v ∉ L) : RsI (L ++ [v]) nx (insL v k H) := by
  have hle := lowL_le v H
  have hlo : ∀ p, p ∈ H.take (lowL v H) → p.1 < v := fun p hp => by
    obtain ⟨j, hj, rfl⟩ := List.getElem_of_mem hp
    rw [List.length_take] at hj
    rw [List.getElem_take]
    exact lowL_lt v H j (by omega)
  have hnot : ∀ p, p ∈ H → p.1 ≠ v := fun p hp e => hn ((h.mem v).2 (.inr ⟨p.2, by rw [← e]; exact hp⟩))
  have hhi : ∀ p, p ∈ H.drop (lowL v H) → v < p.1 := fun p hp => by
    have hne := hnot p (List.mem_of_mem_drop hp)
    obtain ⟨j, hj, rfl⟩ := List.getElem_of_mem hp
    rw [List.length_drop] at hj
    rw [List.getElem_drop] at hne ⊢
    have h1 := lowL_stop v H (by omega)
    by_cases hj0 : j = 0
    · subst hj0; simp only [Nat.add_zero] at hne ⊢; omega
    · have := srt_get h.srt (i := lowL v H) (j := lowL v H + j) (by omega) (by omega)
      omega
  have hmem : ∀ p, p ∈ insL v k H ↔ p ∈ H ∨ p = (v, k) := fun p => by
    unfold insL
    rw [List.mem_append, List.mem_append, List.mem_singleton]
    conv => rhs; rw [← List.take_append_drop (lowL v H) H, List.mem_append]
    constructor
    · rintro ((h1 | h1) | h1)
      · exact .inl (.inl h1)
      · exact .inr h1
      · exact .inl (.inr h1)
    · rintro ((h1 | h1) | h1)
      · exact .inl (.inl h1)
      · exact .inr h1
      · exact .inl (.inr h1)
  refine ⟨h.pos, ?_, fun p hp => ?_, fun w => ?_⟩
  · unfold SrtL insL
    rw [List.append_assoc]
    refine List.pairwise_append.2 ⟨h.srt.take, List.pairwise_cons.2 ⟨hhi, h.srt.drop⟩, fun a ha b hb => ?_⟩
    rcases List.mem_append.1 hb with h1 | h1
    · rw [List.mem_singleton.1 h1]; exact hlo a ha
    · have := hlo a ha; have := hhi b h1; omega
  · rcases (hmem p).1 hp with h1 | h1
    · exact h.gt p h1
    · rw [h1]; exact hv
  · rw [List.mem_append, List.mem_singleton, h.mem w]
    constructor
    · rintro ((h1 | ⟨q, h1⟩) | h1)
      · exact .inl h1
      · exact .inr ⟨q, (hmem _).2 (.inl h1)⟩
      · exact .inr ⟨k, (hmem _).2 (.inr (by rw [h1]))⟩
    · rintro (h1 | ⟨q, h1⟩)
      · exact .inl (.inl h1)
      · rcases (hmem _).1 h1 with h2 | h2
        · exact .inl (.inr ⟨q, h2⟩)
        · exact .inr (Prod.mk.inj h2).1
end Go.Proofs.YtckdgafiindddaaGreatDoor

/- The resequencer over messages with a group and a number: what comes ahead of the step. -/
namespace Go.Proofs.YtckdgafiindddaaGreatDoor
open Go.Em
set_option maxRecDepth 100000

def nodR (t l : Int) : Nod := ⟨⟨#[111, 114, 100, 101, 114]⟩, 5, 0, 0, 0, t, l, ⟨#[]⟩, (0, 0, 0, 0), [], [], [], [], [[num 2, num 0, strX ⟨#[98, 111, 100, 121, 46, 103]⟩, .sl true 6 [], .sl true 5 []], [num 2, num 0, strX ⟨#[98, 111, 100, 121, 46, 110]⟩, .sl true 6 [], .sl true 5 []]], [], [], []⟩
def msgR (e g n : Int) : Msg := ⟨⟨e, [1]⟩, 1048576, [e], .mk 9 0 0 ⟨#[]⟩ [] [(⟨#[103]⟩, kv g), (⟨#[110]⟩, kv n)]⟩
def inpR (e g n t : Int) : Inp := ⟨1, t, ⟨0, []⟩, msgR e g n, 0, false, false, .mk 0 0 0 ⟨#[]⟩ [] []⟩
theorem node53 (N : Nat) (t l : Int) : Gam.pureD (callF tab ext (N + 100)) 8 [num t, num l] = some (.agg (nodR t l).cells) := by kernel_rfl
theorem input54 (N : Nat) (i g n t : Int) : Gam.pureD (callF tab ext (N + 100)) 17 [num i, num g, num n, num t] = some (.agg (inpR (IntKind.i64.wrap (i + 1)) g n t).cells) := by kernel_rfl
theorem in286 (N : Nat) (n : Int) (h1 : 1 ≤ n) (h2 : n ≤ 999999999999998) : Gam.pureD (callF tab ext (N + 100)) 73 [num n, num 1, num 999999999999998] = some (boolX true) :=
  pure_of [(9, .b true), (13, .b true)] [] (pf2 (decide_eq_true h1) (decide_eq_true h2)) (x := boolX true) (bx := []) (by kernel_rfl) rfl
theorem seq204 (N : Nat) (t l e g n : Int) (h1 : 1 ≤ n) (h2 : n ≤ 999999999999998) : Gam.pureD (callF tab ext (N + 400)) 41 [.agg (nodR t l).cells, .agg (msgR e g n).cells] = some (.tup [.agg (kv g).cells, num n, noText]) :=
  pure_of [(64, .p (boolX true))] [] (pf1 (in286 (N + 299) n h1 h2)) (x := .tup [.agg (kv g).cells, num n, noText]) (bx := []) (by kernel_rfl) rfl

/-! ### Numbers in order -/
def lowI (v : Int) : List Int → Nat
  | [] => 0
  | p :: r => if p < v then lowI v r + 1 else 0
theorem lowI_le (v : Int) : ∀ H : List Int, lowI v H ≤ H.length
  | [] => Nat.le_refl _
  | p :: r => by
    unfold lowI
    split
    · have := lowI_le v r; simp; omega
    · omega
theorem lowI_lt (v : Int) : ∀ (H : List Int) (j : Nat) (h : j < lowI v H), (H[j]'(by have := lowI_le v H; omega)) < v
  | [], _, h => by simp [lowI] at h
  | p :: r, 0, h => by
    unfold lowI at h
    split at h
    · simpa
    · omega
  | p :: r, j + 1, h => by
    unfold lowI at h
    split at h
    · simpa using lowI_lt v r j (by omega)
    · omega
theorem lowI_stop (v : Int) : ∀ (H : List Int) (h : lowI v H < H.length), ¬ H[lowI v H] < v
  | [], h => by simp at h
  | p :: r, h => by
    by_cases hp : p < v
    · have e : lowI v (p :: r) = lowI v r + 1 := by show (if p < v then lowI v r + 1 else 0) = _; rw [if_pos hp]
      simp only [e] at h ⊢
      simpa using lowI_stop v r (by simpa using h)
    · have e : lowI v (p :: r) = 0 := by show (if p < v then lowI v r + 1 else 0) = _; rw [if_neg hp]
      simp only [e, List.getElem_cons_zero]
      exact hp
theorem lowI_iff {v : Int} {H : List Int} (hs : H.Pairwise (· < ·)) {j : Nat} (hj : j < H.length) : H[j] < v ↔ j < lowI v H := by
  constructor
  · intro h
    apply Classical.byContradiction
    intro hn
    have h1 := lowI_stop v H (by omega)
    by_cases e : lowI v H = j
    · subst e; exact h1 h
    · have := List.pairwise_iff_getElem.1 hs (lowI v H) j (by omega) hj (by omega)
      omega
  · exact lowI_lt v H j
theorem intsI_get {L : List Int} {j : Nat} (h : j < L.length) : (intsC L)[j]? = some [num L[j]] := by simp [intsC, h, num]
theorem intsC_len (L : List Int) : (intsC L).length = L.length := by simp [intsC]
theorem less288 (N : Nat) (a b : Int) : Gam.pureD (callF tab ext (N + 20)) 76 [num a, num b] = some (boolX (decide (a < b))) := by
  have h1 : (a != a) = false := by simp
  generalize hc : decide (a < b) = c
  cases c with
  | true => exact pure_of [(7, .b false), (15, .b true)] [] (pf2 h1 hc) (x := boolX true) (bx := []) (by kernel_rfl) rfl
  | false => exact pure_of [(7, .b false), (15, .b false)] [] (pf2 h1 hc) (x := boolX false) (bx := []) (by kernel_rfl) rfl
section
variable (l : List (List X)) (v : Int) (n lo hi : Nat)
def biH : St := ⟨[(0, .sl false 1 l), (1, num v), (6, nat n), (7, nat lo), (8, nat hi)], []⟩
def biE : St := ⟨[(0, .sl false 1 l), (1, num v), (6, nat n), (7, nat lo), (8, nat hi), (15, boolX false)], []⟩
theorem bi_canon : canon 0 (biH l v n lo hi) = some (biH l v n lo hi) := by kernel_rfl
theorem bi_end (h : ¬ lo < hi) (M : Nat) : run (callF tab ext M) 0 M (loopAt 44 0) (biH l v n lo hi) = some (.exit 0, biE l v n lo hi) :=
  run_of [(15, .b false)] [] (pf1 (nlt_nat h)) (lo' := []) (by kernel_rfl)
theorem bi_step (y : Int) (hlt : lo < hi) (hh : hi < 4294967) (hg : l[(lo + hi) / 2]? = some [num y]) (M : Nat) :
    (y < v → run (callF tab ext (M + 20)) 0 (M + 20) (loopAt 44 0) (biH l v n lo hi) = some (.norm, biH l v n ((lo + hi) / 2 + 1) hi)) ∧
    (¬ y < v → run (callF tab ext (M + 20)) 0 (M + 20) (loopAt 44 0) (biH l v n lo hi) = some (.norm, biH l v n lo ((lo + hi) / 2))) := by
  have h1 := lt_nat hlt
  have h2 := add_nat (a := lo) (b := hi) (by omega) (by omega)
  have h3 := u64_nat (s := lo + hi) (by omega)
  have h4 := shr_nat (s := lo + hi)
  have h5 := half_nat (s := lo + hi) (by omega)
  have h6 := next_nat (j := (lo + hi) / 2) (by omega)
  have hc := less288 M y v
  constructor
  · intro hr
    rw [decide_eq_true hr] at hc
    exact run_of [(15, .b true), (18, .i (Int.ofNat (lo + hi))), (19, .i (Int.ofNat (lo + hi))), (20, .i (Int.ofNat ((lo + hi) / 2))), (21, .i (Int.ofNat ((lo + hi) / 2))), (24, .e [num y]), (27, .p (boolX true)), (29, .i (Int.ofNat ((lo + hi) / 2 + 1)))] [] (pf8 h1 h2 h3 h4 h5 hg hc h6) (lo' := []) (by kernel_rfl)
  · intro hr
    rw [decide_eq_false hr] at hc
    exact run_of [(15, .b true), (18, .i (Int.ofNat (lo + hi))), (19, .i (Int.ofNat (lo + hi))), (20, .i (Int.ofNat ((lo + hi) / 2))), (21, .i (Int.ofNat ((lo + hi) / 2))), (24, .e [num y]), (27, .p (boolX false))] [] (pf7 h1 h2 h3 h4 h5 hg hc) (lo' := []) (by kernel_rfl)
end
section
variable (l : List (List X)) (v y : Int) (r : Nat) (c : Bool) (M : Nat)
theorem nan289 : Gam.pureD (callF tab ext (M + 1)) 77 [num y] = some (boolX false) := by
  have h : (y != y) = false := by simp
  exact pure_of [(5, .b false)] [] (pf1 h) (x := boolX false) (bx := []) (by kernel_rfl) rfl
theorem bi_ret1 (hM : 1 ≤ M) (hloop : run (callF tab ext M) 0 M (.loop (loopAt 44 0)) (biH l v l.length 0 l.length) = some (.exit 0, biE l v l.length r r)) (h1 : decide (Int.ofNat r < Int.ofNat l.length) = true) (hg : l[r]? = some [num y]) (hc : (y == v) = c) : Gam.pureD (callF tab ext (M + 1)) 44 [.sl false 1 l, num v] = some (.tup [nat r, boolX c]) := by
  cases c with
  | true => exact pure_of [(34, .b true), (38, .e [num y]), (41, .b true)] [(.exit 0, biE l v l.length r r)] (pf4 hloop h1 hg hc) (x := .tup [nat r, boolX true]) (bx := []) (by kernel_rfl) rfl
  | false =>
    obtain ⟨M, rfl⟩ : ∃ K, M = K + 1 := ⟨M - 1, by omega⟩
    exact pure_of [(34, .b true), (38, .e [num y]), (41, .b false), (45, .e [num y]), (47, .p (boolX false))] [(.exit 0, biE l v l.length r r)] (pf6 hloop h1 hg hc hg (nan289 y M)) (x := .tup [nat r, boolX false]) (bx := []) (by kernel_rfl) rfl
theorem bi_ret0 (hloop : run (callF tab ext M) 0 M (.loop (loopAt 44 0)) (biH l v l.length 0 l.length) = some (.exit 0, biE l v l.length r r)) (h1 : decide (Int.ofNat r < Int.ofNat l.length) = false) : Gam.pureD (callF tab ext (M + 1)) 44 [.sl false 1 l, num v] = some (.tup [nat r, boolX false]) :=
  pure_of [(34, .b false)] [(.exit 0, biE l v l.length r r)] (pf2 hloop h1) (x := .tup [nat r, boolX false]) (bx := []) (by kernel_rfl) rfl
end
theorem bi_pure (L : List Int) (hs : L.Pairwise (· < ·)) (hl : L.length ≤ 1000) (v : Int) (N : Nat) (hN : 2000 ≤ N) : ∃ b : Bool, Gam.pureD (callF tab ext N) 44 [.sl false 1 (intsC L), num v] = some (.tup [nat (lowI v L), boolX b]) := by
  obtain ⟨M, rfl⟩ : ∃ M, N = M + 21 := ⟨N - 21, by omega⟩
  have hle := lowI_le v L
  have hlen := intsC_len L
  have hloop : run (callF tab ext (M + 20)) 0 (M + 20) (.loop (loopAt 44 0)) (biH (intsC L) v (intsC L).length 0 (intsC L).length) = some (.exit 0, biE (intsC L) v (intsC L).length (lowI v L) (lowI v L)) := by
    refine loop_dec (α := Nat × Nat) (σ := fun a => biH (intsC L) v (intsC L).length a.1 a.2) (I := fun a => a.1 ≤ lowI v L ∧ lowI v L ≤ a.2 ∧ a.2 ≤ L.length) (μ := fun a => a.2 - a.1) (fun a ha => ?_) (by simp) (a := (0, (intsC L).length)) ⟨by dsimp only; omega, by dsimp only; omega, by dsimp only; omega⟩ (bi_canon ..) (by dsimp only; omega)
    obtain ⟨lo, hi⟩ := a
    obtain ⟨ha1, ha2, ha3⟩ := ha
    dsimp only at ha1 ha2 ha3 ⊢
    by_cases h : lo < hi
    · left
      have hh : (lo + hi) / 2 < L.length := by omega
      have st := bi_step (intsC L) v (intsC L).length lo hi L[(lo + hi) / 2] h (by omega) (intsI_get hh) M
      have hi' := lowI_iff (v := v) hs hh
      by_cases hc : L[(lo + hi) / 2] < v
      · exact ⟨_, ((lo + hi) / 2 + 1, hi), st.1 hc, bi_canon .., ⟨by have := hi'.1 hc; dsimp only; omega, ha2, ha3⟩, by dsimp only; omega⟩
      · exact ⟨_, (lo, (lo + hi) / 2), st.2 hc, bi_canon .., ⟨ha1, by dsimp only; exact Nat.le_of_not_lt fun h' => hc (hi'.2 h'), by dsimp only; omega⟩, by dsimp only; omega⟩
    · right
      obtain rfl : lo = lowI v L := by omega
      obtain rfl : hi = lowI v L := by omega
      exact bi_end _ _ _ _ _ h _
  by_cases hlt : lowI v L < L.length
  · exact ⟨_, bi_ret1 (intsC L) v L[lowI v L] (lowI v L) _ (M + 20) (by omega) hloop (lt_nat (by omega)) (intsI_get hlt) rfl⟩
  · exact ⟨false, bi_ret0 (intsC L) v (lowI v L) (M + 20) hloop (nlt_nat (by omega))⟩
def iyH (l : List (List X)) (v : Int) (n j : Nat) : St := ⟨[(0, .sl false 1 l), (1, num v), (7, nat n), (8, nat j)], []⟩
section
variable (l : List (List X)) (v : Int) (j M : Nat)
theorem iy_ret1 (hm : run (callF tab ext M) 0 M (.loop (loopAt 106 0)) (iyH l v l.length 0) = some (.ret, ⟨[(4, nat j)], []⟩)) : Gam.pureD (callF tab ext (M + 1)) 106 [.sl false 1 l, num v] = some (nat j) :=
  pure_of [] [(.ret, ⟨[(4, nat j)], []⟩)] (pf1 hm) (x := nat j) (bx := []) (by kernel_rfl) rfl
theorem iy_ret0 (hm : run (callF tab ext M) 0 M (.loop (loopAt 106 0)) (iyH l v l.length 0) = some (.exit 0, ⟨[(0, .sl false 1 l), (1, num v), (7, nat l.length), (8, nat l.length), (9, boolX false)], []⟩)) : Gam.pureD (callF tab ext (M + 1)) 106 [.sl false 1 l, num v] = some (num (-1)) :=
  pure_of [] [(.exit 0, ⟨[(0, .sl false 1 l), (1, num v), (7, nat l.length), (8, nat l.length), (9, boolX false)], []⟩)] (pf1 hm) (x := num (-1)) (bx := []) (by kernel_rfl) rfl
theorem iy_hit (y : Int) (n : Nat) (hj : j < n) (hg : l[j]? = some [num y]) (hP : (v == y) = true) : run (callF tab ext M) 0 M (loopAt 106 0) (iyH l v n j) = some (.ret, ⟨[(4, nat j)], []⟩) :=
  run_of [(9, .b true), (14, .e [num y]), (16, .b true)] [] (pf3 (lt_nat hj) hg hP) (lo' := []) (by kernel_rfl)
theorem iy_next (y : Int) (n : Nat) (hj : j < n) (hn : n < 1000000) (hg : l[j]? = some [num y]) (hP : (v == y) = false) : run (callF tab ext M) 0 M (loopAt 106 0) (iyH l v n j) = some (.norm, iyH l v n (j + 1)) :=
  run_of [(9, .b true), (14, .e [num y]), (16, .b false), (18, .i (Int.ofNat (j + 1)))] [] (pf4 (lt_nat hj) hg hP (next_nat (j := j) (by omega))) (lo' := []) (by kernel_rfl)
theorem iy_end (n : Nat) : run (callF tab ext M) 0 M (loopAt 106 0) (iyH l v n n) = some (.exit 0, ⟨[(0, .sl false 1 l), (1, num v), (7, nat n), (8, nat n), (9, boolX false)], []⟩) :=
  run_of [(9, .b false)] [] (pf1 (nlt_nat (Nat.lt_irrefl n))) (lo' := []) (by kernel_rfl)
theorem iy_canon (n : Nat) : canon 0 (iyH l v n j) = some (iyH l v n j) := by kernel_rfl
end
theorem contains287 (L : List Int) (hl : L.length ≤ 1000) (v : Int) (N : Nat) (hN : 2000 ≤ N) : Gam.pureD (callF tab ext N) 75 [.sl false 1 (intsC L), num v] = some (boolX (decide (v ∈ L))) := by
  obtain ⟨M, rfl⟩ : ∃ M, N = M + 2 := ⟨N - 2, by omega⟩
  have hlen := intsC_len L
  have he : ∀ j, j < (intsC L).length → (intsC L)[j]? = some [num (L.getD j 0)] := fun j hj => by
    have hj' : j < L.length := by omega
    rw [intsI_get hj', List.getD_eq_getElem?_getD, List.getElem?_eq_getElem hj']; rfl
  have key := scanP (H := fun j => iyH (intsC L) v (intsC L).length j) (n := (intsC L).length) (B := 1) (b := loopAt 106 0) (nIn := 0) (e := .exit 0) (τ := iyH (intsC L) v (intsC L).length 0) (P := fun j => v == L.getD j 0) (r := fun j => ⟨[(4, nat j)], []⟩)
    (fin := ⟨[(0, .sl false 1 (intsC L)), (1, num v), (7, nat (intsC L).length), (8, nat (intsC L).length), (9, boolX false)], []⟩) (υ := fun j => iyH (intsC L) v (intsC L).length (j + 1)) (iy_canon ..)
    (fun j hj hP M hM => iy_hit _ v j M _ _ hj (he j hj) hP) (fun j hj hP => ⟨iy_canon .., fun M hM => iy_next _ v j M _ _ hj (by omega) (he j hj) hP⟩) (fun M hM => iy_end _ v M _) (by simp)
  rcases key with ⟨j, hj, hP, _, hm⟩ | ⟨hall, hm⟩
  · have hv : v ∈ L := by
      have e : L.getD j 0 = L[j]'(by omega) := by rw [List.getD_eq_getElem?_getD, List.getElem?_eq_getElem (by omega)]; rfl
      rw [e] at hP
      rw [eq_of_beq hP]; exact List.getElem_mem _
    rw [decide_eq_true hv]
    have hm := hm M (by omega) (by omega)
    have h367 := iy_ret1 (intsC L) v j M hm
    have hz : decide (Int.ofNat j ≥ 0) = true := decide_eq_true (by simp only [Int.ofNat_eq_natCast]; omega)
    exact pure_of [(7, .p (nat j)), (8, .b true)] [] (pf2 h367 hz) (x := boolX true) (bx := []) (by kernel_rfl) rfl
  · have hv : ¬ v ∈ L := fun h => by
      obtain ⟨j, hj, e⟩ := List.getElem_of_mem h
      have h2 := hall j (by omega)
      have e2 : L.getD j 0 = L[j] := by rw [List.getD_eq_getElem?_getD, List.getElem?_eq_getElem hj]; rfl
      rw [e2, e] at h2
      simp at h2
    rw [decide_eq_false hv]
    have hm := hm M (by omega) (by omega)
    have h367 := iy_ret0 (intsC L) v M hm
    exact pure_of [(7, .p (num (-1)))] [] (pf1 h367) (x := boolX false) (bx := []) (by kernel_rfl) rfl
end Go.Proofs.YtckdgafiindddaaGreatDoor

/- The resequencer: why a message is rejected; the messages that are released. -/
namespace Go.Proofs.YtckdgafiindddaaGreatDoor
open Go.Em
set_option maxRecDepth 100000

/-! ### The reason -/
def lateT : ByteArray := ⟨#[108, 97, 116, 101]⟩
def dupT : ByteArray := ⟨#[100, 117, 112, 108, 105, 99, 97, 116, 101]⟩
def fullT : ByteArray := ⟨#[102, 117, 108, 108]⟩
def emptyT : ByteArray := ⟨#[]⟩
def refT (n xn l hd : Int) (c kn : Bool) (sl il : Nat) : ByteArray :=
  if n < xn then lateT else if c then dupT else if kn = false ∧ 1024 ≤ sl then fullT else if n > xn ∧ ((il : Int) ≥ l ∨ hd ≥ 256) then fullT else emptyT
section
variable (N : Nat) (nc : List X) (t l n a b x1 x2 x3 xn xt hd : Int) (x4 : ByteArray) (x5 x6 ms vs nums ss : List (List X)) (kn c : Bool)
def slC (x1 x2 x3 xn xt : Int) (x4 : ByteArray) (x5 x6 ms vs : List (List X)) : List X := [num x1, num x2, num x3, strX x4, .sl false 6 x5, .sl false 7 x6, num xn, num xt, .sl false 10 ms, .sl false 6 vs]
theorem refused_pure (hnum : Gam.pureD (callF tab ext N) 45 [.agg (slC x1 x2 x3 xn xt x4 x5 x6 ms vs)] = some (.sl false 1 nums)) (hc : Gam.pureD (callF tab ext N) 75 [.sl false 1 nums, num n] = some (boolX c)) (hh : Gam.pureD (callF tab ext N) 9 [.agg [num a, num b, .sl false 10 ss]] = some (num hd)) :
    Gam.pureD (callF tab ext (N + 1)) 43 [.agg (nodR t l).cells, .agg [num a, num b, .sl false 10 ss], .agg (slC x1 x2 x3 xn xt x4 x5 x6 ms vs), boolX kn, num n] = some (strX (refT n xn l hd c kn ss.length ms.length)) := by
  unfold refT
  cases h1 : decide (n < xn) with
  | true =>
    rw [if_pos (of_decide_eq_true h1)]
    exact pure_of [(15, .b true)] [] (pf1 h1) (x := strX lateT) (bx := []) (by kernel_rfl) rfl
  | false =>
  rw [if_neg (of_decide_eq_false h1)]
  cases h2 : c with
  | true =>
    rw [if_pos rfl]
    exact pure_of [(15, .b false), (18, .p (.sl false 1 nums)), (20, .p (boolX c)), (16, .b true)] [] (pf4 h1 hnum hc h2) (x := strX dupT) (bx := []) (by kernel_rfl) rfl
  | false =>
  rw [if_neg (by decide)]
  rcases Bool.eq_false_or_eq_true kn with h3 | h3
  · rw [if_neg (by rintro ⟨h, _⟩; rw [h3] at h; cases h)]
    cases h4 : decide (n > xn) with
    | true =>
      cases h5 : decide (Int.ofNat ms.length ≥ l) with
      | true =>
        rw [if_pos ⟨of_decide_eq_true h4, .inl (of_decide_eq_true h5)⟩]
        exact pure_of [(15, .b false), (18, .p (.sl false 1 nums)), (20, .p (boolX c)), (16, .b false), (22, .b true), (34, .b true), (41, .b true)] [] (pf7 h1 hnum hc h2 h3 h4 h5) (x := strX fullT) (bx := []) (by kernel_rfl) rfl
      | false =>
        cases h6 : decide (hd ≥ 256) with
        | true =>
          rw [if_pos ⟨of_decide_eq_true h4, .inr (of_decide_eq_true h6)⟩]
          exact pure_of [(15, .b false), (18, .p (.sl false 1 nums)), (20, .p (boolX c)), (16, .b false), (22, .b true), (34, .b true), (41, .b false), (44, .p (num hd)), (45, .b true)] [] (pf9 h1 hnum hc h2 h3 h4 h5 hh h6) (x := strX fullT) (bx := []) (by kernel_rfl) rfl
        | false =>
          rw [if_neg (fun h => h.2.elim (of_decide_eq_false h5) (of_decide_eq_false h6))]
          exact pure_of [(15, .b false), (18, .p (.sl false 1 nums)), (20, .p (boolX c)), (16, .b false), (22, .b true), (34, .b true), (41, .b false), (44, .p (num hd)), (45, .b false)] [] (pf9 h1 hnum hc h2 h3 h4 h5 hh h6) (x := strX emptyT) (bx := []) (by kernel_rfl) rfl
    | false =>
      rw [if_neg (fun h => of_decide_eq_false h4 h.1)]
      exact pure_of [(15, .b false), (18, .p (.sl false 1 nums)), (20, .p (boolX c)), (16, .b false), (22, .b true), (34, .b false)] [] (pf6 h1 hnum hc h2 h3 h4) (x := strX emptyT) (bx := []) (by kernel_rfl) rfl
  · cases h7 : decide (Int.ofNat ss.length ≥ 1024) with
    | true =>
      have h7' := of_decide_eq_true h7
      simp only [Int.ofNat_eq_natCast] at h7'
      rw [if_pos ⟨h3, by omega⟩]
      exact pure_of [(15, .b false), (18, .p (.sl false 1 nums)), (20, .p (boolX c)), (16, .b false), (22, .b false), (28, .b true)] [] (pf6 h1 hnum hc h2 h3 h7) (x := strX fullT) (bx := []) (by kernel_rfl) rfl
    | false =>
      have h7' := of_decide_eq_false h7
      simp only [Int.ofNat_eq_natCast] at h7'
      rw [if_neg (by rintro ⟨_, h⟩; omega)]
      cases h4 : decide (n > xn) with
      | true =>
        cases h5 : decide (Int.ofNat ms.length ≥ l) with
        | true =>
          rw [if_pos ⟨of_decide_eq_true h4, .inl (of_decide_eq_true h5)⟩]
          exact pure_of [(15, .b false), (18, .p (.sl false 1 nums)), (20, .p (boolX c)), (16, .b false), (22, .b false), (28, .b false), (34, .b true), (41, .b true)] [] (pf8 h1 hnum hc h2 h3 h7 h4 h5) (x := strX fullT) (bx := []) (by kernel_rfl) rfl
        | false =>
          cases h6 : decide (hd ≥ 256) with
          | true =>
            rw [if_pos ⟨of_decide_eq_true h4, .inr (of_decide_eq_true h6)⟩]
            exact pure_of [(15, .b false), (18, .p (.sl false 1 nums)), (20, .p (boolX c)), (16, .b false), (22, .b false), (28, .b false), (34, .b true), (41, .b false), (44, .p (num hd)), (45, .b true)] [] (pf10 h1 hnum hc h2 h3 h7 h4 h5 hh h6) (x := strX fullT) (bx := []) (by kernel_rfl) rfl
          | false =>
            rw [if_neg (fun h => h.2.elim (of_decide_eq_false h5) (of_decide_eq_false h6))]
            exact pure_of [(15, .b false), (18, .p (.sl false 1 nums)), (20, .p (boolX c)), (16, .b false), (22, .b false), (28, .b false), (34, .b true), (41, .b false), (44, .p (num hd)), (45, .b false)] [] (pf10 h1 hnum hc h2 h3 h7 h4 h5 hh h6) (x := strX emptyT) (bx := []) (by kernel_rfl) rfl
      | false =>
        rw [if_neg (fun h => of_decide_eq_false h4 h.1)]
        exact pure_of [(15, .b false), (18, .p (.sl false 1 nums)), (20, .p (boolX c)), (16, .b false), (22, .b false), (28, .b false), (34, .b false)] [] (pf7 h1 hnum hc h2 h3 h7 h4) (x := strX emptyT) (bx := []) (by kernel_rfl) rfl
end

/-! ### The iterator over the messages that follow -/
noncomputable def rsRec : Bx := .loop .ready none [(2, .ptr 1 0 0)] [7] (rfAt 109).1 (rfAt 109).2
noncomputable def rsI0 : List Bx := [rsRec, .var [.bs 2 0 0], .row 10 []]
noncomputable def rsI (j : Nat) (acc : List (List X)) : List Bx := [rsRec, .var [.bs 3 0 j], .dead, .row 10 acc]
noncomputable def rsS (j : Nat) (acc : List (List X)) : List Bx := [rsRec, .var [.bs 2 0 j], .row 10 acc]
theorem rs_yield0 (N : Nat) (m : Msg) : callF tab ext (N + 1) .yl [.yl 0, .agg m.cells] rsI0 = some (.v (.bool true), rsI 1 [m.cells]) := by
  obtain ⟨⟨e, p⟩, ms, o, ⟨a1, a2, a3, a4, a5, a6⟩⟩ := m
  exact yield_of [(11, .app)] (pf1 (app_ok (acc := []) 0 2 152 rfl (by omega) (by omega))) (by kernel_rfl)
theorem rs_yield (N j : Nat) (m : Msg) (acc : List (List X)) (hj : j = acc.length) (h : j < 4000) : callF tab ext (N + 1) .yl [.yl 0, .agg m.cells] (rsS j acc) = some (.v (.bool true), rsI (j + 1) (acc ++ [m.cells])) := by
  obtain ⟨⟨e, p⟩, ms, o, ⟨a1, a2, a3, a4, a5, a6⟩⟩ := m
  exact yield_of [(11, .app)] (pf1 (app_ok (acc := acc) j 2 152 hj (by omega) (by omega))) (by kernel_rfl)
end Go.Proofs.YtckdgafiindddaaGreatDoor

/- slices.Insert at the slots: copies of elements of more than one cell. -/
namespace Go.Proofs.YtckdgafiindddaaGreatDoor
open Go.Em Go.RowKit Go.Lib

theorem run_copy_k {P : Program} (w : World) (dT sT ty elem : TypeId) (k : Nat) (b o dLen dCap : Nat) (a : Addr) (sLen sCap : Nat) (cs : List Value)
    (hu : P.underlying dT = some (.slice elem)) (hs : (P.info? elem).map (·.size) = some k) (hn : cs.length = Nat.min sLen dLen * k)
    (hsrc : ∀ j v, cs[j]? = some v → w.cell? (a.add j) = some v) (hc : ∀ j, j < cs.length → (w.cell? ⟨b, o + j, none⟩).isSome = true) (hf : ∀ j, j < cs.length → w.frozen? ⟨b, o + j, none⟩ = false) (h1 : ∀ v ∈ cs, v.oneCell' = true) :
    (Builtin.copy_ #[dT, sT] ty #[.slice (some ⟨b, o, none⟩) dLen dCap, .slice (some a) sLen sCap]).run P w = .ok (goInt (Nat.min sLen dLen)) (w.setCells b o cs) := by
  have hl := run_loadCells_list (P := P) w a cs hsrc
  have hst := run_storeCells_cells (P := P) b o cs 0 w (by simpa using hc) (by simpa using hf) h1
  cases hq : P.info? elem with
  | none => simp [hq] at hs
  | some i =>
    have hi : i.size = k := by simpa [hq] using hs
    simp [Builtin.copy_, run_underlying hu, Builtin.lenOf, Builtin.firstCells, sizeOf, typeInfo, hq, hi, ← hn, hl, hst]

/-- The model's entry for slices.overlaps: two blocks, the second of which is plain memory. -/
theorem run_overlaps_own {P : Program} (w : World) (tS tR e : TypeId) (ht : P.underlying tS = some (.slice e)) (size : Nat) (hz : ∀ w, (Go.sizeOf e).run P w = .ok size w)
    (a b : Addr) (la ca lb cb : Nat) (hne : a.block ≠ b.block) (tA tB : TypeId) (kA kB : Nat)
    (hsa : w.shape? a.block = some (tA, kA)) (hsb : w.shape? b.block = some (tB, kB)) (hkB : kB ≠ 0) (hkA : kA ≠ 0)
    (hfb : w.frozen? b = false) (hfe : w.frozen? { block := b.block, off := kB } = false) :
    (Extern.SlicesOverlaps.overlaps #[tS, tS] #[tR] #[.slice (some a) la ca, .slice (some b) lb cb]).run P w = .ok (.bool false) w := by
  have hnb : (a.block != b.block) = true := by simpa using hne
  have hnb' : (a.block == b.block) = false := by simpa using hne
  change Sem.run P (α := Value) (do
    let some t := (#[tS, tS] : Array TypeId)[0]? | stuck "slices.overlaps: no parameter types"
    let .slice elem ← underlying t | stuck "slices.overlaps: slice type expected"
    let size ← sizeOf elem
    match (some a : Option Addr), (some b : Option Addr) with
    | some a, some b =>
      if la = 0 ∨ lb = 0 ∨ size = 0 then pure (Value.bool false)
      else if a.block != b.block && (← frozen a) && (← frozen b) then unsupported .addressObserved
      else do
        if a.block != b.block then do
          noView a; noView b
          if ← mayBeOne a b then return Value.bool ((← choose (.extern "sameAddr.stringBytes" 2)) == 1)
        pure (Value.bool (a.block == b.block && a.off < b.off + lb * size && b.off < a.off + la * size))
    | _, _ => pure (Value.bool false)) w = _
  by_cases h0 : la = 0 ∨ lb = 0 ∨ size = 0
  · simp [run_underlying ht, hz, h0]
  · cases kB with
    | zero => exact absurd rfl hkB
    | succ kB =>
      obtain ⟨kA, rfl⟩ : ∃ k, kA = k + 1 := ⟨kA - 1, by omega⟩
      cases hfa : w.frozen? a with
      | true => simp [run_underlying ht, hz, h0, hnb, hnb', frozen, noView, viewAt, mayBeOne, stringish, shape, Sem.run, hsa, hsb, hfb, hfe, hfa]
      | false =>
        cases hfx : w.frozen? { block := a.block, off := kA + 1 } with
        | true => simp [run_underlying ht, hz, h0, hnb, hnb', frozen, noView, viewAt, mayBeOne, stringish, shape, Sem.run, hsa, hsb, hfb, hfe, hfa, hfx]
        | false => simp [run_underlying ht, hz, h0, hnb, hnb', frozen, noView, viewAt, mayBeOne, stringish, shape, Sem.run, hsa, hsb, hfb, hfe, hfa, hfx]
/-- .. and where both lie in one block, apart. -/
theorem run_overlaps_same {P : Program} (w : World) (tS tR e : TypeId) (ht : P.underlying tS = some (.slice e)) (size : Nat) (hz : ∀ w, (Go.sizeOf e).run P w = .ok size w)
    (a b : Addr) (la ca lb cb : Nat) (hsame : a.block = b.block) (hd : ¬ (a.off < b.off + lb * size ∧ b.off < a.off + la * size)) :
    (Extern.SlicesOverlaps.overlaps #[tS, tS] #[tR] #[.slice (some a) la ca, .slice (some b) lb cb]).run P w = .ok (.bool false) w := by
  have hnb : (a.block != b.block) = false := by simpa using hsame
  have hnb' : (a.block == b.block) = true := by simpa using hsame
  have hd' : (decide (a.off < b.off + lb * size) && decide (b.off < a.off + la * size)) = false := by
    cases h : (decide (a.off < b.off + lb * size) && decide (b.off < a.off + la * size)) with
    | false => rfl
    | true => exact absurd (by simpa using h) hd
  change Sem.run P (α := Value) (do
    let some t := (#[tS, tS] : Array TypeId)[0]? | stuck "slices.overlaps: no parameter types"
    let .slice elem ← underlying t | stuck "slices.overlaps: slice type expected"
    let size ← sizeOf elem
    match (some a : Option Addr), (some b : Option Addr) with
    | some a, some b =>
      if la = 0 ∨ lb = 0 ∨ size = 0 then pure (Value.bool false)
      else if a.block != b.block && (← frozen a) && (← frozen b) then unsupported .addressObserved
      else do
        if a.block != b.block then do
          noView a; noView b
          if ← mayBeOne a b then return Value.bool ((← choose (.extern "sameAddr.stringBytes" 2)) == 1)
        pure (Value.bool (a.block == b.block && a.off < b.off + lb * size && b.off < a.off + la * size))
    | _, _ => pure (Value.bool false)) w = _
  by_cases h0 : la = 0 ∨ lb = 0 ∨ size = 0
  · simp [run_underlying ht, hz, h0]
  · simp [run_underlying ht, hz, h0, hnb, hnb', hd', frozen, Sem.run]
end Go.Proofs.YtckdgafiindddaaGreatDoor

/- slices.Clone at structs. -/
namespace Go.Proofs.YtckdgafiindddaaGreatDoor
open Go.Em Go.RowKit Go.Lib

theorem tabOk0 : TabOk Tryz.prog gl tab := by
  intro f fd h
  unfold tab at h
  split at h
  · exact ⟨_, h⟩
  · cases h
def ext0 : Ext := fun _ => none
theorem machine0 (n : Nat) : GamOk Tryz.prog (RCode Tryz.prog gl) (callF tab ext0 n) := callF_ok tabOk0 (fun _ _ h => by cases h) n
theorem roomC {n b : Nat} (h : n ≤ 1000000) (hb : b ≤ 1000) : roomOk n b = true := by
  have : n * b ≤ 1000000 * 1000 := Nat.mul_le_mul h hb
  simp only [roomOk, Bool.and_eq_true, decide_eq_true_eq]; omega

section
theorem clI86 : (Tryz.prog.info? 55).map (fun i => (i.zero.map (·.cells.size), i.size, i.bytes)) = some (some 10, 10, 152) := by kernel_rfl
theorem clU86 : Tryz.prog.underlying 24 = some (.slice 55) := by kernel_rfl
set_option maxHeartbeats 1000000 in
theorem clN86 (n c : Nat) (w : World) : Calls Tryz.prog 86 #[.slice none n c] w fun e w' => e = .returned (.slice none 0 0) ∧ w' = w := by
  have mixed : Tryz.prog.follows .mixedOrders = true := by kernel_rfl
  have q : ∀ (w : World) (a : Option Addr) (n c n' c' : Nat), (binOp .eql 24 (.slice a n c) (.slice none n' c')).run Tryz.prog w = .ok (.bool a.isNone) w := fun w a n c n' c' => Lib.run_eql_slice_nil w _ _ a n c n' c' clU86
  go_enter Tryz.func86, Tryz.ntmps86
  go_wp2
  go_ret
  exact ⟨rfl, rfl⟩
set_option maxHeartbeats 2000000 in
set_option maxRecDepth 100000 in
theorem clZ86 (a : Addr) (c : Nat) (w : World) : Calls Tryz.prog 86 #[.slice (some a) 0 c] w fun e w' => ∃ v', e = .returned v' ∧ w'.ownsRow w.heap.size 55 10 v' 0 [] ∧ Below w.heap.size w w' := by
  have mixed : Tryz.prog.follows .mixedOrders = true := by kernel_rfl
  obtain ⟨i0, hi, hzz⟩ := Option.map_eq_some_iff.1 clI86
  simp only [Prod.mk.injEq] at hzz
  obtain ⟨hz0, hz1, hz2⟩ := hzz
  obtain ⟨z, hz, hzs⟩ := Option.map_eq_some_iff.1 hz0
  have q : ∀ (w : World) (a : Option Addr) (n c n' c' : Nat), (binOp .eql 24 (.slice a n c) (.slice none n' c')).run Tryz.prog w = .ok (.bool a.isNone) w := fun w a n c n' c' => Lib.run_eql_slice_nil w _ _ a n c n' c' clU86
  have u : ∀ w, Sem.run Tryz.prog (underlying 24) w = .ok (TypeDesc.slice 55) w := run_underlying clU86
  go_enter Tryz.func86, Tryz.ntmps86
  go_wp2_with (at_builtin; refine wpList_append_own _ rfl _ _ 24 rfl w.heap.size 55 i0 z 10 152 clU86 hi hz hz1 hz2 hzs (by decide) _ _ _ rfl (World.ownsRow_made w #[] 0 (Nat.le_refl _) (Nat.zero_le _) rfl) a 0 c [] rfl rfl (by intro j u hj; simp at hj) (by intro u hu; cases hu) (by unfold maxLen; omega) (by omega) (by simp) ?_)
  intro v' w1 hown hgrow hnil
  go_wp2
  go_ret
  refine ⟨v', rfl, by simpa using hown, ?_⟩
  exact ((Below.refl _ w).alloc (Nat.le_refl _) _).grown hgrow (by simp) (by intro k hk; simp [Value.ownBlock] at hk; omega)
theorem clM86 (e : List X) (r : List (List X)) (t : Bool) (N : Nat) (h : (e :: r).length ≤ 1000000) : callF tab ext0 (N + 1) (.fn 86) [.sl t 10 (e :: r)] [] = some (.bs 0 0 (e :: r).length, [.row 10 (e :: r)]) := by
  have := callF_of (T := tab) (ext := ext0) (N := N) (f := 86) (args := [.sl t 10 (e :: r)]) (inb := []) (r := some (.bs 0 0 (0 + (e :: r).length), [.row 10 ([] ++ (e :: r))])) [(7, .fresh)] [] (pf1 (a := (e :: r).isEmpty = false ∧ roomOk (0 + (e :: r).length) 152 = true) ⟨rfl, by rw [Nat.zero_add]; exact roomC h (by decide)⟩) (by kernel_rfl)
  rw [Nat.zero_add, List.nil_append] at this
  exact this
theorem cl_sem86 (t : Bool) (es : List (List X)) (h : es.length ≤ 1000000) : FSem Tryz.prog (RCode Tryz.prog gl) 86 [.sl t 10 es] [] (.bs 0 0 es.length) [.row 10 es] := by
  cases es with
  | cons e r => exact ((machine0 1).fn _ _ _ _ _ (clM86 e r t 0 h)).2
  | nil =>
    intro K C w cargs hI ha
    have hs : cargs.size = 1 := ha.1
    have r0 := ha.2 0 _ cargs[0] rfl (Array.getElem?_eq_getElem (by omega))
    have hca : cargs = #[cargs[0]] := by
      refine Array.ext (by simp [hs]) fun i h1 h2 => ?_
      match i, h1, h2 with
      | 0, _, _ => rfl
      | i + 1, h1, _ => omega
    rw [hca]
    generalize cargs[0] = v at r0
    have key : Calls Tryz.prog 86 #[v] w fun e w' => ∃ v', e = .returned v' ∧ w'.ownsRow w.heap.size 55 10 v' 0 [] ∧ Below w.heap.size w w' := by
      generalize hx : X.sl t 10 [] = x at r0
      cases r0 <;> try cases hx
      case slNil ob =>
        cases ob with
        | none =>
          refine (clN86 0 0 w).mono ?_
          rintro e w' ⟨rfl, rfl⟩
          exact ⟨_, rfl, World.ownsRow_nil _ _ _ _, Below.refl _ _⟩
        | some a => exact clZ86 a 0 w
      case sl => exact clZ86 _ _ w
    exact fsem_none (inb := []) (args := []) hI key
end

section
theorem clI87 : (Tryz.prog.info? 53).map (fun i => (i.zero.map (·.cells.size), i.size, i.bytes)) = some (some 6, 6, 88) := by kernel_rfl
theorem clU87 : Tryz.prog.underlying 50 = some (.slice 53) := by kernel_rfl
set_option maxHeartbeats 1000000 in
theorem clN87 (n c : Nat) (w : World) : Calls Tryz.prog 87 #[.slice none n c] w fun e w' => e = .returned (.slice none 0 0) ∧ w' = w := by
  have mixed : Tryz.prog.follows .mixedOrders = true := by kernel_rfl
  have q : ∀ (w : World) (a : Option Addr) (n c n' c' : Nat), (binOp .eql 50 (.slice a n c) (.slice none n' c')).run Tryz.prog w = .ok (.bool a.isNone) w := fun w a n c n' c' => Lib.run_eql_slice_nil w _ _ a n c n' c' clU87
  go_enter Tryz.func87, Tryz.ntmps87
  go_wp2
  go_ret
  exact ⟨rfl, rfl⟩
set_option maxHeartbeats 2000000 in
set_option maxRecDepth 100000 in
theorem clZ87 (a : Addr) (c : Nat) (w : World) : Calls Tryz.prog 87 #[.slice (some a) 0 c] w fun e w' => ∃ v', e = .returned v' ∧ w'.ownsRow w.heap.size 53 6 v' 0 [] ∧ Below w.heap.size w w' := by
  have mixed : Tryz.prog.follows .mixedOrders = true := by kernel_rfl
  obtain ⟨i0, hi, hzz⟩ := Option.map_eq_some_iff.1 clI87
  simp only [Prod.mk.injEq] at hzz
  obtain ⟨hz0, hz1, hz2⟩ := hzz
  obtain ⟨z, hz, hzs⟩ := Option.map_eq_some_iff.1 hz0
  have q : ∀ (w : World) (a : Option Addr) (n c n' c' : Nat), (binOp .eql 50 (.slice a n c) (.slice none n' c')).run Tryz.prog w = .ok (.bool a.isNone) w := fun w a n c n' c' => Lib.run_eql_slice_nil w _ _ a n c n' c' clU87
  have u : ∀ w, Sem.run Tryz.prog (underlying 50) w = .ok (TypeDesc.slice 53) w := run_underlying clU87
  go_enter Tryz.func87, Tryz.ntmps87
  go_wp2_with (at_builtin; refine wpList_append_own _ rfl _ _ 50 rfl w.heap.size 53 i0 z 6 88 clU87 hi hz hz1 hz2 hzs (by decide) _ _ _ rfl (World.ownsRow_made w #[] 0 (Nat.le_refl _) (Nat.zero_le _) rfl) a 0 c [] rfl rfl (by intro j u hj; simp at hj) (by intro u hu; cases hu) (by unfold maxLen; omega) (by omega) (by simp) ?_)
  intro v' w1 hown hgrow hnil
  go_wp2
  go_ret
  refine ⟨v', rfl, by simpa using hown, ?_⟩
  exact ((Below.refl _ w).alloc (Nat.le_refl _) _).grown hgrow (by simp) (by intro k hk; simp [Value.ownBlock] at hk; omega)
theorem clM87 (e : List X) (r : List (List X)) (t : Bool) (N : Nat) (h : (e :: r).length ≤ 1000000) : callF tab ext0 (N + 1) (.fn 87) [.sl t 6 (e :: r)] [] = some (.bs 0 0 (e :: r).length, [.row 6 (e :: r)]) := by
  have := callF_of (T := tab) (ext := ext0) (N := N) (f := 87) (args := [.sl t 6 (e :: r)]) (inb := []) (r := some (.bs 0 0 (0 + (e :: r).length), [.row 6 ([] ++ (e :: r))])) [(7, .fresh)] [] (pf1 (a := (e :: r).isEmpty = false ∧ roomOk (0 + (e :: r).length) 88 = true) ⟨rfl, by rw [Nat.zero_add]; exact roomC h (by decide)⟩) (by kernel_rfl)
  rw [Nat.zero_add, List.nil_append] at this
  exact this
theorem cl_sem87 (t : Bool) (es : List (List X)) (h : es.length ≤ 1000000) : FSem Tryz.prog (RCode Tryz.prog gl) 87 [.sl t 6 es] [] (.bs 0 0 es.length) [.row 6 es] := by
  cases es with
  | cons e r => exact ((machine0 1).fn _ _ _ _ _ (clM87 e r t 0 h)).2
  | nil =>
    intro K C w cargs hI ha
    have hs : cargs.size = 1 := ha.1
    have r0 := ha.2 0 _ cargs[0] rfl (Array.getElem?_eq_getElem (by omega))
    have hca : cargs = #[cargs[0]] := by
      refine Array.ext (by simp [hs]) fun i h1 h2 => ?_
      match i, h1, h2 with
      | 0, _, _ => rfl
      | i + 1, h1, _ => omega
    rw [hca]
    generalize cargs[0] = v at r0
    have key : Calls Tryz.prog 87 #[v] w fun e w' => ∃ v', e = .returned v' ∧ w'.ownsRow w.heap.size 53 6 v' 0 [] ∧ Below w.heap.size w w' := by
      generalize hx : X.sl t 6 [] = x at r0
      cases r0 <;> try cases hx
      case slNil ob =>
        cases ob with
        | none =>
          refine (clN87 0 0 w).mono ?_
          rintro e w' ⟨rfl, rfl⟩
          exact ⟨_, rfl, World.ownsRow_nil _ _ _ _, Below.refl _ _⟩
        | some a => exact clZ87 a 0 w
      case sl => exact clZ87 _ _ w
    exact fsem_none (inb := []) (args := []) hI key
end

section
theorem clI69 : (Tryz.prog.info? 81).map (fun i => (i.zero.map (·.cells.size), i.size, i.bytes)) = some (some 5, 5, 80) := by kernel_rfl
theorem clU69 : Tryz.prog.underlying 35 = some (.slice 81) := by kernel_rfl
set_option maxHeartbeats 1000000 in
theorem clN69 (n c : Nat) (w : World) : Calls Tryz.prog 69 #[.slice none n c] w fun e w' => e = .returned (.slice none 0 0) ∧ w' = w := by
  have mixed : Tryz.prog.follows .mixedOrders = true := by kernel_rfl
  have q : ∀ (w : World) (a : Option Addr) (n c n' c' : Nat), (binOp .eql 35 (.slice a n c) (.slice none n' c')).run Tryz.prog w = .ok (.bool a.isNone) w := fun w a n c n' c' => Lib.run_eql_slice_nil w _ _ a n c n' c' clU69
  go_enter Tryz.func69, Tryz.ntmps69
  go_wp2
  go_ret
  exact ⟨rfl, rfl⟩
set_option maxHeartbeats 2000000 in
set_option maxRecDepth 100000 in
theorem clZ69 (a : Addr) (c : Nat) (w : World) : Calls Tryz.prog 69 #[.slice (some a) 0 c] w fun e w' => ∃ v', e = .returned v' ∧ w'.ownsRow w.heap.size 81 5 v' 0 [] ∧ Below w.heap.size w w' := by
  have mixed : Tryz.prog.follows .mixedOrders = true := by kernel_rfl
  obtain ⟨i0, hi, hzz⟩ := Option.map_eq_some_iff.1 clI69
  simp only [Prod.mk.injEq] at hzz
  obtain ⟨hz0, hz1, hz2⟩ := hzz
  obtain ⟨z, hz, hzs⟩ := Option.map_eq_some_iff.1 hz0
  have q : ∀ (w : World) (a : Option Addr) (n c n' c' : Nat), (binOp .eql 35 (.slice a n c) (.slice none n' c')).run Tryz.prog w = .ok (.bool a.isNone) w := fun w a n c n' c' => Lib.run_eql_slice_nil w _ _ a n c n' c' clU69
  have u : ∀ w, Sem.run Tryz.prog (underlying 35) w = .ok (TypeDesc.slice 81) w := run_underlying clU69
  go_enter Tryz.func69, Tryz.ntmps69
  go_wp2_with (at_builtin; refine wpList_append_own _ rfl _ _ 35 rfl w.heap.size 81 i0 z 5 80 clU69 hi hz hz1 hz2 hzs (by decide) _ _ _ rfl (World.ownsRow_made w #[] 0 (Nat.le_refl _) (Nat.zero_le _) rfl) a 0 c [] rfl rfl (by intro j u hj; simp at hj) (by intro u hu; cases hu) (by unfold maxLen; omega) (by omega) (by simp) ?_)
  intro v' w1 hown hgrow hnil
  go_wp2
  go_ret
  refine ⟨v', rfl, by simpa using hown, ?_⟩
  exact ((Below.refl _ w).alloc (Nat.le_refl _) _).grown hgrow (by simp) (by intro k hk; simp [Value.ownBlock] at hk; omega)
theorem clM69 (e : List X) (r : List (List X)) (t : Bool) (N : Nat) (h : (e :: r).length ≤ 1000000) : callF tab ext0 (N + 1) (.fn 69) [.sl t 5 (e :: r)] [] = some (.bs 0 0 (e :: r).length, [.row 5 (e :: r)]) := by
  have := callF_of (T := tab) (ext := ext0) (N := N) (f := 69) (args := [.sl t 5 (e :: r)]) (inb := []) (r := some (.bs 0 0 (0 + (e :: r).length), [.row 5 ([] ++ (e :: r))])) [(7, .fresh)] [] (pf1 (a := (e :: r).isEmpty = false ∧ roomOk (0 + (e :: r).length) 80 = true) ⟨rfl, by rw [Nat.zero_add]; exact roomC h (by decide)⟩) (by kernel_rfl)
  rw [Nat.zero_add, List.nil_append] at this
  exact this
theorem cl_sem69 (t : Bool) (es : List (List X)) (h : es.length ≤ 1000000) : FSem Tryz.prog (RCode Tryz.prog gl) 69 [.sl t 5 es] [] (.bs 0 0 es.length) [.row 5 es] := by
  cases es with
  | cons e r => exact ((machine0 1).fn _ _ _ _ _ (clM69 e r t 0 h)).2
  | nil =>
    intro K C w cargs hI ha
    have hs : cargs.size = 1 := ha.1
    have r0 := ha.2 0 _ cargs[0] rfl (Array.getElem?_eq_getElem (by omega))
    have hca : cargs = #[cargs[0]] := by
      refine Array.ext (by simp [hs]) fun i h1 h2 => ?_
      match i, h1, h2 with
      | 0, _, _ => rfl
      | i + 1, h1, _ => omega
    rw [hca]
    generalize cargs[0] = v at r0
    have key : Calls Tryz.prog 69 #[v] w fun e w' => ∃ v', e = .returned v' ∧ w'.ownsRow w.heap.size 81 5 v' 0 [] ∧ Below w.heap.size w w' := by
      generalize hx : X.sl t 5 [] = x at r0
      cases r0 <;> try cases hx
      case slNil ob =>
        cases ob with
        | none =>
          refine (clN69 0 0 w).mono ?_
          rintro e w' ⟨rfl, rfl⟩
          exact ⟨_, rfl, World.ownsRow_nil _ _ _ _, Below.refl _ _⟩
        | some a => exact clZ69 a 0 w
      case sl => exact clZ69 _ _ w
    exact fsem_none (inb := []) (args := []) hI key
end

end Go.Proofs.YtckdgafiindddaaGreatDoor

/- The resequencer: the messages that follow a number are taken off a group. -/
namespace Go.Proofs.YtckdgafiindddaaGreatDoor
open Go.Em
set_option maxRecDepth 100000

/-- A round of a loop: the kernel computes its end and the head that it comes to. -/
theorem rd_of {Γ : Gam} {nIn fu : Nat} {ps : List Prop} (ans : List (Nat × Ans)) (hp : allP ps) {m : C} {σ σ' : St} (h : (match runA Γ ans nIn fu m σ [] with | some (.norm, υ, [], qs) => (canon nIn υ).map fun ω => (ω, qs) | _ => none) = some (σ', ps)) : ∃ υ, run Γ nIn fu m σ = some (.norm, υ) ∧ canon nIn υ = some σ' := by
  split at h
  · rename_i υ qs e
    obtain ⟨ω, hω, e2⟩ := Option.map_eq_some_iff.1 h
    simp only [Prod.mk.injEq] at e2
    obtain ⟨rfl, rfl⟩ := e2
    exact ⟨υ, runA_sound e hp, hω⟩
  · cases h
section
variable (sc : List X) (nx : Int) (nums : List (List X)) (n : Nat)
def rlTm (j : Nat) : List (Nat × X) := [(0, .yl 0), (1, .dp sc), (2, .dp [num nx]), (7, .sl false 1 nums), (8, nat n), (9, nat j)]
noncomputable def rl0 : St := ⟨rlTm sc nx nums n 0, rsI0⟩
noncomputable def rlJ (j : Nat) (acc : List (List X)) : St := ⟨rlTm sc nx nums n j, rsI j acc⟩
end
theorem rl_step0 (x1 x2 x3 xn xt nx y : Int) (x4 : ByteArray) (x5 x6 ms vs nums : List (List X)) (n N : Nat) (m : Msg) (h0 : 0 < n) (hg : nums[0]? = some [num y]) (hy : (y != IntKind.i64.wrap (nx + Int.ofNat 0)) = false) (hm : ms[0]? = some m.cells) (hl : decide (Int.ofNat 0 ≥ Int.ofNat ms.length) = false) :
    ∃ υ, run (callF tab ext (N + 1)) 3 (N + 1) (loopAt 110 0) (rl0 (slC x1 x2 x3 xn xt x4 x5 x6 ms vs) nx nums n) = some (.norm, υ) ∧ canon 3 υ = some (rlJ (slC x1 x2 x3 xn xt x4 x5 x6 ms vs) nx nums n 1 [m.cells]) := by
  have hc := rs_yield0 N m
  obtain ⟨⟨e, p⟩, mm, o, ⟨a1, a2, a3, a4, a5, a6⟩⟩ := m
  exact rd_of [(10, .b true), (12, .e [num y]), (18, .b false), (24, .b false), (31, .e (Msg.mk ⟨e, p⟩ mm o (.mk a1 a2 a3 a4 a5 a6)).cells), (33, .r (.v (.bool true)) (rsI 1 [(Msg.mk ⟨e, p⟩ mm o (.mk a1 a2 a3 a4 a5 a6)).cells])), (36, .i (Int.ofNat (0 + 1)))]
    (pf7 (lt_nat h0) hg hy hl hm hc (next_nat (j := 0) (by omega))) (by kernel_rfl)
theorem rl_step (x1 x2 x3 xn xt nx y : Int) (x4 : ByteArray) (x5 x6 ms vs nums acc : List (List X)) (n N j : Nat) (m : Msg) (h0 : j < n) (hj : j = acc.length) (hj2 : j < 4000) (hg : nums[j]? = some [num y]) (hy : (y != IntKind.i64.wrap (nx + Int.ofNat j)) = false) (hm : ms[j]? = some m.cells) (hl : decide (Int.ofNat j ≥ Int.ofNat ms.length) = false) :
    ∃ υ, run (callF tab ext (N + 1)) 3 (N + 1) (loopAt 110 0) (rlJ (slC x1 x2 x3 xn xt x4 x5 x6 ms vs) nx nums n j acc) = some (.norm, υ) ∧ canon 3 υ = some (rlJ (slC x1 x2 x3 xn xt x4 x5 x6 ms vs) nx nums n (j + 1) (acc ++ [m.cells])) := by
  have hc := rs_yield N j m acc hj hj2
  obtain ⟨⟨e, p⟩, mm, o, ⟨a1, a2, a3, a4, a5, a6⟩⟩ := m
  exact rd_of [(10, .b true), (12, .e [num y]), (18, .b false), (24, .b false), (31, .e (Msg.mk ⟨e, p⟩ mm o (.mk a1 a2 a3 a4 a5 a6)).cells), (33, .r (.v (.bool true)) (rsI (j + 1) (acc ++ [(Msg.mk ⟨e, p⟩ mm o (.mk a1 a2 a3 a4 a5 a6)).cells]))), (36, .i (Int.ofNat (j + 1)))]
    (pf7 (lt_nat h0) hg hy hl hm hc (next_nat (j := j) (by omega))) (by kernel_rfl)
section
variable (x1 x2 x3 xn xt nx y : Int) (x4 : ByteArray) (x5 x6 ms vs nums acc : List (List X)) (n M j : Nat)
theorem rl_end0 : run (callF tab ext M) 3 M (loopAt 110 0) (rl0 (slC x1 x2 x3 xn xt x4 x5 x6 ms vs) nx nums 0) = some (.exit 0, ⟨rlTm (slC x1 x2 x3 xn xt x4 x5 x6 ms vs) nx nums 0 0 ++ [(10, boolX false)], rsI0⟩) :=
  run_of [(10, .b false)] [] (pf1 (nlt_nat (Nat.lt_irrefl 0))) (lo' := []) (by kernel_rfl)
theorem rl_end (hn : ¬ j < n) : run (callF tab ext M) 3 M (loopAt 110 0) (rlJ (slC x1 x2 x3 xn xt x4 x5 x6 ms vs) nx nums n j acc) = some (.exit 0, ⟨rlTm (slC x1 x2 x3 xn xt x4 x5 x6 ms vs) nx nums n j ++ [(10, boolX false)], rsI j acc⟩) :=
  run_of [(10, .b false)] [] (pf1 (nlt_nat hn)) (lo' := []) (by kernel_rfl)
theorem rl_ret0 (h0 : 0 < n) (hg : nums[0]? = some [num y]) (hy : (y != IntKind.i64.wrap (nx + Int.ofNat 0)) = true) : run (callF tab ext M) 3 M (loopAt 110 0) (rl0 (slC x1 x2 x3 xn xt x4 x5 x6 ms vs) nx nums n) = some (.ret, ⟨rlTm (slC x1 x2 x3 xn xt x4 x5 x6 ms vs) nx nums n 0 ++ [(35, boolX true)], rsI0⟩) :=
  run_of [(10, .b true), (12, .e [num y]), (18, .b true)] [] (pf3 (lt_nat h0) hg hy) (lo' := []) (by kernel_rfl)
theorem rl_ret (h0 : j < n) (hg : nums[j]? = some [num y]) (hy : (y != IntKind.i64.wrap (nx + Int.ofNat j)) = true) : run (callF tab ext M) 3 M (loopAt 110 0) (rlJ (slC x1 x2 x3 xn xt x4 x5 x6 ms vs) nx nums n j acc) = some (.ret, ⟨rlTm (slC x1 x2 x3 xn xt x4 x5 x6 ms vs) nx nums n j ++ [(35, boolX true)], rsI j acc⟩) :=
  run_of [(10, .b true), (12, .e [num y]), (18, .b true)] [] (pf3 (lt_nat h0) hg hy) (lo' := []) (by kernel_rfl)
theorem rl_canon0 : canon 3 (rl0 (slC x1 x2 x3 xn xt x4 x5 x6 ms vs) nx nums n) = some (rl0 (slC x1 x2 x3 xn xt x4 x5 x6 ms vs) nx nums n) := by kernel_rfl
theorem it_exit0 (hn : Gam.pureD (callF tab ext M) 45 [.agg (slC x1 x2 x3 xn xt x4 x5 x6 ms vs)] = some (.sl false 1 nums)) (σ : St) (hσ : σ.bx = rsI0) (e : Ex) (he : e = .exit 0 ∨ e = .ret) (hl : run (callF tab ext M) 3 M (.loop (loopAt 110 0)) (rl0 (slC x1 x2 x3 xn xt x4 x5 x6 ms vs) nx nums nums.length) = some (e, ⟨σ.tm, rsI0⟩)) :
    callF tab ext (M + 1) (.fn 110) [.yl 0, .dp (slC x1 x2 x3 xn xt x4 x5 x6 ms vs), .dp [num nx]] rsI0 = some (.tup [], rsI0) := by
  obtain ⟨tm, bx⟩ := σ
  rcases he with rfl | rfl
  · exact callF_of [(7, .p (.sl false 1 nums))] [(.exit 0, ⟨tm, rsI0⟩)] (pf2 hn hl) (by kernel_rfl)
  · exact callF_of [(7, .p (.sl false 1 nums))] [(.ret, ⟨tm, rsI0⟩)] (pf2 hn hl) (by kernel_rfl)
theorem it_exit (hn : Gam.pureD (callF tab ext M) 45 [.agg (slC x1 x2 x3 xn xt x4 x5 x6 ms vs)] = some (.sl false 1 nums)) (tm : List (Nat × X)) (e : Ex) (he : e = .exit 0 ∨ e = .ret) (hl : run (callF tab ext M) 3 M (.loop (loopAt 110 0)) (rl0 (slC x1 x2 x3 xn xt x4 x5 x6 ms vs) nx nums nums.length) = some (e, ⟨tm, rsI j acc⟩)) :
    callF tab ext (M + 1) (.fn 110) [.yl 0, .dp (slC x1 x2 x3 xn xt x4 x5 x6 ms vs), .dp [num nx]] rsI0 = some (.tup [], rsI j acc) := by
  rcases he with rfl | rfl
  · exact callF_of [(7, .p (.sl false 1 nums))] [(.exit 0, ⟨tm, rsI j acc⟩)] (pf2 hn hl) (by kernel_rfl)
  · exact callF_of [(7, .p (.sl false 1 nums))] [(.ret, ⟨tm, rsI j acc⟩)] (pf2 hn hl) (by kernel_rfl)
end
end Go.Proofs.YtckdgafiindddaaGreatDoor

/- The resequencer: release. -/
namespace Go.Proofs.YtckdgafiindddaaGreatDoor
open Go.Em
set_option maxRecDepth 100000

theorem wrap_add {nx : Int} (h : 0 ≤ nx) (h2 : nx ≤ 4611686018427387904) {j : Nat} (hj : j ≤ 1000000) : IntKind.i64.wrap (nx + Int.ofNat j) = nx + (j : Int) := by
  rw [IntKind.wrap_i64]; simp only [Int.ofNat_eq_natCast]; omega
section
variable (x1 x2 x3 xn xt nx : Int) (x4 : ByteArray) (x5 x6 vs : List (List X)) (ms : List Msg) (L : List Int) (r M : Nat)
noncomputable def rlS (j : Nat) : St := match j with
  | 0 => rl0 (slC x1 x2 x3 xn xt x4 x5 x6 (msgsC ms) vs) nx (intsC L) (intsC L).length
  | j + 1 => rlJ (slC x1 x2 x3 xn xt x4 x5 x6 (msgsC ms) vs) nx (intsC L) (intsC L).length (j + 1) (msgsC (ms.take (j + 1)))
theorem iter371 (hr : r ≤ L.length) (hlm : L.length ≤ ms.length) (hrun : ∀ j (h : j < r), L[j] = nx + (j : Int)) (hstop : ∀ h : r < L.length, L[r] ≠ nx + (r : Int)) (h0 : 0 ≤ nx) (h2 : nx ≤ 4611686018427387904) (hl : L.length ≤ 1000) (hM : 2000 ≤ M)
    (hn : Gam.pureD (callF tab ext M) 45 [.agg (slC x1 x2 x3 xn xt x4 x5 x6 (msgsC ms) vs)] = some (.sl false 1 (intsC L))) :
    callF tab ext (M + 1) (.fn 110) [.yl 0, .dp (slC x1 x2 x3 xn xt x4 x5 x6 (msgsC ms) vs), .dp [num nx]] rsI0 = some (.tup [], if r = 0 then rsI0 else rsI r (msgsC (ms.take r))) := by
  obtain ⟨N, rfl⟩ : ∃ N, M = N + 1 := ⟨M - 1, by omega⟩
  have hlen := intsC_len L
  have hml := msgsC_length ms
  have hstep : ∀ j, j < r → ∃ υ, run (callF tab ext (N + 1)) 3 (N + 1) (loopAt 110 0) (rlS x1 x2 x3 xn xt nx x4 x5 x6 vs ms L j) = some (.norm, υ) ∧ canon 3 υ = some (rlS x1 x2 x3 xn xt nx x4 x5 x6 vs ms L (j + 1)) := fun j hj => by
    have hjL : j < L.length := by omega
    have hjm : j < ms.length := by omega
    have hg := intsI_get hjL
    have hy : (L[j] != IntKind.i64.wrap (nx + Int.ofNat j)) = false := by rw [wrap_add h0 h2 (by omega), hrun j hj]; simp
    have hm := msgsC_get hjm
    have hd : decide (Int.ofNat j ≥ Int.ofNat (msgsC ms).length) = false := decide_eq_false (by simp only [Int.ofNat_eq_natCast]; omega)
    have hn0 : j < (intsC L).length := by omega
    have ht : msgsC (ms.take (j + 1)) = msgsC (ms.take j) ++ [ms[j].cells] := by
      unfold msgsC; rw [List.take_succ_eq_append_getElem hjm, List.map_append]; rfl
    cases j with
    | zero =>
      have := rl_step0 x1 x2 x3 xn xt nx L[0] x4 x5 x6 (msgsC ms) vs (intsC L) (intsC L).length N ms[0] hn0 hg hy hm hd
      have e : msgsC (ms.take 1) = [ms[0].cells] := by rw [ht]; rfl
      show ∃ υ, _ ∧ canon 3 υ = some (rlJ _ _ _ _ 1 (msgsC (ms.take 1)))
      rw [e]; exact this
    | succ j =>
      have hacc : j + 1 = (msgsC (ms.take (j + 1))).length := by rw [msgsC_length, List.length_take]; omega
      have := rl_step x1 x2 x3 xn xt nx L[j + 1] x4 x5 x6 (msgsC ms) vs (intsC L) (msgsC (ms.take (j + 1))) (intsC L).length N (j + 1) ms[j + 1] hn0 hacc (by omega) hg hy hm hd
      rw [← ht] at this
      exact this
  have hloop : ∀ (e : Ex) (fin : St), run (callF tab ext (N + 1)) 3 (N + 1) (loopAt 110 0) (rlS x1 x2 x3 xn xt nx x4 x5 x6 vs ms L r) = some (e, fin) → e ≠ .norm → run (callF tab ext (N + 1)) 3 (N + 1) (.loop (loopAt 110 0)) (rl0 (slC x1 x2 x3 xn xt x4 x5 x6 (msgsC ms) vs) nx (intsC L) (intsC L).length) = some (e, fin) := fun e fin he hne =>
    loop_for (σ := rlS x1 x2 x3 xn xt nx x4 x5 x6 vs ms L) (k := r) (rl_canon0 ..) hstep he hne (by omega)
  by_cases hz : r = 0
  · subst hz
    rw [if_pos rfl]
    by_cases hL : L.length = 0
    · obtain rfl := List.length_eq_zero_iff.1 hL
      have he := rl_end0 x1 x2 x3 xn xt nx x4 x5 x6 (msgsC ms) vs (intsC []) (N + 1)
      have := hloop _ _ he (by simp)
      exact it_exit0 x1 x2 x3 xn xt nx x4 x5 x6 (msgsC ms) vs (intsC []) (N + 1) hn ⟨_, rsI0⟩ rfl _ (.inl rfl) this
    · have hs := hstop (by omega)
      have hy : (L[0] != IntKind.i64.wrap (nx + Int.ofNat 0)) = true := by rw [wrap_add h0 h2 (by omega)]; simpa using hs
      have he := rl_ret0 x1 x2 x3 xn xt nx L[0] x4 x5 x6 (msgsC ms) vs (intsC L) (intsC L).length (N + 1) (by omega) (intsI_get (by omega)) hy
      have := hloop _ _ he (by simp)
      exact it_exit0 x1 x2 x3 xn xt nx x4 x5 x6 (msgsC ms) vs (intsC L) (N + 1) hn ⟨_, rsI0⟩ rfl _ (.inr rfl) this
  · rw [if_neg hz]
    obtain ⟨q, rfl⟩ : ∃ q, r = q + 1 := ⟨r - 1, by omega⟩
    by_cases hL : q + 1 = L.length
    · have he := rl_end x1 x2 x3 xn xt nx x4 x5 x6 (msgsC ms) vs (intsC L) (msgsC (ms.take (q + 1))) (intsC L).length (N + 1) (q + 1) (by omega)
      have := hloop _ _ he (by simp)
      exact it_exit x1 x2 x3 xn xt nx x4 x5 x6 (msgsC ms) vs (intsC L) (msgsC (ms.take (q + 1))) (N + 1) (q + 1) hn _ _ (.inl rfl) this
    · have hs := hstop (by omega)
      have hy : (L[q + 1] != IntKind.i64.wrap (nx + Int.ofNat (q + 1))) = true := by rw [wrap_add h0 h2 (by omega)]; simpa using hs
      have he := rl_ret x1 x2 x3 xn xt nx L[q + 1] x4 x5 x6 (msgsC ms) vs (intsC L) (msgsC (ms.take (q + 1))) (intsC L).length (N + 1) (q + 1) (by omega) (intsI_get (by omega)) hy
      have := hloop _ _ he (by simp)
      exact it_exit x1 x2 x3 xn xt nx x4 x5 x6 (msgsC ms) vs (intsC L) (msgsC (ms.take (q + 1))) (N + 1) (q + 1) hn _ _ (.inr rfl) this
end
/-! ### slices.Collect -/
section
variable (sc : List X) (nx : Int) (acc : List (List X)) (r M : Nat)
def apTm : List (Nat × X) := [(2, .ptr 0 0 0), (6, .fn 110 [.dp sc, .dp [num nx]])]
noncomputable def rsRc : Bx := .loop .ready none [(2, .ptr 0 0 0)] [7] (rfAt 109).1 (rfAt 109).2
theorem ap_rf0 (hy : callF tab ext M (.fn 110) [.yl 0, .dp sc, .dp [num nx]] rsI0 = some (.tup [], rsI0)) :
    run (callF tab ext M) 0 M (.rf (.t 6) [7] [2] (rfAt 109).1 (rfAt 109).2) ⟨apTm sc nx, [.var [.bs 1 0 0], .row 10 []]⟩ = some (.norm, ⟨apTm sc nx, [.var [.bs 1 0 0], .row 10 [], .dead]⟩) :=
  rf_of (g := 110) (caps := [.dp sc, .dp [num nx]]) (y := .tup []) (outb := rsI0) (q := (.tup [], [.var [.bs 1 0 0], .row 10 [], rsRc], [2, 0, 1])) hy (by kernel_rfl) (by kernel_rfl) (by kernel_rfl)
theorem ap_rf (hy : callF tab ext M (.fn 110) [.yl 0, .dp sc, .dp [num nx]] rsI0 = some (.tup [], rsI r acc)) :
    run (callF tab ext M) 0 M (.rf (.t 6) [7] [2] (rfAt 109).1 (rfAt 109).2) ⟨apTm sc nx, [.var [.bs 1 0 0], .row 10 []]⟩ = some (.norm, ⟨apTm sc nx, [.var [.bs 3 0 r], .dead, .dead, .row 10 acc]⟩) :=
  rf_of (g := 110) (caps := [.dp sc, .dp [num nx]]) (y := .tup []) (outb := rsI r acc) (q := (.tup [], [.var [.bs 3 0 r], .dead, rsRc, .row 10 acc], [2, 0, 1])) hy (by kernel_rfl) (by kernel_rfl) (by kernel_rfl)
theorem ap_call0 (hy : callF tab ext M (.fn 110) [.yl 0, .dp sc, .dp [num nx]] rsI0 = some (.tup [], rsI0)) : callF tab ext (M + 1) (.fn 109) [.sl true 10 [], .fn 110 [.dp sc, .dp [num nx]]] [] = some (.bs 0 0 0, [.row 10 []]) :=
  callF_of [] [(.norm, ⟨apTm sc nx, [.var [.bs 1 0 0], .row 10 [], .dead]⟩)] (pf1 (ap_rf0 sc nx M hy)) (by kernel_rfl)
theorem ap_call (hy : callF tab ext M (.fn 110) [.yl 0, .dp sc, .dp [num nx]] rsI0 = some (.tup [], rsI r acc)) : callF tab ext (M + 1) (.fn 109) [.sl true 10 [], .fn 110 [.dp sc, .dp [num nx]]] [] = some (.bs 0 0 r, [.row 10 acc]) :=
  callF_of [] [(.norm, ⟨apTm sc nx, [.var [.bs 3 0 r], .dead, .dead, .row 10 acc]⟩)] (pf1 (ap_rf sc nx acc r M hy)) (by kernel_rfl)
end
end Go.Proofs.YtckdgafiindddaaGreatDoor

/- resequencer.Check, and the definition of it. -/
namespace Go.Proofs.YtckdgafiindddaaGreatDoor
open Go.Em
set_option maxRecDepth 100000

def Val.intOf : Val → Int
  | .mk _ i _ _ _ _ => i
section
variable (vs : List (List X)) (n : Nat) (l : Int) (j : Nat)
end
end Go.Proofs.YtckdgafiindddaaGreatDoor
