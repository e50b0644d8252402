/- ThrottleDue comes to true. -/
import Derived.WalkKit
import Derived.Deep.LoopGhost
import Derived.Shelf.Spec.SlicesInsertGrow
import Derived.Shelf.Slices.Clone
import Derived.Shelf.Unicode.ValidAny
import Derived.Test.YtjfheahakfoofaaGreatDoorDelays16
namespace Go.Proofs.YtjfheahakfoofaaGreatDoor
open Go.Em

def tick (t : Int) : Inp := ⟨2, t, ⟨7, [0, 3]⟩, ⟨⟨0, []⟩, 0, [], nulV⟩, 0, false, false, nulV⟩
theorem tick_ok (t : Int) : (tick t).ok :=
  ⟨show ([0, 3] : List Int).length ≤ 100 by decide, ⟨⟨show ([] : List Int).length ≤ 60000 by decide⟩, show ([] : List Int).length ≤ 60000 by decide, show nulV.size ≤ 60000 by decide⟩⟩
theorem ticks_pure (N : Nat) (t : Int) : Gam.pureD (callF tab ext (N + 1)) 22 [num 7, num t] = some (.agg (tick t).cells) :=
  pure_of [] [] pf0 (x := .agg ([num 2, num t, num 7, .sl true 1 ([[num 0], [num 3]]), num 0, .sl true 1 [], num 0, .sl true 1 [], num 0, num 0, num 0, noText, .sl true 6 [], .sl true 7 [], num 0, boolX false, boolX false, num 0, num 0, num 0, noText, .sl true 6 [], .sl true 7 []])) (bx := []) (by kernel_rfl) rfl
theorem step_del (N : Nat) (hN : 190070 ≤ N) (n : Nod) (hk : n.kind = 8) (s : Stt) (hs : s.small) (hacc : (accOf s.slots).length ≤ 3000) (t : Int) : Gam.pureD (callF tab ext N) 11 [.agg n.cells, .agg s.cells, .agg (tick t).cells] = some (.agg (delF n s ⟨7, [0, 3]⟩ (clampF t 0 maxTime)).cells) := by
  obtain ⟨M, rfl⟩ : ∃ M, N = M + 1 := ⟨N - 1, by omega⟩
  have hcl := clone_state_pure M s hs.ok (by omega)
  obtain ⟨ci, hci, h1, h2, h3⟩ := cin_of (tick t)
  have h := delay_clk M (by omega) n s hs hacc ci ⟨7, [0, 3]⟩ (by decide) h2 h3
  rw [h1] at h
  have h1 : (n.kind == 8) = true := by simpa using hk
  change Gam.pureD (callF tab ext M) 30 [.agg n.cells, .agg s.cells, .agg (ci.cells (tick t).kind)] = some (.agg (delF n s ⟨7, [0, 3]⟩ (clampF t 0 maxTime)).cells) at h
  rw [← hci] at h
  generalize delF n s ⟨7, [0, 3]⟩ (clampF t 0 maxTime) = oc at h
  exact pure_of [(8, .p (.agg s.cells)), (11, .b true), (15, .p (.agg oc.cells))] [] (pf3 hcl h1 h) (x := .agg oc.cells) (bx := []) (by kernel_rfl) rfl
theorem outs_pos {l : List Otp} (h : 0 < l.length) : Int.ofNat (otpsC l).length > 0 := by
  have : (otpsC l).length = l.length := by simp [otpsC]
  simp only [Int.ofNat_eq_natCast]; omega
theorem accOf_bound : ∀ {l : List Slt}, (∀ x, x ∈ l → x.items.length ≤ 4) → (accOf l).length ≤ 4 * l.length
  | [], _ => by simp [accOf]
  | x :: r, h => by
    have h1 := accOf_bound (l := r) fun y hy => h y (List.mem_cons_of_mem _ hy)
    have h2 := h x (by simp)
    simp only [accOf, List.flatMap_cons, List.length_append, List.length_cons] at h1 ⊢
    omega
theorem shortS_acc (s : Stt) : (accOf (shortS s).slots).length ≤ 24 := by
  have h := accOf_bound (l := (s.slots.take 6).map shortL) fun x hx => by
    obtain ⟨y, _, rfl⟩ := List.mem_map.1 hx
    show ((y.items.take 4).map shortM).length ≤ 4
    rw [List.length_map, List.length_take]; omega
  rw [List.length_map, List.length_take] at h
  show (accOf ((s.slots.take 6).map shortL)).length ≤ 24
  omega

/-- A node whose number is one of int's. -/
def isNode9 (c : List X) : Prop := isNode c ∧ ∀ z, c[4]? = some (num z) → z ≤ 9223372036854775807
theorem node_of9 {c : List X} (h : isNode9 c) : ∃ nd nd' : Nod, c = nd.cells ∧ nd'.number ≤ 9223372036854775807 ∧ ∀ N, 220 ≤ N → Gam.pureD (callF tab ext N) 19 [.agg nd.cells] = some (.agg nd'.cells) := by
  obtain ⟨⟨name, k1, k2, k3, k4, k5, k6, text, T, ty, ex, ru, ca, ne, rfl, hT, hty, hex, hru, hca⟩, h4⟩ := h
  obtain ⟨a, b, c, d, w, e, f, a', b', c', d', w', e', f', ty', ex', ru', ca', ne', rfl, hc⟩ := short_node name text k1 k2 k3 k4 k5 k6 T ty ex ru ca ne hT hty hex hru hca
  exact ⟨⟨name, k1, k2, k3, k4, k5, k6, text, (a, b, c, d), w, e, f, ty, ex, ca, ru, ne⟩, ⟨cutT 60 name, k1, k2, k3, k4, k5, k6, cutT 60 text, (a', b', c', d'), w', e', f', ty', ex', ca', ru', ne'⟩, rfl, h4 k4 rfl, hc⟩

set_option maxRecDepth 100000 in
theorem due_all (cn : List X) (hcn : isNode9 cn) (s0 : Stt) (tm : Int) : callF tab ext 190301 (.fn 7) [.agg cn, .agg s0.cells, num tm] [] = some (.v (.bool true), []) := by
  obtain ⟨n0, n, rfl, hnum, hn⟩ := node_of9 hcn
  have hn := hn 190300 (by omega)
  have hs := short_state s0 190300 (by omega)
  have hsm := shortS_small s0
  have hac := shortS_acc s0
  generalize shortS s0 = s at hs hsm hac
  obtain ⟨c, hc⟩ := state_comes s hsm
  have hk := known_at 189900
  obtain ⟨t, hmx⟩ : ∃ t, maxI s.t (minI tm 17592186044416) = t := ⟨_, rfl⟩
  have htick := ticks_pure 190299 t
  have he := stt_refl 190300 s hsm.ok (by omega)
  have hbt : s.t ≤ 17592186044416 → s.t ≤ t ∧ t ≤ 17592186044416 := fun h => by
    subst hmx
    unfold maxI minI
    split <;> split <;> omega
  cases h1 : (!(n.kind == 8)) with
  | true =>
    have hm := check_pure { n with kind := 7 } s hsm c hc 190300 (by omega)
    have hd := due_thr 190300 (by omega) { n with kind := 7 } (show (7 : Int) ≠ 8 by decide) s hsm
    generalize hf : checkF { n with kind := 7 } s c = f at hm
    by_cases hz : f = 0
    · subst hz
      have hcr : c = 0 ∧ rightS s = true := by
        unfold checkF at hf
        rw [if_pos rfl] at hf
        split at hf
        · rename_i h; exact absurd hf h
        · rename_i h
          split at hf
          · rename_i h'; exact ⟨Classical.byContradiction h, h'⟩
          · cases hf
      obtain ⟨rfl, hr⟩ := hcr
      obtain ⟨_, b2, b3, b4⟩ := state_numb s hc
      have b1 : 0 ≤ s.n := by
        simp only [rightS, Bool.and_eq_true, Bool.not_eq_true', decide_eq_false_iff_not] at hr
        omega
      obtain ⟨t1, t2⟩ := hbt b4
      have hst := step_thr 190300 (by omega) { n with kind := 7 } (show (7 : Int) ≠ 8 by decide) s (thr_of hr) hsm (tick t) (tick_ok t)
      have e1 : thrF { n with kind := 7 } s (tick t) = clkF { n with kind := 7 } s ⟨7, [0, 3]⟩ t := by
        unfold thrF
        rw [if_neg (show ¬ (tick t).kind = 1 by show ¬ (2 : Int) = 1; decide), if_pos (show (tick t).kind = 2 from rfl)]
        have : nowF (tick t) = t := clamp_self (t := t) (by omega) t2
        rw [this]; rfl
      rw [e1] at hst
      have hdo := thr_due { n with kind := 7 } hnum s ⟨7, [0, 3]⟩ b1 b2 b3 t t1 t2
      have ht0 : decide (t < 0) = false := decide_eq_false (by omega)
      generalize clkF { n with kind := 7 } s ⟨7, [0, 3]⟩ t = o at hst hdo
      generalize dueT { n with kind := 7 } s = d at hd hdo
      rcases hdo with ⟨g1, g2, g3, g4⟩ | ⟨g, rfl⟩
      · have h5 : decide (d.1 ≤ t) = true := decide_eq_true g2
        have h6 : decide (Int.ofNat (otpsC o.outs).length > 0) = true := decide_eq_true (outs_pos g3)
        have h7 : (Int.ofNat (ftesC o.fates).length == Int.ofNat (otpsC o.outs).length) = true := by
          have e2 : (otpsC o.outs).length = o.outs.length := by simp [otpsC]
          have e3 : (ftesC o.fates).length = o.fates.length := by simp [ftesC]
          rw [e2, e3, g4]; simp
        exact callF_of [(11, .p (.agg n.cells)), (13, .p (.agg s.cells)), (16, .b true), (22, .i t), (23, .p (boolX true)), (28, .p (num 0)), (33, .b false), (39, .p (.tup [num d.1, boolX d.2])), (41, .b true), (45, .p (.agg (tick t).cells)), (46, .p (.agg o.cells)), (51, .b true), (56, .b true), (64, .b true)] []
          (pf14 hn hs h1 hmx hk hm ht0 hd g1 htick hst h5 h6 h7) (by kernel_rfl)
      · rcases g with g1 | ⟨g1, g2⟩
        · exact callF_of [(11, .p (.agg n.cells)), (13, .p (.agg s.cells)), (16, .b true), (22, .i t), (23, .p (boolX true)), (28, .p (num 0)), (33, .b false), (39, .p (.tup [num d.1, boolX d.2])), (41, .b false), (45, .p (.agg (tick t).cells)), (46, .p (.agg (plainO s).cells)), (82, .p (boolX true))] []
            (pf12 hn hs h1 hmx hk hm ht0 hd g1 htick hst he) (by kernel_rfl)
        · have h5 : decide (d.1 ≤ t) = false := decide_eq_false g2
          exact callF_of [(11, .p (.agg n.cells)), (13, .p (.agg s.cells)), (16, .b true), (22, .i t), (23, .p (boolX true)), (28, .p (num 0)), (33, .b false), (39, .p (.tup [num d.1, boolX d.2])), (41, .b true), (45, .p (.agg (tick t).cells)), (46, .p (.agg (plainO s).cells)), (51, .b false), (82, .p (boolX true))] []
            (pf13 hn hs h1 hmx hk hm ht0 hd g1 htick hst h5 he) (by kernel_rfl)
    · have hz' : (!(f == 0)) = true := by simp [hz]
      exact callF_of [(11, .p (.agg n.cells)), (13, .p (.agg s.cells)), (16, .b true), (22, .i t), (23, .p (boolX true)), (28, .p (num f)), (29, .b true), (35, .p (boolX true))] [] (pf8 hn hs h1 hmx hk hm hz' hk) (by kernel_rfl)
  | false =>
    have hk8 : n.kind = 8 := by simpa using h1
    have hm := check_pure n s hsm c hc 190300 (by omega)
    have hd := due_del 190300 (by omega) n hk8 s hsm
    generalize hf : checkF n s c = f at hm
    by_cases hz : f = 0
    · subst hz
      have hcr : c = 0 ∧ delayedS s = true := by
        unfold checkF at hf
        rw [if_neg (by omega), if_pos hk8] at hf
        split at hf
        · rename_i h; exact absurd hf h
        · rename_i h
          split at hf
          · rename_i h'; exact ⟨Classical.byContradiction h, h'⟩
          · cases hf
      obtain ⟨rfl, hr⟩ := hcr
      obtain ⟨_, b2, b3, b4⟩ := state_numb s hc
      obtain ⟨t1, t2⟩ := hbt b4
      have hst := step_del 190300 (by omega) n hk8 s hsm (by omega) t
      rw [clamp_self (by omega) t2] at hst
      have hdo := del_due n s hr ⟨7, [0, 3]⟩ t t2
      have ht0 : decide (t < 0) = false := decide_eq_false (by omega)
      generalize delF n s ⟨7, [0, 3]⟩ t = o at hst hdo
      generalize dueD s = d at hd hdo
      rcases hdo with ⟨g1, g2, g3, g4⟩ | ⟨g, rfl⟩
      · have h5 : decide (d.1 ≤ t) = true := decide_eq_true g2
        have h6 : decide (Int.ofNat (otpsC o.outs).length > 0) = true := decide_eq_true (outs_pos g3)
        have h7 : (Int.ofNat (ftesC o.fates).length == Int.ofNat (otpsC o.outs).length) = true := by
          have e2 : (otpsC o.outs).length = o.outs.length := by simp [otpsC]
          have e3 : (ftesC o.fates).length = o.fates.length := by simp [ftesC]
          rw [e2, e3, g4]; simp
        exact callF_of [(11, .p (.agg n.cells)), (13, .p (.agg s.cells)), (16, .b false), (22, .i t), (23, .p (boolX true)), (28, .p (num 0)), (33, .b false), (39, .p (.tup [num d.1, boolX d.2])), (41, .b true), (45, .p (.agg (tick t).cells)), (46, .p (.agg o.cells)), (51, .b true), (56, .b true), (64, .b true)] []
          (pf14 hn hs h1 hmx hk hm ht0 hd g1 htick hst h5 h6 h7) (by kernel_rfl)
      · rcases g with g1 | ⟨g1, g2⟩
        · exact callF_of [(11, .p (.agg n.cells)), (13, .p (.agg s.cells)), (16, .b false), (22, .i t), (23, .p (boolX true)), (28, .p (num 0)), (33, .b false), (39, .p (.tup [num d.1, boolX d.2])), (41, .b false), (45, .p (.agg (tick t).cells)), (46, .p (.agg (plainO s).cells)), (82, .p (boolX true))] []
            (pf12 hn hs h1 hmx hk hm ht0 hd g1 htick hst he) (by kernel_rfl)
        · have h5 : decide (d.1 ≤ t) = false := decide_eq_false g2
          exact callF_of [(11, .p (.agg n.cells)), (13, .p (.agg s.cells)), (16, .b false), (22, .i t), (23, .p (boolX true)), (28, .p (num 0)), (33, .b false), (39, .p (.tup [num d.1, boolX d.2])), (41, .b true), (45, .p (.agg (tick t).cells)), (46, .p (.agg (plainO s).cells)), (51, .b false), (82, .p (boolX true))] []
            (pf13 hn hs h1 hmx hk hm ht0 hd g1 htick hst h5 he) (by kernel_rfl)
    · have hz' : (!(f == 0)) = true := by simp [hz]
      exact callF_of [(11, .p (.agg n.cells)), (13, .p (.agg s.cells)), (16, .b false), (22, .i t), (23, .p (boolX true)), (28, .p (num f)), (29, .b true), (35, .p (boolX true))] [] (pf8 hn hs h1 hmx hk hm hz' hk) (by kernel_rfl)
end Go.Proofs.YtjfheahakfoofaaGreatDoor

/- The arguments of the laws: what reads as data of their types is a node, a state, an input. -/
namespace Go.Proofs.YtjfheahakfoofaaGreatDoor
open Go.Em Go.RowKit
set_option maxRecDepth 100000

theorem Tryz.own : ownKnob Tryz.prog.godebug = none := by kernel_rfl
theorem Tryz.laidOut : laidOutB Tryz.prog = true := by kernel_rfl
theorem Tryz.rowed : mapsRowed Tryz.prog = true := by kernel_rfl
def tys : List TypeId := [3, 4, 9, 22, 23, 24, 26, 27, 28, 30, 31, 32, 34, 35, 37, 39, 40, 41, 43, 45, 47, 56, 78, 98, 100, 103, 144, 146]
theorem tys_ok : dataTys Tryz.prog tys = true := by kernel_rfl
theorem tys_size : tys.all (fun t => decide (t < Tryz.prog.types.size)) = true := by kernel_rfl
theorem tys_lt {t : TypeId} (h : t ∈ tys) : t < Tryz.prog.types.size := of_decide_eq_true (List.all_eq_true.1 tys_size t h)
theorem tys_kids : Kids Tryz.prog (fun t => t ∈ tys ∧ t < Tryz.prog.types.size) := kids_data (kids_rows Tryz.laidOut Tryz.rowed) tys_ok
def fieldsOf (P : Program) (t : TypeId) : Array Field := match P.underlying t with
  | some (.struct fs) => fs
  | _ => #[]
theorem under3 : Tryz.prog.underlying 3 = some (.int .i64) := by kernel_rfl
theorem under4 : Tryz.prog.underlying 4 = some .bool := by kernel_rfl
theorem under9 : Tryz.prog.underlying 9 = some .string := by kernel_rfl
theorem under26 : Tryz.prog.underlying 26 = some (.struct (fieldsOf Tryz.prog 26)) := by kernel_rfl
theorem fields26 : (fieldsOf Tryz.prog 26).toList.map (·.type) = [3, 3, 3, 3, 22, 23, 24] := by kernel_rfl
theorem under30 : Tryz.prog.underlying 30 = some (.struct (fieldsOf Tryz.prog 30)) := by kernel_rfl
theorem fields30 : (fieldsOf Tryz.prog 30).toList.map (·.type) = [28] := by kernel_rfl
theorem under34 : Tryz.prog.underlying 34 = some (.struct (fieldsOf Tryz.prog 34)) := by kernel_rfl
theorem fields34 : (fieldsOf Tryz.prog 34).toList.map (·.type) = [9, 3, 3, 3, 3, 3, 3, 9, 26, 23, 27, 30, 31, 32] := by kernel_rfl
theorem under37 : Tryz.prog.underlying 37 = some (.struct (fieldsOf Tryz.prog 37)) := by kernel_rfl
theorem fields37 : (fieldsOf Tryz.prog 37).toList.map (·.type) = [3, 3, 35] := by kernel_rfl
theorem under39 : Tryz.prog.underlying 39 = some (.struct (fieldsOf Tryz.prog 39)) := by kernel_rfl
theorem fields39 : (fieldsOf Tryz.prog 39).toList.map (·.type) = [3, 32] := by kernel_rfl
theorem under43 : Tryz.prog.underlying 43 = some (.struct (fieldsOf Tryz.prog 43)) := by kernel_rfl
theorem fields43 : (fieldsOf Tryz.prog 43).toList.map (·.type) = [3, 3, 3, 9, 40, 41] := by kernel_rfl
theorem under45 : Tryz.prog.underlying 45 = some (.struct (fieldsOf Tryz.prog 45)) := by kernel_rfl
theorem fields45 : (fieldsOf Tryz.prog 45).toList.map (·.type) = [39, 3, 32, 43] := by kernel_rfl
theorem under47 : Tryz.prog.underlying 47 = some (.struct (fieldsOf Tryz.prog 47)) := by kernel_rfl
theorem fields47 : (fieldsOf Tryz.prog 47).toList.map (·.type) = [3, 3, 39, 45, 3, 4, 4, 43] := by kernel_rfl
theorem under78 : Tryz.prog.underlying 78 = some (.struct (fieldsOf Tryz.prog 78)) := by kernel_rfl
theorem fields78 : (fieldsOf Tryz.prog 78).toList.map (·.type) = [43, 3, 3, 56, 40] := by kernel_rfl
theorem under98 : Tryz.prog.underlying 98 = some (.struct (fieldsOf Tryz.prog 98)) := by kernel_rfl
theorem fields98 : (fieldsOf Tryz.prog 98).toList.map (·.type) = [3, 3, 9, 40, 27] := by kernel_rfl
theorem under100 : Tryz.prog.underlying 100 = some (.struct (fieldsOf Tryz.prog 100)) := by kernel_rfl
theorem fields100 : (fieldsOf Tryz.prog 100).toList.map (·.type) = [9, 98] := by kernel_rfl
theorem under103 : Tryz.prog.underlying 103 = some (.struct (fieldsOf Tryz.prog 103)) := by kernel_rfl
theorem fields103 : (fieldsOf Tryz.prog 103).toList.map (·.type) = [9, 30] := by kernel_rfl
theorem under144 : Tryz.prog.underlying 144 = some (.struct (fieldsOf Tryz.prog 144)) := by kernel_rfl
theorem fields144 : (fieldsOf Tryz.prog 144).toList.map (·.type) = [3, 9, 3, 26, 40] := by kernel_rfl
theorem under146 : Tryz.prog.underlying 146 = some (.struct (fieldsOf Tryz.prog 146)) := by kernel_rfl
theorem fields146 : (fieldsOf Tryz.prog 146).toList.map (·.type) = [9, 43] := by kernel_rfl
theorem under22 : Tryz.prog.underlying 22 = some (.slice 9) := by kernel_rfl
theorem under23 : Tryz.prog.underlying 23 = some (.slice 26) := by kernel_rfl
theorem under24 : Tryz.prog.underlying 24 = some (.slice 144) := by kernel_rfl
theorem under27 : Tryz.prog.underlying 27 = some (.slice 98) := by kernel_rfl
theorem under28 : Tryz.prog.underlying 28 = some (.slice 100) := by kernel_rfl
theorem under31 : Tryz.prog.underlying 31 = some (.slice 103) := by kernel_rfl
theorem under32 : Tryz.prog.underlying 32 = some (.slice 3) := by kernel_rfl
theorem under35 : Tryz.prog.underlying 35 = some (.slice 78) := by kernel_rfl
theorem under40 : Tryz.prog.underlying 40 = some (.slice 43) := by kernel_rfl
theorem under41 : Tryz.prog.underlying 41 = some (.slice 146) := by kernel_rfl
theorem under56 : Tryz.prog.underlying 56 = some (.slice 45) := by kernel_rfl
theorem cells3 : Tryz.prog.cellsOf 3 = 1 := by kernel_rfl
theorem cells9 : Tryz.prog.cellsOf 9 = 1 := by kernel_rfl
theorem cells26 : Tryz.prog.cellsOf 26 = 7 := by kernel_rfl
theorem cells43 : Tryz.prog.cellsOf 43 = 6 := by kernel_rfl
theorem cells45 : Tryz.prog.cellsOf 45 = 10 := by kernel_rfl
theorem cells78 : Tryz.prog.cellsOf 78 = 10 := by kernel_rfl
theorem cells98 : Tryz.prog.cellsOf 98 = 5 := by kernel_rfl
theorem cells100 : Tryz.prog.cellsOf 100 = 6 := by kernel_rfl
theorem cells103 : Tryz.prog.cellsOf 103 = 2 := by kernel_rfl
theorem cells144 : Tryz.prog.cellsOf 144 = 11 := by kernel_rfl
theorem cells146 : Tryz.prog.cellsOf 146 = 7 := by kernel_rfl

variable {n : Nat} {xs : List X}
theorem shape_num (h : Shape Tryz.prog n 3 xs) : ∃ z, xs = [num z] := by
  obtain ⟨v, rfl, _⟩ := shape_int under3 h
  exact ⟨v, rfl⟩
theorem shape_text (h : Shape Tryz.prog n 9 xs) : ∃ s, xs = [strX s] := by
  obtain ⟨v, rfl, _⟩ := shape_string under9 h
  exact ⟨v, rfl⟩
theorem shape_flag (h : Shape Tryz.prog n 4 xs) : ∃ b, xs = [boolX b] := shape_bool under4 h
theorem shape_sl22 (h : Shape Tryz.prog n 22 xs) : ∃ es, xs = [.sl false 1 es] ∧ ∃ m, m < n ∧ ∀ c, c ∈ es → Shape Tryz.prog m 9 c := by
  obtain ⟨es, rfl, _, h⟩ := shape_slice under22 h
  rw [cells9]
  exact ⟨es, rfl, h⟩
theorem shape_sl23 (h : Shape Tryz.prog n 23 xs) : ∃ es, xs = [.sl false 7 es] ∧ ∃ m, m < n ∧ ∀ c, c ∈ es → Shape Tryz.prog m 26 c := by
  obtain ⟨es, rfl, _, h⟩ := shape_slice under23 h
  rw [cells26]
  exact ⟨es, rfl, h⟩
theorem shape_sl24 (h : Shape Tryz.prog n 24 xs) : ∃ es, xs = [.sl false 11 es] ∧ ∃ m, m < n ∧ ∀ c, c ∈ es → Shape Tryz.prog m 144 c := by
  obtain ⟨es, rfl, _, h⟩ := shape_slice under24 h
  rw [cells144]
  exact ⟨es, rfl, h⟩
theorem shape_sl27 (h : Shape Tryz.prog n 27 xs) : ∃ es, xs = [.sl false 5 es] ∧ ∃ m, m < n ∧ ∀ c, c ∈ es → Shape Tryz.prog m 98 c := by
  obtain ⟨es, rfl, _, h⟩ := shape_slice under27 h
  rw [cells98]
  exact ⟨es, rfl, h⟩
theorem shape_sl28 (h : Shape Tryz.prog n 28 xs) : ∃ es, xs = [.sl false 6 es] ∧ ∃ m, m < n ∧ ∀ c, c ∈ es → Shape Tryz.prog m 100 c := by
  obtain ⟨es, rfl, _, h⟩ := shape_slice under28 h
  rw [cells100]
  exact ⟨es, rfl, h⟩
theorem shape_sl31 (h : Shape Tryz.prog n 31 xs) : ∃ es, xs = [.sl false 2 es] ∧ ∃ m, m < n ∧ ∀ c, c ∈ es → Shape Tryz.prog m 103 c := by
  obtain ⟨es, rfl, _, h⟩ := shape_slice under31 h
  rw [cells103]
  exact ⟨es, rfl, h⟩
theorem shape_sl32 (h : Shape Tryz.prog n 32 xs) : ∃ es, xs = [.sl false 1 es] ∧ ∃ m, m < n ∧ ∀ c, c ∈ es → Shape Tryz.prog m 3 c := by
  obtain ⟨es, rfl, _, h⟩ := shape_slice under32 h
  rw [cells3]
  exact ⟨es, rfl, h⟩
theorem shape_sl35 (h : Shape Tryz.prog n 35 xs) : ∃ es, xs = [.sl false 10 es] ∧ ∃ m, m < n ∧ ∀ c, c ∈ es → Shape Tryz.prog m 78 c := by
  obtain ⟨es, rfl, _, h⟩ := shape_slice under35 h
  rw [cells78]
  exact ⟨es, rfl, h⟩
theorem shape_sl40 (h : Shape Tryz.prog n 40 xs) : ∃ es, xs = [.sl false 6 es] ∧ ∃ m, m < n ∧ ∀ c, c ∈ es → Shape Tryz.prog m 43 c := by
  obtain ⟨es, rfl, _, h⟩ := shape_slice under40 h
  rw [cells43]
  exact ⟨es, rfl, h⟩
theorem shape_sl41 (h : Shape Tryz.prog n 41 xs) : ∃ es, xs = [.sl false 7 es] ∧ ∃ m, m < n ∧ ∀ c, c ∈ es → Shape Tryz.prog m 146 c := by
  obtain ⟨es, rfl, _, h⟩ := shape_slice under41 h
  rw [cells146]
  exact ⟨es, rfl, h⟩
theorem shape_sl56 (h : Shape Tryz.prog n 56 xs) : ∃ es, xs = [.sl false 10 es] ∧ ∃ m, m < n ∧ ∀ c, c ∈ es → Shape Tryz.prog m 45 c := by
  obtain ⟨es, rfl, _, h⟩ := shape_slice under56 h
  rw [cells45]
  exact ⟨es, rfl, h⟩
theorem shape_st26 (h : Shape Tryz.prog n 26 xs) : ∃ m, m < n ∧ ∃ x0 x1 x2 x3 x4 x5 x6, xs = x0 ++ (x1 ++ (x2 ++ (x3 ++ (x4 ++ (x5 ++ (x6 ++ [])))))) ∧ Shape Tryz.prog m 3 x0 ∧ Shape Tryz.prog m 3 x1 ∧ Shape Tryz.prog m 3 x2 ∧ Shape Tryz.prog m 3 x3 ∧ Shape Tryz.prog m 22 x4 ∧ Shape Tryz.prog m 23 x5 ∧ Shape Tryz.prog m 24 x6 := by
  obtain ⟨m, hm, hk⟩ := shape_struct under26 h
  rw [fields26] at hk
  obtain ⟨x0, r0, rfl, h0, hk⟩ := hk
  obtain ⟨x1, r1, rfl, h1, hk⟩ := hk
  obtain ⟨x2, r2, rfl, h2, hk⟩ := hk
  obtain ⟨x3, r3, rfl, h3, hk⟩ := hk
  obtain ⟨x4, r4, rfl, h4, hk⟩ := hk
  obtain ⟨x5, r5, rfl, h5, hk⟩ := hk
  obtain ⟨x6, r6, rfl, h6, hk⟩ := hk
  have hk : r6 = [] := hk
  subst hk
  exact ⟨m, hm, x0, x1, x2, x3, x4, x5, x6, rfl, h0, h1, h2, h3, h4, h5, h6⟩
theorem shape_st30 (h : Shape Tryz.prog n 30 xs) : ∃ m, m < n ∧ ∃ x0, xs = x0 ++ [] ∧ Shape Tryz.prog m 28 x0 := by
  obtain ⟨m, hm, hk⟩ := shape_struct under30 h
  rw [fields30] at hk
  obtain ⟨x0, r0, rfl, h0, hk⟩ := hk
  have hk : r0 = [] := hk
  subst hk
  exact ⟨m, hm, x0, rfl, h0⟩
theorem shape_st34 (h : Shape Tryz.prog n 34 xs) : ∃ m, m < n ∧ ∃ x0 x1 x2 x3 x4 x5 x6 x7 x8 x9 x10 x11 x12 x13, xs = x0 ++ (x1 ++ (x2 ++ (x3 ++ (x4 ++ (x5 ++ (x6 ++ (x7 ++ (x8 ++ (x9 ++ (x10 ++ (x11 ++ (x12 ++ (x13 ++ []))))))))))))) ∧ Shape Tryz.prog m 9 x0 ∧ Shape Tryz.prog m 3 x1 ∧ Shape Tryz.prog m 3 x2 ∧ Shape Tryz.prog m 3 x3 ∧ Shape Tryz.prog m 3 x4 ∧ Shape Tryz.prog m 3 x5 ∧ Shape Tryz.prog m 3 x6 ∧ Shape Tryz.prog m 9 x7 ∧ Shape Tryz.prog m 26 x8 ∧ Shape Tryz.prog m 23 x9 ∧ Shape Tryz.prog m 27 x10 ∧ Shape Tryz.prog m 30 x11 ∧ Shape Tryz.prog m 31 x12 ∧ Shape Tryz.prog m 32 x13 := by
  obtain ⟨m, hm, hk⟩ := shape_struct under34 h
  rw [fields34] at hk
  obtain ⟨x0, r0, rfl, h0, hk⟩ := hk
  obtain ⟨x1, r1, rfl, h1, hk⟩ := hk
  obtain ⟨x2, r2, rfl, h2, hk⟩ := hk
  obtain ⟨x3, r3, rfl, h3, hk⟩ := hk
  obtain ⟨x4, r4, rfl, h4, hk⟩ := hk
  obtain ⟨x5, r5, rfl, h5, hk⟩ := hk
  obtain ⟨x6, r6, rfl, h6, hk⟩ := hk
  obtain ⟨x7, r7, rfl, h7, hk⟩ := hk
  obtain ⟨x8, r8, rfl, h8, hk⟩ := hk
  obtain ⟨x9, r9, rfl, h9, hk⟩ := hk
  obtain ⟨x10, r10, rfl, h10, hk⟩ := hk
  obtain ⟨x11, r11, rfl, h11, hk⟩ := hk
  obtain ⟨x12, r12, rfl, h12, hk⟩ := hk
  obtain ⟨x13, r13, rfl, h13, hk⟩ := hk
  have hk : r13 = [] := hk
  subst hk
  exact ⟨m, hm, x0, x1, x2, x3, x4, x5, x6, x7, x8, x9, x10, x11, x12, x13, rfl, h0, h1, h2, h3, h4, h5, h6, h7, h8, h9, h10, h11, h12, h13⟩
theorem shape_st37 (h : Shape Tryz.prog n 37 xs) : ∃ m, m < n ∧ ∃ x0 x1 x2, xs = x0 ++ (x1 ++ (x2 ++ [])) ∧ Shape Tryz.prog m 3 x0 ∧ Shape Tryz.prog m 3 x1 ∧ Shape Tryz.prog m 35 x2 := by
  obtain ⟨m, hm, hk⟩ := shape_struct under37 h
  rw [fields37] at hk
  obtain ⟨x0, r0, rfl, h0, hk⟩ := hk
  obtain ⟨x1, r1, rfl, h1, hk⟩ := hk
  obtain ⟨x2, r2, rfl, h2, hk⟩ := hk
  have hk : r2 = [] := hk
  subst hk
  exact ⟨m, hm, x0, x1, x2, rfl, h0, h1, h2⟩
theorem shape_st39 (h : Shape Tryz.prog n 39 xs) : ∃ m, m < n ∧ ∃ x0 x1, xs = x0 ++ (x1 ++ []) ∧ Shape Tryz.prog m 3 x0 ∧ Shape Tryz.prog m 32 x1 := by
  obtain ⟨m, hm, hk⟩ := shape_struct under39 h
  rw [fields39] at hk
  obtain ⟨x0, r0, rfl, h0, hk⟩ := hk
  obtain ⟨x1, r1, rfl, h1, hk⟩ := hk
  have hk : r1 = [] := hk
  subst hk
  exact ⟨m, hm, x0, x1, rfl, h0, h1⟩
theorem shape_st43 (h : Shape Tryz.prog n 43 xs) : ∃ m, m < n ∧ ∃ x0 x1 x2 x3 x4 x5, xs = x0 ++ (x1 ++ (x2 ++ (x3 ++ (x4 ++ (x5 ++ []))))) ∧ Shape Tryz.prog m 3 x0 ∧ Shape Tryz.prog m 3 x1 ∧ Shape Tryz.prog m 3 x2 ∧ Shape Tryz.prog m 9 x3 ∧ Shape Tryz.prog m 40 x4 ∧ Shape Tryz.prog m 41 x5 := by
  obtain ⟨m, hm, hk⟩ := shape_struct under43 h
  rw [fields43] at hk
  obtain ⟨x0, r0, rfl, h0, hk⟩ := hk
  obtain ⟨x1, r1, rfl, h1, hk⟩ := hk
  obtain ⟨x2, r2, rfl, h2, hk⟩ := hk
  obtain ⟨x3, r3, rfl, h3, hk⟩ := hk
  obtain ⟨x4, r4, rfl, h4, hk⟩ := hk
  obtain ⟨x5, r5, rfl, h5, hk⟩ := hk
  have hk : r5 = [] := hk
  subst hk
  exact ⟨m, hm, x0, x1, x2, x3, x4, x5, rfl, h0, h1, h2, h3, h4, h5⟩
theorem shape_st45 (h : Shape Tryz.prog n 45 xs) : ∃ m, m < n ∧ ∃ x0 x1 x2 x3, xs = x0 ++ (x1 ++ (x2 ++ (x3 ++ []))) ∧ Shape Tryz.prog m 39 x0 ∧ Shape Tryz.prog m 3 x1 ∧ Shape Tryz.prog m 32 x2 ∧ Shape Tryz.prog m 43 x3 := by
  obtain ⟨m, hm, hk⟩ := shape_struct under45 h
  rw [fields45] at hk
  obtain ⟨x0, r0, rfl, h0, hk⟩ := hk
  obtain ⟨x1, r1, rfl, h1, hk⟩ := hk
  obtain ⟨x2, r2, rfl, h2, hk⟩ := hk
  obtain ⟨x3, r3, rfl, h3, hk⟩ := hk
  have hk : r3 = [] := hk
  subst hk
  exact ⟨m, hm, x0, x1, x2, x3, rfl, h0, h1, h2, h3⟩
theorem shape_st47 (h : Shape Tryz.prog n 47 xs) : ∃ m, m < n ∧ ∃ x0 x1 x2 x3 x4 x5 x6 x7, xs = x0 ++ (x1 ++ (x2 ++ (x3 ++ (x4 ++ (x5 ++ (x6 ++ (x7 ++ []))))))) ∧ Shape Tryz.prog m 3 x0 ∧ Shape Tryz.prog m 3 x1 ∧ Shape Tryz.prog m 39 x2 ∧ Shape Tryz.prog m 45 x3 ∧ Shape Tryz.prog m 3 x4 ∧ Shape Tryz.prog m 4 x5 ∧ Shape Tryz.prog m 4 x6 ∧ Shape Tryz.prog m 43 x7 := by
  obtain ⟨m, hm, hk⟩ := shape_struct under47 h
  rw [fields47] at hk
  obtain ⟨x0, r0, rfl, h0, hk⟩ := hk
  obtain ⟨x1, r1, rfl, h1, hk⟩ := hk
  obtain ⟨x2, r2, rfl, h2, hk⟩ := hk
  obtain ⟨x3, r3, rfl, h3, hk⟩ := hk
  obtain ⟨x4, r4, rfl, h4, hk⟩ := hk
  obtain ⟨x5, r5, rfl, h5, hk⟩ := hk
  obtain ⟨x6, r6, rfl, h6, hk⟩ := hk
  obtain ⟨x7, r7, rfl, h7, hk⟩ := hk
  have hk : r7 = [] := hk
  subst hk
  exact ⟨m, hm, x0, x1, x2, x3, x4, x5, x6, x7, rfl, h0, h1, h2, h3, h4, h5, h6, h7⟩
theorem shape_st78 (h : Shape Tryz.prog n 78 xs) : ∃ m, m < n ∧ ∃ x0 x1 x2 x3 x4, xs = x0 ++ (x1 ++ (x2 ++ (x3 ++ (x4 ++ [])))) ∧ Shape Tryz.prog m 43 x0 ∧ Shape Tryz.prog m 3 x1 ∧ Shape Tryz.prog m 3 x2 ∧ Shape Tryz.prog m 56 x3 ∧ Shape Tryz.prog m 40 x4 := by
  obtain ⟨m, hm, hk⟩ := shape_struct under78 h
  rw [fields78] at hk
  obtain ⟨x0, r0, rfl, h0, hk⟩ := hk
  obtain ⟨x1, r1, rfl, h1, hk⟩ := hk
  obtain ⟨x2, r2, rfl, h2, hk⟩ := hk
  obtain ⟨x3, r3, rfl, h3, hk⟩ := hk
  obtain ⟨x4, r4, rfl, h4, hk⟩ := hk
  have hk : r4 = [] := hk
  subst hk
  exact ⟨m, hm, x0, x1, x2, x3, x4, rfl, h0, h1, h2, h3, h4⟩
theorem shape_st98 (h : Shape Tryz.prog n 98 xs) : ∃ m, m < n ∧ ∃ x0 x1 x2 x3 x4, xs = x0 ++ (x1 ++ (x2 ++ (x3 ++ (x4 ++ [])))) ∧ Shape Tryz.prog m 3 x0 ∧ Shape Tryz.prog m 3 x1 ∧ Shape Tryz.prog m 9 x2 ∧ Shape Tryz.prog m 40 x3 ∧ Shape Tryz.prog m 27 x4 := by
  obtain ⟨m, hm, hk⟩ := shape_struct under98 h
  rw [fields98] at hk
  obtain ⟨x0, r0, rfl, h0, hk⟩ := hk
  obtain ⟨x1, r1, rfl, h1, hk⟩ := hk
  obtain ⟨x2, r2, rfl, h2, hk⟩ := hk
  obtain ⟨x3, r3, rfl, h3, hk⟩ := hk
  obtain ⟨x4, r4, rfl, h4, hk⟩ := hk
  have hk : r4 = [] := hk
  subst hk
  exact ⟨m, hm, x0, x1, x2, x3, x4, rfl, h0, h1, h2, h3, h4⟩
theorem shape_st100 (h : Shape Tryz.prog n 100 xs) : ∃ m, m < n ∧ ∃ x0 x1, xs = x0 ++ (x1 ++ []) ∧ Shape Tryz.prog m 9 x0 ∧ Shape Tryz.prog m 98 x1 := by
  obtain ⟨m, hm, hk⟩ := shape_struct under100 h
  rw [fields100] at hk
  obtain ⟨x0, r0, rfl, h0, hk⟩ := hk
  obtain ⟨x1, r1, rfl, h1, hk⟩ := hk
  have hk : r1 = [] := hk
  subst hk
  exact ⟨m, hm, x0, x1, rfl, h0, h1⟩
theorem shape_st103 (h : Shape Tryz.prog n 103 xs) : ∃ m, m < n ∧ ∃ x0 x1, xs = x0 ++ (x1 ++ []) ∧ Shape Tryz.prog m 9 x0 ∧ Shape Tryz.prog m 30 x1 := by
  obtain ⟨m, hm, hk⟩ := shape_struct under103 h
  rw [fields103] at hk
  obtain ⟨x0, r0, rfl, h0, hk⟩ := hk
  obtain ⟨x1, r1, rfl, h1, hk⟩ := hk
  have hk : r1 = [] := hk
  subst hk
  exact ⟨m, hm, x0, x1, rfl, h0, h1⟩
theorem shape_st144 (h : Shape Tryz.prog n 144 xs) : ∃ m, m < n ∧ ∃ x0 x1 x2 x3 x4, xs = x0 ++ (x1 ++ (x2 ++ (x3 ++ (x4 ++ [])))) ∧ Shape Tryz.prog m 3 x0 ∧ Shape Tryz.prog m 9 x1 ∧ Shape Tryz.prog m 3 x2 ∧ Shape Tryz.prog m 26 x3 ∧ Shape Tryz.prog m 40 x4 := by
  obtain ⟨m, hm, hk⟩ := shape_struct under144 h
  rw [fields144] at hk
  obtain ⟨x0, r0, rfl, h0, hk⟩ := hk
  obtain ⟨x1, r1, rfl, h1, hk⟩ := hk
  obtain ⟨x2, r2, rfl, h2, hk⟩ := hk
  obtain ⟨x3, r3, rfl, h3, hk⟩ := hk
  obtain ⟨x4, r4, rfl, h4, hk⟩ := hk
  have hk : r4 = [] := hk
  subst hk
  exact ⟨m, hm, x0, x1, x2, x3, x4, rfl, h0, h1, h2, h3, h4⟩
theorem shape_st146 (h : Shape Tryz.prog n 146 xs) : ∃ m, m < n ∧ ∃ x0 x1, xs = x0 ++ (x1 ++ []) ∧ Shape Tryz.prog m 9 x0 ∧ Shape Tryz.prog m 43 x1 := by
  obtain ⟨m, hm, hk⟩ := shape_struct under146 h
  rw [fields146] at hk
  obtain ⟨x0, r0, rfl, h0, hk⟩ := hk
  obtain ⟨x1, r1, rfl, h1, hk⟩ := hk
  have hk : r1 = [] := hk
  subst hk
  exact ⟨m, hm, x0, x1, rfl, h0, h1⟩

theorem shape_val : ∀ (n : Nat) (xs : List X), Shape Tryz.prog n 43 xs → ∃ v : Val, xs = v.cells := by
  intro n
  induction n using Nat.strongRecOn with
  | _ n ih =>
    intro xs h
    obtain ⟨m, hm, x0, x1, x2, x3, x4, x5, rfl, h0, h1, h2, h3, h4, h5⟩ := shape_st43 h
    obtain ⟨k, rfl⟩ := shape_num h0
    obtain ⟨i, rfl⟩ := shape_num h1
    obtain ⟨s, rfl⟩ := shape_num h2
    obtain ⟨t, rfl⟩ := shape_text h3
    obtain ⟨es, rfl, m1, hm1, he⟩ := shape_sl40 h4
    obtain ⟨fs, rfl, m2, hm2, hf⟩ := shape_sl41 h5
    obtain ⟨l, rfl⟩ := list_of Val.cells fun c hc => ih m1 (by omega) c (he c hc)
    obtain ⟨f, rfl⟩ := list_of (fun p : ByteArray × Val => strX p.1 :: p.2.cells) (es := fs) fun c hc => by
      obtain ⟨m3, hm3, y0, y1, rfl, g0, g1⟩ := shape_st146 (hf c hc)
      obtain ⟨nm, rfl⟩ := shape_text g0
      obtain ⟨v, rfl⟩ := ih m3 (by omega) y1 g1
      exact ⟨(nm, v), by simp⟩
    exact ⟨.mk k i s t l f, by rw [Val.cells, cellsL_eq, cellsF_eq]; rfl⟩
theorem shape_vals (h : Shape Tryz.prog n 40 xs) : ∃ l : List Val, xs = [.sl false 6 (cellsL l)] := by
  obtain ⟨es, rfl, m, _, he⟩ := shape_sl40 h
  obtain ⟨l, rfl⟩ := list_of Val.cells fun c hc => shape_val m c (he c hc)
  exact ⟨l, by rw [cellsL_eq]⟩
theorem shape_isVals {es : List (List X)} {m : Nat} (h : ∀ c, c ∈ es → Shape Tryz.prog m 43 c) : ∀ c, c ∈ es → isVal c := fun c hc => shape_val m c (h c hc)
theorem shape_ints (h : Shape Tryz.prog n 32 xs) : ∃ l : List Int, xs = [.sl false 1 (intsC l)] := by
  obtain ⟨es, rfl, m, _, he⟩ := shape_sl32 h
  obtain ⟨l, rfl⟩ := list_of (fun z : Int => [num z]) fun c hc => shape_num (he c hc)
  exact ⟨l, rfl⟩
theorem shape_stp (h : Shape Tryz.prog n 39 xs) : ∃ s : Stp, xs = s.cells := by
  obtain ⟨m, hm, x0, x1, rfl, h0, h1⟩ := shape_st39 h
  obtain ⟨e, rfl⟩ := shape_num h0
  obtain ⟨p, rfl⟩ := shape_ints h1
  exact ⟨⟨e, p⟩, rfl⟩
theorem shape_msg (h : Shape Tryz.prog n 45 xs) : ∃ s : Msg, xs = s.cells := by
  obtain ⟨m, hm, x0, x1, x2, x3, rfl, h0, h1, h2, h3⟩ := shape_st45 h
  obtain ⟨s, rfl⟩ := shape_stp h0
  obtain ⟨k, rfl⟩ := shape_num h1
  obtain ⟨p, rfl⟩ := shape_ints h2
  obtain ⟨v, rfl⟩ := shape_val _ _ h3
  exact ⟨⟨s, k, p, v⟩, by simp [Msg.cells, Stp.cells]⟩
theorem shape_msgs (h : Shape Tryz.prog n 56 xs) : ∃ l : List Msg, xs = [.sl false 10 (msgsC l)] := by
  obtain ⟨es, rfl, m, _, he⟩ := shape_sl56 h
  obtain ⟨l, rfl⟩ := list_of Msg.cells fun c hc => shape_msg (he c hc)
  exact ⟨l, rfl⟩
theorem shape_slt (h : Shape Tryz.prog n 78 xs) : ∃ s : Slt, xs = s.cells := by
  obtain ⟨m, hm, x0, x1, x2, x3, x4, rfl, h0, h1, h2, h3, h4⟩ := shape_st78 h
  obtain ⟨⟨k, i, s, t, l, f⟩, rfl⟩ := shape_val _ _ h0
  obtain ⟨a, rfl⟩ := shape_num h1
  obtain ⟨b, rfl⟩ := shape_num h2
  obtain ⟨ms, rfl⟩ := shape_msgs h3
  obtain ⟨vs, rfl⟩ := shape_vals h4
  exact ⟨⟨.mk k i s t l f, a, b, ms, vs⟩, rfl⟩
theorem shape_stt (h : Shape Tryz.prog n 37 xs) : ∃ s : Stt, xs = s.cells := by
  obtain ⟨m, hm, x0, x1, x2, rfl, h0, h1, h2⟩ := shape_st37 h
  obtain ⟨a, rfl⟩ := shape_num h0
  obtain ⟨b, rfl⟩ := shape_num h1
  obtain ⟨es, rfl, m', _, he⟩ := shape_sl35 h2
  obtain ⟨l, rfl⟩ := list_of Slt.cells fun c hc => shape_slt (he c hc)
  exact ⟨⟨a, b, l⟩, rfl⟩
theorem shape_inp (h : Shape Tryz.prog n 47 xs) : ∃ i : Inp, xs = i.cells := by
  obtain ⟨m, hm, x0, x1, x2, x3, x4, x5, x6, x7, rfl, h0, h1, h2, h3, h4, h5, h6, h7⟩ := shape_st47 h
  obtain ⟨a, rfl⟩ := shape_num h0
  obtain ⟨b, rfl⟩ := shape_num h1
  obtain ⟨s, rfl⟩ := shape_stp h2
  obtain ⟨g, rfl⟩ := shape_msg h3
  obtain ⟨x, rfl⟩ := shape_num h4
  obtain ⟨b1, rfl⟩ := shape_flag h5
  obtain ⟨b2, rfl⟩ := shape_flag h6
  obtain ⟨v, rfl⟩ := shape_val _ _ h7
  exact ⟨⟨a, b, s, g, x, b1, b2, v⟩, by simp [Inp.cells, Msg.cells, Stp.cells]⟩
theorem shape_exp : ∀ (k : Nat) {n : Nat} {xs : List X}, Shape Tryz.prog n 98 xs → isExp k xs
  | 0, n, xs, h => by
    obtain ⟨m, hm, x0, x1, x2, x3, x4, rfl, h0, h1, h2, h3, h4⟩ := shape_st98 h
    obtain ⟨o, rfl⟩ := shape_num h0
    obtain ⟨i, rfl⟩ := shape_num h1
    obtain ⟨t, rfl⟩ := shape_text h2
    obtain ⟨vs, rfl, m1, _, hv⟩ := shape_sl40 h3
    obtain ⟨es, rfl, m2, _, he⟩ := shape_sl27 h4
    exact ⟨o, i, t, vs, es, rfl, shape_isVals hv⟩
  | k + 1, n, xs, h => by
    obtain ⟨m, hm, x0, x1, x2, x3, x4, rfl, h0, h1, h2, h3, h4⟩ := shape_st98 h
    obtain ⟨o, rfl⟩ := shape_num h0
    obtain ⟨i, rfl⟩ := shape_num h1
    obtain ⟨t, rfl⟩ := shape_text h2
    obtain ⟨vs, rfl, m1, _, hv⟩ := shape_sl40 h3
    obtain ⟨es, rfl, m2, _, he⟩ := shape_sl27 h4
    exact ⟨o, i, t, vs, es, rfl, shape_isVals hv, fun x hx => shape_exp k (he x hx)⟩
theorem shape_typ : ∀ (k : Nat) {n : Nat} {xs : List X}, Shape Tryz.prog n 26 xs → isTyp k xs
  | 0, n, xs, h => by
    obtain ⟨m, hm, x0, x1, x2, x3, x4, x5, x6, rfl, h0, h1, h2, h3, h4, h5, h6⟩ := shape_st26 h
    obtain ⟨a, rfl⟩ := shape_num h0
    obtain ⟨b, rfl⟩ := shape_num h1
    obtain ⟨c, rfl⟩ := shape_num h2
    obtain ⟨d, rfl⟩ := shape_num h3
    obtain ⟨w, rfl, m1, _, hw⟩ := shape_sl22 h4
    obtain ⟨e, rfl, m2, _, he⟩ := shape_sl23 h5
    obtain ⟨f, rfl, m3, _, hf⟩ := shape_sl24 h6
    exact ⟨a, b, c, d, w, e, f, rfl, fun x hx => shape_text (hw x hx)⟩
  | k + 1, n, xs, h => by
    obtain ⟨m, hm, x0, x1, x2, x3, x4, x5, x6, rfl, h0, h1, h2, h3, h4, h5, h6⟩ := shape_st26 h
    obtain ⟨a, rfl⟩ := shape_num h0
    obtain ⟨b, rfl⟩ := shape_num h1
    obtain ⟨c, rfl⟩ := shape_num h2
    obtain ⟨d, rfl⟩ := shape_num h3
    obtain ⟨w, rfl, m1, _, hw⟩ := shape_sl22 h4
    obtain ⟨e, rfl, m2, _, he⟩ := shape_sl23 h5
    obtain ⟨f, rfl, m3, _, hf⟩ := shape_sl24 h6
    refine ⟨a, b, c, d, w, e, f, rfl, fun x hx => shape_text (hw x hx), fun x hx => shape_typ k (he x hx), fun x hx => ?_⟩
    obtain ⟨m4, _, y0, y1, y2, T, y4, rfl, g0, g1, g2, g3, g4⟩ := shape_st144 (hf x hx)
    obtain ⟨p, rfl⟩ := shape_num g0
    obtain ⟨t, rfl⟩ := shape_text g1
    obtain ⟨y, rfl⟩ := shape_num g2
    obtain ⟨de, rfl, m5, _, hd⟩ := shape_sl40 g4
    exact ⟨p, t, y, T, de, by simp, shape_typ k g3, shape_isVals hd⟩
theorem shape_rule (h : Shape Tryz.prog n 100 xs) : isRule xs := by
  obtain ⟨m, hm, x0, x1, rfl, h0, h1⟩ := shape_st100 h
  obtain ⟨t, rfl⟩ := shape_text h0
  exact ⟨t, x1, by simp, shape_exp 3 h1⟩
theorem shape_rules (h : Shape Tryz.prog n 30 xs) : ∃ es, xs = [.sl false 6 es] ∧ ∀ x, x ∈ es → isRule x := by
  obtain ⟨m, hm, x0, rfl, h0⟩ := shape_st30 h
  obtain ⟨es, rfl, m1, _, he⟩ := shape_sl28 h0
  exact ⟨es, rfl, fun x hx => shape_rule (he x hx)⟩
theorem shape_call (h : Shape Tryz.prog n 103 xs) : isCall xs := by
  obtain ⟨m, hm, x0, x1, rfl, h0, h1⟩ := shape_st103 h
  obtain ⟨t, rfl⟩ := shape_text h0
  obtain ⟨es, rfl, he⟩ := shape_rules h1
  exact ⟨t, es, rfl, he⟩
theorem shape_node (h : Shape Tryz.prog n 34 xs) : isNode xs := by
  obtain ⟨m, hm, x0, x1, x2, x3, x4, x5, x6, x7, T, x9, x10, x11, x12, x13, rfl, h0, h1, h2, h3, h4, h5, h6, h7, h8, h9, h10, h11, h12, h13⟩ := shape_st34 h
  obtain ⟨name, rfl⟩ := shape_text h0
  obtain ⟨k1, rfl⟩ := shape_num h1
  obtain ⟨k2, rfl⟩ := shape_num h2
  obtain ⟨k3, rfl⟩ := shape_num h3
  obtain ⟨k4, rfl⟩ := shape_num h4
  obtain ⟨k5, rfl⟩ := shape_num h5
  obtain ⟨k6, rfl⟩ := shape_num h6
  obtain ⟨text, rfl⟩ := shape_text h7
  obtain ⟨ty, rfl, _, _, hty⟩ := shape_sl23 h9
  obtain ⟨ex, rfl, _, _, hex⟩ := shape_sl27 h10
  obtain ⟨ru, rfl, hru⟩ := shape_rules h11
  obtain ⟨ca, rfl, _, _, hca⟩ := shape_sl31 h12
  obtain ⟨ne, rfl, _, _, hne⟩ := shape_sl32 h13
  exact ⟨name, k1, k2, k3, k4, k5, k6, text, T, ty, ex, ru, ca, ne, by simp, shape_typ 3 h8, fun x hx => shape_typ 3 (hty x hx), fun x hx => shape_exp 3 (hex x hx), hru, fun x hx => shape_call (hca x hx)⟩
end Go.Proofs.YtjfheahakfoofaaGreatDoor

/- ThrottleDelays comes to true. -/
namespace Go.Proofs.YtjfheahakfoofaaGreatDoor
open Go.Em

theorem delayed_items {s : Stt} (hd : delayedS s = true) : ∀ x, x ∈ s.slots → x.items ≠ [] := fun x hx e => by
  simp only [delayedS, Bool.and_eq_true, Bool.not_eq_true'] at hd
  have := List.all_eq_true.1 hd.2.2 x hx
  obtain ⟨⟨k, i, s, tx, vl, fl⟩, n2, c, ms, vs⟩ := x
  dsimp only at e
  subst e
  simp [badD, msgsC] at this
theorem delF_ok {n : Nod} {s : Stt} (hs : s.small) (hacc : (accOf s.slots).length ≤ 3000) {b : Stp} (hb : b.p.length ≤ 100) (now : Int) : (delF n s b now).ok := by
  have h1 := goL_le now s.slots
  have hok : ∀ m, m ∈ goL now s.slots → m.ok := fun m hm => accOf_ok hs m (goL_mem hm)
  refine Ocm.ok_of ⟨?_, fun x hx => (hs.slot x (List.mem_filter.1 hx).1).1⟩ ⟨?_, outsF_ok hb hok (Nat.le_refl _)⟩ ⟨?_, fatesF_ok hb hok (Nat.le_refl _)⟩ (nilP _)
  · have := hs.slots
    have h2 : (stayL now s.slots).length ≤ s.slots.length := List.length_filter_le _ _
    show (stayL now s.slots).length ≤ 60000
    omega
  · show (outsF b (goL now s.slots) (goL now s.slots).length).length ≤ 60000
    simp [outsF]; omega
  · show (fatesF n.name b (goL now s.slots) (goL now s.slots).length).length ≤ 60000
    simp [fatesF]; omega

set_option maxRecDepth 100000 in
theorem delay_both (n : Nod) (hk : n.kind = 8) (s : Stt) (hs : s.small) (hne : ∀ x, x ∈ s.slots → x.items ≠ []) (hacc : (accOf s.slots).length ≤ 3000) (i : Inp) (hi : i.ok) : StepBoth n s i := by
  by_cases h1 : i.kind = 1
  · exact dmsg_step n hk s hs hne i hi h1
  have k8 : (n.kind == 8) = true := by simpa using hk
  by_cases h2 : i.kind = 2
  · refine ⟨delF n s i.st (nowF i), delF_ok hs hacc hi.st _, fun N hN => ?_, fun N hN => mdel_clk N (by omega) n hk s hs hne hacc i hi h2⟩
    obtain ⟨M, rfl⟩ : ∃ M, N = M + 1 := ⟨N - 1, by omega⟩
    have hcl := clone_state_pure M s hs.ok (by omega)
    obtain ⟨ci, hci, e1, e2, e3⟩ := cin_of i
    have h := delay_clk M (by omega) n s hs hacc ci i.st hi.st e2 e3
    rw [e1] at h
    rw [h2] at hci
    rw [hci]
    change Gam.pureD (callF tab ext M) 30 [.agg n.cells, .agg s.cells, .agg (ci.cells 2)] = some (.agg (delF n s i.st (nowF i)).cells) at h
    generalize delF n s i.st (nowF i) = oc at h ⊢
    exact pure_of [(8, .p (.agg s.cells)), (11, .b true), (15, .p (.agg oc.cells))] [] (pf3 hcl k8 h) (x := .agg oc.cells) (bx := []) (by kernel_rfl) rfl
  · refine ⟨plainO s, plainO_ok hs.ok, fun N hN => ?_, fun N hN => ?_⟩
    · obtain ⟨M, rfl⟩ : ∃ M, N = M + 3 := ⟨N - 3, by omega⟩
      have hcl := clone_state_pure (M + 2) s hs.ok (by omega)
      have hnow := clamp_pure M i.time 0 17592186044416
      generalize clampF i.time 0 17592186044416 = now at hnow
      have k1 : (i.kind == 1) = false := by simp [h1]
      have k2 : (i.kind == 2) = false := by simp [h2]
      obtain ⟨kd, tm, ⟨se, sp⟩, ⟨⟨e, p⟩, ms, o, ⟨a1, a2, a3, a4, a5, a6⟩⟩, x, b1, b2, ⟨c1, c2, c3, c4, c5, c6⟩⟩ := i
      dsimp only at k1 k2 hnow
      have h30 : Gam.pureD (callF tab ext (M + 2)) 30 [.agg n.cells, .agg s.cells, .agg (inX se kd tm (intsC sp) e (intsC p) ms (intsC o) a1 a2 a3 a4 (cellsL a5) (cellsF a6) x b1 b2 c1 c2 c3 c4 (cellsL c5) (cellsF c6))] = some (.agg (plainO s).cells) :=
        pure_of [(15, .p (num now)), (19, .b false), (46, .b false)] [] (pf3 hnow k1 k2) (x := .agg [num s.n, num s.t, .sl false 10 (sltsC s.slots), .sl true 11 [], .sl true 11 [], .sl true 6 [], .sl true 10 []]) (bx := []) (by kernel_rfl) rfl
      generalize plainO s = oc at h30 ⊢
      exact pure_of [(8, .p (.agg s.cells)), (11, .b true), (15, .p (.agg oc.cells))] [] (pf3 hcl k8 h30) (x := .agg oc.cells) (bx := []) (by kernel_rfl) rfl
    · obtain ⟨M, rfl⟩ : ∃ M, N = M + 1 := ⟨N - 1, by omega⟩
      have hnow : (if 0 < (if 17592186044416 < i.time then 17592186044416 else i.time) then (if 17592186044416 < i.time then 17592186044416 else i.time) else 0) = nowF i := by
        unfold nowF clampF maxTime
        rw [minI_comm]; rfl
      have k1 : (i.kind == 1) = false := by simp [h1]
      have k2 : (i.kind == 2) = false := by simp [h2]
      generalize nowF i = now at hnow
      obtain ⟨kd, tm, ⟨se, sp⟩, ⟨⟨e, p⟩, ms, o, ⟨a1, a2, a3, a4, a5, a6⟩⟩, x, b1, b2, ⟨c1, c2, c3, c4, c5, c6⟩⟩ := i
      dsimp only at k1 k2 hnow
      exact pure_of [(15, .i now), (19, .b false), (51, .b false), (99, .b false), (109, .b false)] [] (pf5 hnow k1 k2 k1 k2) (x := .agg [num s.n, num s.t, .sl false 10 (sltsC s.slots), .sl true 11 [], .sl true 11 [], .sl true 6 [], .sl true 10 []]) (bx := []) (by kernel_rfl) rfl

set_option maxRecDepth 100000 in
theorem delays_all (cn : List X) (hcn : isNode cn) (s : Stt) (i : Inp) : callF tab ext 190301 (.fn 6) [.agg cn, .agg s.cells, .agg i.cells] [] = some (.v (.bool true), []) := by
  obtain ⟨nd, nd', rfl, hn⟩ := node_of hcn
  have hg := given_pure nd nd' hn s i 190300 (by omega)
  have hs := shortS_small s
  have hac := shortS_acc s
  have hi := shortN_ok i
  generalize shortS s = s' at hg hs hac
  generalize shortN i = i' at hg hi
  obtain ⟨c, hc⟩ := state_comes s' hs
  have hm := mcheck_pure { nd' with kind := 8 } s' hs c hc 190300 (by omega)
  have hk := known_at 189900
  generalize hf : checkF { nd' with kind := 8 } s' c = f at hm
  by_cases hz : f = 0
  · subst hz
    have hd : delayedS s' = true := by
      unfold checkF at hf
      rw [if_neg (show ¬ (8 : Int) = 7 by decide), if_pos rfl] at hf
      split at hf
      · rename_i h; exact absurd hf h
      · split at hf
        · rename_i h; exact h
        · cases hf
    obtain ⟨o, ho, h1, h2⟩ := delay_both { nd' with kind := 8 } rfl s' hs (delayed_items hd) (by omega) i' hi
    have h1 := h1 190300 (by omega)
    have h2 := h2 190300 (by omega)
    have h3 := ocm_same true 190300 o ho (by omega)
    rw [inX_cells] at hg
    rw [inX_cells i'] at hg h1 h2
    obtain ⟨kd, tm, ⟨se, sp⟩, ⟨⟨e, p⟩, ms, o', ⟨a1, a2, a3, a4, a5, a6⟩⟩, x, b1, b2, ⟨c1, c2, c3, c4, c5, c6⟩⟩ := i'
    rw [inX_cells]
    obtain ⟨kd', tm', ⟨se', sp'⟩, ⟨⟨e', p'⟩, ms', o'', ⟨a1', a2', a3', a4', a5', a6'⟩⟩, x', b1', b2', ⟨c1', c2', c3', c4', c5', c6'⟩⟩ := i
    dsimp only at hg h1 h2 ⊢
    exact callF_of [(11, .p (.tup [.agg nd'.cells, .agg s'.cells, .agg (inX se kd tm (intsC sp) e (intsC p) ms (intsC o') a1 a2 a3 a4 (cellsL a5) (cellsF a6) x b1 b2 c1 c2 c3 c4 (cellsL c5) (cellsF c6))])), (16, .p (boolX true)), (21, .p (num 0)), (28, .p (.agg o.cells)), (32, .p (.agg (o.cellsB true))), (33, .p (boolX true))] [] (pf6 hg hk hm h1 h2 h3) (by kernel_rfl)
  · have hz' : (!(f == 0)) = true := by simp [hz]
    rw [inX_cells] at hg
    rw [inX_cells i'] at hg
    obtain ⟨kd, tm, ⟨se, sp⟩, ⟨⟨e, p⟩, ms, o', ⟨a1, a2, a3, a4, a5, a6⟩⟩, x, b1, b2, ⟨c1, c2, c3, c4, c5, c6⟩⟩ := i'
    rw [inX_cells]
    obtain ⟨kd', tm', ⟨se', sp'⟩, ⟨⟨e', p'⟩, ms', o'', ⟨a1', a2', a3', a4', a5', a6'⟩⟩, x', b1', b2', ⟨c1', c2', c3', c4', c5', c6'⟩⟩ := i
    dsimp only at hg ⊢
    exact callF_of [(11, .p (.tup [.agg nd'.cells, .agg s'.cells, .agg (inX se kd tm (intsC sp) e (intsC p) ms (intsC o') a1 a2 a3 a4 (cellsL a5) (cellsF a6) x b1 b2 c1 c2 c3 c4 (cellsL c5) (cellsF c6))])), (16, .p (boolX true)), (21, .p (num f)), (22, .b true), (24, .p (boolX true))] [] (pf5 hg hk hm hz' hk) (by kernel_rfl)
end Go.Proofs.YtjfheahakfoofaaGreatDoor

/- slices.Insert at the slots: copies of elements of more than one cell. -/
namespace Go.Proofs.YtjfheahakfoofaaGreatDoor
open Go.Em Go.RowKit Go.Lib

theorem run_copy_k {P : Program} (w : World) (dT sT ty elem : TypeId) (k : Nat) (b o dLen dCap : Nat) (a : Addr) (sLen sCap : Nat) (cs : List Value)
    (hu : P.underlying dT = some (.slice elem)) (hs : (P.info? elem).map (·.size) = some k) (hn : cs.length = Nat.min sLen dLen * k)
    (hsrc : ∀ j v, cs[j]? = some v → w.cell? (a.add j) = some v) (hc : ∀ j, j < cs.length → (w.cell? ⟨b, o + j, none⟩).isSome = true) (hf : ∀ j, j < cs.length → w.frozen? ⟨b, o + j, none⟩ = false) (h1 : ∀ v ∈ cs, v.oneCell' = true) :
    (Builtin.copy_ #[dT, sT] ty #[.slice (some ⟨b, o, none⟩) dLen dCap, .slice (some a) sLen sCap]).run P w = .ok (goInt (Nat.min sLen dLen)) (w.setCells b o cs) := by
  have hl := run_loadCells_list (P := P) w a cs hsrc
  have hst := run_storeCells_cells (P := P) b o cs 0 w (by simpa using hc) (by simpa using hf) h1
  cases hq : P.info? elem with
  | none => simp [hq] at hs
  | some i =>
    have hi : i.size = k := by simpa [hq] using hs
    simp [Builtin.copy_, run_underlying hu, Builtin.lenOf, Builtin.firstCells, sizeOf, typeInfo, hq, hi, ← hn, hl, hst]

/-- The model's entry for slices.overlaps: two blocks, the second of which is plain memory. -/
theorem run_overlaps_own {P : Program} (w : World) (tS tR e : TypeId) (ht : P.underlying tS = some (.slice e)) (size : Nat) (hz : ∀ w, (Go.sizeOf e).run P w = .ok size w)
    (a b : Addr) (la ca lb cb : Nat) (hne : a.block ≠ b.block) (tA tB : TypeId) (kA kB : Nat)
    (hsa : w.shape? a.block = some (tA, kA)) (hsb : w.shape? b.block = some (tB, kB)) (hkB : kB ≠ 0) (hkA : kA ≠ 0)
    (hfb : w.frozen? b = false) (hfe : w.frozen? { block := b.block, off := kB } = false) :
    (Extern.SlicesOverlaps.overlaps #[tS, tS] #[tR] #[.slice (some a) la ca, .slice (some b) lb cb]).run P w = .ok (.bool false) w := by
  have hnb : (a.block != b.block) = true := by simpa using hne
  have hnb' : (a.block == b.block) = false := by simpa using hne
  change Sem.run P (α := Value) (do
    let some t := (#[tS, tS] : Array TypeId)[0]? | stuck "slices.overlaps: no parameter types"
    let .slice elem ← underlying t | stuck "slices.overlaps: slice type expected"
    let size ← sizeOf elem
    match (some a : Option Addr), (some b : Option Addr) with
    | some a, some b =>
      if la = 0 ∨ lb = 0 ∨ size = 0 then pure (Value.bool false)
      else if a.block != b.block && (← frozen a) && (← frozen b) then unsupported .addressObserved
      else do
        if a.block != b.block then do
          noView a; noView b
          if ← mayBeOne a b then return Value.bool ((← choose (.extern "sameAddr.stringBytes" 2)) == 1)
        pure (Value.bool (a.block == b.block && a.off < b.off + lb * size && b.off < a.off + la * size))
    | _, _ => pure (Value.bool false)) w = _
  by_cases h0 : la = 0 ∨ lb = 0 ∨ size = 0
  · simp [run_underlying ht, hz, h0]
  · cases kB with
    | zero => exact absurd rfl hkB
    | succ kB =>
      obtain ⟨kA, rfl⟩ : ∃ k, kA = k + 1 := ⟨kA - 1, by omega⟩
      cases hfa : w.frozen? a with
      | true => simp [run_underlying ht, hz, h0, hnb, hnb', frozen, noView, viewAt, mayBeOne, stringish, shape, Sem.run, hsa, hsb, hfb, hfe, hfa]
      | false =>
        cases hfx : w.frozen? { block := a.block, off := kA + 1 } with
        | true => simp [run_underlying ht, hz, h0, hnb, hnb', frozen, noView, viewAt, mayBeOne, stringish, shape, Sem.run, hsa, hsb, hfb, hfe, hfa, hfx]
        | false => simp [run_underlying ht, hz, h0, hnb, hnb', frozen, noView, viewAt, mayBeOne, stringish, shape, Sem.run, hsa, hsb, hfb, hfe, hfa, hfx]
/-- .. and where both lie in one block, apart. -/
theorem run_overlaps_same {P : Program} (w : World) (tS tR e : TypeId) (ht : P.underlying tS = some (.slice e)) (size : Nat) (hz : ∀ w, (Go.sizeOf e).run P w = .ok size w)
    (a b : Addr) (la ca lb cb : Nat) (hsame : a.block = b.block) (hd : ¬ (a.off < b.off + lb * size ∧ b.off < a.off + la * size)) :
    (Extern.SlicesOverlaps.overlaps #[tS, tS] #[tR] #[.slice (some a) la ca, .slice (some b) lb cb]).run P w = .ok (.bool false) w := by
  have hnb : (a.block != b.block) = false := by simpa using hsame
  have hnb' : (a.block == b.block) = true := by simpa using hsame
  have hd' : (decide (a.off < b.off + lb * size) && decide (b.off < a.off + la * size)) = false := by
    cases h : (decide (a.off < b.off + lb * size) && decide (b.off < a.off + la * size)) with
    | false => rfl
    | true => exact absurd (by simpa using h) hd
  change Sem.run P (α := Value) (do
    let some t := (#[tS, tS] : Array TypeId)[0]? | stuck "slices.overlaps: no parameter types"
    let .slice elem ← underlying t | stuck "slices.overlaps: slice type expected"
    let size ← sizeOf elem
    match (some a : Option Addr), (some b : Option Addr) with
    | some a, some b =>
      if la = 0 ∨ lb = 0 ∨ size = 0 then pure (Value.bool false)
      else if a.block != b.block && (← frozen a) && (← frozen b) then unsupported .addressObserved
      else do
        if a.block != b.block then do
          noView a; noView b
          if ← mayBeOne a b then return Value.bool ((← choose (.extern "sameAddr.stringBytes" 2)) == 1)
        pure (Value.bool (a.block == b.block && a.off < b.off + lb * size && b.off < a.off + la * size))
    | _, _ => pure (Value.bool false)) w = _
  by_cases h0 : la = 0 ∨ lb = 0 ∨ size = 0
  · simp [run_underlying ht, hz, h0]
  · simp [run_underlying ht, hz, h0, hnb, hnb', hd', frozen, Sem.run]
end Go.Proofs.YtjfheahakfoofaaGreatDoor

/- slices.Insert at the slots, where there is room. -/
namespace Go.Proofs.YtjfheahakfoofaaGreatDoor
open Go.Em Go.RowKit Go.Lib

theorem und35 : Tryz.prog.underlying 35 = some (.slice 78) := by kernel_rfl
theorem und4 : Tryz.prog.underlying 4 = some .bool := by kernel_rfl
theorem info78 : (Tryz.prog.info? 78).map (·.size) = some 10 := by kernel_rfl
theorem size78 : ∀ w, (Go.sizeOf 78).run Tryz.prog w = .ok 10 w := Tryz.sizeOf78

set_option maxHeartbeats 4000000 in
set_option maxRecDepth 100000 in
theorem ins_shift (b off n c i vb voff vc : Nat) (cs vs : List Value) (w : World) (hi : i < n) (hroom : n + 1 ≤ c) (hn3 : n ≤ 1000) (hdis : ∀ j k, j < 10 → k < (n + 1) * 10 → vb = b → voff + j ≠ off + k)
    (hcl : cs.length = n * 10) (hvl : vs.length = 10)
    (hcs : ∀ j v, cs[j]? = some v → w.cell? ⟨b, off + j, none⟩ = some v) (hsp : ∀ j, j < (n + 1) * 10 → (w.cell? ⟨b, off + j, none⟩).isSome = true) (hfz : ∀ j, j < (n + 1) * 10 → w.frozen? ⟨b, off + j, none⟩ = false)
    (hvs : ∀ j v, vs[j]? = some v → w.cell? ⟨vb, voff + j, none⟩ = some v) (h1c : ∀ v ∈ cs, v.oneCell' = true) (h1v : ∀ v ∈ vs, v.oneCell' = true)
    (tA tB : TypeId) (kA kB : Nat) (hsa : w.shape? vb = some (tA, kA)) (hsb : w.shape? b = some (tB, kB)) (hkB : kB ≠ 0) (hkA : kA ≠ 0) (hfb : ∀ o, w.frozen? ⟨b, o, none⟩ = false) :
    Calls Tryz.prog 117 #[.slice (some ⟨b, off, none⟩) n c, .int .i64 i, .slice (some ⟨vb, voff, none⟩) 1 vc] w fun e w' =>
      e = .returned (.slice (some ⟨b, off, none⟩) (n + 1) c) ∧ w' = (w.drew.setCells b (off + (i + 1) * 10) (cs.drop (i * 10))).setCells b (off + i * 10) vs := by
  have hz2 : ¬ ((i : Int) = (n : Int)) := by omega
  have hov : ∀ cb, (callFunc 143 #[.slice (some ⟨vb, voff, none⟩) 1 vc, .slice (some ⟨b, off + (i + 1) * 10, none⟩) (n - i) cb]).run Tryz.prog w = .ok (.value (.bool false)) w := fun cb => by
    rw [run_callFunc_extern Tryz.func143 (by kernel_rfl) (by kernel_rfl) (by kernel_rfl) (e := Extern.SlicesOverlaps.overlaps #[35, 35] #[4]) (by kernel_rfl)]
    by_cases hvb : vb = b
    · rw [run_overlaps_same w 35 4 78 und35 10 size78 ⟨vb, voff, none⟩ ⟨b, off + (i + 1) * 10, none⟩ 1 vc (n - i) cb hvb (fun h => by
        obtain ⟨h1, h2⟩ := h
        dsimp only at h1 h2
        by_cases hlo : off + (i + 1) * 10 ≤ voff
        · exact hdis 0 (voff - off) (by omega) (by omega) hvb (by omega)
        · exact hdis (off + (i + 1) * 10 - voff) ((i + 1) * 10) (by omega) (by omega) hvb (by omega))]
      rfl
    · rw [run_overlaps_own w 35 4 78 und35 10 size78 ⟨vb, voff, none⟩ ⟨b, off + (i + 1) * 10, none⟩ 1 vc (n - i) cb hvb tA tB kA kB hsa hsb hkB hkA (hfb _) (hfb _)]
      rfl
  have hdl : (cs.drop (i * 10)).length = (n - i) * 10 := by rw [List.length_drop, hcl]; omega
  have hw1 : IntKind.i64.wrap ((i : Int) + 1) = (i : Int) + 1 := by rw [IntKind.wrap_i64]; omega
  have hb1 : (0 : Int) ≤ (i : Int) + 1 := by omega
  have hin : i ≤ n := by omega
  have htn : ((i : Int) + 1).toNat = i + 1 := by omega
  have hb2 : ¬ (c = i + 1) := by omega
  have hb3 : (i : Int) ≤ (n : Int) + 1 := by omega
  have hb4 : ¬ (c = i) := by omega
  have hcp1 : ∀ ty dc sc, (Builtin.copy_ #[35, 35] ty #[.slice (some ⟨b, off + (i + 1) * 10, none⟩) (n - i) dc, .slice (some ⟨b, off + i * 10, none⟩) (n + 1 - i) sc]).run Tryz.prog w.drew = .ok (goInt (Nat.min (n + 1 - i) (n - i))) (w.drew.setCells b (off + (i + 1) * 10) (cs.drop (i * 10))) := fun ty dc sc =>
    run_copy_k w.drew _ _ ty 78 10 b (off + (i + 1) * 10) (n - i) dc ⟨b, off + i * 10, none⟩ (n + 1 - i) sc (cs.drop (i * 10)) und35 info78 (by rw [hdl]; congr 1; simp only [Nat.min_def]; split <;> omega)
      (fun j v hj => by rw [Addr.add_lit, Nat.add_assoc]; exact hcs (i * 10 + j) v (by rwa [List.getElem?_drop] at hj))
      (fun j hj => by rw [Nat.add_assoc]; exact hsp _ (by omega)) (fun j hj => by rw [Nat.add_assoc]; exact hfz _ (by omega)) (fun v hv => h1c v (List.mem_of_mem_drop hv))
  obtain ⟨W1, hW1⟩ : ∃ W1, W1 = w.drew.setCells b (off + (i + 1) * 10) (cs.drop (i * 10)) := ⟨_, rfl⟩
  have hsp1 : ∀ k, k < (n + 1) * 10 → (W1.cell? ⟨b, off + k, none⟩).isSome = true := fun k hk => by
    rw [hW1]
    exact isSome_setCells b _ _ _ (fun j hj => by rw [Nat.add_assoc]; exact hsp _ (by omega)) _ (hsp k hk)
  have hcp2 : ∀ (W : World), (∀ x, W.cell? x = W1.cell? x) → (∀ x, W.frozen? x = W1.frozen? x) → ∀ ty dc, (Builtin.copy_ #[35, 35] ty #[.slice (some ⟨b, off + i * 10, none⟩) (n + 1 - i) dc, .slice (some ⟨vb, voff, none⟩) 1 vc]).run Tryz.prog W = .ok (goInt (Nat.min 1 (n + 1 - i))) (W.setCells b (off + i * 10) vs) := fun W hWc hWf ty dc =>
    run_copy_k W _ _ ty 78 10 b (off + i * 10) (n + 1 - i) dc ⟨vb, voff, none⟩ 1 vc vs und35 info78 (by rw [hvl]; simp only [Nat.min_def]; split <;> omega)
      (fun j v hj => by
        have hj' : j < 10 := by rw [← hvl]; exact (List.getElem?_eq_some_iff.1 hj).1
        rw [Addr.add_lit, hWc, hW1, World.cell?_setCells_out b _ _ _ _ (fun h _ => by
          dsimp only at h ⊢
          have h5 := hdis j (voff + j - off) hj'
          by_cases h6 : off ≤ voff + j ∧ voff + j - off < (n + 1) * 10
          · exact absurd (by omega) (h5 h6.2 h)
          · omega)]
        exact hvs j v hj)
      (fun j hj => by rw [hWc, Nat.add_assoc]; exact hsp1 _ (by omega)) (fun j hj => by rw [hWf, hW1, World.frozen?_setCells, Nat.add_assoc]; exact hfz _ (by omega)) h1v
  rw [← hW1] at hcp1
  have mixed : Tryz.prog.follows .mixedOrders = true := by kernel_rfl
  go_enter Tryz.func117, Tryz.ntmps117
  go_wp2_with (simp only [hov])
  go_region_law_o (refine step_copy_runI rfl _ _ 35 35 rfl _ _ (by simp [Act.eval, Act.put]) (by simp [Act.eval, Act.put]) (hcp1 _ _ _) ?_)
  go_wp2_with (at_builtin; refine wpList_copy_runI _ rfl _ _ 35 35 rfl _ _ rfl rfl (hcp2 _ (fun _ => rfl) (fun _ => rfl) _ _) ?_)
  go_ret
  first | exact ⟨rfl, rfl⟩ | exact ⟨rfl, by rw [hW1]⟩
end Go.Proofs.YtjfheahakfoofaaGreatDoor

/- slices.Insert at the slots: at the end, and where there is no room. -/
namespace Go.Proofs.YtjfheahakfoofaaGreatDoor
open Go.Em Go.RowKit Go.Lib

set_option maxHeartbeats 4000000 in
set_option maxRecDepth 100000 in
theorem ins_end (ob : Option Addr) (n c vb voff vc : Nat) (w w1 : World) (v : Value) (hnc : n ≤ c) (hn3 : n ≤ 1000) (hnil : ob = none → n = 0 ∧ c = 0)
    (hrun : ∀ ty, (Builtin.append_ #[35, 35] ty #[.slice ob n c, .slice (some ⟨vb, voff, none⟩) 1 vc]).run Tryz.prog w = .ok v w1) :
    Calls Tryz.prog 117 #[.slice ob n c, .int .i64 n, .slice (some ⟨vb, voff, none⟩) 1 vc] w fun e w' => e = .returned v ∧ w' = w1 := by
  have mixed : Tryz.prog.follows .mixedOrders = true := by kernel_rfl
  go_enter Tryz.func117, Tryz.ntmps117
  cases ob with
  | none =>
    obtain ⟨rfl, rfl⟩ := hnil rfl
    go_wp2_with (at_builtin; refine Lib.wpList_append_run _ rfl _ _ _ _ rfl _ _ rfl rfl _ _ (hrun _) ?_)
    go_ret
    exact ⟨rfl, rfl⟩
  | some a =>
    obtain ⟨ab, ao, asp⟩ := a
    go_wp2_with (at_builtin; refine Lib.wpList_append_run _ rfl _ _ _ _ rfl _ _ rfl rfl _ _ (hrun _) ?_)
    all_goals (go_ret; exact ⟨rfl, rfl⟩)

def IsRow (r : Array Value) (l : List Value) : Prop := r = l.toArray
theorem info78b : (Tryz.prog.info? 78).map (fun i => (i.zero.map (·.cells.size), i.size, i.bytes)) = some (some 10, 10, 152) := by kernel_rfl
theorem und3 : Tryz.prog.underlying 3 = some (.int .i64) := by kernel_rfl

set_option maxHeartbeats 4000000 in
set_option maxRecDepth 100000 in
theorem ins_grow (b off n c i vb voff vc : Nat) (cs vs : List Value) (w : World) (hi : i < n) (hnc : n ≤ c) (hroom : c < n + 1) (hc63 : c ≤ 1000000) 
    (hcl : cs.length = n * 10) (hvl : vs.length = 10)
    (hcs : ∀ j v, cs[j]? = some v → w.cell? ⟨b, off + j, none⟩ = some v)
    (hvs : ∀ j v, vs[j]? = some v → w.cell? ⟨vb, voff + j, none⟩ = some v) (h1c : ∀ v ∈ cs, v.oneCell' = true) (h1v : ∀ v ∈ vs, v.oneCell' = true) :
    Calls Tryz.prog 117 #[.slice (some ⟨b, off, none⟩) n c, .int .i64 i, .slice (some ⟨vb, voff, none⟩) 1 vc] w fun e w' =>
      ∃ (G : Nat) (tl : List Value), n + 1 ≤ G ∧ e = .returned (.slice (some ⟨w.heap.size, 0, none⟩) (n + 1) G) ∧ tl.length = (G - i) * 10 ∧
      w' = (((w.alloc (.cells ((cs.take (i * 10)) ++ tl).toArray 78)).drew.setCells w.heap.size (i * 10) vs).drew).setCells w.heap.size ((i + 1) * 10) (cs.drop (i * 10)) := by
  obtain ⟨i0, hi0, hz0, hzs, hzb⟩ : ∃ i0, Tryz.prog.info? 78 = some i0 ∧ i0.zero.map (·.cells.size) = some 10 ∧ i0.size = 10 ∧ i0.bytes = 152 := by
    obtain ⟨i0, h1, h2⟩ := Option.map_eq_some_iff.1 info78b
    simp only [Prod.mk.injEq] at h2
    exact ⟨i0, h1, h2.1, h2.2.1, h2.2.2⟩
  obtain ⟨zv, hz0, hzc⟩ := Option.map_eq_some_iff.1 hz0
  have hz2 : ¬ ((i : Int) = (n : Int)) := by omega
  have hz3 : (c : Int) < (n : Int) + 1 := by omega
  have hbw : b < w.heap.size := block_lt_of_cell (hcs 0 _ (List.getElem?_eq_getElem (by omega)))
  have hvw : vb < w.heap.size := block_lt_of_cell (hvs 0 _ (List.getElem?_eq_getElem (by omega)))
  have hkk : (n : Int) + 1 - (i : Int) = ((n + 1 - i : Nat) : Int) := by omega
  have hik : i + (n + 1 - i) = n + 1 := by omega
  have hold : (Builtin.firstCells i0.size i (.slice (some ⟨b, off, none⟩) i c)).run Tryz.prog w.drew = .ok (cs.take (i * 10)).toArray w.drew := by
    rw [hzs]
    exact run_firstCells_some w.drew 10 i ⟨b, off, none⟩ i c (cs.take (i * 10)) (by rw [List.length_take]; omega) (fun j v hj => by
      rw [Addr.add_lit]
      rw [List.getElem?_take] at hj
      split at hj
      · exact hcs j v hj
      · cases hj)
  have hrz : ∀ ty, (Builtin.append_ #[35, 3] ty #[.slice (some ⟨b, off, none⟩) i c, .int .i64 ((n : Int) + 1 - (i : Int))]).run Tryz.prog w =
      .ok (.slice (some ⟨w.heap.size, 0, none⟩) (n + 1) (grownCap w (n + 1) c 78)) (w.drew.alloc (.cells ((cs.take (i * 10)).toArray ++ Builtin.zeroCells zv.cells (n + 1 - i) ++ Builtin.zeroCells zv.cells (grownCap w (n + 1) c 78 - (n + 1))) 78)) := fun ty => by
    have h := Lib.run_append_grow_zeros w 35 3 ty 78 i0 zv .i64 .i64 und35 und3 hi0 hz0 (some ⟨b, off, none⟩) i c (cs.take (i * 10)) hold (n + 1 - i) (by omega) (by omega) (by omega) (by omega) (by rw [hzb]; omega) (by rw [hzb, hik]; exact growslice_fits hroom (by omega))
    rw [hik] at h
    rw [hkk]
    exact h
  have hGn : n + 1 ≤ grownCap w (n + 1) c 78 := grownCap_ge w _ _ _
  have hG63 : grownCap w (n + 1) c 78 ≤ 9223372036854775807 := by
    have := grownCap_le_maxLen w (n + 1) c 78 (by unfold maxLen; omega)
    unfold maxLen at this
    omega
  generalize grownCap w (n + 1) c 78 = G at hrz hGn hG63
  have hzl : ∀ k, (Builtin.zeroCells zv.cells k).size = k * 10 := fun k => by simp [Builtin.zeroCells, hzc]
  obtain ⟨tl, htl⟩ : ∃ tl : List Value, (cs.take (i * 10)).toArray ++ Builtin.zeroCells zv.cells (n + 1 - i) ++ Builtin.zeroCells zv.cells (G - (n + 1)) = ((cs.take (i * 10)) ++ tl).toArray ∧ tl.length = (G - i) * 10 := by
    refine ⟨(Builtin.zeroCells zv.cells (n + 1 - i)).toList ++ (Builtin.zeroCells zv.cells (G - (n + 1))).toList, ?_, ?_⟩
    · apply Array.toList_inj.1; simp
    · rw [List.length_append, Array.length_toList, Array.length_toList, hzl, hzl]; omega
  obtain ⟨htl, htll⟩ := htl
  rw [htl] at hrz
  obtain ⟨ROW, hROW⟩ : ∃ ROW : Array Value, ROW = ((cs.take (i * 10)) ++ tl).toArray := ⟨_, rfl⟩
  have hRl : (n + 1) * 10 ≤ ROW.size := by
    rw [hROW]
    simp only [List.size_toArray, List.length_append, List.length_take, htll]
    omega
  rw [← hROW] at hrz
  obtain ⟨W1, hW1⟩ : ∃ W1, W1 = w.drew.alloc (.cells ROW 78) := ⟨_, rfl⟩
  rw [← hW1] at hrz
  have hN : ∀ j, j < (n + 1) * 10 → (W1.cell? ⟨w.heap.size, j, none⟩).isSome = true := fun j hj => by
    rw [hW1, World.cell?_alloc_at (w := w.drew) ROW _ w.heap.size j rfl, Array.getElem?_eq_getElem (by omega)]; rfl
  have hNf : ∀ j, W1.frozen? ⟨w.heap.size, j, none⟩ = false := fun j => by rw [hW1]; exact World.frozen?_alloc_at (w := w.drew) ROW _ w.heap.size j rfl
  have hOb : ∀ j v, w.cell? ⟨b, j, none⟩ = some v → W1.cell? ⟨b, j, none⟩ = some v := fun j v h => by rw [hW1, World.cell?_alloc_past (w := w.drew) _ b j hbw]; exact h
  have hOv : ∀ j v, w.cell? ⟨vb, j, none⟩ = some v → W1.cell? ⟨vb, j, none⟩ = some v := fun j v h => by rw [hW1, World.cell?_alloc_past (w := w.drew) _ vb j hvw]; exact h
  have hcpA : ∀ (W : World), (∀ x, W.cell? x = W1.cell? x) → (∀ x, W.frozen? x = W1.frozen? x) → ∀ ty dc, (Builtin.copy_ #[35, 35] ty #[.slice (some ⟨w.heap.size, i * 10, none⟩) (n + 1 - i) dc, .slice (some ⟨vb, voff, none⟩) 1 vc]).run Tryz.prog W = .ok (goInt (Nat.min 1 (n + 1 - i))) (W.setCells w.heap.size (i * 10) vs) := fun W hWc hWf ty dc =>
    run_copy_k W _ _ ty 78 10 w.heap.size (i * 10) (n + 1 - i) dc ⟨vb, voff, none⟩ 1 vc vs und35 info78 (by rw [hvl]; simp only [Nat.min_def]; split <;> omega)
      (fun j v hj => by rw [Addr.add_lit, hWc]; exact hOv _ v (hvs j v hj))
      (fun j hj => by rw [hWc]; exact hN _ (by omega)) (fun j hj => by rw [hWf]; exact hNf _) h1v
  have hGi : ¬ (G = i) := by omega
  have hGim : ¬ (G = i + 1) := by omega
  have hci : ¬ (c = i) := by omega
  have hbN : b ≠ w.heap.size := by omega
  have hdl : (cs.drop (i * 10)).length = (n - i) * 10 := by rw [List.length_drop, hcl]; omega
  have hcpB : ∀ (W : World), (∀ x, W.cell? x = (W1.setCells w.heap.size (i * 10) vs).cell? x) → (∀ x, W.frozen? x = (W1.setCells w.heap.size (i * 10) vs).frozen? x) → ∀ ty dc sc, (Builtin.copy_ #[35, 35] ty #[.slice (some ⟨w.heap.size, (i + 1) * 10, none⟩) (n - i) dc, .slice (some ⟨b, off + i * 10, none⟩) (n - i) sc]).run Tryz.prog W = .ok (goInt (Nat.min (n - i) (n - i))) (W.setCells w.heap.size ((i + 1) * 10) (cs.drop (i * 10))) := fun W hWc hWf ty dc sc =>
    run_copy_k W _ _ ty 78 10 w.heap.size ((i + 1) * 10) (n - i) dc ⟨b, off + i * 10, none⟩ (n - i) sc (cs.drop (i * 10)) und35 info78 (by rw [hdl]; simp)
      (fun j v hj => by
        rw [Addr.add_lit, hWc, World.cell?_setCells_out _ _ _ _ _ (fun h _ => absurd h hbN), Nat.add_assoc]
        exact hOb _ v (hcs (i * 10 + j) v (by rwa [List.getElem?_drop] at hj)))
      (fun j hj => by rw [hWc]; exact isSome_setCells _ _ _ _ (fun t ht => hN _ (by omega)) _ (hN _ (by omega)))
      (fun j hj => by rw [hWf, World.frozen?_setCells]; exact hNf _) (fun v hv => h1c v (List.mem_of_mem_drop hv))
  subst hW1
  have hE1 : ∀ x, ((w.alloc (.cells ROW 78)).drew).cell? x = (w.drew.alloc (.cells ROW 78)).cell? x := fun x => rfl
  have hE2 : ∀ x, ((w.alloc (.cells ROW 78)).drew).frozen? x = (w.drew.alloc (.cells ROW 78)).frozen? x := fun x => rfl
  have hF1 : ∀ x, (((w.alloc (.cells ROW 78)).drew.setCells w.heap.size (i * 10) vs).drew).cell? x = ((w.drew.alloc (.cells ROW 78)).setCells w.heap.size (i * 10) vs).cell? x := fun x => rfl
  have hF2 : ∀ x, (((w.alloc (.cells ROW 78)).drew.setCells w.heap.size (i * 10) vs).drew).frozen? x = ((w.drew.alloc (.cells ROW 78)).setCells w.heap.size (i * 10) vs).frozen? x := fun x => rfl
  have hw1 : IntKind.i64.wrap ((i : Int) + 1) = (i : Int) + 1 := by rw [IntKind.wrap_i64]; omega
  have hb1 : (0 : Int) ≤ (i : Int) + 1 := by omega
  have hin : i ≤ n := by omega
  have htn : ((i : Int) + 1).toNat = i + 1 := by omega
  have hb3 : (i : Int) ≤ (n : Int) := by omega
  have mixed : Tryz.prog.follows .mixedOrders = true := by kernel_rfl
  have hkeep : IsRow ROW ((cs.take (i * 10)) ++ tl) := hROW
  clear hkk hik hold hRl htl hROW
  go_enter Tryz.func117, Tryz.ntmps117
  go_wp2_with (first
    | (at_builtin; refine Lib.wpList_append_run _ rfl _ _ _ _ rfl _ _ rfl rfl _ _ (hrz _) ?_)
    | (at_builtin; refine wpList_copy_runI _ rfl _ _ 35 35 rfl _ _ rfl rfl (hcpA _ hE1 hE2 _ _) ?_)
    | (at_builtin; refine wpList_copy_runI _ rfl _ _ 35 35 rfl _ _ rfl rfl (hcpB _ (fun _ => rfl) (fun _ => rfl) _ _ _) ?_))
  go_region_law_o (refine step_copy_runI rfl _ _ 35 35 rfl (.slice (some ⟨w.heap.size, (i + 1) * 10, none⟩) (n - i) (G - (i + 1))) (.slice (some ⟨b, off + i * 10, none⟩) (n - i) (c - i)) (by simp [Act.eval, Act.put]) (by simp [Act.eval, Act.put]) (hcpB _ hF1 hF2 3 (G - (i + 1)) (c - i)) ?_)
  go_wp2
  go_ret
  exact ⟨G, tl, hGn, rfl, htll, by unfold IsRow at hkeep; rw [← hkeep]⟩
end Go.Proofs.YtjfheahakfoofaaGreatDoor

/- slices.Insert at the slots: what it says to its caller. -/
namespace Go.Proofs.YtjfheahakfoofaaGreatDoor
open Go.Em Go.RowKit Go.Lib

section
variable {P : Program} {R : CodeRel} {K : Kn}
theorem post_move {w w' : World} {c0 c' : CB} {sz : Nat} {rows new : List (List X)} {res : X} {v : Value} (hI : Inv P R K [c0] [.row sz rows] w) (hf : FrameOk c0.owns w w') (hown : ∀ b o, c'.owns b o → c0.owns b o ∨ w.heap.size ≤ b)
    (hB : BoxOk P R K ([c0] ++ [c']) w' (.row sz new) c') (hres : Rep K ([c0] ++ [c']) res v) : Post P R K [c0] [.row sz rows] w res [.dead, .row sz new] (.returned v) w' := by
  have hdead : ∀ b o, ¬ Owns [c0] [Bx.dead] b o := by
    rintro b o ⟨i, c, B, h1, h2, h3, h4⟩
    cases i with
    | zero => simp at h2; subst h2; simp [Bx.live] at h3
    | succ i => simp at h2
  have hin : ∀ b o, c0.owns b o → Owns [c0] [Bx.row sz rows] b o := fun b o h => ⟨0, c0, .row sz rows, rfl, rfl, rfl, h⟩
  have hk := hI.kill 0
  have hk' : Inv P R K [c0] [.dead] w' := Inv.frame hk hf (fun b o v e ho => by
    have := hI.apart b o (hin b o ho); rw [this] at e; cases e) (fun b o ho => absurd ho (hdead b o))
  refine ⟨v, K, [c'], rfl, ⟨hk'.push hB (fun b o ho => ?_) (fun b o _ => hdead b o), hres, KLe.refl _, fun b o u e => .inl e, fun b o ho => ?_, hf.mono fun b o _ h => hin b o h, fun i B e hl => ?_⟩⟩
  · rcases hown b o ho with h | h
    · exact hI.apart b o (hin b o h)
    · cases hk : K b o with
      | none => rfl
      | some u => have := hI.known_lt hk; omega
  · obtain ⟨i, c, B, h1, h2, h3, h4⟩ := ho
    match i, h1, h2 with
    | 0, h1, h2 => simp at h2; subst h2; simp [Bx.live] at h3
    | 1, h1, h2 =>
      simp at h1; subst h1
      rcases hown b o h4 with h | h
      · exact .inl (hin b o h)
      · exact .inr h
    | i + 2, h1, h2 => simp at h2
  · cases i with
    | zero => simp at e; subst e; cases hl
    | succ i => simp at e

theorem splice_get (l vs : List Value) (o q : Nat) (h : o + vs.length ≤ l.length) : (l.take o ++ vs ++ l.drop (o + vs.length)).toArray[q]? = if q < o then l[q]? else if q < o + vs.length then vs[q - o]? else l[q]? := by
  have hT : (l.take o).length = o := by rw [List.length_take]; omega
  rw [List.getElem?_toArray]
  by_cases h5 : q < o
  · rw [if_pos h5, List.append_assoc, List.getElem?_append_left (by omega), List.getElem?_take, if_pos h5]
  · rw [if_neg h5, List.append_assoc, List.getElem?_append_right (by omega), hT]
    by_cases h6 : q < o + vs.length
    · rw [if_pos h6, List.getElem?_append_left (by omega)]
    · rw [if_neg h6, List.getElem?_append_right (by omega), List.getElem?_drop]
      congr 1; omega
theorem setCells_row (W : World) (b o : Nat) (arr : Array Value) (el : TypeId) (vs : List Value) (hb : W.heap[b]? = some (.cells arr el (0, 0))) (hl : o + vs.length ≤ arr.size) (h1 : ∀ v ∈ vs, v.oneCell' = true) :
    W.setCells b o vs = W.setRow b (arr.toList.take o ++ vs ++ arr.toList.drop (o + vs.length)).toArray := by
  have hc : ∀ j, j < vs.length → (W.cell? ⟨b, o + j, none⟩).isSome = true := fun j hj => by
    simp only [World.cell?, hb]
    rw [Array.getElem?_eq_getElem (by omega)]; rfl
  have hf : ∀ j, j < vs.length → W.frozen? ⟨b, o + j, none⟩ = false := fun j hj => by simp [World.frozen?, hb]
  have e1 := run_storeCells_cells (P := Tryz.prog) b o vs 0 W (by simpa using hc) (by simpa using hf) h1
  have e2 := run_storeCells_at Tryz.prog b o el vs 0 arr W hb (by omega) h1
  rw [e1] at e2
  simp only [Nat.add_zero] at e2
  injection e2

/-- The new row, where the elements lay or in a place of its own. -/
theorem ins_flat {K : Kn} {rows : List (List X)} {x : List X} {cs vs : List Value} (hf : Flat K 10 rows cs) (hv : Flat K 10 [x] vs) (i : Nat) : Flat K 10 (rows.take i ++ [x] ++ rows.drop i) (cs.take (i * 10) ++ vs ++ cs.drop (i * 10)) :=
  ((hf.take i).append hv).append (hf.drop i)
theorem ins_get {cs vs : List Value} {n i k : Nat} {v : Value} (hcl : cs.length = n * 10) (hvl : vs.length = 10) (hi : i ≤ n) (h : (cs.take (i * 10) ++ vs ++ cs.drop (i * 10))[k]? = some v) :
    (k < i * 10 ∧ cs[k]? = some v) ∨ (i * 10 ≤ k ∧ k < (i + 1) * 10 ∧ vs[k - i * 10]? = some v) ∨ ((i + 1) * 10 ≤ k ∧ k < (n + 1) * 10 ∧ cs[k - 10]? = some v) := by
  have hT : (cs.take (i * 10)).length = i * 10 := by rw [List.length_take]; omega
  by_cases h1 : k < i * 10
  · rw [List.append_assoc, List.getElem?_append_left (by omega), List.getElem?_take, if_pos h1] at h
    exact .inl ⟨h1, h⟩
  · rw [List.append_assoc, List.getElem?_append_right (by omega), hT] at h
    by_cases h2 : k < (i + 1) * 10
    · rw [List.getElem?_append_left (by omega)] at h
      exact .inr (.inl ⟨by omega, h2, h⟩)
    · rw [List.getElem?_append_right (by omega), List.getElem?_drop] at h
      have e : i * 10 + (k - i * 10 - vs.length) = k - 10 := by omega
      rw [e] at h
      have := (List.getElem?_eq_some_iff.1 h).1
      exact .inr (.inr ⟨by omega, by omega, h⟩)

set_option maxRecDepth 100000 in
theorem ins_sem {R : CodeRel} (n i : Nat) (t : Bool) (x : List X) (rows : List (List X)) (hi : i ≤ n) (hn : n = rows.length) (hn2 : n ≤ 1000) :
    FSem Tryz.prog R 117 [.bs 0 0 n, .v (.int .i64 (Int.ofNat i)), .sl t 10 [x]] [.row 10 rows] (.bs 1 0 (n + 1)) [.dead, .row 10 (rows.take i ++ [x] ++ rows.drop i)] := by
  intro K C w cargs hI ha
  have hs : cargs.size = 3 := ha.1
  have r0 := ha.2 0 _ cargs[0] rfl (Array.getElem?_eq_getElem (by omega))
  have r1 := ha.2 1 _ cargs[1] rfl (Array.getElem?_eq_getElem (by omega))
  have r2 := ha.2 2 _ cargs[2] rfl (Array.getElem?_eq_getElem (by omega))
  have hca : cargs = #[cargs[0], cargs[1], cargs[2]] := by
    refine Array.ext (by simp [hs]) fun j h1 h2 => ?_
    match j, h1, h2 with
    | 0, _, _ => rfl
    | 1, _, _ => rfl
    | 2, _, _ => rfl
    | j + 3, h1, _ => omega
  rw [hca]
  generalize cargs[0] = v0 at r0
  generalize cargs[1] = v1 at r1
  generalize cargs[2] = v2 at r2
  obtain rfl := rep_v r1
  obtain ⟨c0, hC⟩ : ∃ c0, C = [c0] := by
    have := hI.size
    match C, this with
    | [c0], _ => exact ⟨c0, rfl⟩
  subst hC
  obtain ⟨vb, vo, c2, rfl⟩ : ∃ vb vo c2, v2 = .slice (some ⟨vb, vo, none⟩) 1 c2 := by
    generalize hx : X.sl t 10 [x] = y at r2
    cases r2 <;> try cases hx
    exact ⟨_, _, _, rfl⟩
  obtain ⟨vs, hv, hvK⟩ := r2.flat
  have hvl : vs.length = 10 := by simpa using hv.len
  have hvs : ∀ j v, vs[j]? = some v → w.cell? ⟨vb, vo + j, none⟩ = some v := fun j v h => hI.known _ _ _ (hvK j v h)
  have h1v := hv.oneCell
  obtain ⟨tA, kA, hsa, hkA⟩ : ∃ tA kA, w.shape? vb = some (tA, kA) ∧ kA ≠ 0 := by
    have h0 := hvs 0 _ (List.getElem?_eq_getElem (by omega))
    unfold World.cell? at h0
    split at h0
    · rename_i arr el fr hh
      refine ⟨el, arr.size, by simp [World.shape?, hh], fun e => ?_⟩
      have := (Array.getElem?_eq_some_iff.1 h0).1
      omega
    · cases h0
  have hvfc : ∀ w' : World, w'.heap = w.heap → (Builtin.firstCells 10 1 (.slice (some ⟨vb, vo, none⟩) 1 c2)).run Tryz.prog w' = .ok vs.toArray w' := fun w' hw => by
    refine run_firstCells_some w' 10 1 ⟨vb, vo, none⟩ 1 c2 vs (by omega) (fun j u hu => ?_)
    rw [Addr.add_lit]
    have := hvs j u hu
    simp only [World.cell?, hw] at this ⊢; exact this
  have hz78 : (zeroP Tryz.prog 78).isSome = true := by kernel_rfl
  obtain ⟨z78, hz78⟩ := Option.isSome_iff_exists.1 hz78
  have hs78 : sizeP Tryz.prog 78 = some 10 := by kernel_rfl
  have hb78 : bytesP Tryz.prog 78 = some 152 := by kernel_rfl
  -- a new row, at the end
  have endGrow : ∀ (ob : Option Addr) (c : Nat) (olds : List Value), i = n → n ≤ c → c < n + 1 → (ob = none → n = 0 ∧ c = 0) → Flat K 10 rows olds → (∀ w' : World, w'.heap = w.heap → (Builtin.firstCells 10 n (.slice ob n c)).run Tryz.prog w' = .ok olds.toArray w') →
      Calls Tryz.prog 117 #[.slice ob n c, .int .i64 (Int.ofNat i), .slice (some ⟨vb, vo, none⟩) 1 c2] w (Post Tryz.prog R K [c0] [.row 10 rows] w (.bs 1 0 (n + 1)) [.dead, .row 10 (rows.take i ++ [x] ++ rows.drop i)]) := by
    intro ob c olds hin hnc hcn hnil hfo hfco
    subst hin
    have hex : ∃ rest : List Value, (∀ ty, (Builtin.append_ #[35, 35] ty #[.slice ob i c, .slice (some ⟨vb, vo, none⟩) 1 c2]).run Tryz.prog w = .ok (.slice (some ⟨w.heap.size, 0, none⟩) (i + 1) (grownCap w (i + 1) c 78)) (w.drew.alloc (.cells (olds ++ vs ++ rest).toArray 78))) ∧ rest.length = (grownCap w (i + 1) c 78 - (i + 1)) * 10 := by
      obtain ⟨rest, h1, h2⟩ := run_app_grow (P := Tryz.prog) (w := w) (ty := 0) (ob := ob) (oc := some ⟨vb, vo, none⟩) (n := i) (cap := c) (m := 1) (c := c2) und35 und35 hs78 hb78 hz78 olds vs hfco hvfc hcn (by omega) (by omega) (by omega)
      exact ⟨rest, fun ty => h1, h2⟩
    obtain ⟨rest, hrun, hrl⟩ := hex
    have hm := grownCap_ge w (i + 1) c 78
    generalize grownCap w (i + 1) c 78 = m at hrun hrl hm
    refine (ins_end ob i c vb vo c2 w _ _ hnc hn2 hnil hrun).mono ?_
    rintro e w' ⟨rfl, rfl⟩
    have hfl := hfo.append hv
    have e1 : rows.take i ++ [x] ++ rows.drop i = rows ++ [x] := by
      rw [hn, List.take_length, List.drop_length, List.append_nil]
    rw [e1]
    have hol : olds.length = i * 10 := by rw [hfo.len, ← hn]
    have hsz : (olds ++ vs ++ rest).toArray.size = m * 10 := by
      simp only [List.size_toArray, List.length_append, hol, hvl, hrl]; omega
    refine post_move (c' := .at w.heap.size 0 (m * 10) 10) hI (FrameOk.trans (FrameOk.drew _ w) (FrameOk.alloc (S := c0.owns) _ _) (fun _ _ _ h => h)) (fun b o h => .inr (by rw [h.1]; exact Nat.le_refl _)) (hfl.box (alloc_get w.drew _) (fun k v hk => ?_) (by simp only [List.length_append, List.length_singleton]; omega) (by omega)) ?_
    · rw [Nat.zero_add, List.getElem?_toArray, List.getElem?_append_left (List.getElem?_eq_some_iff.1 hk).1]; exact hk
    · have := @Rep.bs K ([c0] ++ [.at w.heap.size 0 (m * 10) 10]) 1 0 (i + 1) w.heap.size 0 (m * 10) 10 m rfl (by omega) (by omega)
      simpa using this
  generalize hx0 : X.bs 0 0 n = y0 at r0
  cases r0 <;> try cases hx0
  case bsNil ob hc =>
    have e0 : c0 = .ghost := by simpa using hc
    subst e0
    have hi0 : i = 0 := by omega
    have hr0 : rows = [] := List.eq_nil_of_length_eq_zero hn.symm
    refine endGrow ob 0 [] hi0 (Nat.le_refl _) (by omega) (fun _ => ⟨rfl, rfl⟩) (by rw [hr0]; exact Flat.nil) (fun w' _ => ?_)
    cases ob <;> simp [Builtin.firstCells, loadCells, loadCellsFrom]
  case bs b base hi' sz cap hc hcap hlen =>
    have e0 : c0 = .at b base hi' sz := by simpa using hc
    subst e0
    obtain ⟨arr, el, g1, g2, g3, hbl, hfe⟩ := (hI.box 0 _ _ rfl rfl).flat
    subst g1
    simp only [Nat.zero_mul, Nat.zero_add, Nat.add_zero] at hcap ⊢
    generalize hcd : (arr.toList.drop base).take (rows.length * 10) = cs at hfe
    have hcl : cs.length = n * 10 := by rw [hfe.len, ← hn]
    have hcar : ∀ j v, cs[j]? = some v → arr[base + j]? = some v := fun j v h => by
      rw [← hcd, List.getElem?_take] at h
      split at h
      · rw [List.getElem?_drop] at h; simpa using h
      · cases h
    have hcs : ∀ j v, cs[j]? = some v → w.cell? ⟨b, base + j, none⟩ = some v := fun j v h => by
      simp only [World.cell?, hbl]; exact hcar j v h
    have h1c := hfe.oneCell
    have hnk : ∀ o, base ≤ o → o < hi' → K b o = none := fun o h1 h2 => hI.apart b o ⟨0, _, _, rfl, rfl, rfl, ⟨rfl, h1, h2⟩⟩
    have hfz : ∀ o, w.frozen? ⟨b, o, none⟩ = false := fun o => by simp [World.frozen?, hbl]
    have hflat := ins_flat hfe hv i
    by_cases hin : i = n
    · by_cases hfit : n + 1 ≤ cap
      · subst hin
        have hst := run_storeCells_at Tryz.prog b (base + i * 10) el vs 0 arr w hbl (by omega) h1v
        simp only [Nat.add_zero] at hst
        have hrun : ∀ ty, (Builtin.append_ #[35, 35] ty #[.slice (some ⟨b, base, none⟩) i cap, .slice (some ⟨vb, vo, none⟩) 1 c2]).run Tryz.prog w = .ok (.slice (some ⟨b, base, none⟩) (i + 1) cap) (w.setRow b (arr.toList.take (base + i * 10) ++ vs ++ arr.toList.drop (base + i * 10 + vs.length)).toArray) := fun ty =>
          run_app_fit (P := Tryz.prog) (ty := ty) (ob := some ⟨b, base, none⟩) und35 und35 hs78 vs _ (hvfc w rfl) hfit (fun ad e => by cases e; rw [Addr.add_lit]; exact hst) (fun e => by cases e)
        refine (ins_end _ i cap vb vo c2 w _ _ (by omega) hn2 (fun e => by cases e) hrun).mono ?_
        rintro e w' ⟨rfl, rfl⟩
        have hget : ∀ q, (arr.toList.take (base + i * 10) ++ vs ++ arr.toList.drop (base + i * 10 + vs.length)).toArray[q]? = if q < base + i * 10 then arr[q]? else if q < base + i * 10 + vs.length then vs[q - (base + i * 10)]? else arr[q]? := fun q => by
          rw [splice_get _ _ _ _ (by have : arr.toList.length = arr.size := Array.length_toList; omega)]; simp
        have hsize : (arr.toList.take (base + i * 10) ++ vs ++ arr.toList.drop (base + i * 10 + vs.length)).toArray.size = arr.size := by simp; omega
        generalize (arr.toList.take (base + i * 10) ++ vs ++ arr.toList.drop (base + i * 10 + vs.length)).toArray = arr' at hget hsize
        refine post_move (c' := .at b base hi' 10) hI (FrameOk.setRow hbl hsize fun q hq => ?_) (fun b' o' h => .inl h) (hflat.box (setRow_heap w b arr arr' el _ hbl) (fun k v hk => ?_) (by rw [hflat.len.symm.trans (by simp; omega : _ = (i + 1) * 10)]; omega) (by omega)) ?_
        · rw [hget]
          have hout : ¬ (base ≤ q ∧ q < hi') := fun hh => hq ⟨rfl, hh.1, hh.2⟩
          by_cases h5 : q < base + i * 10
          · rw [if_pos h5]
          · rw [if_neg h5, if_neg (by omega)]
        · rw [hget]
          rcases ins_get hcl hvl (Nat.le_refl _) hk with ⟨h1, h2⟩ | ⟨h1, h2, h3⟩ | ⟨h1, h2, h3⟩
          · rw [if_pos (by omega)]; exact hcar k v h2
          · rw [if_neg (by omega), if_pos (by omega), ← h3]; congr 1; omega
          · omega
        · have := @Rep.bs K ([.at b base hi' 10] ++ [.at b base hi' 10]) 1 0 (i + 1) b base hi' 10 cap rfl (by omega) hfit
          simpa using this
      · refine endGrow (some ⟨b, base, none⟩) cap cs hin (by omega) (by omega) (fun e => by cases e) hfe (fun w' hw => ?_)
        refine run_firstCells_some w' 10 n ⟨b, base, none⟩ n cap cs (by omega) (fun j u hu => ?_)
        rw [Addr.add_lit]
        have := hcs j u hu
        simp only [World.cell?, hw] at this ⊢; exact this
    · have hil : i < n := by omega
      by_cases hfit : n + 1 ≤ cap
      · have hlb : arr.toList.length = arr.size := Array.length_toList
        have hsh : w.shape? b = some (el, arr.size) := by simp [World.shape?, hbl]
        refine (ins_shift b base n cap i vb vo c2 cs vs w hil hfit hn2 (fun j k hj hk e hne => ?_) hcl hvl hcs (fun j hj => ?_) (fun j _ => hfz _) hvs h1c h1v tA el kA arr.size hsa hsh (by omega) hkA hfz).mono ?_
        · have hk1 := hvK j _ (List.getElem?_eq_getElem (by omega))
          rw [e, hne, hnk _ (by omega) (by omega)] at hk1
          cases hk1
        · simp only [World.cell?, hbl]
          rw [Array.getElem?_eq_getElem (by omega)]; rfl
        rintro e w' ⟨rfl, rfl⟩
        have hdl : (cs.drop (i * 10)).length = (n - i) * 10 := by rw [List.length_drop, hcl]; omega
        have hbl2 : w.drew.heap[b]? = some (.cells arr el (0, 0)) := hbl
        rw [setCells_row w.drew b _ arr el _ hbl2 (by omega) (fun v hv' => h1c v (List.mem_of_mem_drop hv'))]
        have hget1 := fun q => splice_get arr.toList (cs.drop (i * 10)) (base + (i + 1) * 10) q (by omega)
        have hsz1 : (arr.toList.take (base + (i + 1) * 10) ++ cs.drop (i * 10) ++ arr.toList.drop (base + (i + 1) * 10 + (cs.drop (i * 10)).length)).toArray.size = arr.size := by
          simp only [List.size_toArray, List.length_append, List.length_take, List.length_drop, hlb]; omega
        generalize (arr.toList.take (base + (i + 1) * 10) ++ cs.drop (i * 10) ++ arr.toList.drop (base + (i + 1) * 10 + (cs.drop (i * 10)).length)).toArray = arr1 at hget1 hsz1 ⊢
        have hb1 := setRow_heap w.drew b arr arr1 el (0, 0) hbl2
        have hlb1 : arr1.toList.length = arr1.size := Array.length_toList
        rw [setCells_row _ b _ arr1 el _ hb1 (by omega) h1v]
        have hget2 := fun q => splice_get arr1.toList vs (base + i * 10) q (by omega)
        have hsz2 : (arr1.toList.take (base + i * 10) ++ vs ++ arr1.toList.drop (base + i * 10 + vs.length)).toArray.size = arr1.size := by
          simp only [List.size_toArray, List.length_append, List.length_take, List.length_drop, hlb1]; omega
        generalize (arr1.toList.take (base + i * 10) ++ vs ++ arr1.toList.drop (base + i * 10 + vs.length)).toArray = arr2 at hget2 hsz2 ⊢
        have hb2 := setRow_heap _ b arr1 arr2 el (0, 0) hb1
        simp only [Array.getElem?_toList] at hget1 hget2
        refine post_move (c' := .at b base hi' 10) hI (FrameOk.trans (FrameOk.drew _ w) (FrameOk.trans (FrameOk.setRow hbl2 hsz1 fun q hq => ?_) (FrameOk.setRow (S := (CB.at b base hi' 10).owns) hb1 hsz2 fun q hq => ?_) (fun _ _ _ h => h)) (fun _ _ _ h => h)) (fun b' o' h => .inl h) (hflat.box hb2 (fun k v hk => ?_) ?_ (by omega)) ?_
        · rw [hget1]
          have hout : ¬ (base ≤ q ∧ q < hi') := fun hh => hq ⟨rfl, hh.1, hh.2⟩
          by_cases h5 : q < base + (i + 1) * 10
          · rw [if_pos h5]
          · rw [if_neg h5, if_neg (by omega)]
        · rw [hget2]
          have hout : ¬ (base ≤ q ∧ q < hi') := fun hh => hq ⟨rfl, hh.1, hh.2⟩
          by_cases h5 : q < base + i * 10
          · rw [if_pos h5]
          · rw [if_neg h5, if_neg (by omega)]
        · rw [hget2]
          rcases ins_get hcl hvl hi hk with ⟨h1, h2⟩ | ⟨h1, h2, h3⟩ | ⟨h1, h2, h3⟩
          · rw [if_pos (by omega), hget1, if_pos (by omega)]; exact hcar k v h2
          · rw [if_neg (by omega), if_pos (by omega), ← h3]; congr 1; omega
          · rw [if_neg (by omega), if_neg (by omega), hget1, if_neg (by omega), if_pos (by omega), List.getElem?_drop, ← h3]; congr 1; omega
        · have := hflat.len
          simp only [List.length_append, List.length_take, List.length_drop, List.length_singleton]
          omega
        · have := @Rep.bs K ([.at b base hi' 10] ++ [.at b base hi' 10]) 1 0 (n + 1) b base hi' 10 cap rfl (by omega) hfit
          simpa using this
      · refine (ins_grow b base n cap i vb vo c2 cs vs w hil (by omega) (by omega) (by omega) hcl hvl hcs hvs h1c h1v).mono ?_
        rintro e w' ⟨G, tl, hG, rfl, htl, rfl⟩
        have hdl : (cs.drop (i * 10)).length = (n - i) * 10 := by rw [List.length_drop, hcl]; omega
        have hTl : (cs.take (i * 10)).length = i * 10 := by rw [List.length_take]; omega
        generalize hA : (cs.take (i * 10) ++ tl).toArray = A
        have hAs : A.size = G * 10 := by rw [← hA, List.size_toArray, List.length_append, hTl, htl]; omega
        have hlA : A.toList.length = A.size := Array.length_toList
        have hb0 : (w.alloc (.cells A 78)).drew.heap[w.heap.size]? = some (.cells A 78 (0, 0)) := alloc_get w _
        rw [setCells_row _ _ _ A 78 _ hb0 (by omega) h1v]
        have hget1 := fun q => splice_get A.toList vs (i * 10) q (by omega)
        have hsz1 : (A.toList.take (i * 10) ++ vs ++ A.toList.drop (i * 10 + vs.length)).toArray.size = A.size := by
          simp only [List.size_toArray, List.length_append, List.length_take, List.length_drop, hlA]; omega
        generalize (A.toList.take (i * 10) ++ vs ++ A.toList.drop (i * 10 + vs.length)).toArray = arr1 at hget1 hsz1 ⊢
        have hb1 := setRow_heap _ w.heap.size A arr1 78 (0, 0) hb0
        have hlb1 : arr1.toList.length = arr1.size := Array.length_toList
        have hb1' : ((w.alloc (.cells A 78)).drew.setRow w.heap.size arr1).drew.heap[w.heap.size]? = some (.cells arr1 78 (0, 0)) := hb1
        rw [setCells_row _ _ _ arr1 78 _ hb1' (by omega) (fun v hv' => h1c v (List.mem_of_mem_drop hv'))]
        have hget2 := fun q => splice_get arr1.toList (cs.drop (i * 10)) ((i + 1) * 10) q (by omega)
        have hsz2 : (arr1.toList.take ((i + 1) * 10) ++ cs.drop (i * 10) ++ arr1.toList.drop ((i + 1) * 10 + (cs.drop (i * 10)).length)).toArray.size = arr1.size := by
          simp only [List.size_toArray, List.length_append, List.length_take, List.length_drop, hlb1]; omega
        generalize (arr1.toList.take ((i + 1) * 10) ++ cs.drop (i * 10) ++ arr1.toList.drop ((i + 1) * 10 + (cs.drop (i * 10)).length)).toArray = arr2 at hget2 hsz2 ⊢
        have hb2 := setRow_heap _ w.heap.size arr1 arr2 78 (0, 0) hb1'
        simp only [Array.getElem?_toList] at hget1 hget2
        have hfr : FrameOk (CB.at b base hi' 10).owns w (((w.alloc (.cells A 78)).drew.setRow w.heap.size arr1).drew.setRow w.heap.size arr2) := by
          have f1 : FrameOk (fun p _ => p = w.heap.size) w (((w.alloc (.cells A 78)).drew.setRow w.heap.size arr1).drew.setRow w.heap.size arr2) :=
            FrameOk.trans (FrameOk.alloc (S := fun p _ => p = w.heap.size) w _) (FrameOk.trans (FrameOk.drew _ _) (FrameOk.trans (FrameOk.setRow hb0 hsz1 fun q hq => absurd rfl hq) (FrameOk.trans (FrameOk.drew _ _) (FrameOk.setRow hb1' hsz2 fun q hq => absurd rfl hq) (fun _ _ _ h => h)) (fun _ _ _ h => h)) (fun _ _ _ h => h)) (fun _ _ _ h => h)
          exact f1.mono fun p o hp h => by omega
        refine post_move (c' := .at w.heap.size 0 (G * 10) 10) hI hfr (fun b' o' h => .inr (by rw [h.1]; exact Nat.le_refl _)) (hflat.box hb2 (fun k v hk => ?_) ?_ (by omega)) ?_
        · rw [Nat.zero_add, hget2]
          rcases ins_get hcl hvl hi hk with ⟨h1, h2⟩ | ⟨h1, h2, h3⟩ | ⟨h1, h2, h3⟩
          · rw [if_pos (by omega), hget1, if_pos (by omega), ← hA, List.getElem?_toArray, List.getElem?_append_left (by omega), List.getElem?_take, if_pos h1]; exact h2
          · rw [if_pos (by omega), hget1, if_neg (by omega), if_pos (by omega)]; exact h3
          · rw [if_neg (by omega), if_pos (by omega), List.getElem?_drop, ← h3]; congr 1; omega
        · simp only [List.length_append, List.length_take, List.length_drop, List.length_singleton]
          omega
        · have := @Rep.bs K ([.at b base hi' 10] ++ [.at w.heap.size 0 (G * 10) 10]) 1 0 (n + 1) w.heap.size 0 (G * 10) 10 G rfl (by omega) (by omega)
          simpa using this
end
end Go.Proofs.YtjfheahakfoofaaGreatDoor

/- The abstract machine with this table is sound for the program: the three functions of the library that are not walked. -/
namespace Go.Proofs
open Go.Shelf
def Tryz.laysClone_ren : Go.Shelf.Ren := ⟨fun | 15 => 82 | n => n, fun | 22 => 32 | 3 => 3 | 4 => 4 | n => n, fun | n => n⟩
theorem Tryz.laysClone : Go.Proofs.Lays2.n15 Tryz.prog Tryz.laysClone_ren := {
  mixed := by kernel_rfl
  f15 := Tryz.func82.trans (congrArg some (by kernel_rfl))
  t3 := Tryz.underlying3
  a3 := Tryz.isAgg3
  z3 := Tryz.sizeOf3
  v3 := Tryz.zeroValue3
  t4 := Tryz.underlying4
  a4 := Tryz.isAgg4
  z4 := Tryz.sizeOf4
  v4 := Tryz.zeroValue4
  t22 := Tryz.underlying32
  a22 := Tryz.isAgg32
  z22 := Tryz.sizeOf32
  v22 := Tryz.zeroValue32
  i3 := by kernel_rfl }
def Tryz.laysValid_ren : Go.Shelf.Ren := ⟨fun | 196 => 127 | 259 => 145 | n => n, fun | 9 => 9 | 4 => 4 | 3 => 3 | 5 => 5 | 12 => 12 | 119 => 191 | 0 => 0 | 46 => 186 | 139 => 194 | 138 => 193 | 53 => 198 | n => n, fun | 3 => 0 | 4 => 1 | n => n⟩
theorem Tryz.laysValid : Go.Proofs.Lays.n196 Tryz.prog Tryz.laysValid_ren := {
  mixed := by kernel_rfl
  f196 := Tryz.func127.trans (congrArg some (by kernel_rfl))
  f259 := Tryz.func145.trans (congrArg some (by kernel_rfl))
  t0 := Tryz.underlying0
  a0 := Tryz.isAgg0
  z0 := Tryz.sizeOf0
  v0 := Tryz.zeroValue0
  t3 := Tryz.underlying3
  a3 := Tryz.isAgg3
  z3 := Tryz.sizeOf3
  v3 := Tryz.zeroValue3
  t4 := Tryz.underlying4
  a4 := Tryz.isAgg4
  z4 := Tryz.sizeOf4
  v4 := Tryz.zeroValue4
  t5 := Tryz.underlying5
  a5 := Tryz.isAgg5
  z5 := Tryz.sizeOf5
  v5 := Tryz.zeroValue5
  t9 := Tryz.underlying9
  a9 := Tryz.isAgg9
  z9 := Tryz.sizeOf9
  v9 := Tryz.zeroValue9
  t12 := Tryz.underlying12
  a12 := Tryz.isAgg12
  z12 := Tryz.sizeOf12
  v12 := Tryz.zeroValue12
  t46 := Tryz.underlying186
  a46 := Tryz.isAgg186
  z46 := Tryz.sizeOf186
  v46 := Tryz.zeroValue186
  t53 := Tryz.underlying198
  a53 := Tryz.isAgg198
  z53 := Tryz.sizeOf198
  v53 := Tryz.zeroValue198
  t119 := Tryz.underlying191
  a119 := Tryz.isAgg191
  z119 := Tryz.sizeOf191
  t138 := Tryz.underlying193
  a138 := Tryz.isAgg193
  z138 := Tryz.sizeOf193
  v138 := Tryz.zeroValue193
  t139 := Tryz.underlying194
  a139 := Tryz.isAgg194
  z139 := Tryz.sizeOf194
  v139 := Tryz.zeroValue194
  g3 := by kernel_rfl
  g4 := by kernel_rfl }
namespace YtjfheahakfoofaaGreatDoor
open Go.RowKit Go.Em

set_option maxHeartbeats 1000000 in
set_option maxRecDepth 100000 in
theorem compare_calls (a b : ByteArray) (w : World) :
    Calls Tryz.prog 137 #[.string a, .string b] w fun e w' => e = .returned (.int .i64 (Lib.compareBytes a.data.toList b.data.toList)) ∧ w' = w := by
  go_enter Tryz.func137, Tryz.ntmps137
  go_wp2
  rw [run_callFunc_extern Tryz.func147 (by kernel_rfl) (by kernel_rfl) (by kernel_rfl) (e := Extern.BytealgCompare.compare) (by kernel_rfl), Lib.run_compareString]
  simp only [Result.andThen]
  rw [Oper.upon_value]
  go_wp2
  go_ret
  exact ⟨rfl, rfl⟩

section
variable {P : Program} {R : CodeRel}
/-- A function that gives back a value of one word, and may make blocks of its own. -/
theorem fsem_word {f : FuncId} {args : List X} {inb : List Bx} {u : Value} (hu : okV u = true) (h : ∀ (cargs : Array Value) (w : World) (K : Kn) (C : List CB), Inv P R K C inb w → ArgsRep K C args cargs → Calls P f cargs w fun e w' => e = .returned u ∧ Below w.heap.size w w') : FSem P R f args inb (.v u) inb := by
  intro K C w cargs hI ha
  refine (h cargs w K C hI ha).mono ?_
  rintro e w' ⟨rfl, hB⟩
  have hf := frame_of_below hB
  exact ⟨u, K, [], rfl, owns_same (hI.still hf), .v hu, KLe.refl _, fun b o v e => .inl e, fun b o ho => .inl (by rw [List.append_nil] at ho; exact ho), hf.mono (fun b o _ hs => hs.elim), fun i B hB hl => ⟨B, hB, hl⟩⟩
end
theorem intsOf_length : ∀ {es : List (List X)} {zs : List Int}, intsOf es = some zs → es.length = zs.length ∧ ∀ j, j < zs.length → es[j]? = some [.v (.int .i64 (zs.getD j 0))]
  | [], zs, h => by
    simp only [intsOf, Option.some.injEq] at h; subst h
    exact ⟨rfl, fun j hj => by simp at hj⟩
  | e :: r, zs, h => by
    unfold intsOf at h
    split at h
    · rename_i heq; cases heq
    · rename_i z r' heq
      obtain ⟨rfl, rfl⟩ := List.cons.inj heq
      split at h
      · rename_i l hl
        simp only [Option.some.injEq] at h; subst h
        obtain ⟨h1, h2⟩ := intsOf_length hl
        refine ⟨by simp [h1], fun j hj => ?_⟩
        cases j with
        | zero => rfl
        | succ j =>
          have := h2 j (by simpa using hj)
          simpa using this
      · cases h
    · cases h
theorem map_getD (zs : List Int) : zs.take zs.length = zs := List.take_length

theorem clone_sem {R : CodeRel} (t : Bool) (es : List (List X)) (zs : List Int) (h : intsOf es = some zs) (hz : zs.length ≤ 1000000) (inb : List Bx) : FSem Tryz.prog R 82 [.sl t 1 es] inb (.bs inb.length 0 zs.length) (inb ++ [.row 1 (intRow zs)]) := by
  refine fsem_ints (el := 3) zs fun cargs w K C hI ha => ?_
  obtain ⟨h1, h2⟩ := intsOf_length h
  have hs : cargs.size = 1 := ha.1
  have r0 := ha.2 0 _ cargs[0] rfl (Array.getElem?_eq_getElem (by omega))
  have hca : cargs = #[cargs[0]] := by
    refine Array.ext (by simp [hs]) fun i h1 h2 => ?_
    match i, h1, h2 with
    | 0, _, _ => rfl
    | i + 1, h1, _ => omega
  rw [hca]
  generalize cargs[0] = v at r0
  generalize hx : X.sl t 1 es = x at r0
  cases r0 <;> try cases hx
  case slNil ob =>
    simp only [intsOf, Option.some.injEq] at h; subst h
    cases ob with
    | none =>
      refine (Any.slices_Clone_int_nil Tryz.laysClone 0 0 w).mono ?_
      rintro e w' ⟨rfl, rfl⟩
      exact ⟨_, rfl, ⟨rfl, .inl ⟨rfl, rfl⟩⟩, Below.refl _ _⟩
    | some a =>
      refine (Any.slices_Clone_int_zero Tryz.laysClone a 0 w).mono ?_
      rintro e w' ⟨v', rfl, ho, _, hB⟩
      exact ⟨v', rfl, ho, hB⟩
  case sl b o cap vals hcap hcell hr htight hlen hk =>
    have hcells : ∀ j, j < zs.length → w.cell? ⟨b, o + j, none⟩ = some (.int .i64 (zs.getD j 0)) := fun j hj => by
      have e1 := h2 j hj
      have e2 : at2 es j 0 = some (.v (.int .i64 (zs.getD j 0))) := by simp [at2, e1]
      have e3 := hI.known _ _ _ (hk j 0 _ e2)
      have e4 := rep_v (hr j 0 _ e2)
      rw [← e4]
      simpa using e3
    refine (Any.slices_Clone_int Tryz.laysClone b o es.length cap zs w (by omega) (by omega) hcells).mono ?_
    rintro e w' ⟨v', rfl, ho, _, hB⟩
    refine ⟨v', rfl, ?_, hB⟩
    rw [h1, List.take_length] at ho
    exact ho

/-- The tables of the library's text, as they lie in memory. -/
theorem tabs_of {R : CodeRel} (hR : R.gl = gl) {K : Kn} {C : List CB} {bx : List Bx} {w : World} (hI : Inv Tryz.prog R K C bx w) : Lib.Utf8Tabs (Tryz.laysValid_ren.g 3) (Tryz.laysValid_ren.g 4) w := by
  have cell : ∀ (g : Nat) (cs : List X), gl g = some cs → ∀ (j : Nat) (v : Value), cs[j]? = some (.v v) → w.cell? ⟨g, j, none⟩ = some v := fun g cs hg j v hj => by
    have h := hI.glob g cs (by rw [hR]; exact hg)
    cases h with
    | dp vals hcell hk hr =>
      have e3 := hI.known _ _ _ (hk j _ hj)
      rw [← rep_v (hr j _ hj)]
      simpa using e3
  have g3 : Tryz.laysValid_ren.g 3 = 0 := by kernel_rfl
  have g4 : Tryz.laysValid_ren.g 4 = 1 := by kernel_rfl
  rw [g3, g4]
  constructor
  · intro c hc
    have hall : ((List.range 256).all fun c => match (bytesX Go.Pinned.utf8FirstZ)[c]? with
      | some (.v (.int .u8 z)) => z == Lib.firstT c
      | _ => false) = true := by kernel_rfl
    have h1 := List.all_eq_true.1 hall c (List.mem_range.2 hc)
    split at h1
    · rename_i z hz
      rw [cell 0 _ rfl c _ hz, eq_of_beq h1]
    · cases h1
  · intro i hi
    have hall : ((List.range 16).all fun i => (match (bytesX ([128, 191, 160, 191, 128, 159, 144, 191, 128, 143] ++ List.replicate 22 0))[2 * i]? with
      | some (.v (.int .u8 z)) => z == Lib.accLo i
      | _ => false) && (match (bytesX ([128, 191, 160, 191, 128, 159, 144, 191, 128, 143] ++ List.replicate 22 0))[2 * i + 1]? with
      | some (.v (.int .u8 z)) => z == Lib.accHi i
      | _ => false)) = true := by kernel_rfl
    have h1 := List.all_eq_true.1 hall i (List.mem_range.2 hi)
    rw [Bool.and_eq_true] at h1
    obtain ⟨h1, h2⟩ := h1
    constructor
    · split at h1
      · rename_i z hz
        rw [cell 1 _ rfl (2 * i) _ hz, eq_of_beq h1]
      · cases h1
    · split at h2
      · rename_i z hz
        rw [cell 1 _ rfl (2 * i + 1) _ hz, eq_of_beq h2]
      · cases h2

theorem valid_sem {R : CodeRel} (hR : R.gl = gl) (s : ByteArray) (hs : s.size ≤ 9223372036854775807) (inb : List Bx) : FSem Tryz.prog R 127 [.v (.string s)] inb (.v (.bool (Lib.validD s.data.toList))) inb := by
  refine fsem_word rfl fun cargs w K C hI ha => ?_
  have h2 : cargs = #[.string s] := by
    have hs : cargs.size = 1 := ha.1
    have r0 := rep_v (ha.2 0 _ cargs[0] rfl (Array.getElem?_eq_getElem (by omega)))
    refine Array.ext (by simp [hs]) fun i h1 h2 => ?_
    match i, h1, h2 with
    | 0, _, _ => simpa using r0
    | i + 1, h1, _ => omega
  rw [h2]
  exact Any.utf8_ValidString Tryz.laysValid s w hs (tabs_of hR hI)

theorem tabOk : TabOk Tryz.prog gl tab := by
  intro f fd h
  unfold tab at h
  split at h
  · exact ⟨_, h⟩
  · cases h

theorem extOk : ExtOk Tryz.prog gl ext := by
  intro f g hg args inb res outb h
  unfold ext at hg
  split at hg
  · rename_i hf
    have hf' : f = 137 := by simpa using hf
    subst hf'
    simp only [Option.some.injEq] at hg
    subst hg
    unfold compareExt at h
    split at h
    · rename_i a b
      simp only [Option.some.injEq, Prod.mk.injEq] at h
      obtain ⟨rfl, rfl⟩ := h
      refine ⟨fnOk Tryz.func137 (fun e => absurd e (of_decide_eq_false (by kernel_rfl))) (fun e => by simpa [e] using (show Tryz.f137.body.isSome = true by kernel_rfl)), fsem_pure rfl fun cargs w K C ha => ?_⟩
      have h2 : cargs = #[.string a, .string b] := by
        have hs : cargs.size = 2 := ha.1
        have r0 := rep_v (ha.2 0 _ cargs[0] rfl (Array.getElem?_eq_getElem (by omega)))
        have r1 := rep_v (ha.2 1 _ cargs[1] rfl (Array.getElem?_eq_getElem (by omega)))
        refine Array.ext (by simp [hs]) fun i h1 h2 => ?_
        match i, h1, h2 with
        | 0, _, _ => simpa using r0
        | 1, _, _ => simpa using r1
        | i + 2, h1, _ => omega
      rw [h2]
      exact compare_calls a b w
    · cases h
  · split at hg
    · rename_i hf
      have hf' : f = 127 := by simpa using hf
      subst hf'
      simp only [Option.some.injEq] at hg
      subst hg
      unfold validExt at h
      split at h
      · split at h
        · rename_i a hsz
          simp only [Option.some.injEq, Prod.mk.injEq] at h
          obtain ⟨rfl, rfl⟩ := h
          exact ⟨fnOk Tryz.func127 (fun e => absurd e (of_decide_eq_false (by kernel_rfl))) (fun e => by simpa [e] using (show Tryz.f127.body.isSome = true by kernel_rfl)), valid_sem rfl a hsz inb⟩
        · cases h
      · cases h
    · split at hg
      · rename_i hf
        have hf' : f = 82 := by simpa using hf
        subst hf'
        simp only [Option.some.injEq] at hg
        subst hg
        unfold cloneExt at h
        split at h
        · split at h
          · rename_i zs hzs
            split at h
            · rename_i hle
              simp only [Option.some.injEq, Prod.mk.injEq] at h
              obtain ⟨rfl, rfl⟩ := h
              exact ⟨fnOk Tryz.func82 (fun e => absurd e (of_decide_eq_false (by kernel_rfl))) (fun e => by simpa [e] using (show Tryz.f82.body.isSome = true by kernel_rfl)), clone_sem _ _ zs hzs hle inb⟩
            · cases h
          · cases h
        · cases h
      · split at hg
        · rename_i hf
          have hf' : f = 117 := by simpa using hf
          subst hf'
          simp only [Option.some.injEq] at hg
          subst hg
          unfold insExt at h
          split at h
          · split at h
            · rename_i n z t x rows hc
              obtain ⟨h1, h2, h3, h4⟩ := hc
              simp only [Option.some.injEq, Prod.mk.injEq] at h
              obtain ⟨rfl, rfl⟩ := h
              have e : z = Int.ofNat z.toNat := by simp only [Int.ofNat_eq_natCast]; omega
              have := ins_sem (R := RCode Tryz.prog gl) n z.toNat t x rows h4 h1 h2
              rw [← e] at this
              exact ⟨fnOk Tryz.func117 (fun e => absurd e (of_decide_eq_false (by kernel_rfl))) (fun e => by simpa [e] using (show Tryz.f117.body.isSome = true by kernel_rfl)), this⟩
            · cases h
          · cases h
        · cases hg

theorem machine (n : Nat) : GamOk Tryz.prog (RCode Tryz.prog gl) (callF tab ext n) := callF_ok tabOk extOk n
end YtjfheahakfoofaaGreatDoor
end Go.Proofs
