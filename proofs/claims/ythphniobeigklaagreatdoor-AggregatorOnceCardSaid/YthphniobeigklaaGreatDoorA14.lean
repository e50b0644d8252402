/- aggregator.Step at a message. -/
import Derived.Shelf.LaysC
import Derived.Shelf.LaysM
import Derived.Shelf.Lays
import Derived.Test.YthphniobeigklaaGreatDoorA13
set_option linter.all false
namespace Go.Proofs.YthphniobeigklaaGreatDoor.Ag
open Go Go.Em Go.Proofs.YthphniobeigklaaGreatDoor
set_option maxRecDepth 100000

/-- What a step comes to. -/
structure Rs where
  gs : List Ga
  O : List Otp
  F : List Fte
  L : List Msg
def Rs.cells (r : Rs) : List X := [num 0, num 0, .sl false 10 (sltsC (gst r.gs).slots), .sl false 11 (otpsC r.O), .sl false 11 [], .sl false 6 (ftesC r.F), .sl false 10 (msgsC r.L)]
section
variable (nu ti li most : Int) (ex ss s2 : List (List X)) (x : List X) (O : List Otp) (F : List Fte) (L : List Msg) (N : Nat)
def rsX : List X := [num 0, num 0, .sl false 10 s2, .sl false 11 (otpsC O), .sl false 11 [], .sl false 6 (ftesC F), .sl false 10 (msgsC L)]
variable (e mm now : Int) (o : Option Int) (n : Nat)
theorem st_M (h46 : Gam.pureD (callF tab ext (N + 600)) 46 [.agg [num 0, num 0, .sl false 10 ss]] = some (.agg [num 0, num 0, .sl false 10 ss])) (h47 : callF tab ext (N + 600) (.fn 47) [.ptr 0 0 0, .agg (inpX e mm now o n)] (bx0 nu ti li most ex ss) = some (.tup [], bdM nu ti li most ex s2 O F L)) :
    Gam.pureD (callF tab ext (N + 601)) 27 [.agg (nodX nu ti li ex (tyX most) ruX), .agg [num 0, num 0, .sl false 10 ss], .agg (inpX e mm now o n)] = some (.agg (rsX s2 O F L)) := by
  have d1 := otpsC_length O
  have d2 := ftesC_length F
  have d3 := msgsC_length L
  unfold bdM at h47
  unfold rsX
  generalize otpsC O = Oc at *
  generalize ftesC F = Fc at *
  generalize msgsC L = Lc at *
  generalize O.length = no at *
  generalize F.length = nf at *
  generalize L.length = nl at *
  cases o with
  | none => exact pure_of [(12, .p (.agg [num 0, num 0, .sl false 10 ss])), (22, .r (.tup []) [.var (bX nu ti li ex (tyX most) ruX s2 4 no 5 nf 3 nl), .dead, .dead, .row 10 Lc, .row 11 Oc, .row 6 Fc])] [] (pf2 h46 h47) (x := .agg [num 0, num 0, .sl false 10 s2, .bs 0 0 no, .sl true 11 [], .bs 1 0 nf, .bs 2 0 nl]) (bx := [.row 11 Oc, .row 6 Fc, .row 10 Lc]) (by kernel_rfl) (data_agg (dataL_cons rfl (dataL_cons rfl (dataL_cons rfl (dataL_cons (data_bs rfl d1.symm) (dataL_cons rfl (dataL_cons (data_bs rfl d2.symm) (dataL_cons (data_bs rfl d3.symm) rfl))))))))
  | some q => exact pure_of [(12, .p (.agg [num 0, num 0, .sl false 10 ss])), (22, .r (.tup []) [.var (bX nu ti li ex (tyX most) ruX s2 4 no 5 nf 3 nl), .dead, .dead, .row 10 Lc, .row 11 Oc, .row 6 Fc])] [] (pf2 h46 h47) (x := .agg [num 0, num 0, .sl false 10 s2, .bs 0 0 no, .sl true 11 [], .bs 1 0 nf, .bs 2 0 nl]) (bx := [.row 11 Oc, .row 6 Fc, .row 10 Lc]) (by kernel_rfl) (data_agg (dataL_cons rfl (dataL_cons rfl (dataL_cons rfl (dataL_cons (data_bs rfl d1.symm) (dataL_cons rfl (dataL_cons (data_bs rfl d2.symm) (dataL_cons (data_bs rfl d3.symm) rfl))))))))
theorem st_R (h46 : Gam.pureD (callF tab ext (N + 600)) 46 [.agg [num 0, num 0, .sl false 10 ss]] = some (.agg [num 0, num 0, .sl false 10 ss])) (h47 : callF tab ext (N + 600) (.fn 47) [.ptr 0 0 0, .agg (inpX e mm now o n)] (bx0 nu ti li most ex ss) = some (.tup [], bdR nu ti li most ex s2 O F L)) :
    Gam.pureD (callF tab ext (N + 601)) 27 [.agg (nodX nu ti li ex (tyX most) ruX), .agg [num 0, num 0, .sl false 10 ss], .agg (inpX e mm now o n)] = some (.agg (rsX s2 O F L)) := by
  have d1 := otpsC_length O
  have d2 := ftesC_length F
  have d3 := msgsC_length L
  unfold bdR at h47
  unfold rsX
  generalize otpsC O = Oc at *
  generalize ftesC F = Fc at *
  generalize msgsC L = Lc at *
  generalize O.length = no at *
  generalize F.length = nf at *
  generalize L.length = nl at *
  cases o with
  | none => exact pure_of [(12, .p (.agg [num 0, num 0, .sl false 10 ss])), (22, .r (.tup []) [.var (bX nu ti li ex (tyX most) ruX s2 1 no 4 nf 5 nl), .row 11 Oc, .dead, .dead, .row 6 Fc, .row 10 Lc])] [] (pf2 h46 h47) (x := .agg [num 0, num 0, .sl false 10 s2, .bs 0 0 no, .sl true 11 [], .bs 1 0 nf, .bs 2 0 nl]) (bx := [.row 11 Oc, .row 6 Fc, .row 10 Lc]) (by kernel_rfl) (data_agg (dataL_cons rfl (dataL_cons rfl (dataL_cons rfl (dataL_cons (data_bs rfl d1.symm) (dataL_cons rfl (dataL_cons (data_bs rfl d2.symm) (dataL_cons (data_bs rfl d3.symm) rfl))))))))
  | some q => exact pure_of [(12, .p (.agg [num 0, num 0, .sl false 10 ss])), (22, .r (.tup []) [.var (bX nu ti li ex (tyX most) ruX s2 1 no 4 nf 5 nl), .row 11 Oc, .dead, .dead, .row 6 Fc, .row 10 Lc])] [] (pf2 h46 h47) (x := .agg [num 0, num 0, .sl false 10 s2, .bs 0 0 no, .sl true 11 [], .bs 1 0 nf, .bs 2 0 nl]) (bx := [.row 11 Oc, .row 6 Fc, .row 10 Lc]) (by kernel_rfl) (data_agg (dataL_cons rfl (dataL_cons rfl (dataL_cons rfl (dataL_cons (data_bs rfl d1.symm) (dataL_cons rfl (dataL_cons (data_bs rfl d2.symm) (dataL_cons (data_bs rfl d3.symm) rfl))))))))
theorem st_B (q : Int) (h46 : Gam.pureD (callF tab ext (N + 600)) 46 [.agg [num 0, num 0, .sl false 10 ss]] = some (.agg [num 0, num 0, .sl false 10 ss])) (h47 : callF tab ext (N + 600) (.fn 47) [.ptr 0 0 0, .agg (inpX e mm now (some q) n)] (bx0 nu ti li most ex ss) = some (.tup [], bx0 nu ti li most ex s2)) :
    Gam.pureD (callF tab ext (N + 601)) 27 [.agg (nodX nu ti li ex (tyX most) ruX), .agg [num 0, num 0, .sl false 10 ss], .agg (inpX e mm now (some q) n)] = some (.agg (rsX s2 [] [] [])) :=
  pure_of [(12, .p (.agg [num 0, num 0, .sl false 10 ss])), (22, .r (.tup []) (bx0 nu ti li most ex s2))] [] (pf2 h46 h47) (x := .agg [num 0, num 0, .sl false 10 s2, .bs 0 0 0, .sl true 11 [], .bs 1 0 0, .bs 2 0 0]) (bx := [.row 11 [], .row 6 [], .row 10 []]) (by kernel_rfl) rfl
end
/-! ### A message's step, in plain terms -/
def tNew (ti now : Int) : Int := if 0 < ti then now + ti else 0
def finR (most : Int) (t : Stp) (q : Int) (M : List (Nat × Nat)) (gs : List Ga) : Rs :=
  if ((sumM M : Nat) : Int) ≤ most then ⟨gs, [⟨0, mrgM q M (undS t 0)⟩], mrgF (M.map (msV q)) aggT (undS t 0), []⟩ else ⟨gs, [], rejF (M.map (msV q)) typT, M.map (msV q)⟩
def cmpM (nu : Int) (cd : Nat) (q : Int) (M : List (Nat × Nat)) (m : Nat × Nat) : Bool × Int := compR nu cd (gB q M) (some q, m.2)
def addM (gs : List Ga) (q : Int) (m : Nat × Nat) : List (Nat × Nat) := (getG q gs).M ++ [m]
def stpM (nu ti li most : Int) (cd : Nat) (gs : List Ga) (q now : Int) (m : Nat × Nat) : Rs :=
  if knG q gs = false ∧ li ≤ (gs.length : Int) then ⟨gs, [], rejF [msV q m] fullT, [msV q m]⟩
  else if (cmpM nu cd q (addM gs q m) m).2 ≠ 0 then ⟨gs, [], rejF [msV q m] (errT 49 53), [msV q m]⟩
  else if (cmpM nu cd q (addM gs q m) m).1 then finR most (msV q m).st q (addM gs q m) (if knG q gs then delG q gs else gs)
  else ⟨putG ⟨q, if knG q gs then (getG q gs).t else tNew ti now, addM gs q m⟩ gs, [], [], []⟩
/-- A message without a key. -/
def msN (m : Nat × Nat) : Msg := ⟨⟨(m.1 : Int) + 1, [1]⟩, 100 + (m.1 : Int), [(m.1 : Int) + 1], bodyV none m.2⟩
def stpN (gs : List Ga) (m : Nat × Nat) : Rs := ⟨gs, [], rejF [msN m] (errT 49 57), [msN m]⟩
def exR (cd : Nat) : List (List X) := (exN cd).tail
theorem exN_eq : ∀ cd : Nat, exN cd = eKey :: exR cd
  | 0 => rfl
  | 1 => rfl
  | 2 => rfl
  | _ + 3 => rfl
theorem ex_pos (r : List (List X)) : decide (Int.ofNat (eKey :: r).length > 0) = true := decide_eq_true (by simp only [List.length_cons, Int.ofNat_eq_natCast]; omega)
theorem later82 (now ti : Int) (h : 0 ≤ now ∧ now ≤ 100000) (h2 : 0 ≤ ti ∧ ti ≤ 100000) (N : Nat) : Gam.pureD (callF tab ext (N + 10)) 82 [num now, num ti] = some (num (now + ti)) := by
  have e : IntKind.i64.wrap (now + ti) = now + ti := by rw [IntKind.wrap_i64]; omega
  have h1 : decide (now > IntKind.i64.wrap (17592186044416 - ti)) = false := decide_eq_false (by rw [IntKind.wrap_i64]; omega)
  exact pure_of [(8, .b false), (11, .i (now + ti))] [] (pf2 h1 e) (x := num (now + ti)) (bx := []) (by kernel_rfl) rfl
end Go.Proofs.YthphniobeigklaaGreatDoor.Ag

/- aggregator.Step at a message, at any groups. -/
namespace Go.Proofs.YthphniobeigklaaGreatDoor.Ag
open Go Go.Em Go.Proofs.YthphniobeigklaaGreatDoor
set_option maxRecDepth 100000

/-- What holds of the groups that wait, before the message with place i. -/
structure GsI (gs : List Ga) (i : Nat) : Prop where
  srt : SrtG gs
  few : gs.length ≤ 100
  key : ∀ x, x ∈ gs → 0 ≤ x.g ∧ x.g ≤ 3
  ne : ∀ x, x ∈ gs → x.M ≠ []
  inc : ∀ x, x ∈ gs → x.M.Pairwise fun a b => a.1 < b.1
  place : ∀ x, x ∈ gs → ∀ m, m ∈ x.M → m.1 < i ∧ m.2 < 4
  tim : ∀ x, x ∈ gs → 0 ≤ x.t ∧ x.t ≤ 200000
theorem inc_len : ∀ (M : List (Nat × Nat)) (lo i : Nat), (M.Pairwise fun a b => a.1 < b.1) → (∀ m, m ∈ M → lo ≤ m.1 ∧ m.1 < i) → M.length + lo ≤ max lo i
  | [], lo, i, _, _ => by simp; omega
  | a :: r, lo, i, hp, hb => by
    have h1 := List.pairwise_cons.1 hp
    have h3 := hb a List.mem_cons_self
    have h2 := inc_len r (a.1 + 1) i h1.2 (fun m hm => ⟨h1.1 m hm, (hb m (List.mem_cons_of_mem _ hm)).2⟩)
    simp only [List.length_cons]; omega
theorem GsI.len {gs : List Ga} {i : Nat} (h : GsI gs i) : ∀ x, x ∈ gs → x.M.length ≤ i := fun x hx => by
  have := inc_len x.M 0 i (h.inc x hx) (fun m hm => ⟨Nat.zero_le _, (h.place x hx m hm).1⟩)
  omega
theorem GsI.sm {gs : List Ga} {i : Nat} (h : GsI gs i) (hi : i ≤ 40) : SmG gs := ⟨h.few, fun x hx => by have := h.len x hx; omega⟩
theorem getG_cases (g : Int) (gs : List Ga) : (knG g gs = true ∧ getG g gs ∈ gs ∧ (getG g gs).g = g) ∨ (knG g gs = false ∧ getG g gs = ⟨g, 0, []⟩) := by
  cases hk : knG g gs with
  | false => exact .inr ⟨rfl, getG_new hk⟩
  | true =>
    left
    unfold knG at hk
    unfold getG
    split at hk
    · rename_i y hy
      have e : y.g = g := by simpa using hk
      rw [if_pos e]
      exact ⟨rfl, List.mem_of_getElem? hy, e⟩
    · cases hk
theorem GsI.grp {gs : List Ga} {i : Nat} (h : GsI gs i) (hi : i < 40) (q : Int) (hq : 0 ≤ q ∧ q ≤ 3) (n : Nat) (hn : n < 4) : GrpOk q (addM gs q (i, n)) := by
  have key : (getG q gs).M.length ≤ i ∧ ((getG q gs).M.Pairwise fun a b => a.1 < b.1) ∧ ∀ m, m ∈ (getG q gs).M → m.1 < i ∧ m.2 < 4 := by
    rcases getG_cases q gs with ⟨_, hm, _⟩ | ⟨_, e⟩
    · exact ⟨h.len _ hm, h.inc _ hm, h.place _ hm⟩
    · rw [e]; exact ⟨Nat.zero_le _, .nil, by simp⟩
  unfold addM
  refine ⟨by simp, by simp; omega, by omega, fun m hm => ?_, List.pairwise_append.2 ⟨key.2.1, List.pairwise_singleton .., fun a ha b hb => ?_⟩⟩
  · rcases List.mem_append.1 hm with hm | hm
    · have := key.2.2 m hm; omega
    · rw [List.mem_singleton.1 hm]; exact ⟨by show i < 1000; omega, hn⟩
  · rw [List.mem_singleton.1 hb]; exact (key.2.2 a ha).1
theorem compR_cases (nu : Int) (cd : Nat) (l : List Bd) (b : Bd) : compR nu cd l b = (true, 0) ∨ compR nu cd l b = (false, 0) ∨ compR nu cd l b = (false, 15) := by
  unfold compR
  split
  · exact .inl rfl
  · unfold condR
    split
    · cases decide (5 < sumN (nsOf l)) <;> simp
    · split <;> simp
    · simp
section
variable (nu ti li most : Int) (cd : Nat) (gs : List Ga) (q now : Int) (i n : Nat)
variable (hcd : cd < 4) (h : GsI gs i) (hi : i < 40) (hq : 0 ≤ q ∧ q ≤ 3) (hn : n < 4) (hnow : 0 ≤ now ∧ now ≤ 100000) (hti : 0 ≤ ti ∧ ti ≤ 100000) (hheld : heldG gs < 200)
include hcd h hi hq hn hnow hti hheld
theorem msg47 (N : Nat) (hN : 192000 ≤ N) : ∃ B, callF tab ext N (.fn 47) [.ptr 0 0 0, .agg (inpX ((i : Int) + 1) (100 + (i : Int)) now (some q) n)] (bx0 nu ti li most (exN cd) (sltsC (gst gs).slots)) = some (.tup [], B) ∧
    (B = bdM nu ti li most (exN cd) (sltsC (gst (stpM nu ti li most cd gs q now (i, n)).gs).slots) (stpM nu ti li most cd gs q now (i, n)).O (stpM nu ti li most cd gs q now (i, n)).F (stpM nu ti li most cd gs q now (i, n)).L ∨
     B = bdR nu ti li most (exN cd) (sltsC (gst (stpM nu ti li most cd gs q now (i, n)).gs).slots) (stpM nu ti li most cd gs q now (i, n)).O (stpM nu ti li most cd gs q now (i, n)).F (stpM nu ti li most cd gs q now (i, n)).L ∨
     (B = bx0 nu ti li most (exN cd) (sltsC (gst (stpM nu ti li most cd gs q now (i, n)).gs).slots) ∧ (stpM nu ti li most cd gs q now (i, n)).O = [] ∧ (stpM nu ti li most cd gs q now (i, n)).F = [] ∧ (stpM nu ti li most cd gs q now (i, n)).L = [])) := by
  obtain ⟨K, rfl⟩ : ∃ K, N = K + 601 := ⟨N - 601, by omega⟩
  have hsm := h.sm (by omega)
  have hgrp := h.grp hi q hq n hn
  have hgl := hgrp.len
  have h81 := (getG_at gs h.srt hsm q).1 (K + 600) (by omega)
  have h29 := held29 gs hsm (K + 600) (by omega)
  have h87 : decide (Int.ofNat (heldG gs) ≥ 256) = false := decide_eq_false (by simp only [Int.ofNat_eq_natCast]; omega)
  have hsl : (sltsC (gst gs).slots).length = gs.length := by rw [sltsC_length]; simp [gst]
  have h38 := complete38 nu ti li (tyX most) ruX (gB q (addM gs q (i, n))) (some q, n) q false cd hcd hgrp.tiny (by rw [gB_len]; omega) (by rw [gB_len]; exact hgrp.pos) (by simp [gB, addM]) (K + 600) (by omega)
  rw [bdG_false] at h38
  have h83 := bodies83 ((addM gs q (i, n)).map (msV q)) (by rw [List.length_map]; omega) (K + 600) (by omega)
  rw [bodC_ms] at h83
  have hst : (msV q (i, n)).st.ok := (msV_ok q (i, n)).st
  have hmsg : (msV q (i, n)).cells = msgX ((i : Int) + 1) (100 + (i : Int)) (some q) n := rfl
  have hput := putG_at gs h.srt hsm ⟨q, if knG q gs then (getG q gs).t else tNew ti now, addM gs q (i, n)⟩ (by show (addM gs q (i, n)).length ≤ 101; omega) (K + 600) (by omega)
  unfold stpM
  rw [exN_eq] at h38 ⊢
  change Gam.pureD (callF tab ext (K + 600)) 29 [.agg [num 0, num 0, .sl false 10 (sltsC (gst gs).slots)]] = _ at h29
  change callF tab ext (K + 600) (.fn 81) [.agg [num 0, num 0, .sl false 10 (sltsC (gst gs).slots)], .agg (kv q).cells] [] = _ at h81
  have hc : cmpM nu cd q (addM gs q (i, n)) (i, n) = compR nu cd (gB q (addM gs q (i, n))) (some q, n) := rfl
  rw [hc]
  have hcc := compR_cases nu cd (gB q (addM gs q (i, n))) (some q, n)
  generalize compR nu cd (gB q (addM gs q (i, n))) (some q, n) = c at *
  have hM : (addM gs q (i, n)).map (msV q) = (getG q gs).M.map (msV q) ++ [msV q (i, n)] := by simp [addM]
  have hMc : msgsC ((addM gs q (i, n)).map (msV q)) = msgsC ((getG q gs).M.map (msV q)) ++ [msgX ((i : Int) + 1) (100 + (i : Int)) (some q) n] := by
    rw [hM]; simp only [msgsC, List.map_append, List.map_cons, List.map_nil]; rfl
  have fin : ∀ gs' : List Ga, ((((sumM (addM gs q (i, n)) : Nat) : Int) ≤ most) ∧ callF tab ext (K + 600) (.fn 50) [.ptr 0 0 0, .agg (kv q).cells, .sl false 10 (msgsC ((addM gs q (i, n)).map (msV q))), .agg [num ((i : Int) + 1), .sl false 1 [[num 1]]]] (bx0 nu ti li most (eKey :: exR cd) (sltsC (gst gs').slots)) =
        some (.tup [], bdM nu ti li most (eKey :: exR cd) (sltsC (gst gs').slots) [⟨0, mrgM q (addM gs q (i, n)) (undS (msV q (i, n)).st 0)⟩] (mrgF ((addM gs q (i, n)).map (msV q)) aggT (undS (msV q (i, n)).st 0)) [])) ∨
      ((¬ ((sumM (addM gs q (i, n)) : Nat) : Int) ≤ most) ∧ callF tab ext (K + 600) (.fn 50) [.ptr 0 0 0, .agg (kv q).cells, .sl false 10 (msgsC ((addM gs q (i, n)).map (msV q))), .agg [num ((i : Int) + 1), .sl false 1 [[num 1]]]] (bx0 nu ti li most (eKey :: exR cd) (sltsC (gst gs').slots)) =
        some (.tup [], bdR nu ti li most (eKey :: exR cd) (sltsC (gst gs').slots) [] (rejF ((addM gs q (i, n)).map (msV q)) typT) ((addM gs q (i, n)).map (msV q)))) := fun gs' => by
    by_cases hs : ((sumM (addM gs q (i, n)) : Nat) : Int) ≤ most
    · exact .inl ⟨hs, fin_ok nu ti li most (eKey :: exR cd) (sltsC (gst gs').slots) [] [] [] q (addM gs q (i, n)) (msV q (i, n)).st hgrp hst (by simp [msV]) (by simp) (by simp) hs (K + 600) (by omega)⟩
    · exact .inr ⟨hs, fin_no nu ti li most (eKey :: exR cd) (sltsC (gst gs').slots) [] [] [] q (addM gs q (i, n)) (msV q (i, n)).st hgrp hst (by simp [msV]) (by simp) (by simp) (by omega) (K + 600) (by omega)⟩
  rcases getG_cases q gs with ⟨hk, hmem, hg⟩ | ⟨hk, hg⟩
  · -- a known group
    rw [hk] at h81 hput ⊢
    rw [if_neg (by simp)]
    have hsl2 : getX true (getG q gs).slt = (getT q (getG q gs).t (msgsC ((getG q gs).M.map (msV q))).length, [.row 10 (msgsC ((getG q gs).M.map (msV q))), .row 6 []]) := by
      unfold getX Ga.slt getT
      rw [hg]
      rfl
    rw [hsl2] at h81
    have hA := app_ok (acc := msgsC ((getG q gs).M.map (msV q))) (msgsC ((getG q gs).M.map (msV q))).length 5 152 rfl (by
      have := h.len _ hmem
      rw [msgsC_length, List.length_map]; omega) (by omega)
    have hG : 0 + ((msgsC ((getG q gs).M.map (msV q))).length + 1) ≤ (msgsC ((getG q gs).M.map (msV q)) ++ [msgX ((i : Int) + 1) (100 + (i : Int)) (some q) n]).length := by simp
    have htk : List.take ((msgsC ((getG q gs).M.map (msV q))).length + 1) (msgsC ((getG q gs).M.map (msV q)) ++ [msgX ((i : Int) + 1) (100 + (i : Int)) (some q) n]) = msgsC ((addM gs q (i, n)).map (msV q)) := by
      rw [hMc, List.take_of_length_le (by simp)]
    simp only [if_true] at hput ⊢
    have h49 := rem49 gs h.srt hsm q hk (K + 600) (by omega)
    rcases hcc with rfl | rfl | rfl
    · simp only [ne_eq, not_true_eq_false, if_false, if_true]
      unfold finR
      rcases fin (delG q gs) with ⟨hs, h50⟩ | ⟨hs, h50⟩
      · rw [if_pos hs]
        exact ⟨_, mT_doneM nu ti li most (exR cd) (sltsC (gst gs).slots) (sltsC (gst (delG q gs)).slots) q now _ _ (getG q gs).t n _ (heldG gs) (msgsC ((getG q gs).M.map (msV q))) (bdC (gB q (addM gs q (i, n)))) _ _ _ K (ex_pos _) h81 h29 h87 hA hG (by rw [htk]; exact h83) h38 h49 (by rw [htk]; exact h50), .inl rfl⟩
      · rw [if_neg hs]
        exact ⟨_, mT_doneR nu ti li most (exR cd) (sltsC (gst gs).slots) (sltsC (gst (delG q gs)).slots) q now _ _ (getG q gs).t n _ (heldG gs) (msgsC ((getG q gs).M.map (msV q))) (bdC (gB q (addM gs q (i, n)))) _ _ _ K (ex_pos _) h81 h29 h87 hA hG (by rw [htk]; exact h83) h38 h49 (by rw [htk]; exact h50), .inr (.inl rfl)⟩
    · simp only [ne_eq, not_true_eq_false, if_false, Bool.false_eq_true]
      exact ⟨_, mT_putn nu ti li most (exR cd) (sltsC (gst gs).slots) _ q now _ _ (getG q gs).t n _ (heldG gs) (msgsC ((getG q gs).M.map (msV q))) (bdC (gB q (addM gs q (i, n)))) K (ex_pos _) h81 h29 h87 hA hG (by rw [htk]; exact h83) h38 (by rw [htk]; exact hput), .inr (.inr ⟨rfl, by simp⟩)⟩
    · rw [if_pos (by simp)]
      exact ⟨_, mT_err nu ti li most (exR cd) (sltsC (gst gs).slots) q now _ _ (getG q gs).t n _ (heldG gs) (msgsC ((getG q gs).M.map (msV q))) (bdC (gB q (addM gs q (i, n)))) K (ex_pos _) h81 h29 h87 hA hG (by rw [htk]; exact h83) h38, .inr (.inl rfl)⟩
  · -- a new group
    rw [hk] at h81 hput ⊢
    have hM1 : addM gs q (i, n) = [(i, n)] := by unfold addM; rw [hg]; rfl
    have hMs : msgsC ((addM gs q (i, n)).map (msV q)) = [msgX ((i : Int) + 1) (100 + (i : Int)) (some q) n] := by rw [hM1]; rfl
    by_cases hfull : li ≤ (gs.length : Int)
    · rw [if_pos ⟨rfl, hfull⟩]
      exact ⟨_, m_full nu ti li most (exR cd) (sltsC (gst gs).slots) q now _ _ n K (ex_pos _) h81 (decide_eq_true (by simp only [Int.ofNat_eq_natCast]; omega)), .inr (.inl rfl)⟩
    · rw [if_neg (by simp [hfull])]
      have h82 : decide (Int.ofNat (sltsC (gst gs).slots).length ≥ li) = false := decide_eq_false (by simp only [Int.ofNat_eq_natCast]; omega)
      simp only [Bool.false_eq_true, if_false] at hput ⊢
      unfold tNew at hput ⊢
      rw [hMs] at h83 fin
      by_cases ht : 0 < ti
      · have h101 : decide (ti > 0) = true := decide_eq_true ht
        have h109 := later82 now ti hnow hti (K + 590)
        rw [if_pos ht] at hput ⊢
        rcases hcc with rfl | rfl | rfl
        · simp only [ne_eq, not_true_eq_false, if_false, if_true]
          unfold finR
          rcases fin gs with ⟨hs, h50⟩ | ⟨hs, h50⟩
          · rw [if_pos hs]
            exact ⟨_, mG_doneM nu ti li most (exR cd) (sltsC (gst gs).slots) q now _ _ (now + ti) n (heldG gs) (bdC (gB q (addM gs q (i, n)))) _ _ _ K (ex_pos _) h81 h82 h29 h87 h101 h109 h83 h38 h50, .inl rfl⟩
          · rw [if_neg hs]
            exact ⟨_, mG_doneR nu ti li most (exR cd) (sltsC (gst gs).slots) q now _ _ (now + ti) n (heldG gs) (bdC (gB q (addM gs q (i, n)))) _ _ _ K (ex_pos _) h81 h82 h29 h87 h101 h109 h83 h38 h50, .inr (.inl rfl)⟩
        · simp only [ne_eq, not_true_eq_false, if_false, Bool.false_eq_true]
          exact ⟨_, mG_putn nu ti li most (exR cd) (sltsC (gst gs).slots) _ q now _ _ (now + ti) n (heldG gs) (bdC (gB q (addM gs q (i, n)))) K (ex_pos _) h81 h82 h29 h87 h101 h109 h83 h38 (by rw [← hMs]; exact hput), .inr (.inr ⟨rfl, by simp⟩)⟩
        · rw [if_pos (by simp)]
          exact ⟨_, mG_err nu ti li most (exR cd) (sltsC (gst gs).slots) q now _ _ (now + ti) n (heldG gs) (bdC (gB q (addM gs q (i, n)))) K (ex_pos _) h81 h82 h29 h87 h101 h109 h83 h38, .inr (.inl rfl)⟩
      · have h101 : decide (ti > 0) = false := decide_eq_false ht
        rw [if_neg ht] at hput ⊢
        rcases hcc with rfl | rfl | rfl
        · simp only [ne_eq, not_true_eq_false, if_false, if_true]
          unfold finR
          rcases fin gs with ⟨hs, h50⟩ | ⟨hs, h50⟩
          · rw [if_pos hs]
            exact ⟨_, mF_doneM nu ti li most (exR cd) (sltsC (gst gs).slots) q now _ _ n (heldG gs) (bdC (gB q (addM gs q (i, n)))) _ _ _ K (ex_pos _) h81 h82 h29 h87 h101 h83 h38 h50, .inl rfl⟩
          · rw [if_neg hs]
            exact ⟨_, mF_doneR nu ti li most (exR cd) (sltsC (gst gs).slots) q now _ _ n (heldG gs) (bdC (gB q (addM gs q (i, n)))) _ _ _ K (ex_pos _) h81 h82 h29 h87 h101 h83 h38 h50, .inr (.inl rfl)⟩
        · simp only [ne_eq, not_true_eq_false, if_false, Bool.false_eq_true]
          exact ⟨_, mF_putn nu ti li most (exR cd) (sltsC (gst gs).slots) _ q now _ _ n (heldG gs) (bdC (gB q (addM gs q (i, n)))) K (ex_pos _) h81 h82 h29 h87 h101 h83 h38 (by rw [← hMs]; exact hput), .inr (.inr ⟨rfl, by simp⟩)⟩
        · rw [if_pos (by simp)]
          exact ⟨_, mF_err nu ti li most (exR cd) (sltsC (gst gs).slots) q now _ _ n (heldG gs) (bdC (gB q (addM gs q (i, n)))) K (ex_pos _) h81 h82 h29 h87 h101 h83 h38, .inr (.inl rfl)⟩
/-- The step at a message. -/
theorem step_msg (N : Nat) (hN : 193000 ≤ N) : Gam.pureD (callF tab ext N) 27 [.agg (nodX nu ti li (exN cd) (tyX most) ruX), .agg (gst gs).cells, .agg (inpX ((i : Int) + 1) (100 + (i : Int)) now (some q) n)] = some (.agg (stpM nu ti li most cd gs q now (i, n)).cells) := by
  obtain ⟨K, rfl⟩ : ∃ K, N = K + 601 := ⟨N - 601, by omega⟩
  obtain ⟨B, h47, hB⟩ := msg47 nu ti li most cd gs q now i n hcd h hi hq hn hnow hti hheld (K + 600) (by omega)
  have h46 := clone_state_pure (K + 600) (gst gs) (gst_small gs (h.sm (by omega))).ok (by omega)
  rcases hB with rfl | rfl | ⟨rfl, e1, e2, e3⟩
  · exact st_M nu ti li most (exN cd) _ _ _ _ _ K _ _ now (some q) n h46 h47
  · exact st_R nu ti li most (exN cd) _ _ _ _ _ K _ _ now (some q) n h46 h47
  · have := st_B nu ti li most (exN cd) _ _ K _ _ now n q h46 h47
    unfold Rs.cells
    rw [e1, e2, e3]
    exact this
end
theorem step_none (nu ti li most : Int) (cd : Nat) (gs : List Ga) (now : Int) (i n : Nat) (hsm : SmG gs) (N : Nat) (hN : 193000 ≤ N) :
    Gam.pureD (callF tab ext N) 27 [.agg (nodX nu ti li (exN cd) (tyX most) ruX), .agg (gst gs).cells, .agg (inpX ((i : Int) + 1) (100 + (i : Int)) now none n)] = some (.agg (stpN gs (i, n)).cells) := by
  obtain ⟨K, rfl⟩ : ∃ K, N = K + 1202 := ⟨N - 1202, by omega⟩
  have h46 := clone_state_pure (K + 1201) (gst gs) (gst_small gs hsm).ok (by omega)
  have h47 := m_none nu ti li most (exR cd) (sltsC (gst gs).slots) now ((i : Int) + 1) (100 + (i : Int)) n (K + 600) (ex_pos _)
  rw [← exN_eq] at h47
  exact st_R nu ti li most (exN cd) _ _ [] (rejF [msN (i, n)] (errT 49 57)) [msN (i, n)] (K + 601) _ _ now none n h46 h47
end Go.Proofs.YthphniobeigklaaGreatDoor.Ag

/- Inputs; a run of the aggregator over inputs. -/
namespace Go.Proofs.YthphniobeigklaaGreatDoor.Ag
open Go Go.Em Go.Proofs.YthphniobeigklaaGreatDoor
set_option maxRecDepth 100000

/-- What comes: a message with or without a key, and a number; the clock. -/
inductive Ei where
  | m (o : Option Int) (n : Nat)
  | c
/-- An input: its place among the events, the time, what comes. -/
structure Iv where
  i : Nat
  now : Int
  v : Ei
def inR (w : Bool) (i : Nat) (now : Int) (o : Option Int) (n : Nat) : List X := [num 1, num now, nat (i + 1), .sl w 1 [[num 1]], nat (i + 1), .sl w 1 [[num 1]], nat (100 + i), .sl w 1 [[nat (i + 1)]]] ++ bodyG w o n ++ [num 0, boolX false, boolX false, num 0, num 0, num 0, strX ⟨#[]⟩, .sl w 6 [], .sl w 7 []]
def clR (w : Bool) (i : Nat) (now : Int) : List X := [num 2, num now, nat (i + 1), .sl w 1 [[num 0], [num 3]], num 0, .sl w 1 [], num 0, .sl w 1 [], num 0, num 0, num 0, strX ⟨#[]⟩, .sl w 6 [], .sl w 7 [], num 0, boolX false, boolX false, num 0, num 0, num 0, strX ⟨#[]⟩, .sl w 6 [], .sl w 7 []]
def Iv.row (w : Bool) (x : Iv) : List X := match x.v with
  | .m o n => inR w x.i x.now o n
  | .c => clR w x.i x.now
def insC (xs : List Iv) : List (List X) := xs.map (Iv.row true)
theorem insC_len (xs : List Iv) : (insC xs).length = xs.length := by simp [insC]
theorem insC_get {xs : List Iv} {j : Nat} (h : j < xs.length) : (insC xs)[j]? = some (xs[j].row true) := by simp [insC, h]
def rssC (l : List Rs) : List (List X) := l.map Rs.cells
theorem rssC_len (l : List Rs) : (rssC l).length = l.length := by simp [rssC]
/-- States and outcomes of a run. -/
def stL (S : List Ga → Iv → Rs) : List Ga → List Iv → List Ga
  | gs, [] => gs
  | gs, x :: r => stL S (S gs x).gs r
def rnL (S : List Ga → Iv → Rs) : List Ga → List Iv → List Rs
  | _, [] => []
  | gs, x :: r => S gs x :: rnL S (S gs x).gs r
theorem stL_snoc (S : List Ga → Iv → Rs) (x : Iv) : ∀ (a : List Iv) (gs : List Ga), stL S gs (a ++ [x]) = (S (stL S gs a) x).gs
  | [], _ => rfl
  | y :: r, gs => stL_snoc S x r (S gs y).gs
theorem rnL_snoc (S : List Ga → Iv → Rs) (x : Iv) : ∀ (a : List Iv) (gs : List Ga), rnL S gs (a ++ [x]) = rnL S gs a ++ [S (stL S gs a) x]
  | [], _ => rfl
  | y :: r, gs => congrArg (S gs y :: ·) (rnL_snoc S x r (S gs y).gs)
theorem rnL_len (S : List Ga → Iv → Rs) : ∀ (a : List Iv) (gs : List Ga), (rnL S gs a).length = a.length
  | [], _ => rfl
  | y :: r, gs => congrArg (· + 1) (rnL_len S r (S gs y).gs)
theorem rnL_get (S : List Ga → Iv → Rs) : ∀ (a : List Iv) (gs : List Ga) (j : Nat) (h : j < a.length), (rnL S gs a)[j]'(by rw [rnL_len]; exact h) = S (stL S gs (a.take j)) a[j]
  | y :: r, gs, 0, _ => rfl
  | y :: r, gs, j + 1, h => rnL_get S r (S gs y).gs j (by simpa using h)
section
variable (nu ti li most : Int) (ex ins acc ss : List (List X)) (j : Nat) (w : Bool) (N : Nat)
def roH : St := ⟨[(1, .sl false 23 ins), (2, .ptr 0 0 0), (5, .bs 1 0 j), (6, .ptr 2 0 0), (7, nat j)], [.var (nodX nu ti li ex (tyX most) ruX), .row 7 acc, .var [num 0, num 0, .sl w 10 ss]]⟩
def roE : St := ⟨[(1, .sl false 23 ins), (2, .ptr 0 0 0), (5, .bs 1 0 j), (6, .ptr 2 0 0), (7, nat j), (12, boolX false)], [.var (nodX nu ti li ex (tyX most) ruX), .row 7 acc, .var [num 0, num 0, .sl w 10 ss]]⟩
theorem ro_canon : canon 0 (roH nu ti li most ex ins acc ss j w) = some (roH nu ti li most ex ins acc ss j w) := by kernel_rfl
theorem ro_end (h : ¬ j < ins.length) : run (callF tab ext N) 0 N (loopAt 14 0) (roH nu ti li most ex ins acc ss j w) = some (.exit 0, roE nu ti li most ex ins acc ss j w) :=
  run_of [(12, .b false)] [] (pf1 (nlt_nat h)) (lo' := []) (by kernel_rfl)
theorem ro_round (x : Iv) (s2 O F L : List (List X)) (hj : j < ins.length) (hl : ins.length < 10000) (he : ins[j]? = some (x.row true)) (ha : j = acc.length)
    (h27 : Gam.pureD (callF tab ext N) 27 [.agg (nodX nu ti li ex (tyX most) ruX), .agg [num 0, num 0, .sl false 10 ss], .agg (x.row false)] = some (.agg [num 0, num 0, .sl false 10 s2, .sl false 11 O, .sl false 11 [], .sl false 6 F, .sl false 10 L])) :
    ∃ υ, run (callF tab ext N) 0 N (loopAt 14 0) (roH nu ti li most ex ins acc ss j w) = some (.norm, υ) ∧ canon 0 υ = some (roH nu ti li most ex ins (acc ++ [[num 0, num 0, .sl false 10 s2, .sl false 11 O, .sl false 11 [], .sl false 6 F, .sl false 10 L]]) s2 (j + 1) false) := by
  have h1 := lt_nat hj
  have h2 := next_nat (j := j) (by omega)
  have h3 := app_ok (acc := acc) j 2 136 ha (by omega) (by omega)
  obtain ⟨i, now, v⟩ := x
  cases v with
  | m o n =>
    cases o with
    | none => exact rd_of [(12, .b true), (19, .e (inR true i now none n)), (21, .p (.agg [num 0, num 0, .sl false 10 s2, .sl false 11 O, .sl false 11 [], .sl false 6 F, .sl false 10 L])), (25, .app), (14, .i (Int.ofNat (j + 1)))] (pf5 h1 he h27 h3 h2) (by kernel_rfl)
    | some q => exact rd_of [(12, .b true), (19, .e (inR true i now (some q) n)), (21, .p (.agg [num 0, num 0, .sl false 10 s2, .sl false 11 O, .sl false 11 [], .sl false 6 F, .sl false 10 L])), (25, .app), (14, .i (Int.ofNat (j + 1)))] (pf5 h1 he h27 h3 h2) (by kernel_rfl)
  | c => exact rd_of [(12, .b true), (19, .e (clR true i now)), (21, .p (.agg [num 0, num 0, .sl false 10 s2, .sl false 11 O, .sl false 11 [], .sl false 6 F, .sl false 10 L])), (25, .app), (14, .i (Int.ofNat (j + 1)))] (pf5 h1 he h27 h3 h2) (by kernel_rfl)
end
/-- The package's run. -/
theorem run14 (S : List Ga → Iv → Rs) (nu ti li most : Int) (ex : List (List X)) (xs : List Iv) (hl : xs.length < 1000) (N : Nat) (hN : 1100 ≤ N)
    (hs : ∀ j (hj : j < xs.length), Gam.pureD (callF tab ext N) 27 [.agg (nodX nu ti li ex (tyX most) ruX), .agg (gst (stL S [] (xs.take j))).cells, .agg (xs[j].row false)] = some (.agg (S (stL S [] (xs.take j)) xs[j]).cells)) :
    Gam.pureD (callF tab ext (N + 1)) 14 [.agg (nodX nu ti li ex (tyX most) ruX), .sl false 23 (insC xs)] = some (.sl false 7 (rssC (rnL S [] xs))) := by
  have hn := insC_len xs
  have h1 : run (callF tab ext N) 0 N (.loop (loopAt 14 0)) (roH nu ti li most ex (insC xs) [] [] 0 true) = some (.exit 0, roE nu ti li most ex (insC xs) (rssC (rnL S [] xs)) (sltsC (gst (stL S [] xs)).slots) (insC xs).length (decide ((insC xs).length = 0))) := by
    refine loop_for (σ := fun j => roH nu ti li most ex (insC xs) (rssC (rnL S [] (xs.take j))) (sltsC (gst (stL S [] (xs.take j))).slots) j (decide (j = 0))) (k := (insC xs).length) (ro_canon ..) (fun j hj => ?_) ?_ (by simp) (by omega)
    · have hj' : j < xs.length := by omega
      rw [List.take_succ_eq_append_getElem hj', stL_snoc, rnL_snoc, show decide (j + 1 = 0) = false from decide_eq_false (by omega)]
      have e : rssC (rnL S [] (xs.take j) ++ [S (stL S [] (xs.take j)) xs[j]]) = rssC (rnL S [] (xs.take j)) ++ [(S (stL S [] (xs.take j)) xs[j]).cells] := by simp [rssC]
      rw [e]
      exact ro_round nu ti li most ex (insC xs) _ _ j _ N xs[j] _ _ _ _ hj (by omega) (insC_get hj') (by rw [rssC_len, rnL_len, List.length_take]; omega) (hs j hj')
    · rw [List.take_of_length_le (by omega)]
      exact ro_end nu ti li most ex (insC xs) _ _ _ _ N (by omega)
  have hlen : (insC xs).length = (rssC (rnL S [] xs)).length := by rw [hn, rssC_len, rnL_len]
  generalize decide ((insC xs).length = 0) = w at *
  generalize rssC (rnL S [] xs) = R at *
  generalize sltsC (gst (stL S [] xs)).slots = ss at *
  generalize insC xs = I at *
  have h1' : run (callF tab ext N) 0 N (.loop (loopAt 14 0)) ⟨[(1, .sl false 23 I), (2, .ptr 0 0 0), (5, .bs 2 0 0), (6, .ptr 1 0 0), (7, num 0)], [.var (nodX nu ti li ex (tyX most) ruX), .var [num 0, num 0, .sl true 10 []], .row 7 []]⟩ = some (.exit 0, roE nu ti li most ex I R ss I.length w) := by
    rw [← h1]
    exact loop_canon (by kernel_rfl) (ro_canon ..)
  exact pure_of [] [(.exit 0, roE nu ti li most ex I R ss I.length w)] (pf1 h1') (x := .bs 0 0 I.length) (bx := [.row 7 R]) (by kernel_rfl) (data_bs rfl hlen)
end Go.Proofs.YthphniobeigklaaGreatDoor.Ag

/- The groups whose time has come. -/
namespace Go.Proofs.YthphniobeigklaaGreatDoor.Ag
open Go Go.Em Go.Proofs.YthphniobeigklaaGreatDoor
set_option maxRecDepth 100000

/-! ### Groups sorted by their times -/
def dG : Ga := ⟨0, 0, []⟩
def bubG : Nat → List Ga → List Ga
  | 0, L => L
  | j + 1, L => if (L.getD (j + 1) dG).t < (L.getD j dG).t then bubG j ((L.set (j + 1) (L.getD j dG)).set j (L.getD (j + 1) dG)) else L
def isortG : Nat → List Ga → List Ga
  | 0, L => L
  | k + 1, L => bubG (k + 1) (isortG k L)
theorem bubG_length : ∀ (j : Nat) (L : List Ga), (bubG j L).length = L.length
  | 0, _ => rfl
  | j + 1, L => by
    unfold bubG
    split
    · rw [bubG_length]; simp
    · rfl
theorem isortG_length : ∀ (k : Nat) (L : List Ga), (isortG k L).length = L.length
  | 0, _ => rfl
  | k + 1, L => by unfold isortG; rw [bubG_length, isortG_length k L]
theorem bub_map : ∀ (j : Nat) (L : List Ga), (j < L.length ∨ j = 0) → Tm.bub j (L.map Ga.slt) = (bubG j L).map Ga.slt
  | 0, _, _ => rfl
  | j + 1, L, h => by
    have hj : j + 1 < L.length := by omega
    have g1 : (L.map Ga.slt).getD (j + 1) dSlt = L[j + 1].slt := by rw [List.getD_eq_getElem?_getD, List.getElem?_eq_getElem (by simpa using hj)]; simp
    have g2 : (L.map Ga.slt).getD j dSlt = (L[j]'(by omega)).slt := by rw [List.getD_eq_getElem?_getD, List.getElem?_eq_getElem (by simp; omega)]; simp
    have g3 : L.getD (j + 1) dG = L[j + 1] := by rw [List.getD_eq_getElem?_getD, List.getElem?_eq_getElem hj]; rfl
    have g4 : L.getD j dG = L[j]'(by omega) := by rw [List.getD_eq_getElem?_getD, List.getElem?_eq_getElem (by omega)]; rfl
    unfold Tm.bub bubG
    rw [g1, g2, g3, g4]
    show (if L[j + 1].t < (L[j]'(by omega)).t then _ else _) = _
    split
    · rw [← List.map_set, ← List.map_set]
      exact bub_map j _ (by simp; omega)
    · rfl
theorem isort_map : ∀ (k : Nat) (L : List Ga), (k < L.length ∨ k = 0) → Tm.isort k (L.map Ga.slt) = (isortG k L).map Ga.slt
  | 0, _, _ => rfl
  | k + 1, L, h => by
    unfold Tm.isort isortG
    rw [isort_map k L (by omega)]
    exact bub_map (k + 1) _ (by rw [isortG_length]; exact h)
theorem bubG_perm : ∀ (j : Nat) (L : List Ga), (j < L.length ∨ j = 0) → (bubG j L).Perm L
  | 0, _, _ => List.Perm.refl _
  | j + 1, L, h => by
    have hj : j + 1 < L.length := by omega
    have g3 : L.getD (j + 1) dG = L[j + 1] := by rw [List.getD_eq_getElem?_getD, List.getElem?_eq_getElem hj]; rfl
    have g4 : L.getD j dG = L[j]'(by omega) := by rw [List.getD_eq_getElem?_getD, List.getElem?_eq_getElem (by omega)]; rfl
    unfold bubG
    rw [g3, g4]
    split
    · exact (bubG_perm j _ (by simp; omega)).trans (List.set_set_perm hj (by omega))
    · exact List.Perm.refl _
theorem isortG_perm : ∀ (k : Nat) (L : List Ga), (k < L.length ∨ k = 0) → (isortG k L).Perm L
  | 0, _, _ => List.Perm.refl _
  | k + 1, L, h => by
    unfold isortG
    exact (bubG_perm (k + 1) _ (by rw [isortG_length]; exact h)).trans (isortG_perm k L (by omega))
def expB (now : Int) (x : Ga) : Bool := decide (0 < x.t ∧ x.t ≤ now)
/-- The groups whose time has come, in order. -/
def exG (now : Int) (gs : List Ga) : List Ga := isortG ((gs.filter (expB now)).length - 1) (gs.filter (expB now))
theorem exG_perm (now : Int) (gs : List Ga) : (exG now gs).Perm (gs.filter (expB now)) := isortG_perm _ _ (by omega)

theorem exp_filter (now : Int) (gs : List Ga) : (gst gs).slots.filter (expS now) = (gs.filter (expB now)).map Ga.slt := by
  show (gs.map Ga.slt).filter (expS now) = _
  rw [List.filter_map]
  congr 1
  apply List.filter_congr
  intro x _
  show (decide (x.t > 0) && decide (x.t ≤ now)) = decide (0 < x.t ∧ x.t ≤ now)
  rw [Bool.decide_and]
theorem exp48 {gs : List Ga} (h : SmG gs) (h4 : gs.length < 20) (now : Int) (N : Nat) (hN : 190010 ≤ N) : Gam.pureD (callF tab ext N) 48 [.agg (gst gs).cells, num now] = some (.sl false 10 (sltsC ((exG now gs).map Ga.slt))) := by
  have hl := List.length_filter_le (expB now) gs
  have key := expired_pure (gst gs) (gst_small gs h) now (by rw [exp_filter, List.length_map]; omega) N hN
  rw [exp_filter, List.length_map, isort_map _ _ (by omega)] at key
  exact key
theorem exG_mem {now : Int} {gs : List Ga} : ∀ x, x ∈ exG now gs → x ∈ gs ∧ 0 < x.t ∧ x.t ≤ now := fun x hx => by
  have h1 := List.mem_filter.1 ((exG_perm now gs).mem_iff.1 hx)
  exact ⟨h1.1, of_decide_eq_true h1.2⟩
theorem exG_ne {now : Int} {gs : List Ga} (h : SrtG gs) : (exG now gs).Pairwise fun a b => a.g ≠ b.g := by
  have h1 : (gs.filter (expB now)).Pairwise fun a b => a.g ≠ b.g := (List.Pairwise.filter _ h).imp fun hab e => by omega
  exact (List.Perm.pairwise_iff (fun hab e => hab e.symm) (exG_perm now gs)).2 h1
theorem exG_len (now : Int) (gs : List Ga) : (exG now gs).length ≤ gs.length := by
  have h1 := (exG_perm now gs).length_eq
  have h2 := List.length_filter_le (expB now) gs
  omega
theorem kn_mem {gs : List Ga} (hs : SrtG gs) {x : Ga} (hx : x ∈ gs) : knG x.g gs = true ∧ getG x.g gs = x := by
  obtain ⟨j, hj, rfl⟩ := List.getElem_of_mem hx
  have hlow : lowG gs[j].g gs = j := lowG_eq _ gs j (by omega) (fun k hk hkj => srtG_get hs hkj hj) (fun _ => by omega)
  unfold knG getG
  rw [hlow, List.getElem?_eq_getElem hj]
  simp
theorem del_mem {gs : List Ga} (hs : SrtG gs) {x y : Ga} (hx : x ∈ gs) : y ∈ delG x.g gs ↔ y ∈ gs ∧ y.g ≠ x.g := by
  obtain ⟨j, hj, rfl⟩ := List.getElem_of_mem hx
  have hlow : lowG gs[j].g gs = j := lowG_eq _ gs j (by omega) (fun k hk hkj => srtG_get hs hkj hj) (fun _ => by omega)
  unfold delG
  rw [hlow]
  constructor
  · intro h
    rcases List.mem_append.1 h with h | h
    · obtain ⟨k, hk, rfl⟩ := List.getElem_of_mem h
      rw [List.length_take] at hk
      rw [List.getElem_take]
      have := srtG_get hs (show k < j by omega) hj
      exact ⟨List.getElem_mem _, by omega⟩
    · obtain ⟨k, hk, rfl⟩ := List.getElem_of_mem h
      rw [List.length_drop] at hk
      rw [List.getElem_drop]
      have := srtG_get hs (show j < j + 1 + k by omega) (by omega)
      exact ⟨List.getElem_mem _, by omega⟩
  · rintro ⟨h, hne⟩
    obtain ⟨k, hk, rfl⟩ := List.getElem_of_mem h
    have hkj : k ≠ j := fun e => by subst e; exact hne rfl
    by_cases hlt : k < j
    · exact List.mem_append.2 (.inl (List.mem_take_iff_getElem.2 ⟨k, by omega, rfl⟩))
    · exact List.mem_append.2 (.inr (List.mem_drop_iff_getElem.2 ⟨k - (j + 1), by omega, by congr 1; omega⟩))
/-! ### A clock input, in plain terms -/
def clk1 (most : Int) (s : Stp) (c : Rs) (x : Ga) : Rs :=
  if ((sumM x.M : Nat) : Int) ≤ most then ⟨delG x.g c.gs, c.O ++ [⟨0, mrgM x.g x.M (undS s c.O.length)⟩], c.F ++ mrgF (x.M.map (msV x.g)) aggT (undS s c.O.length), c.L⟩
  else ⟨delG x.g c.gs, c.O, c.F ++ rejF (x.M.map (msV x.g)) typT, c.L ++ x.M.map (msV x.g)⟩
def clS (i : Nat) : Stp := ⟨(i : Int) + 1, [0, 3]⟩
def clkR (most : Int) (i : Nat) (now : Int) (gs : List Ga) : Rs := (exG now gs).foldl (clk1 most (clS i)) ⟨gs, [], [], []⟩
structure CkI (g0 : List Ga) (c : Rs) : Prop where
  srt : SrtG c.gs
  sub : ∀ x, x ∈ c.gs → x ∈ g0
  len : c.gs.length ≤ g0.length
  fat : heldG c.gs + c.F.length = heldG g0
  out : c.O.length ≤ c.F.length
  let' : c.L.length ≤ c.F.length
theorem clk1_I {g0 : List Ga} {most : Int} {s : Stp} {c : Rs} {x : Ga} (h : CkI g0 c) (hx : x ∈ c.gs) (hne : x.M ≠ []) : CkI g0 (clk1 most s c x) := by
  obtain ⟨hk, hg⟩ := kn_mem h.srt hx
  have hh := heldG_del hk
  rw [hg] at hh
  have hl := delG_len x.g c.gs
  have hpos : 0 < x.M.length := List.length_pos_iff.2 hne
  have hf := h.fat
  have ho := h.out
  have hle := h.let'
  have hlen := h.len
  unfold clk1
  split
  · refine ⟨delG_srt h.srt, fun y hy => h.sub y (delG_mem hy), by dsimp only; omega, ?_, ?_, ?_⟩
    · simp only [List.length_append, mrgF, List.length_map]; omega
    · simp only [List.length_append, mrgF, List.length_map, List.length_singleton]; omega
    · simp only [List.length_append, mrgF, List.length_map]; omega
  · refine ⟨delG_srt h.srt, fun y hy => h.sub y (delG_mem hy), by dsimp only; omega, ?_, ?_, ?_⟩
    · simp only [List.length_append, rejF, List.length_map]; omega
    · simp only [List.length_append, rejF, List.length_map]; omega
    · simp only [List.length_append, rejF, List.length_map]; omega
theorem clk1_gs (most : Int) (s : Stp) (c : Rs) (x : Ga) : (clk1 most s c x).gs = delG x.g c.gs := by unfold clk1; split <;> rfl
theorem clk_fold {g0 : List Ga} {most : Int} {s : Stp} : ∀ (E : List Ga) (c : Rs), CkI g0 c → (∀ x, x ∈ E → x ∈ c.gs ∧ x.M ≠ []) → (E.Pairwise fun a b => a.g ≠ b.g) →
    CkI g0 (E.foldl (clk1 most s) c) ∧ (∀ y, y ∈ (E.foldl (clk1 most s) c).gs ↔ y ∈ c.gs ∧ ∀ x, x ∈ E → y.g ≠ x.g)
  | [], c, h, _, _ => ⟨h, fun y => by simp⟩
  | x :: E, c, h, hx, hp => by
    obtain ⟨hx1, hxE⟩ := hx x List.mem_cons_self
    have hp2 := List.pairwise_cons.1 hp
    have h1 := clk1_I (most := most) (s := s) h hx1 hxE
    have ih := clk_fold (most := most) (s := s) E (clk1 most s c x) h1 (fun y hy => by
      have hy2 := hx y (List.mem_cons_of_mem _ hy)
      refine ⟨?_, hy2.2⟩
      rw [clk1_gs]
      exact (del_mem h.srt hx1).2 ⟨hy2.1, fun e => hp2.1 y hy e.symm⟩) hp2.2
    refine ⟨ih.1, fun y => ?_⟩
    rw [List.foldl_cons, ih.2 y, clk1_gs, del_mem h.srt hx1]
    constructor
    · rintro ⟨⟨h3, h4⟩, h5⟩
      refine ⟨h3, fun z hz => ?_⟩
      rcases List.mem_cons.1 hz with rfl | hz
      · exact h4
      · exact h5 z hz
    · rintro ⟨h3, h4⟩
      exact ⟨⟨h3, h4 x List.mem_cons_self⟩, fun z hz => h4 z (List.mem_cons_of_mem _ hz)⟩
end Go.Proofs.YthphniobeigklaaGreatDoor.Ag

/- aggregator.Step at a clock input. -/
namespace Go.Proofs.YthphniobeigklaaGreatDoor.Ag
open Go Go.Em Go.Proofs.YthphniobeigklaaGreatDoor
set_option maxRecDepth 100000

def zeO : List X := [num 0, num 0, .sl true 10 [], .sl true 11 [], .sl true 11 [], .sl true 6 [], .sl true 10 []]
section
variable (nu ti li most : Int) (ex es ss s2 : List (List X)) (i : Nat) (now : Int) (O O2 : List Otp) (F F2 : List Fte) (L L2 : List Msg) (n j : Nat) (N : Nat)
def ckB : List Bx := [.var (clR false i now), .var zeO, .var (bX nu ti li ex (tyX most) ruX ss 3 O.length 4 F.length 5 L.length), .row 11 (otpsC O), .row 6 (ftesC F), .row 10 (msgsC L)]
def ckH : St := ⟨[(5, .ptr 0 0 0), (6, .ptr 1 0 0), (7, .ptr 2 0 0), (28, .sl false 10 es), (29, nat n), (30, nat j)], ckB nu ti li most ex ss i now O F L⟩
def ckE : St := ⟨[(5, .ptr 0 0 0), (6, .ptr 1 0 0), (7, .ptr 2 0 0), (28, .sl false 10 es), (29, nat n), (30, nat j), (31, boolX false)], ckB nu ti li most ex ss i now O F L⟩
theorem ck_canon : canon 0 (ckH nu ti li most ex es ss i now O F L n j) = some (ckH nu ti li most ex es ss i now O F L n j) := by kernel_rfl
theorem ck_end (h : ¬ j < n) : run (callF tab ext N) 0 N (loopAt 27 0) (ckH nu ti li most ex es ss i now O F L n j) = some (.exit 1, ckE nu ti li most ex es ss i now O F L n j) :=
  run_of [(31, .b false)] [] (pf1 (nlt_nat h)) (lo' := []) (by kernel_rfl)
theorem ck_M (q t : Int) (ms : List (List X)) (hj : j < n) (hn : n < 1000) (he : es[j]? = some (slX q t ms))
    (h49 : Gam.pureD (callF tab ext N) 49 [.agg [num 0, num 0, .sl false 10 ss], .agg (kv q).cells] = some (.tup [.agg [num 0, num 0, .sl false 10 s2], boolX true]))
    (h50 : callF tab ext N (.fn 50) [.ptr 0 0 0, .agg (kv q).cells, .sl false 10 ms, .agg [nat (i + 1), .sl false 1 [[num 0], [num 3]]]] (bdB nu ti li most ex s2 O F L) = some (.tup [], bdM nu ti li most ex s2 O2 F2 L2)) :
    ∃ υ, run (callF tab ext N) 0 N (loopAt 27 0) (ckH nu ti li most ex es ss i now O F L n j) = some (.norm, υ) ∧ canon 0 υ = some (ckH nu ti li most ex es s2 i now O2 F2 L2 n (j + 1)) :=
  rd_of [(31, .b true), (32, .e (slX q t ms)), (43, .p (.tup [.agg [num 0, num 0, .sl false 10 s2], boolX true])), (56, .r (.tup []) (bdM nu ti li most ex s2 O2 F2 L2)), (57, .i (Int.ofNat (j + 1)))] (pf5 (lt_nat hj) he h49 h50 (next_nat (j := j) (by omega))) (by kernel_rfl)
theorem ck_R (q t : Int) (ms : List (List X)) (hj : j < n) (hn : n < 1000) (he : es[j]? = some (slX q t ms))
    (h49 : Gam.pureD (callF tab ext N) 49 [.agg [num 0, num 0, .sl false 10 ss], .agg (kv q).cells] = some (.tup [.agg [num 0, num 0, .sl false 10 s2], boolX true]))
    (h50 : callF tab ext N (.fn 50) [.ptr 0 0 0, .agg (kv q).cells, .sl false 10 ms, .agg [nat (i + 1), .sl false 1 [[num 0], [num 3]]]] (bdB nu ti li most ex s2 O F L) = some (.tup [], bdR nu ti li most ex s2 O2 F2 L2)) :
    ∃ υ, run (callF tab ext N) 0 N (loopAt 27 0) (ckH nu ti li most ex es ss i now O F L n j) = some (.norm, υ) ∧ canon 0 υ = some (ckH nu ti li most ex es s2 i now O2 F2 L2 n (j + 1)) :=
  rd_of [(31, .b true), (32, .e (slX q t ms)), (43, .p (.tup [.agg [num 0, num 0, .sl false 10 s2], boolX true])), (56, .r (.tup []) (bdR nu ti li most ex s2 O2 F2 L2)), (57, .i (Int.ofNat (j + 1)))] (pf5 (lt_nat hj) he h49 h50 (next_nat (j := j) (by omega))) (by kernel_rfl)
theorem ck_fn (h46 : Gam.pureD (callF tab ext N) 46 [.agg [num 0, num 0, .sl false 10 ss]] = some (.agg [num 0, num 0, .sl false 10 ss])) (h48 : Gam.pureD (callF tab ext N) 48 [.agg [num 0, num 0, .sl false 10 ss], num now] = some (.sl false 10 es))
    (hl : run (callF tab ext N) 0 N (.loop (loopAt 27 0)) (ckH nu ti li most ex es ss i now [] [] [] es.length 0) = some (.exit 1, ckE nu ti li most ex es s2 i now O F L n j)) :
    Gam.pureD (callF tab ext (N + 1)) 27 [.agg (nodX nu ti li ex (tyX most) ruX), .agg [num 0, num 0, .sl false 10 ss], .agg (clR false i now)] = some (.agg (rsX s2 O F L)) := by
  have d1 := otpsC_length O
  have d2 := ftesC_length F
  have d3 := msgsC_length L
  have hl' : run (callF tab ext N) 0 N (.loop (loopAt 27 0)) ⟨[(5, .ptr 2 0 0), (6, .ptr 3 0 0), (7, .ptr 4 0 0), (28, .sl false 10 es), (29, nat es.length), (30, num 0)], [.var (nodX nu ti li ex (tyX most) ruX), .var [num 0, num 0, .sl false 10 ss], .var (clR false i now), .var zeO, .var (bX nu ti li ex (tyX most) ruX ss 5 0 6 0 7 0), .row 11 [], .row 6 [], .row 10 []]⟩ = some (.exit 1, ckE nu ti li most ex es s2 i now O F L n j) := by
    rw [← hl]
    exact loop_canon (by kernel_rfl) (ck_canon ..)
  unfold ckE ckB at hl'
  unfold rsX
  generalize otpsC O = Oc at *
  generalize ftesC F = Fc at *
  generalize msgsC L = Lc at *
  generalize O.length = no at *
  generalize F.length = nf at *
  generalize L.length = nl at *
  exact pure_of [(12, .p (.agg [num 0, num 0, .sl false 10 ss])), (28, .p (.sl false 10 es))] [(.exit 1, ⟨[(5, .ptr 0 0 0), (6, .ptr 1 0 0), (7, .ptr 2 0 0), (28, .sl false 10 es), (29, nat n), (30, nat j), (31, boolX false)], [.var (clR false i now), .var zeO, .var (bX nu ti li ex (tyX most) ruX s2 3 no 4 nf 5 nl), .row 11 Oc, .row 6 Fc, .row 10 Lc]⟩)] (pf3 h46 h48 hl')
    (x := .agg [num 0, num 0, .sl false 10 s2, .bs 0 0 no, .sl true 11 [], .bs 1 0 nf, .bs 2 0 nl]) (bx := [.row 11 Oc, .row 6 Fc, .row 10 Lc]) (by kernel_rfl) (data_agg (dataL_cons rfl (dataL_cons rfl (dataL_cons rfl (dataL_cons (data_bs rfl d1.symm) (dataL_cons rfl (dataL_cons (data_bs rfl d2.symm) (dataL_cons (data_bs rfl d3.symm) rfl))))))))
end
theorem GsI.grpOk {gs : List Ga} {k : Nat} (h : GsI gs k) (hk : k ≤ 40) {x : Ga} (hx : x ∈ gs) : GrpOk x.g x.M := by
  have h1 := h.key x hx
  have h2 := h.len x hx
  exact ⟨List.length_pos_iff.2 (h.ne x hx), by omega, by omega, fun m hm => by have := h.place x hx m hm; omega, h.inc x hx⟩
theorem GsI.few4 {gs : List Ga} {k : Nat} (h : GsI gs k) : gs.length ≤ 4 := by
  have key : ∀ (l : List Int) (lo c : Int), l.Pairwise (· < ·) → (∀ v, v ∈ l → lo < v ∧ v ≤ c) → (l.length : Int) + lo ≤ max lo c := by
    intro l
    induction l with
    | nil => intro lo c _ _; simp; omega
    | cons a r ih =>
      intro lo c hp hb
      have h1 := List.pairwise_cons.1 hp
      have h2 := ih a c h1.2 (fun v hv => ⟨h1.1 v hv, (hb v (List.mem_cons_of_mem _ hv)).2⟩)
      have h3 := hb a List.mem_cons_self
      simp only [List.length_cons]; omega
  have k := key (gs.map (·.g)) (-1) 3 (by rw [List.pairwise_map]; exact h.srt) (fun v hv => by
    obtain ⟨x, hx, rfl⟩ := List.mem_map.1 hv
    have := h.key x hx
    omega)
  rw [List.length_map] at k
  omega
/-- The step at a clock input. -/
theorem step_clk (nu ti li most : Int) (cd : Nat) (gs : List Ga) (now : Int) (i : Nat) (h : GsI gs i) (hi : i ≤ 40) (hheld : heldG gs < 200) (N : Nat) (hN : 193000 ≤ N) :
    Gam.pureD (callF tab ext N) 27 [.agg (nodX nu ti li (exN cd) (tyX most) ruX), .agg (gst gs).cells, .agg (clR false i now)] = some (.agg (clkR most i now gs).cells) := by
  obtain ⟨M, rfl⟩ : ∃ M, N = M + 1 := ⟨N - 1, by omega⟩
  have hsm := h.sm hi
  have h4 := h.few4
  have h46 := clone_state_pure M (gst gs) (gst_small gs hsm).ok (by omega)
  have h48 := exp48 hsm (by omega) now M (by omega)
  have hE := exG_mem (now := now) (gs := gs)
  have hne := exG_ne (now := now) h.srt
  have hEl := exG_len now gs
  have key : ∀ j, j ≤ (exG now gs).length → CkI gs (((exG now gs).take j).foldl (clk1 most (clS i)) ⟨gs, [], [], []⟩) ∧ ∀ hj : j < (exG now gs).length, (exG now gs)[j] ∈ (((exG now gs).take j).foldl (clk1 most (clS i)) ⟨gs, [], [], []⟩).gs := fun j _ => by
    have := clk_fold (most := most) (s := clS i) (g0 := gs) ((exG now gs).take j) ⟨gs, [], [], []⟩ ⟨h.srt, fun x hx => hx, Nat.le_refl _, rfl, Nat.le_refl 0, Nat.le_refl 0⟩ (fun x hx => ⟨(hE x (List.mem_of_mem_take hx)).1, h.ne x (hE x (List.mem_of_mem_take hx)).1⟩) hne.take
    refine ⟨this.1, fun hj => (this.2 _).2 ⟨(hE _ (List.getElem_mem hj)).1, fun x hx => ?_⟩⟩
    obtain ⟨k, hk, rfl⟩ := List.getElem_of_mem hx
    rw [List.length_take] at hk
    rw [List.getElem_take]
    exact fun e => List.pairwise_iff_getElem.1 hne k j (by omega) hj (by omega) e.symm
  have hel : (sltsC ((exG now gs).map Ga.slt)).length = (exG now gs).length := by rw [sltsC_length, List.length_map]
  refine ck_fn nu ti li most (exN cd) (sltsC ((exG now gs).map Ga.slt)) (sltsC (gst gs).slots) (sltsC (gst (clkR most i now gs).gs).slots) i now (clkR most i now gs).O (clkR most i now gs).F (clkR most i now gs).L (sltsC ((exG now gs).map Ga.slt)).length (exG now gs).length M h46 h48 ?_
  refine loop_for (σ := fun j => ckH nu ti li most (exN cd) (sltsC ((exG now gs).map Ga.slt)) (sltsC (gst (((exG now gs).take j).foldl (clk1 most (clS i)) ⟨gs, [], [], []⟩).gs).slots) i now (((exG now gs).take j).foldl (clk1 most (clS i)) ⟨gs, [], [], []⟩).O (((exG now gs).take j).foldl (clk1 most (clS i)) ⟨gs, [], [], []⟩).F (((exG now gs).take j).foldl (clk1 most (clS i)) ⟨gs, [], [], []⟩).L (sltsC ((exG now gs).map Ga.slt)).length j) (k := (exG now gs).length) (ck_canon ..) (fun j hj => ?_) ?_ (by simp) (by omega)
  · obtain ⟨hc, hm⟩ := key j (by omega)
    have hmem := hm hj
    have hmg := (hE _ (List.getElem_mem hj)).1
    rw [List.take_succ_eq_append_getElem hj, List.foldl_append]
    simp only [List.foldl_cons, List.foldl_nil]
    have he : (sltsC ((exG now gs).map Ga.slt))[j]? = some (exG now gs)[j].slt.cells := by
      have := sltsC_get (l := (exG now gs).map Ga.slt) (j := j) (by simpa using hj)
      rw [this]
      simp
    generalize ((exG now gs).take j).foldl (clk1 most (clS i)) ⟨gs, [], [], []⟩ = c at *
    generalize (exG now gs)[j] = x at *
    clear key
    obtain ⟨hk, _⟩ := kn_mem hc.srt hmem
    have hcl := hc.len
    have hcs : SmG c.gs := ⟨by omega, fun y hy => hsm.2 y (hc.sub y hy)⟩
    have h49 := rem49 c.gs hc.srt hcs x.g hk M (by omega)
    have hf := hc.fat
    have ho := hc.out
    have hle := hc.let'
    have hgo := h.grpOk hi hmg
    have hst : (clS i).ok := ⟨by simp [clS]⟩
    unfold clk1
    by_cases hs : ((sumM x.M : Nat) : Int) ≤ most
    · rw [if_pos hs]
      have h50 := fin_ok nu ti li most (exN cd) (sltsC (gst (delG x.g c.gs)).slots) c.O c.F c.L x.g x.M (clS i) hgo hst (by simp [clS]) (by omega) (by omega) hs M (by omega)
      exact ck_M nu ti li most (exN cd) _ _ _ i now c.O _ c.F _ c.L _ _ j M x.g x.t (msgsC (x.M.map (msV x.g))) (by omega) (by omega) he h49 h50
    · rw [if_neg hs]
      have h50 := fin_no nu ti li most (exN cd) (sltsC (gst (delG x.g c.gs)).slots) c.O c.F c.L x.g x.M (clS i) hgo hst (by simp [clS]) (by omega) (by omega) (by omega) M (by omega)
      exact ck_R nu ti li most (exN cd) _ _ _ i now c.O _ c.F _ c.L _ _ j M x.g x.t (msgsC (x.M.map (msV x.g))) (by omega) (by omega) he h49 h50
  · rw [List.take_length]
    exact ck_end nu ti li most (exN cd) _ _ i now _ _ _ _ _ M (by omega)
end Go.Proofs.YthphniobeigklaaGreatDoor.Ag

/- The inputs that events describe. -/
namespace Go.Proofs.YthphniobeigklaaGreatDoor.Ag
open Go Go.Em Go.Proofs.YthphniobeigklaaGreatDoor
set_option maxRecDepth 100000

/-- An event: what, key, number, time. -/
structure Ev where
  a : Nat
  k : Nat
  n : Nat
  d : Nat
def Ev.ok (e : Ev) : Prop := e.a < 256 ∧ e.k < 256 ∧ e.n < 256 ∧ e.d < 256
def evC (l : List Ev) : List (List X) := l.map fun e => [u8X e.a, u8X e.k, u8X e.n, u8X e.d]
theorem evC_len (l : List Ev) : (evC l).length = l.length := by simp [evC]
theorem evC_get {l : List Ev} {j : Nat} (h : j < l.length) : (evC l)[j]? = some [u8X l[j].a, u8X l[j].k, u8X l[j].n, u8X l[j].d] := by simp [evC, h]
def evV (e : Ev) : Ei := if 6 ≤ e.a % 8 then .c else .m (if e.k % 5 = 4 then none else some ((e.k % 5 : Nat) : Int)) (e.n % 4)
/-- The inputs from the i-th event on. -/
def inL : Nat → Nat → List Ev → List Iv
  | _, _, [] => []
  | i, now, e :: r => ⟨i, ((now + e.d % 8 : Nat) : Int), evV e⟩ :: inL (i + 1) (now + e.d % 8) r
def nwL : Nat → List Ev → Nat
  | now, [] => now
  | now, e :: r => nwL (now + e.d % 8) r
theorem inL_len : ∀ (l : List Ev) (i now : Nat), (inL i now l).length = l.length
  | [], _, _ => rfl
  | e :: r, i, now => congrArg (· + 1) (inL_len r (i + 1) (now + e.d % 8))
theorem nwL_snoc (e : Ev) : ∀ (l : List Ev) (now : Nat), nwL now (l ++ [e]) = nwL now l + e.d % 8
  | [], _ => rfl
  | x :: r, now => nwL_snoc e r (now + x.d % 8)
theorem inL_snoc (e : Ev) : ∀ (l : List Ev) (i now : Nat), inL i now (l ++ [e]) = inL i now l ++ [⟨i + l.length, ((nwL now l + e.d % 8 : Nat) : Int), evV e⟩]
  | [], _, _ => rfl
  | x :: r, i, now => by
    show _ :: inL (i + 1) (now + x.d % 8) (r ++ [e]) = _
    rw [inL_snoc e r (i + 1) (now + x.d % 8)]
    show _ = _ :: (_ ++ [_])
    rw [List.length_cons, show i + (r.length + 1) = i + 1 + r.length by omega]
    rfl
theorem nwL_le : ∀ (l : List Ev) (now : Nat), nwL now l ≤ now + 8 * l.length
  | [], _ => by simp [nwL]
  | x :: r, now => by
    have := nwL_le r (now + x.d % 8)
    simp only [nwL, List.length_cons]
    omega
theorem inL_take (l : List Ev) (i now j : Nat) (h : j < l.length) : inL i now (l.take (j + 1)) = inL i now (l.take j) ++ [⟨i + j, ((nwL now (l.take j) + l[j].d % 8 : Nat) : Int), evV l[j]⟩] := by
  rw [List.take_succ_eq_append_getElem h, inL_snoc, List.length_take, Nat.min_eq_left (by omega)]
theorem inL_get : ∀ (l : List Ev) (i now j : Nat) (h : j < l.length), (inL i now l)[j]'(by rw [inL_len]; exact h) = ⟨i + j, ((nwL now (l.take j) + l[j].d % 8 : Nat) : Int), evV l[j]⟩
  | e :: r, i, now, 0, _ => rfl
  | e :: r, i, now, j + 1, h => by
    show (inL (i + 1) (now + e.d % 8) r)[j]'_ = _
    rw [inL_get r (i + 1) (now + e.d % 8) j (by simpa using h)]
    simp only [Iv.mk.injEq]
    refine ⟨by omega, rfl, rfl⟩
section
variable (es acc : List (List X)) (now j : Nat) (N : Nat)
def ivH : St := ⟨[(0, .sl false 4 es), (3, .bs 0 0 j), (4, nat now), (5, nat j)], [.row 23 acc]⟩
def ivE : St := ⟨[(0, .sl false 4 es), (3, .bs 0 0 j), (4, nat now), (5, nat j), (17, boolX false)], [.row 23 acc]⟩
theorem iv_canon : canon 0 (ivH es acc now j) = some (ivH es acc now j) := by kernel_rfl
theorem iv_end (h : ¬ (j < es.length ∧ j < 40)) : run (callF tab ext N) 0 N (loopAt 13 0) (ivH es acc now j) = some (.exit 0, ivE es acc now j) := by
  by_cases h1 : j < es.length
  · have h2 : decide (Int.ofNat j < 40) = false := decide_eq_false (by simp only [Int.ofNat_eq_natCast]; omega)
    exact run_of [(13, .b true), (16, .b false)] [] (pf2 (lt_nat h1) h2) (lo' := []) (by kernel_rfl)
  · exact run_of [(13, .b false)] [] (pf1 (nlt_nat h1)) (lo' := []) (by kernel_rfl)
theorem iv_round (e : Ev) (he : es[j]? = some [u8X e.a, u8X e.k, u8X e.n, u8X e.d]) (hj : j < es.length) (hj2 : j < 40) (hn : now ≤ 1000) (ha : j = acc.length) :
    ∃ υ, run (callF tab ext (N + 300)) 0 (N + 300) (loopAt 13 0) (ivH es acc now j) = some (.norm, υ) ∧ canon 0 υ = some (ivH es (acc ++ [Iv.row true ⟨j, ((now + e.d % 8 : Nat) : Int), evV e⟩]) (now + e.d % 8) (j + 1)) := by
  have h1 := lt_nat hj
  have h2 : decide (Int.ofNat j < 40) = true := decide_eq_true (by simp only [Int.ofNat_eq_natCast]; omega)
  have h3 := next_nat (j := j) (by omega)
  have h4 := app_ok (acc := acc) j 0 304 ha (by omega) (by omega)
  have rem : ∀ (a b : Nat), b < 100 → 0 < b → IntKind.i64.wrap ((a : Int).tmod (Int.ofNat b)) = Int.ofNat (a % b) := fun a b hb h0 => by
    have hm := Nat.mod_lt a h0
    rw [Int.tmod_eq_emod_of_nonneg (Int.natCast_nonneg a), IntKind.wrap_i64, Int.ofNat_eq_natCast, ← Int.natCast_emod]
    simp only [Int.ofNat_eq_natCast]
    omega
  have hd := rem e.d 8 (by omega) (by omega)
  have hnow : IntKind.i64.wrap (Int.ofNat now + Int.ofNat (e.d % 8)) = Int.ofNat (now + e.d % 8) := by
    rw [IntKind.wrap_i64]; simp only [Int.ofNat_eq_natCast]; omega
  have hta : ∀ (a b : Nat), (a : Int).tmod (Int.ofNat b) = ((a % b : Nat) : Int) := fun a b => by
    rw [Int.tmod_eq_emod_of_nonneg (Int.natCast_nonneg a)]; rfl
  have hmass : IntKind.i64.wrap (100 + Int.ofNat j) = Int.ofNat (100 + j) := by rw [IntKind.wrap_i64]; simp only [Int.ofNat_eq_natCast]; omega
  unfold evV
  by_cases hc : 6 ≤ e.a % 8
  · have h6 : decide ((e.a : Int).tmod 8 ≥ 6) = true := decide_eq_true (by have := hta e.a 8; simp only [Int.ofNat_eq_natCast] at this; rw [show ((8 : Nat) : Int) = 8 from rfl] at this; rw [this]; omega)
    rw [if_pos hc]
    generalize now + e.d % 8 = now2 at *
    generalize e.d % 8 = dd at *
    exact rd_of [(13, .b true), (16, .b true), (22, .e [u8X e.a, u8X e.k, u8X e.n, u8X e.d]), (28, .i (Int.ofNat dd)), (29, .i (Int.ofNat now2)), (33, .b true), (37, .i (Int.ofNat (j + 1))), (42, .app), (19, .i (Int.ofNat (j + 1)))] (pfJ h1 h2 he hd hnow h6 h3 (pf2 h4 h3)) (by kernel_rfl)
  · have h6 : decide ((e.a : Int).tmod 8 ≥ 6) = false := decide_eq_false (by have := hta e.a 8; simp only [Int.ofNat_eq_natCast] at this; rw [show ((8 : Nat) : Int) = 8 from rfl] at this; rw [this]; omega)
    have hk := rem e.k 5 (by omega) (by omega)
    have hnn := rem e.n 4 (by omega) (by omega)
    rw [if_neg hc]
    by_cases hq : e.k % 5 = 4
    · have h60 : ((e.k : Int).tmod 5 == 4) = true := beq_iff_eq.2 (by have := hta e.k 5; simp only [Int.ofNat_eq_natCast] at this; rw [show ((5 : Nat) : Int) = 5 from rfl] at this; rw [this, hq]; rfl)
      rw [if_pos hq]
      generalize now + e.d % 8 = now2 at *
      generalize e.d % 8 = dd at *
      generalize e.n % 4 = nn at *
      exact rd_of [(13, .b true), (16, .b true), (22, .e [u8X e.a, u8X e.k, u8X e.n, u8X e.d]), (28, .i (Int.ofNat dd)), (29, .i (Int.ofNat now2)), (33, .b false), (52, .i (Int.ofNat nn)), (60, .b true), (66, .i (Int.ofNat (j + 1))), (71, .i (Int.ofNat (100 + j))), (73, .i (Int.ofNat (j + 1))), (83, .app), (19, .i (Int.ofNat (j + 1)))] (pf13 h1 h2 he hd hnow h6 hnn h60 h3 hmass h3 h4 h3) (by kernel_rfl)
    · have h60 : ((e.k : Int).tmod 5 == 4) = false := beq_eq_false_iff_ne.2 (by have := hta e.k 5; simp only [Int.ofNat_eq_natCast] at this; rw [show ((5 : Nat) : Int) = 5 from rfl] at this; rw [this]; omega)
      rw [if_neg hq]
      generalize now + e.d % 8 = now2 at *
      generalize e.d % 8 = dd at *
      generalize e.n % 4 = nn at *
      generalize e.k % 5 = kk at *
      exact rd_of [(13, .b true), (16, .b true), (22, .e [u8X e.a, u8X e.k, u8X e.n, u8X e.d]), (28, .i (Int.ofNat dd)), (29, .i (Int.ofNat now2)), (33, .b false), (46, .i (Int.ofNat kk)), (52, .i (Int.ofNat nn)), (60, .b false), (66, .i (Int.ofNat (j + 1))), (71, .i (Int.ofNat (100 + j))), (73, .i (Int.ofNat (j + 1))), (83, .app), (19, .i (Int.ofNat (j + 1)))] (pf14 h1 h2 he hd hnow h6 hk hnn h60 h3 hmass h3 h4 h3) (by kernel_rfl)
end
/-- The inputs of at most 40 events. -/
theorem inputs13 (l : List Ev) (N : Nat) (hN : 500 ≤ N) : Gam.pureD (callF tab ext N) 13 [.sl false 4 (evC l)] = some (.sl false 23 (insC (inL 0 0 (l.take 40)))) := by
  obtain ⟨M, rfl⟩ : ∃ M, N = M + 301 := ⟨N - 301, by omega⟩
  have hn := evC_len l
  have hk : (l.take 40).length = min 40 l.length := List.length_take ..
  have h1 : run (callF tab ext (M + 300)) 0 (M + 300) (.loop (loopAt 13 0)) (ivH (evC l) [] 0 0) = some (.exit 0, ivE (evC l) (insC (inL 0 0 (l.take 40))) (nwL 0 (l.take 40)) (l.take 40).length) := by
    refine loop_for (σ := fun j => ivH (evC l) (insC (inL 0 0 ((l.take 40).take j))) (nwL 0 ((l.take 40).take j)) j) (k := (l.take 40).length) (iv_canon ..) (fun j hj => ?_) ?_ (by simp) (by omega)
    · have hj' : j < l.length := by omega
      rw [inL_take _ 0 0 j hj, List.take_succ_eq_append_getElem hj, nwL_snoc, Nat.zero_add]
      have e1 : (l.take 40)[j] = l[j] := List.getElem_take
      have hle := nwL_le ((l.take 40).take j) 0
      rw [List.length_take] at hle
      have e2 : insC (inL 0 0 ((l.take 40).take j) ++ [⟨j, ((nwL 0 ((l.take 40).take j) + (l.take 40)[j].d % 8 : Nat) : Int), evV (l.take 40)[j]⟩]) = insC (inL 0 0 ((l.take 40).take j)) ++ [Iv.row true ⟨j, ((nwL 0 ((l.take 40).take j) + (l.take 40)[j].d % 8 : Nat) : Int), evV (l.take 40)[j]⟩] := by simp [insC]
      rw [e2, e1]
      exact iv_round (evC l) _ _ j M l[j] (evC_get hj') (by omega) (by omega) (by omega) (by rw [insC_len, inL_len, List.length_take]; omega)
    · rw [List.take_length]
      exact iv_end (evC l) _ _ _ (M + 300) (by omega)
  have hlen : (l.take 40).length = (insC (inL 0 0 (l.take 40))).length := by rw [insC_len, inL_len]
  generalize nwL 0 (l.take 40) = nw at *
  generalize insC (inL 0 0 (l.take 40)) = I at *
  generalize (l.take 40).length = k at *
  generalize evC l = E at *
  exact pure_of [] [(.exit 0, ivE E I nw k)] (pf1 h1) (x := .bs 0 0 k) (bx := [.row 23 I]) (by kernel_rfl) (data_bs rfl hlen)
end Go.Proofs.YthphniobeigklaaGreatDoor.Ag

/- The example of layer 33: its inputs. -/
namespace Go.Proofs.YthphniobeigklaaGreatDoor.Ag
open Go Go.Em Go.Proofs.YthphniobeigklaaGreatDoor
set_option maxRecDepth 100000

/-- An input with a message: its number, a key, a number. -/
def inX (i q n : Nat) : List X := [num 1, num 0, nat (i + 1), .sl true 1 [[num 1]], nat (i + 1), .sl true 1 [[num 1]], nat (100 + i), .sl true 1 [[nat (i + 1)]]] ++ bodyG true (some (q : Int)) n ++ [num 0, boolX false, boolX false, num 0, num 0, num 0, strX ⟨#[]⟩, .sl true 6 [], .sl true 7 []]
def kIns : List (List X) := [inX 0 1 0, inX 1 2 0, inX 2 1 3]
def kEvs : X := .sl false 4 [[u8X 0, u8X 1, u8X 0, u8X 0], [u8X 0, u8X 2, u8X 0, u8X 0], [u8X 0, u8X 1, u8X 3, u8X 0]]
theorem kn13 (N : Nat) : Gam.pureD (callF tab ext (N + 300)) 13 [kEvs] = some (.sl false 23 kIns) := by kernel_rfl
end Go.Proofs.YthphniobeigklaaGreatDoor.Ag

/- The first example of the chapter: known() of layer 33. -/
namespace Go.Proofs.YthphniobeigklaaGreatDoor.Ag
open Go Go.Em Go.Proofs.YthphniobeigklaaGreatDoor
set_option maxRecDepth 100000

def xs3 : List Iv := [⟨0, 0, .m (some 1) 0⟩, ⟨1, 0, .m (some 2) 0⟩, ⟨2, 0, .m (some 1) 3⟩]
/-- Steps of the example's node at messages. -/
def S3 (gs : List Ga) (x : Iv) : Rs := match x.v with
  | .m (some q) n => stpM 2 0 4 999999999999999 0 gs q x.now (x.i, n)
  | _ => ⟨gs, [], [], []⟩

def gk1 : List Ga := [⟨1, 0, [(0, 0)]⟩]
def gk2 : List Ga := [⟨1, 0, [(0, 0)]⟩, ⟨2, 0, [(1, 0)]⟩]
theorem g0_I : GsI [] 0 := ⟨.nil, by simp, by simp, by simp, by simp, by simp, by simp⟩
theorem g1_I : GsI gk1 1 := ⟨by simp [gk1, SrtG], by simp [gk1], by simp [gk1], by simp [gk1], by simp [gk1], by simp [gk1], by simp [gk1]⟩
theorem g2_I : GsI gk2 2 := ⟨by simp [gk2, SrtG], by simp [gk2], by simp [gk2], by simp [gk2], by simp [gk2], by simp [gk2], by simp [gk2]⟩
theorem ek1 : stL S3 [] (xs3.take 1) = gk1 := by rfl
theorem ek2 : stL S3 [] (xs3.take 2) = gk2 := by rfl
theorem kn_run (N : Nat) (hN : 193000 ≤ N) : Gam.pureD (callF tab ext (N + 1)) 14 [.agg (nodX 2 0 4 (exN 0) (tyX 999999999999999) ruX), .sl false 23 (insC xs3)] = some (.sl false 7 (rssC (rnL S3 [] xs3))) := by
  refine run14 S3 2 0 4 999999999999999 (exN 0) xs3 (by decide) N (by omega) fun j hj => ?_
  match j, hj with
  | 0, _ => exact step_msg 2 0 4 999999999999999 0 [] 1 0 0 0 (by decide) g0_I (by decide) (by decide) (by decide) (by decide) (by decide) (by decide) N hN
  | 1, _ =>
    rw [ek1]
    exact step_msg 2 0 4 999999999999999 0 gk1 2 0 1 0 (by decide) g1_I (by decide) (by decide) (by decide) (by decide) (by decide) (by decide) N hN
  | 2, _ =>
    rw [ek2]
    exact step_msg 2 0 4 999999999999999 0 gk2 1 0 2 3 (by decide) g2_I (by decide) (by decide) (by decide) (by decide) (by decide) (by decide) N hN
  | j + 3, h => exact absurd h (by simp [xs3])
theorem kn_node (N : Nat) : Gam.pureD (callF tab ext (N + 300)) 12 [.agg [.v (.int .u8 2), .v (.int .u8 0), .v (.int .u8 3), .v (.int .u8 0), .v (.int .u8 0)]] = some (.agg (nodX 2 0 4 (exN 0) (tyX 999999999999999) ruX)) := node12 2 0 3 0 0 N
theorem known11 (N : Nat) (hN : 193400 ≤ N) : Gam.pureD (callF tab ext N) 11 [] = some (boolX true) := by
  obtain ⟨K, rfl⟩ : ∃ K, N = K + 301 := ⟨N - 301, by omega⟩
  have h8 := kn13 K
  have h10 := kn_node K
  have h12 := kn_run (K + 299) (by omega)
  exact pure_of [(8, .p (.sl false 23 (insC xs3))), (10, .p (.agg (nodX 2 0 4 (exN 0) (tyX 999999999999999) ruX))), (12, .p (.sl false 7 (rssC (rnL S3 [] xs3))))] [] (pf3 h8 h10 h12) (x := boolX true) (bx := []) (by kernel_rfl) rfl
end Go.Proofs.YthphniobeigklaaGreatDoor.Ag

/- AggregatorCompletes, where the first example of the chapter is known. -/
namespace Go.Proofs.YthphniobeigklaaGreatDoor.Ag
open Go Go.Em Go.Proofs.YthphniobeigklaaGreatDoor
set_option maxRecDepth 100000

section
variable (nC vC es acc : List (List X)) (nd kc : List X) (m i : Nat) (N : Nat)
def csH : St := ⟨[(2, .sl false 1 es), (7, .ptr 0 0 0), (8, .ptr 1 0 0), (9, .bs 2 0 m), (10, nat i)], [.var nd, .var kc, .row 6 acc]⟩
def csE : St := ⟨[(2, .sl false 1 es), (7, .ptr 0 0 0), (8, .ptr 1 0 0), (9, .bs 2 0 m), (10, nat i), (32, boolX false)], [.var nd, .var kc, .row 6 acc]⟩
end
section
variable (nu ti li k : Int) (ty ru es acc : List (List X)) (cd m i : Nat) (N : Nat)
theorem cs_canon : canon 0 (csH es acc (nodX nu ti li (exN cd) ty ru) (kv k).cells m i) = some (csH es acc (nodX nu ti li (exN cd) ty ru) (kv k).cells m i) := by kernel_rfl
theorem cs_end (h : ¬ i < es.length) : run (callF tab ext N) 0 N (loopAt 5 0) (csH es acc (nodX nu ti li (exN cd) ty ru) (kv k).cells m i) = some (.exit 0, csE es acc (nodX nu ti li (exN cd) ty ru) (kv k).cells m i) :=
  run_of [(32, .b false)] [] (pf1 (nlt_nat h)) (lo' := []) (by kernel_rfl)
theorem cs_round (q : Int) (x : Nat) (hq : IntKind.i64.wrap (q.tmod 4) = Int.ofNat x) (hi : i < es.length) (hi2 : i < 100000) (hm : m = acc.length) (hm2 : m < 100000) (he : es[i]? = some [u8X q]) :
    ∃ υ, run (callF tab ext (N + 300)) 0 (N + 300) (loopAt 5 0) (csH es acc (nodX nu ti li (exN cd) ty ru) (kv k).cells m i) = some (.norm, υ) ∧ canon 0 υ = some (csH es (acc ++ [bodyG true none x]) (nodX nu ti li (exN cd) ty ru) (kv k).cells (m + 1) (i + 1)) := by
  have h1 := lt_nat hi
  have h2 := next_nat (j := i) (by omega)
  have h3 := app_ok (acc := acc) m 2 88 (by omega) (by omega) (by omega)
  exact rd_of [(32, .b true), (38, .e [u8X q]), (41, .i (Int.ofNat x)), (47, .app), (34, .i (Int.ofNat (i + 1)))] (pf5 h1 he hq h3 h2) (by kernel_rfl)
end
/-- The numbers of the bodies. -/
def bdsOf (qs : List Int) : List Bd := qs.map fun q => (none, q.toNat % 4)
def u8C (qs : List Int) : List (List X) := qs.map fun q => [u8X q]
theorem u8C_len (qs : List Int) : (u8C qs).length = qs.length := by simp [u8C]
theorem bdsOf_len (qs : List Int) : (bdsOf qs).length = qs.length := by simp [bdsOf]
theorem bdsOf_tiny (qs : List Int) : Tiny (nsOf (bdsOf qs)) := by
  intro x hx
  simp only [nsOf, bdsOf, List.map_map, List.mem_map, Function.comp_apply] at hx
  obtain ⟨q, _, rfl⟩ := hx
  omega
theorem rem4 (q : Int) (h : 0 ≤ q ∧ q < 256) : IntKind.i64.wrap (q.tmod 4) = Int.ofNat (q.toNat % 4) := by
  obtain ⟨n, rfl⟩ := Int.eq_ofNat_of_zero_le h.1
  rw [Int.tmod_eq_emod_of_nonneg (Int.natCast_nonneg n), IntKind.wrap_i64]
  simp only [Int.ofNat_eq_natCast, Int.toNat_natCast]
  omega
section
variable (nu ti li k : Int) (ty ru : List (List X)) (cd : Nat) (qs : List Int) (hr : ∀ q ∈ qs, 0 ≤ q ∧ q < 256) (hl : qs.length ≤ 300)
include hr hl
theorem cs_loop (N : Nat) (hN : 1000 ≤ N) : run (callF tab ext N) 0 N (.loop (loopAt 5 0)) (csH (u8C qs) [] (nodX nu ti li (exN cd) ty ru) (kv k).cells 0 0) = some (.exit 0, csE (u8C qs) (bdG true (bdsOf qs)) (nodX nu ti li (exN cd) ty ru) (kv k).cells qs.length qs.length) := by
  obtain ⟨M, rfl⟩ : ∃ M, N = M + 300 := ⟨N - 300, by omega⟩
  have hn := u8C_len qs
  refine loop_for (σ := fun i => csH (u8C qs) (bdG true (bdsOf (qs.take i))) (nodX nu ti li (exN cd) ty ru) (kv k).cells i i) (k := qs.length) (cs_canon ..) (fun i hi => ?_) ?_ (by simp) (by omega)
  · have e : bdG true (bdsOf (qs.take (i + 1))) = bdG true (bdsOf (qs.take i)) ++ [bodyG true none (qs[i].toNat % 4)] := by
      unfold bdG bdsOf
      rw [List.take_succ_eq_append_getElem hi, List.map_append, List.map_append]
      rfl
    rw [e]
    exact cs_round nu ti li k ty ru (u8C qs) (bdG true (bdsOf (qs.take i))) cd i i M qs[i] _ (rem4 _ (hr _ (List.getElem_mem hi))) (by omega) (by omega) (by rw [bdG_len, bdsOf_len, List.length_take]; omega) (by omega) (by simp [u8C, hi])
  · rw [List.take_length]
    exact cs_end nu ti li k ty ru (u8C qs) (bdG true (bdsOf qs)) cd qs.length qs.length (M + 300) (by omega)
end
section
variable (a b c d e k : Int) (qs : List Int) (hr : ∀ q ∈ qs, 0 ≤ q ∧ q < 256) (N : Nat)
include hr
omit hr in
theorem law_big (hk : Gam.pureD (callF tab ext (N + 20000)) 11 [] = some (boolX true)) (hl : 300 < qs.length) :
    Gam.pureD (callF tab ext (N + 20001)) 5 [skX a b c d e, u8X k, .sl false 1 (u8C qs)] = some (boolX true) := by
  have h1 : decide (Int.ofNat (u8C qs).length > 300) = true := decide_eq_true (by rw [u8C_len]; simp only [Int.ofNat_eq_natCast]; omega)
  generalize u8C qs = es at *
  exact pure_of [(15, .p (boolX true)), (20, .b true), (22, .p (boolX true))] [] (pf3 hk h1 hk) (x := boolX true) (bx := []) (by kernel_rfl) rfl
end
theorem law_core (a b c d e k kk nu ti li most : Int) (cd : Nat) (es acc : List (List X)) (m : Nat) (x1 x2 : Bool) (e1 e2 : Int) (N : Nat)
    (hkk : IntKind.i64.wrap (k.tmod 10) = kk)
    (hk : Gam.pureD (callF tab ext (N + 20000)) 11 [] = some (boolX true)) (h0 : decide (Int.ofNat es.length > 300) = false)
    (h12 : Gam.pureD (callF tab ext (N + 20000)) 12 [skX a b c d e] = some (.agg (nodX nu ti li (exN cd) (tyX most) ruX)))
    (hlo : run (callF tab ext (N + 20000)) 0 (N + 20000) (.loop (loopAt 5 0)) (csH es [] (nodX nu ti li (exN cd) (tyX most) ruX) (kv kk).cells 0 0) = some (.exit 0, csE es acc (nodX nu ti li (exN cd) (tyX most) ruX) (kv kk).cells m m))
    (hm : m = acc.length)
    (h18 : Gam.pureD (callF tab ext (N + 20000)) 18 [.agg (nodX nu ti li (exN cd) (tyX most) ruX), .agg (kv kk).cells, .sl false 6 acc] = some (.tup [boolX x1, num e1]))
    (h19 : 0 < m → m ≤ 256 → Gam.pureD (callF tab ext (N + 20000)) 19 [.agg (nodX nu ti li (exN cd) (tyX most) ruX), .agg (kv kk).cells, .sl false 6 acc] = some (.tup [boolX x2, num e2]))
    (hA : m = 0 → x1 = false ∧ e1 = 4) (hB : 256 < m → x1 = false ∧ e1 = 9) (hC : 0 < m → m ≤ 256 → x1 = x2 ∧ e1 = e2) :
    Gam.pureD (callF tab ext (N + 20001)) 5 [skX a b c d e, u8X k, .sl false 1 es] = some (boolX true) := by
  have hd : dataL [.var (nodX nu ti li (exN cd) (tyX most) ruX), .var (kv kk).cells, .row 6 acc] false [.agg (nodX nu ti li (exN cd) (tyX most) ruX), .agg (kv kk).cells, .bs 2 0 m] = some [.agg (nodX nu ti li (exN cd) (tyX most) ruX), .agg (kv kk).cells, .sl false 6 acc] :=
    dataL_cons rfl (dataL_cons rfl (dataL_cons (data_bs rfl hm) rfl))
  have hlo' : run (callF tab ext (N + 20000)) 0 (N + 20000) (.loop (loopAt 5 0)) ⟨[(2, .sl false 1 es), (7, .ptr 1 0 0), (8, .ptr 2 0 0), (9, .bs 3 0 0), (10, num 0)], [.var [u8X a, u8X b, u8X c, u8X d, u8X e], .var (nodX nu ti li (exN cd) (tyX most) ruX), .var (kv (IntKind.i64.wrap (k.tmod 10))).cells, .row 6 []]⟩ = some (.exit 0, csE es acc (nodX nu ti li (exN cd) (tyX most) ruX) (kv kk).cells m m) := by
    rw [hkk, ← hlo]
    exact loop_canon (by kernel_rfl) (cs_canon ..)
  by_cases h1 : m = 0
  · obtain ⟨rfl, rfl⟩ := hA h1
    have g1 : (Int.ofNat m == 0) = true := by rw [h1]; rfl
    exact pure_of [(15, .p (boolX true)), (20, .b false), (24, .p (.agg (nodX nu ti li (exN cd) (tyX most) ruX))), (52, .d [.agg (nodX nu ti li (exN cd) (tyX most) ruX), .agg (kv kk).cells, .sl false 6 acc] (.tup [boolX false, num 4])), (57, .b true)] [(.exit 0, csE es acc (nodX nu ti li (exN cd) (tyX most) ruX) (kv kk).cells m m)]
      (pf6 hk h0 h12 hlo' (And.intro hd h18) g1) (x := boolX true) (bx := []) (by kernel_rfl) rfl
  · have g1 : (Int.ofNat m == 0) = false := by simp only [Int.ofNat_eq_natCast, beq_eq_false_iff_ne, ne_eq]; omega
    by_cases h2 : 256 < m
    · obtain ⟨rfl, rfl⟩ := hB h2
      have g2 : decide (Int.ofNat m > 256) = true := decide_eq_true (by simp only [Int.ofNat_eq_natCast]; omega)
      exact pure_of [(15, .p (boolX true)), (20, .b false), (24, .p (.agg (nodX nu ti li (exN cd) (tyX most) ruX))), (52, .d [.agg (nodX nu ti li (exN cd) (tyX most) ruX), .agg (kv kk).cells, .sl false 6 acc] (.tup [boolX false, num 9])), (57, .b false), (66, .b true)] [(.exit 0, csE es acc (nodX nu ti li (exN cd) (tyX most) ruX) (kv kk).cells m m)]
        (pfJ hk h0 h12 hlo' (And.intro hd h18) g1 g2 pf0) (x := boolX true) (bx := []) (by kernel_rfl) rfl
    · have g2 : decide (Int.ofNat m > 256) = false := decide_eq_false (by simp only [Int.ofNat_eq_natCast]; omega)
      obtain ⟨rfl, rfl⟩ := hC (by omega) (by omega)
      have h19 := h19 (by omega) (by omega)
      have g3 : (e1 == e1) = true := beq_self_eq_true e1
      cases x1 with
      | true =>
        exact pure_of [(15, .p (boolX true)), (20, .b false), (24, .p (.agg (nodX nu ti li (exN cd) (tyX most) ruX))), (52, .d [.agg (nodX nu ti li (exN cd) (tyX most) ruX), .agg (kv kk).cells, .sl false 6 acc] (.tup [boolX true, num e1])), (57, .b false), (66, .b false), (77, .d [.agg (nodX nu ti li (exN cd) (tyX most) ruX), .agg (kv kk).cells, .sl false 6 acc] (.tup [boolX true, num e1])), (86, .b true)] [(.exit 0, csE es acc (nodX nu ti li (exN cd) (tyX most) ruX) (kv kk).cells m m)]
          (pfJ hk h0 h12 hlo' (And.intro hd h18) g1 g2 (pf2 (And.intro hd h19) g3)) (x := boolX true) (bx := []) (by kernel_rfl) rfl
      | false =>
        exact pure_of [(15, .p (boolX true)), (20, .b false), (24, .p (.agg (nodX nu ti li (exN cd) (tyX most) ruX))), (52, .d [.agg (nodX nu ti li (exN cd) (tyX most) ruX), .agg (kv kk).cells, .sl false 6 acc] (.tup [boolX false, num e1])), (57, .b false), (66, .b false), (77, .d [.agg (nodX nu ti li (exN cd) (tyX most) ruX), .agg (kv kk).cells, .sl false 6 acc] (.tup [boolX false, num e1])), (86, .b true)] [(.exit 0, csE es acc (nodX nu ti li (exN cd) (tyX most) ruX) (kv kk).cells m m)]
          (pfJ hk h0 h12 hlo' (And.intro hd h18) g1 g2 (pf2 (And.intro hd h19) g3)) (x := boolX true) (bx := []) (by kernel_rfl) rfl
/-- AggregatorCompletes is true wherever the first example of the chapter is known. -/
theorem completes_at (a b c d e k : Int) (qs : List Int) (hr : ∀ q ∈ qs, 0 ≤ q ∧ q < 256) (N : Nat) (hk : Gam.pureD (callF tab ext (N + 20000)) 11 [] = some (boolX true)) :
    Gam.pureD (callF tab ext (N + 20001)) 5 [skX a b c d e, u8X k, .sl false 1 (u8C qs)] = some (boolX true) := by
  by_cases hl : 300 < qs.length
  · exact law_big a b c d e k qs N hk hl
  have h0 : decide (Int.ofNat (u8C qs).length > 300) = false := decide_eq_false (by rw [u8C_len]; simp only [Int.ofNat_eq_natCast]; omega)
  have h12 := node12 a b c d e (N + 19700)
  have hcd : cdOf d < 4 := by unfold cdOf; split <;> (try split) <;> omega
  have hlo := cs_loop (nuOf a) (tiOf b) (liOf c) (IntKind.i64.wrap (k.tmod 10)) (tyX (mostOf e)) ruX (cdOf d) qs hr (by omega) (N + 20000) (by omega)
  have hlen : (bdG true (bdsOf qs)).length = qs.length := by rw [bdG_len, bdsOf_len]
  by_cases hz : qs.length = 0
  · have h18 := complete18_0 (nuOf a) (tiOf b) (liOf c) (tyX (mostOf e)) ruX (IntKind.i64.wrap (k.tmod 10)) (cdOf d) (bdG true (bdsOf qs)) (by omega) (N + 19990)
    exact law_core a b c d e k _ _ _ _ _ _ _ _ qs.length false false 4 4 N rfl hk h0 h12 hlo hlen.symm h18 (fun h => by omega) (fun _ => ⟨rfl, rfl⟩) (fun h => by omega) (fun h => by omega)
  · by_cases hb : 256 < qs.length
    · have h18 := complete18_m (nuOf a) (tiOf b) (liOf c) (tyX (mostOf e)) ruX (IntKind.i64.wrap (k.tmod 10)) (cdOf d) (bdG true (bdsOf qs)) (by omega) (N + 19990)
      exact law_core a b c d e k _ _ _ _ _ _ _ _ qs.length false false 9 9 N rfl hk h0 h12 hlo hlen.symm h18 (fun _ h => by omega) (fun h => absurd h hz) (fun _ => ⟨rfl, rfl⟩) (fun _ h => by omega)
    · have hbl := bdsOf_len qs
      have hlast : (bdsOf qs)[(bdsOf qs).length - 1]? = some (bdsOf qs)[(bdsOf qs).length - 1] := List.getElem?_eq_getElem (by omega)
      have h18 := complete18 (nuOf a) (tiOf b) (liOf c) (tyX (mostOf e)) ruX (bdsOf qs) _ (IntKind.i64.wrap (k.tmod 10)) true (cdOf d) hcd (bdsOf_tiny qs) (by omega) (by omega) hlast (N + 20000) (by omega)
      have h19 := model19 (nuOf a) (tiOf b) (liOf c) (tyX (mostOf e)) ruX (bdsOf qs) _ (IntKind.i64.wrap (k.tmod 10)) true (cdOf d) hcd (bdsOf_tiny qs) (by omega) (by omega) hlast (N + 20000) (by omega)
      exact law_core a b c d e k _ _ _ _ _ _ _ _ qs.length _ _ _ _ N rfl hk h0 h12 hlo hlen.symm h18 (fun _ _ => h19) (fun h => absurd h hz) (fun h => absurd h hb) (fun _ _ => ⟨rfl, rfl⟩)
end Go.Proofs.YthphniobeigklaaGreatDoor.Ag

/- Arguments of the laws of layer 33, read as data. -/
namespace Go.Proofs.YthphniobeigklaaGreatDoor
open Go Go.Em Go.RowKit
theorem Tryz.own : ownKnob Tryz.prog.godebug = none := by kernel_rfl
theorem Tryz.laidOut : laidOutB Tryz.prog = true := by kernel_rfl
theorem Tryz.rowed : mapsRowed Tryz.prog = true := by kernel_rfl
def fieldsOf (P : Program) (t : TypeId) : Array Field := match P.underlying t with
  | some (.struct fs) => fs
  | _ => #[]
namespace Ag
open Go Go.Em Go.ChangeShapes Go.WideShapes Go.ChangeAt Go.RowKit Go.Proofs.YthphniobeigklaaGreatDoor
set_option maxRecDepth 100000

def tysA : List TypeId := [4, 5, 22, 38, 56, 74]
theorem tysA_ok : dataTys Tryz.prog tysA = true := by kernel_rfl
theorem tysA_size : tysA.all (fun t => decide (t < Tryz.prog.types.size)) = true := by kernel_rfl
theorem tysA_lt {t : TypeId} (h : t ∈ tysA) : t < Tryz.prog.types.size := of_decide_eq_true (List.all_eq_true.1 tysA_size t h)
theorem tysA_kids : Kids Tryz.prog (fun t => t ∈ tysA ∧ t < Tryz.prog.types.size) := kids_data (kids_rows Tryz.laidOut Tryz.rowed) tysA_ok
theorem underA4 : Tryz.prog.underlying 4 = some .bool := by kernel_rfl
theorem underA5 : Tryz.prog.underlying 5 = some (.int .u8) := by kernel_rfl
theorem underA22 : Tryz.prog.underlying 22 = some (.slice 56) := by kernel_rfl
theorem underA74 : Tryz.prog.underlying 74 = some (.slice 5) := by kernel_rfl
theorem underA38 : Tryz.prog.underlying 38 = some (.struct (fieldsOf Tryz.prog 38)) := by kernel_rfl
theorem underA56 : Tryz.prog.underlying 56 = some (.struct (fieldsOf Tryz.prog 56)) := by kernel_rfl
theorem fieldsA38 : (fieldsOf Tryz.prog 38).toList.map (·.type) = [5, 5, 5, 5, 5] := by kernel_rfl
theorem fieldsA56 : (fieldsOf Tryz.prog 56).toList.map (·.type) = [5, 5, 5, 5] := by kernel_rfl
theorem cellsA5 : Tryz.prog.cellsOf 5 = 1 := by kernel_rfl
theorem cellsA56 : Tryz.prog.cellsOf 56 = 4 := by kernel_rfl
theorem shape_u8 {n : Nat} {xs : List X} (h : Shape Tryz.prog n 5 xs) : ∃ z : Int, (0 ≤ z ∧ z < 256) ∧ xs = [u8X z] := by
  obtain ⟨z, rfl, hz⟩ := shape_int underA5 h
  have h2 : IntKind.u8.min ≤ z ∧ z ≤ IntKind.u8.max := by simpa [Lit.wf] using hz
  have e1 : IntKind.u8.min = 0 := by decide
  have e2 : IntKind.u8.max = 255 := by decide
  exact ⟨z, by omega, rfl⟩
theorem shape_sk {n : Nat} {xs : List X} (h : Shape Tryz.prog n 38 xs) : ∃ a b c d e : Int, (0 ≤ a ∧ a < 256) ∧ (0 ≤ b ∧ b < 256) ∧ (0 ≤ c ∧ c < 256) ∧ (0 ≤ d ∧ d < 256) ∧ (0 ≤ e ∧ e < 256) ∧ xs = [u8X a, u8X b, u8X c, u8X d, u8X e] := by
  obtain ⟨m, hm, hk⟩ := shape_struct underA38 h
  rw [fieldsA38] at hk
  obtain ⟨x0, r0, rfl, h0, hk⟩ := hk
  obtain ⟨x1, r1, rfl, h1, hk⟩ := hk
  obtain ⟨x2, r2, rfl, h2, hk⟩ := hk
  obtain ⟨x3, r3, rfl, h3, hk⟩ := hk
  obtain ⟨x4, r4, rfl, h4, hk⟩ := hk
  have hk : r4 = [] := hk
  subst hk
  obtain ⟨a, ha, rfl⟩ := shape_u8 h0
  obtain ⟨b, hb, rfl⟩ := shape_u8 h1
  obtain ⟨c, hc, rfl⟩ := shape_u8 h2
  obtain ⟨d, hd, rfl⟩ := shape_u8 h3
  obtain ⟨e, he, rfl⟩ := shape_u8 h4
  exact ⟨a, b, c, d, e, ha, hb, hc, hd, he, rfl⟩
theorem shape_ev {n : Nat} {xs : List X} (h : Shape Tryz.prog n 56 xs) : ∃ e : Ev, e.ok ∧ xs = [u8X e.a, u8X e.k, u8X e.n, u8X e.d] := by
  obtain ⟨m, hm, hk⟩ := shape_struct underA56 h
  rw [fieldsA56] at hk
  obtain ⟨x0, r0, rfl, h0, hk⟩ := hk
  obtain ⟨x1, r1, rfl, h1, hk⟩ := hk
  obtain ⟨x2, r2, rfl, h2, hk⟩ := hk
  obtain ⟨x3, r3, rfl, h3, hk⟩ := hk
  have hk : r3 = [] := hk
  subst hk
  obtain ⟨a, ha, rfl⟩ := shape_u8 h0
  obtain ⟨b, hb, rfl⟩ := shape_u8 h1
  obtain ⟨c, hc, rfl⟩ := shape_u8 h2
  obtain ⟨d, hd, rfl⟩ := shape_u8 h3
  refine ⟨⟨a.toNat, b.toNat, c.toNat, d.toNat⟩, ⟨by dsimp only; omega, by dsimp only; omega, by dsimp only; omega, by dsimp only; omega⟩, ?_⟩
  dsimp only
  rw [Int.toNat_of_nonneg ha.1, Int.toNat_of_nonneg hb.1, Int.toNat_of_nonneg hc.1, Int.toNat_of_nonneg hd.1]
  rfl
theorem shape_evs {n : Nat} {xs : List X} (h : Shape Tryz.prog n 22 xs) : ∃ l : List Ev, (∀ e, e ∈ l → e.ok) ∧ xs = [.sl false 4 (evC l)] := by
  obtain ⟨es, rfl, _, m, _, hes⟩ := shape_slice underA22 h
  rw [cellsA56]
  have : ∀ es : List (List X), (∀ c, c ∈ es → Shape Tryz.prog m 56 c) → ∃ l : List Ev, (∀ e, e ∈ l → e.ok) ∧ es = evC l := by
    intro es
    induction es with
    | nil => intro _; exact ⟨[], (fun k h => by cases h), rfl⟩
    | cons c r ih =>
      intro h
      obtain ⟨k, hk, rfl⟩ := shape_ev (h c (List.mem_cons_self ..))
      obtain ⟨l, hl, rfl⟩ := ih (fun c hc => h c (List.mem_cons_of_mem _ hc))
      refine ⟨k :: l, fun j hj => ?_, rfl⟩
      rcases List.mem_cons.1 hj with rfl | hj
      · exact hk
      · exact hl j hj
  obtain ⟨l, hl, rfl⟩ := this es hes
  exact ⟨l, hl, rfl⟩
theorem shape_u8s {n : Nat} {xs : List X} (h : Shape Tryz.prog n 74 xs) : ∃ l : List Int, (∀ q, q ∈ l → 0 ≤ q ∧ q < 256) ∧ xs = [.sl false 1 (u8C l)] := by
  obtain ⟨es, rfl, _, m, _, hes⟩ := shape_slice underA74 h
  rw [cellsA5]
  have : ∀ es : List (List X), (∀ c, c ∈ es → Shape Tryz.prog m 5 c) → ∃ l : List Int, (∀ q, q ∈ l → 0 ≤ q ∧ q < 256) ∧ es = u8C l := by
    intro es
    induction es with
    | nil => intro _; exact ⟨[], (fun k h => by cases h), rfl⟩
    | cons c r ih =>
      intro h
      obtain ⟨k, hk, rfl⟩ := shape_u8 (h c (List.mem_cons_self ..))
      obtain ⟨l, hl, rfl⟩ := ih (fun c hc => h c (List.mem_cons_of_mem _ hc))
      refine ⟨k :: l, fun j hj => ?_, rfl⟩
      rcases List.mem_cons.1 hj with rfl | hj
      · exact hk
      · exact hl j hj
  obtain ⟨l, hl, rfl⟩ := this es hes
  exact ⟨l, hl, rfl⟩
/-- AggregatorCompletes, for all its arguments. -/
theorem completes_all (a b c d e k : Int) (qs : List Int) (hr : ∀ q ∈ qs, 0 ≤ q ∧ q < 256) : Gam.pureD (callF tab ext 200001) 5 [skX a b c d e, u8X k, .sl false 1 (u8C qs)] = some (boolX true) :=
  completes_at a b c d e k qs hr 180000 (known11 200000 (by omega))
end Ag
end Go.Proofs.YthphniobeigklaaGreatDoor

namespace Go.Proofs
open Go.Shelf
def Tryz.laysItoa_ren : Go.Shelf.Ren := ⟨fun | 171 => 99 | 243 => 145 | 246 => 207 | 283 => 283 | 284 => 284 | 285 => 285 | 286 => 286 | 129 => 282 | 317 => 335 | 318 => 336 | 319 => 337 | 320 => 338 | 337 => 371 | 338 => 372 | n => n, fun | 3 => 3 | 9 => 9 | 2 => 2 | 4 => 4 | 171 => 348 | 0 => 0 | 53 => 347 | 37 => 74 | 5 => 5 | 173 => 350 | 212 => 397 | 51 => 345 | 20 => 20 | 213 => 398 | 46 => 238 | 232 => 438 | 233 => 439 | n => n, fun | 17 => 3 | 18 => 6 | 19 => 7 | n => n⟩
theorem Tryz.laysItoa : Go.Proofs.LaysM.n171 Tryz.prog Tryz.laysItoa_ren := {
  mixed := by kernel_rfl
  f129 := Tryz.func282.trans (congrArg some (by kernel_rfl))
  f171 := Tryz.func99.trans (congrArg some (by kernel_rfl))
  f243 := Tryz.func145.trans (congrArg some (by kernel_rfl))
  f246 := Tryz.func207.trans (congrArg some (by kernel_rfl))
  f283 := Tryz.func283.trans (congrArg some (by kernel_rfl))
  f284 := Tryz.func284.trans (congrArg some (by kernel_rfl))
  f285 := Tryz.func285.trans (congrArg some (by kernel_rfl))
  f286 := Tryz.func286.trans (congrArg some (by kernel_rfl))
  f317 := Tryz.func335.trans (congrArg some (by kernel_rfl))
  f318 := Tryz.func336.trans (congrArg some (by kernel_rfl))
  f319 := Tryz.func337.trans (congrArg some (by kernel_rfl))
  f320 := Tryz.func338.trans (congrArg some (by kernel_rfl))
  f337 := Tryz.func371.trans (congrArg some (by kernel_rfl))
  f338 := Tryz.func372.trans (congrArg some (by kernel_rfl))
  t0 := Tryz.underlying0
  a0 := Tryz.isAgg0
  z0 := Tryz.sizeOf0
  v0 := Tryz.zeroValue0
  t2 := Tryz.underlying2
  a2 := Tryz.isAgg2
  z2 := Tryz.sizeOf2
  v2 := Tryz.zeroValue2
  t3 := Tryz.underlying3
  a3 := Tryz.isAgg3
  z3 := Tryz.sizeOf3
  v3 := Tryz.zeroValue3
  t4 := Tryz.underlying4
  a4 := Tryz.isAgg4
  z4 := Tryz.sizeOf4
  v4 := Tryz.zeroValue4
  t5 := Tryz.underlying5
  a5 := Tryz.isAgg5
  z5 := Tryz.sizeOf5
  v5 := Tryz.zeroValue5
  t9 := Tryz.underlying9
  a9 := Tryz.isAgg9
  z9 := Tryz.sizeOf9
  v9 := Tryz.zeroValue9
  t20 := Tryz.underlying20
  a20 := Tryz.isAgg20
  z20 := Tryz.sizeOf20
  v20 := Tryz.zeroValue20
  t37 := Tryz.underlying74
  a37 := Tryz.isAgg74
  z37 := Tryz.sizeOf74
  v37 := Tryz.zeroValue74
  t46 := Tryz.underlying238
  a46 := Tryz.isAgg238
  z46 := Tryz.sizeOf238
  v46 := Tryz.zeroValue238
  t51 := Tryz.underlying345
  a51 := Tryz.isAgg345
  z51 := Tryz.sizeOf345
  v51 := Tryz.zeroValue345
  t53 := Tryz.underlying347
  a53 := Tryz.isAgg347
  z53 := Tryz.sizeOf347
  v53 := Tryz.zeroValue347
  t171 := Tryz.underlying348
  a171 := Tryz.isAgg348
  z171 := Tryz.sizeOf348
  v171 := Tryz.zeroValue348
  t173 := Tryz.underlying350
  a173 := Tryz.isAgg350
  z173 := Tryz.sizeOf350
  v173 := Tryz.zeroValue350
  t212 := Tryz.underlying397
  a212 := Tryz.isAgg397
  z212 := Tryz.sizeOf397
  v212 := Tryz.zeroValue397
  t213 := Tryz.underlying398
  a213 := Tryz.isAgg398
  z213 := Tryz.sizeOf398
  t232 := Tryz.underlying438
  a232 := Tryz.isAgg438
  z232 := Tryz.sizeOf438
  v232 := Tryz.zeroValue438
  t233 := Tryz.underlying439
  a233 := Tryz.isAgg439
  z233 := Tryz.sizeOf439
  v233 := Tryz.zeroValue439
  g17 := by kernel_rfl
  g18 := by kernel_rfl
  g19 := by kernel_rfl
  i0 := by kernel_rfl
  i2 := by kernel_rfl
  i3 := by kernel_rfl
  i4 := by kernel_rfl
  i5 := by kernel_rfl
  i9 := by kernel_rfl
  i20 := by kernel_rfl
  i37 := by kernel_rfl
  i46 := by kernel_rfl
  i51 := by kernel_rfl
  i53 := by kernel_rfl
  i171 := by kernel_rfl
  i173 := by kernel_rfl
  i212 := by kernel_rfl
  i232 := by kernel_rfl
  i233 := by kernel_rfl
  m17 := by kernel_rfl
  m18 := by kernel_rfl
  m19 := by kernel_rfl }
def Tryz.laysDec_ren : Go.Shelf.Ren := ⟨fun | 197 => 322 | 260 => 360 | n => n, fun | 9 => 9 | 21 => 21 | 3 => 3 | 4 => 4 | 5 => 5 | 105 => 380 | 119 => 355 | 0 => 0 | 46 => 238 | 139 => 358 | 138 => 357 | n => n, fun | 3 => 1 | 4 => 2 | n => n⟩
theorem Tryz.laysDec : Go.Proofs.Lays.n197 Tryz.prog Tryz.laysDec_ren := {
  mixed := by kernel_rfl
  f197 := Tryz.func322.trans (congrArg some (by kernel_rfl))
  f260 := Tryz.func360.trans (congrArg some (by kernel_rfl))
  t0 := Tryz.underlying0
  a0 := Tryz.isAgg0
  z0 := Tryz.sizeOf0
  v0 := Tryz.zeroValue0
  t3 := Tryz.underlying3
  a3 := Tryz.isAgg3
  z3 := Tryz.sizeOf3
  v3 := Tryz.zeroValue3
  t4 := Tryz.underlying4
  a4 := Tryz.isAgg4
  z4 := Tryz.sizeOf4
  v4 := Tryz.zeroValue4
  t5 := Tryz.underlying5
  a5 := Tryz.isAgg5
  z5 := Tryz.sizeOf5
  v5 := Tryz.zeroValue5
  t9 := Tryz.underlying9
  a9 := Tryz.isAgg9
  z9 := Tryz.sizeOf9
  v9 := Tryz.zeroValue9
  t21 := Tryz.underlying21
  a21 := Tryz.isAgg21
  z21 := Tryz.sizeOf21
  v21 := Tryz.zeroValue21
  t46 := Tryz.underlying238
  a46 := Tryz.isAgg238
  z46 := Tryz.sizeOf238
  v46 := Tryz.zeroValue238
  t105 := Tryz.underlying380
  a105 := Tryz.isAgg380
  z105 := Tryz.sizeOf380
  v105 := Tryz.zeroValue380
  t119 := Tryz.underlying355
  a119 := Tryz.isAgg355
  z119 := Tryz.sizeOf355
  t138 := Tryz.underlying357
  a138 := Tryz.isAgg357
  z138 := Tryz.sizeOf357
  v138 := Tryz.zeroValue357
  t139 := Tryz.underlying358
  a139 := Tryz.isAgg358
  z139 := Tryz.sizeOf358
  v139 := Tryz.zeroValue358
  g3 := by kernel_rfl
  g4 := by kernel_rfl }
def Tryz.laysRep_ren : Go.Shelf.Ren := ⟨fun | 105 => 326 | 212 => 363 | 99 => 249 | 165 => 364 | 166 => 365 | 170 => 366 | 169 => 265 | 263 => 380 | 264 => 381 | 206 => 315 | 240 => 323 | 241 => 382 | 276 => 361 | 277 => 388 | n => n, fun | 9 => 9 | 3 => 3 | 4 => 4 | 20 => 20 | 0 => 0 | 46 => 238 | 109 => 419 | 5 => 5 | 72 => 328 | 76 => 315 | 51 => 345 | 146 => 433 | 53 => 347 | 148 => 435 | 70 => 326 | 37 => 74 | 75 => 314 | 127 => 383 | 164 => 417 | 80 => 330 | n => n, fun | n => n⟩
theorem Tryz.laysRep : Go.Proofs.Lays.n105 Tryz.prog Tryz.laysRep_ren := {
  mixed := by kernel_rfl
  f99 := Tryz.func249.trans (congrArg some (by kernel_rfl))
  f105 := Tryz.func326.trans (congrArg some (by kernel_rfl))
  f165 := Tryz.func364.trans (congrArg some (by kernel_rfl))
  f166 := Tryz.func365.trans (congrArg some (by kernel_rfl))
  f169 := Tryz.func265.trans (congrArg some (by kernel_rfl))
  f170 := Tryz.func366.trans (congrArg some (by kernel_rfl))
  f206 := Tryz.func315.trans (congrArg some (by kernel_rfl))
  f212 := Tryz.func363.trans (congrArg some (by kernel_rfl))
  f240 := Tryz.func323.trans (congrArg some (by kernel_rfl))
  f241 := Tryz.func382.trans (congrArg some (by kernel_rfl))
  f263 := Tryz.func380.trans (congrArg some (by kernel_rfl))
  f264 := Tryz.func381.trans (congrArg some (by kernel_rfl))
  f276 := Tryz.func361.trans (congrArg some (by kernel_rfl))
  f277 := Tryz.func388.trans (congrArg some (by kernel_rfl))
  t0 := Tryz.underlying0
  a0 := Tryz.isAgg0
  z0 := Tryz.sizeOf0
  v0 := Tryz.zeroValue0
  t3 := Tryz.underlying3
  a3 := Tryz.isAgg3
  z3 := Tryz.sizeOf3
  v3 := Tryz.zeroValue3
  t4 := Tryz.underlying4
  a4 := Tryz.isAgg4
  z4 := Tryz.sizeOf4
  v4 := Tryz.zeroValue4
  t5 := Tryz.underlying5
  a5 := Tryz.isAgg5
  z5 := Tryz.sizeOf5
  v5 := Tryz.zeroValue5
  t9 := Tryz.underlying9
  a9 := Tryz.isAgg9
  z9 := Tryz.sizeOf9
  v9 := Tryz.zeroValue9
  t20 := Tryz.underlying20
  a20 := Tryz.isAgg20
  z20 := Tryz.sizeOf20
  v20 := Tryz.zeroValue20
  t37 := Tryz.underlying74
  a37 := Tryz.isAgg74
  z37 := Tryz.sizeOf74
  v37 := Tryz.zeroValue74
  t46 := Tryz.underlying238
  a46 := Tryz.isAgg238
  z46 := Tryz.sizeOf238
  v46 := Tryz.zeroValue238
  t51 := Tryz.underlying345
  a51 := Tryz.isAgg345
  z51 := Tryz.sizeOf345
  v51 := Tryz.zeroValue345
  t53 := Tryz.underlying347
  a53 := Tryz.isAgg347
  z53 := Tryz.sizeOf347
  v53 := Tryz.zeroValue347
  t70 := Tryz.underlying326
  a70 := Tryz.isAgg326
  z70 := Tryz.sizeOf326
  v70 := Tryz.zeroValue326
  t72 := Tryz.underlying328
  a72 := Tryz.isAgg328
  z72 := Tryz.sizeOf328
  v72 := Tryz.zeroValue328
  t75 := Tryz.underlying314
  a75 := Tryz.isAgg314
  z75 := Tryz.sizeOf314
  v75 := Tryz.zeroValue314
  t76 := Tryz.underlying315
  a76 := Tryz.isAgg315
  z76 := Tryz.sizeOf315
  v76 := Tryz.zeroValue315
  t109 := Tryz.underlying419
  a109 := Tryz.isAgg419
  z109 := Tryz.sizeOf419
  v109 := Tryz.zeroValue419
  t127 := Tryz.underlying383
  a127 := Tryz.isAgg383
  z127 := Tryz.sizeOf383
  v127 := Tryz.zeroValue383
  t146 := Tryz.underlying433
  a146 := Tryz.isAgg433
  z146 := Tryz.sizeOf433
  v146 := Tryz.zeroValue433
  t148 := Tryz.underlying435
  a148 := Tryz.isAgg435
  z148 := Tryz.sizeOf435
  v148 := Tryz.zeroValue435
  t164 := Tryz.underlying417
  a164 := Tryz.isAgg417
  z164 := Tryz.sizeOf417
  v164 := Tryz.zeroValue417 }
def Tryz.laysBS_ren : Go.Shelf.Ren := ⟨fun | 169 => 265 | n => n, fun | 70 => 326 | 9 => 9 | 0 => 0 | 72 => 328 | 37 => 74 | 127 => 383 | 3 => 3 | 5 => 5 | n => n, fun | n => n⟩
theorem Tryz.laysBS : Go.Proofs.Lays.n169 Tryz.prog Tryz.laysBS_ren := {
  mixed := by kernel_rfl
  f169 := Tryz.func265.trans (congrArg some (by kernel_rfl))
  t0 := Tryz.underlying0
  a0 := Tryz.isAgg0
  z0 := Tryz.sizeOf0
  v0 := Tryz.zeroValue0
  t3 := Tryz.underlying3
  a3 := Tryz.isAgg3
  z3 := Tryz.sizeOf3
  v3 := Tryz.zeroValue3
  t9 := Tryz.underlying9
  a9 := Tryz.isAgg9
  z9 := Tryz.sizeOf9
  v9 := Tryz.zeroValue9
  t37 := Tryz.underlying74
  a37 := Tryz.isAgg74
  z37 := Tryz.sizeOf74
  v37 := Tryz.zeroValue74
  t70 := Tryz.underlying326
  a70 := Tryz.isAgg326
  z70 := Tryz.sizeOf326
  v70 := Tryz.zeroValue326
  t72 := Tryz.underlying328
  a72 := Tryz.isAgg328
  z72 := Tryz.sizeOf328
  v72 := Tryz.zeroValue328
  t127 := Tryz.underlying383
  a127 := Tryz.isAgg383
  z127 := Tryz.sizeOf383
  v127 := Tryz.zeroValue383 }
def Tryz.laysAtoi_ren : Go.Shelf.Ren := ⟨fun | 172 => 251 | 244 => 317 | 245 => 318 | 247 => 354 | 279 => 355 | 280 => 356 | 281 => 357 | 282 => 358 | 287 => 377 | 316 => 378 | 171 => 99 | 205 => 379 | 321 => 386 | 322 => 387 | 243 => 145 | 246 => 207 | 283 => 283 | 284 => 284 | 285 => 285 | 286 => 286 | 129 => 282 | 317 => 335 | 318 => 336 | 319 => 337 | 320 => 338 | 337 => 371 | 338 => 372 | n => n, fun | 9 => 9 | 3 => 3 | 75 => 314 | 76 => 315 | 4 => 4 | 5 => 5 | 167 => 411 | 37 => 74 | 0 => 0 | 85 => 412 | 2 => 2 | 168 => 414 | 53 => 347 | 175 => 428 | 46 => 238 | 210 => 431 | 127 => 383 | 145 => 444 | 143 => 442 | 21 => 21 | 171 => 348 | 173 => 350 | 212 => 397 | 51 => 345 | 20 => 20 | 213 => 398 | 232 => 438 | 233 => 439 | 80 => 330 | n => n, fun | 15 => 4 | 16 => 5 | 17 => 3 | 18 => 6 | 19 => 7 | n => n⟩
theorem Tryz.laysAtoi : Go.Proofs.LaysC.n172 Tryz.prog Tryz.laysAtoi_ren := {
  mixed := by kernel_rfl
  f129 := Tryz.func282.trans (congrArg some (by kernel_rfl))
  f171 := Tryz.func99.trans (congrArg some (by kernel_rfl))
  f172 := Tryz.func251.trans (congrArg some (by kernel_rfl))
  f205 := Tryz.func379.trans (congrArg some (by kernel_rfl))
  f243 := Tryz.func145.trans (congrArg some (by kernel_rfl))
  f244 := Tryz.func317.trans (congrArg some (by kernel_rfl))
  f245 := Tryz.func318.trans (congrArg some (by kernel_rfl))
  f246 := Tryz.func207.trans (congrArg some (by kernel_rfl))
  f247 := Tryz.func354.trans (congrArg some (by kernel_rfl))
  f279 := Tryz.func355.trans (congrArg some (by kernel_rfl))
  f280 := Tryz.func356.trans (congrArg some (by kernel_rfl))
  f281 := Tryz.func357.trans (congrArg some (by kernel_rfl))
  f282 := Tryz.func358.trans (congrArg some (by kernel_rfl))
  f283 := Tryz.func283.trans (congrArg some (by kernel_rfl))
  f284 := Tryz.func284.trans (congrArg some (by kernel_rfl))
  f285 := Tryz.func285.trans (congrArg some (by kernel_rfl))
  f286 := Tryz.func286.trans (congrArg some (by kernel_rfl))
  f287 := Tryz.func377.trans (congrArg some (by kernel_rfl))
  f316 := Tryz.func378.trans (congrArg some (by kernel_rfl))
  f317 := Tryz.func335.trans (congrArg some (by kernel_rfl))
  f318 := Tryz.func336.trans (congrArg some (by kernel_rfl))
  f319 := Tryz.func337.trans (congrArg some (by kernel_rfl))
  f320 := Tryz.func338.trans (congrArg some (by kernel_rfl))
  f321 := Tryz.func386.trans (congrArg some (by kernel_rfl))
  f322 := Tryz.func387.trans (congrArg some (by kernel_rfl))
  f337 := Tryz.func371.trans (congrArg some (by kernel_rfl))
  f338 := Tryz.func372.trans (congrArg some (by kernel_rfl))
  t0 := Tryz.underlying0
  a0 := Tryz.isAgg0
  z0 := Tryz.sizeOf0
  v0 := Tryz.zeroValue0
  t2 := Tryz.underlying2
  a2 := Tryz.isAgg2
  z2 := Tryz.sizeOf2
  v2 := Tryz.zeroValue2
  t3 := Tryz.underlying3
  a3 := Tryz.isAgg3
  z3 := Tryz.sizeOf3
  v3 := Tryz.zeroValue3
  t4 := Tryz.underlying4
  a4 := Tryz.isAgg4
  z4 := Tryz.sizeOf4
  v4 := Tryz.zeroValue4
  t5 := Tryz.underlying5
  a5 := Tryz.isAgg5
  z5 := Tryz.sizeOf5
  v5 := Tryz.zeroValue5
  t9 := Tryz.underlying9
  a9 := Tryz.isAgg9
  z9 := Tryz.sizeOf9
  v9 := Tryz.zeroValue9
  t20 := Tryz.underlying20
  a20 := Tryz.isAgg20
  z20 := Tryz.sizeOf20
  v20 := Tryz.zeroValue20
  t21 := Tryz.underlying21
  a21 := Tryz.isAgg21
  z21 := Tryz.sizeOf21
  v21 := Tryz.zeroValue21
  t37 := Tryz.underlying74
  a37 := Tryz.isAgg74
  z37 := Tryz.sizeOf74
  v37 := Tryz.zeroValue74
  t46 := Tryz.underlying238
  a46 := Tryz.isAgg238
  z46 := Tryz.sizeOf238
  v46 := Tryz.zeroValue238
  t51 := Tryz.underlying345
  a51 := Tryz.isAgg345
  z51 := Tryz.sizeOf345
  v51 := Tryz.zeroValue345
  t53 := Tryz.underlying347
  a53 := Tryz.isAgg347
  z53 := Tryz.sizeOf347
  v53 := Tryz.zeroValue347
  t75 := Tryz.underlying314
  a75 := Tryz.isAgg314
  z75 := Tryz.sizeOf314
  v75 := Tryz.zeroValue314
  t76 := Tryz.underlying315
  a76 := Tryz.isAgg315
  z76 := Tryz.sizeOf315
  v76 := Tryz.zeroValue315
  t85 := Tryz.underlying412
  a85 := Tryz.isAgg412
  z85 := Tryz.sizeOf412
  v85 := Tryz.zeroValue412
  t127 := Tryz.underlying383
  a127 := Tryz.isAgg383
  z127 := Tryz.sizeOf383
  v127 := Tryz.zeroValue383
  t143 := Tryz.underlying442
  a143 := Tryz.isAgg442
  z143 := Tryz.sizeOf442
  v143 := Tryz.zeroValue442
  t145 := Tryz.underlying444
  a145 := Tryz.isAgg444
  z145 := Tryz.sizeOf444
  v145 := Tryz.zeroValue444
  t167 := Tryz.underlying411
  a167 := Tryz.isAgg411
  z167 := Tryz.sizeOf411
  v167 := Tryz.zeroValue411
  t168 := Tryz.underlying414
  a168 := Tryz.isAgg414
  z168 := Tryz.sizeOf414
  v168 := Tryz.zeroValue414
  t171 := Tryz.underlying348
  a171 := Tryz.isAgg348
  z171 := Tryz.sizeOf348
  v171 := Tryz.zeroValue348
  t173 := Tryz.underlying350
  a173 := Tryz.isAgg350
  z173 := Tryz.sizeOf350
  v173 := Tryz.zeroValue350
  t175 := Tryz.underlying428
  a175 := Tryz.isAgg428
  z175 := Tryz.sizeOf428
  v175 := Tryz.zeroValue428
  t210 := Tryz.underlying431
  a210 := Tryz.isAgg431
  z210 := Tryz.sizeOf431
  v210 := Tryz.zeroValue431
  t212 := Tryz.underlying397
  a212 := Tryz.isAgg397
  z212 := Tryz.sizeOf397
  v212 := Tryz.zeroValue397
  t213 := Tryz.underlying398
  a213 := Tryz.isAgg398
  z213 := Tryz.sizeOf398
  t232 := Tryz.underlying438
  a232 := Tryz.isAgg438
  z232 := Tryz.sizeOf438
  v232 := Tryz.zeroValue438
  t233 := Tryz.underlying439
  a233 := Tryz.isAgg439
  z233 := Tryz.sizeOf439
  v233 := Tryz.zeroValue439
  g15 := by kernel_rfl
  g16 := by kernel_rfl
  g17 := by kernel_rfl
  g18 := by kernel_rfl
  g19 := by kernel_rfl
  t80 := Tryz.underlying330
  a80 := Tryz.isAgg330
  z80 := Tryz.sizeOf330
  v80 := Tryz.zeroValue330
  i0 := by kernel_rfl
  i2 := by kernel_rfl
  i3 := by kernel_rfl
  i4 := by kernel_rfl
  i5 := by kernel_rfl
  i9 := by kernel_rfl
  i20 := by kernel_rfl
  i21 := by kernel_rfl
  i37 := by kernel_rfl
  i46 := by kernel_rfl
  i51 := by kernel_rfl
  i53 := by kernel_rfl
  i75 := by kernel_rfl
  i76 := by kernel_rfl
  i80 := by kernel_rfl
  i85 := by kernel_rfl
  i127 := by kernel_rfl
  i143 := by kernel_rfl
  i145 := by kernel_rfl
  i167 := by kernel_rfl
  i168 := by kernel_rfl
  i171 := by kernel_rfl
  i173 := by kernel_rfl
  i175 := by kernel_rfl
  i210 := by kernel_rfl
  i212 := by kernel_rfl
  i232 := by kernel_rfl
  i233 := by kernel_rfl
  m15 := by kernel_rfl
  m16 := by kernel_rfl
  m17 := by kernel_rfl
  m18 := by kernel_rfl
  m19 := by kernel_rfl
  c0 := by kernel_rfl
  c2 := by kernel_rfl
  c3 := by kernel_rfl
  c4 := by kernel_rfl
  c5 := by kernel_rfl
  c9 := by kernel_rfl
  c20 := by kernel_rfl
  c21 := by kernel_rfl
  c37 := by kernel_rfl
  c46 := by kernel_rfl
  c51 := by kernel_rfl
  c53 := by kernel_rfl
  c75 := by kernel_rfl
  c76 := by kernel_rfl
  c80 := by kernel_rfl
  c85 := by kernel_rfl
  c127 := by kernel_rfl
  c143 := by kernel_rfl
  c145 := by kernel_rfl
  c167 := by kernel_rfl
  c168 := by kernel_rfl
  c171 := by kernel_rfl
  c173 := by kernel_rfl
  c175 := by kernel_rfl
  c210 := by kernel_rfl
  c212 := by kernel_rfl
  c213 := by kernel_rfl
  c232 := by kernel_rfl
  c233 := by kernel_rfl }
def Tryz.laysWR_ren : Go.Shelf.Ren := ⟨fun | 168 => 264 | 240 => 323 | 242 => 324 | 276 => 361 | 278 => 362 | n => n, fun | 70 => 326 | 21 => 21 | 3 => 3 | 75 => 314 | 0 => 0 | 72 => 328 | 37 => 74 | 4 => 4 | 164 => 417 | 51 => 345 | 5 => 5 | 46 => 238 | 80 => 330 | 9 => 9 | n => n, fun | n => n⟩
theorem Tryz.laysWR : Go.Proofs.Lays.n168 Tryz.prog Tryz.laysWR_ren := {
  mixed := by kernel_rfl
  f168 := Tryz.func264.trans (congrArg some (by kernel_rfl))
  f240 := Tryz.func323.trans (congrArg some (by kernel_rfl))
  f242 := Tryz.func324.trans (congrArg some (by kernel_rfl))
  f276 := Tryz.func361.trans (congrArg some (by kernel_rfl))
  f278 := Tryz.func362.trans (congrArg some (by kernel_rfl))
  t0 := Tryz.underlying0
  a0 := Tryz.isAgg0
  z0 := Tryz.sizeOf0
  v0 := Tryz.zeroValue0
  t3 := Tryz.underlying3
  a3 := Tryz.isAgg3
  z3 := Tryz.sizeOf3
  v3 := Tryz.zeroValue3
  t4 := Tryz.underlying4
  a4 := Tryz.isAgg4
  z4 := Tryz.sizeOf4
  v4 := Tryz.zeroValue4
  t5 := Tryz.underlying5
  a5 := Tryz.isAgg5
  z5 := Tryz.sizeOf5
  v5 := Tryz.zeroValue5
  t9 := Tryz.underlying9
  a9 := Tryz.isAgg9
  z9 := Tryz.sizeOf9
  v9 := Tryz.zeroValue9
  t20 := Tryz.underlying20
  a20 := Tryz.isAgg20
  z20 := Tryz.sizeOf20
  v20 := Tryz.zeroValue20
  t21 := Tryz.underlying21
  a21 := Tryz.isAgg21
  z21 := Tryz.sizeOf21
  v21 := Tryz.zeroValue21
  t37 := Tryz.underlying74
  a37 := Tryz.isAgg74
  z37 := Tryz.sizeOf74
  v37 := Tryz.zeroValue74
  t46 := Tryz.underlying238
  a46 := Tryz.isAgg238
  z46 := Tryz.sizeOf238
  v46 := Tryz.zeroValue238
  t51 := Tryz.underlying345
  a51 := Tryz.isAgg345
  z51 := Tryz.sizeOf345
  v51 := Tryz.zeroValue345
  t70 := Tryz.underlying326
  a70 := Tryz.isAgg326
  z70 := Tryz.sizeOf326
  v70 := Tryz.zeroValue326
  t72 := Tryz.underlying328
  a72 := Tryz.isAgg328
  z72 := Tryz.sizeOf328
  v72 := Tryz.zeroValue328
  t75 := Tryz.underlying314
  a75 := Tryz.isAgg314
  z75 := Tryz.sizeOf314
  v75 := Tryz.zeroValue314
  t164 := Tryz.underlying417
  a164 := Tryz.isAgg417
  z164 := Tryz.sizeOf417
  v164 := Tryz.zeroValue417 }
def Tryz.laysIdx_ren : Go.Shelf.Ren := ⟨fun | 219 => 353 | 217 => 375 | 225 => 352 | 224 => 351 | 267 => 376 | 266 => 384 | 314 => 385 | n => n, fun | 9 => 9 | 3 => 3 | 4 => 4 | 5 => 5 | 46 => 238 | 146 => 433 | 51 => 345 | n => n, fun | 1 => 0 | n => n⟩
theorem Tryz.laysIdx : Go.Proofs.Lays.n219 Tryz.prog Tryz.laysIdx_ren := {
  mixed := by kernel_rfl
  f217 := Tryz.func375.trans (congrArg some (by kernel_rfl))
  f219 := Tryz.func353.trans (congrArg some (by kernel_rfl))
  f224 := Tryz.func351.trans (congrArg some (by kernel_rfl))
  f225 := Tryz.func352.trans (congrArg some (by kernel_rfl))
  f266 := Tryz.func384.trans (congrArg some (by kernel_rfl))
  f267 := Tryz.func376.trans (congrArg some (by kernel_rfl))
  f314 := Tryz.func385.trans (congrArg some (by kernel_rfl))
  t3 := Tryz.underlying3
  a3 := Tryz.isAgg3
  z3 := Tryz.sizeOf3
  v3 := Tryz.zeroValue3
  t4 := Tryz.underlying4
  a4 := Tryz.isAgg4
  z4 := Tryz.sizeOf4
  v4 := Tryz.zeroValue4
  t5 := Tryz.underlying5
  a5 := Tryz.isAgg5
  z5 := Tryz.sizeOf5
  v5 := Tryz.zeroValue5
  t9 := Tryz.underlying9
  a9 := Tryz.isAgg9
  z9 := Tryz.sizeOf9
  v9 := Tryz.zeroValue9
  t46 := Tryz.underlying238
  a46 := Tryz.isAgg238
  z46 := Tryz.sizeOf238
  v46 := Tryz.zeroValue238
  t51 := Tryz.underlying345
  a51 := Tryz.isAgg345
  z51 := Tryz.sizeOf345
  v51 := Tryz.zeroValue345
  t146 := Tryz.underlying433
  a146 := Tryz.isAgg433
  z146 := Tryz.sizeOf433
  v146 := Tryz.zeroValue433
  g1 := by kernel_rfl }
def Tryz.laysAny_ren : Go.Shelf.Ren := ⟨fun | 153 => 248 | 152 => 311 | 226 => 312 | 227 => 313 | 228 => 314 | 137 => 349 | 119 => 350 | 224 => 351 | 225 => 352 | 217 => 375 | 266 => 384 | n => n, fun | 9 => 9 | 3 => 3 | 4 => 4 | 5 => 5 | 21 => 21 | 117 => 375 | 116 => 374 | 0 => 0 | 46 => 238 | 124 => 410 | n => n, fun | n => n⟩
theorem Tryz.laysAny : Go.Proofs.Lays.n153 Tryz.prog Tryz.laysAny_ren := {
  mixed := by kernel_rfl
  f119 := Tryz.func350.trans (congrArg some (by kernel_rfl))
  f137 := Tryz.func349.trans (congrArg some (by kernel_rfl))
  f152 := Tryz.func311.trans (congrArg some (by kernel_rfl))
  f153 := Tryz.func248.trans (congrArg some (by kernel_rfl))
  f217 := Tryz.func375.trans (congrArg some (by kernel_rfl))
  f224 := Tryz.func351.trans (congrArg some (by kernel_rfl))
  f225 := Tryz.func352.trans (congrArg some (by kernel_rfl))
  f226 := Tryz.func312.trans (congrArg some (by kernel_rfl))
  f227 := Tryz.func313.trans (congrArg some (by kernel_rfl))
  f228 := Tryz.func314.trans (congrArg some (by kernel_rfl))
  f266 := Tryz.func384.trans (congrArg some (by kernel_rfl))
  t0 := Tryz.underlying0
  a0 := Tryz.isAgg0
  z0 := Tryz.sizeOf0
  v0 := Tryz.zeroValue0
  t3 := Tryz.underlying3
  a3 := Tryz.isAgg3
  z3 := Tryz.sizeOf3
  v3 := Tryz.zeroValue3
  t4 := Tryz.underlying4
  a4 := Tryz.isAgg4
  z4 := Tryz.sizeOf4
  v4 := Tryz.zeroValue4
  t5 := Tryz.underlying5
  a5 := Tryz.isAgg5
  z5 := Tryz.sizeOf5
  v5 := Tryz.zeroValue5
  t9 := Tryz.underlying9
  a9 := Tryz.isAgg9
  z9 := Tryz.sizeOf9
  v9 := Tryz.zeroValue9
  t21 := Tryz.underlying21
  a21 := Tryz.isAgg21
  z21 := Tryz.sizeOf21
  v21 := Tryz.zeroValue21
  t46 := Tryz.underlying238
  a46 := Tryz.isAgg238
  z46 := Tryz.sizeOf238
  v46 := Tryz.zeroValue238
  t116 := Tryz.underlying374
  a116 := Tryz.isAgg374
  z116 := Tryz.sizeOf374
  t117 := Tryz.underlying375
  a117 := Tryz.isAgg375
  z117 := Tryz.sizeOf375
  v117 := Tryz.zeroValue375
  t124 := Tryz.underlying410
  a124 := Tryz.isAgg410
  z124 := Tryz.sizeOf410
  v124 := Tryz.zeroValue410 }
end Go.Proofs
