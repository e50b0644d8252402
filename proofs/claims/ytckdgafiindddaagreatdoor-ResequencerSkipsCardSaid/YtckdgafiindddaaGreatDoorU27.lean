/- The resequencer: messages are sent on behind those that were sent already. -/
import Derived.Test.YtckdgafiindddaaGreatDoorU22
set_option linter.all false
namespace Go.Proofs.YtckdgafiindddaaGreatDoor
open Go.Em
set_option maxRecDepth 100000

section
variable (nm a4 : ByteArray) (e f mm a1 a2 a3 : Int) (p q l outs fates us o a5 a6 : List (List X)) (M j c n : Nat)
def seD (c : Nat) (outs fates : List (List X)) : List Bx := [.var [strX nm, num e, .sl false 1 p, num 0, num 0, .sl true 10 [], .bs 3 0 c, .sl true 11 [], .bs 4 0 c, .sl true 10 []], .dead, .dead, .row 11 outs, .row 6 fates]
def sxR : St := ⟨[(0, .ptr 0 0 0), (7, .sl false 10 l), (8, nat n), (9, nat j)], seB nm e p c outs fates⟩
def sxD : St := ⟨[(0, .ptr 0 0 0), (7, .sl false 10 l), (8, nat n), (9, nat j)], seD nm e p c outs fates⟩
def sxE : St := ⟨[(0, .ptr 0 0 0), (7, .sl false 10 l), (8, nat n), (9, nat j), (10, boolX false)], seD nm e p c outs fates⟩
theorem sx_first (h1 : decide (Int.ofNat j < Int.ofNat n) = true) (hj : j < 100000) (hc : c < 100000) (ho : c = outs.length) (hf : c = fates.length) (hg : l[j]? = some [num f, .sl false 1 q, num mm, .sl false 1 o, num a1, num a2, num a3, strX a4, .sl false 6 a5, .sl false 7 a6])
    (h70 : Gam.pureD (callF tab ext M) 88 [.agg [num e, .sl false 1 p], nat c] = some (.agg [num e, .sl false 1 us]))
    (h298 : Gam.pureD (callF tab ext M) 89 [.agg [num f, .sl false 1 q, num mm, .sl false 1 o, num a1, num a2, num a3, strX a4, .sl false 6 a5, .sl false 7 a6], .agg [num e, .sl false 1 us]] = some (.agg [num e, .sl false 1 us, num mm, .sl false 1 o, num a1, num a2, num a3, strX a4, .sl false 6 a5, .sl false 7 a6]))
    (h85 : Gam.pureD (callF tab ext M) 90 [.agg [num f, .sl false 1 q, num mm, .sl false 1 o, num a1, num a2, num a3, strX a4, .sl false 6 a5, .sl false 7 a6], strX nm, .sl false 2 [[num e, .sl false 1 us]]] = some (.agg [num f, .sl false 1 q, num 1, strX nm, .sl false 2 [[num e, .sl false 1 us]], noText])) :
    ∃ υ, run (callF tab ext M) 3 M (loopAt 51 0) (sxR nm e p l outs fates j c n) = some (.norm, υ) ∧ canon 3 υ = some (sxD nm e p l (outs ++ [[num 0, num e, .sl false 1 us, num mm, .sl false 1 o, num a1, num a2, num a3, strX a4, .sl false 6 a5, .sl false 7 a6]]) (fates ++ [[num f, .sl false 1 q, num 1, strX nm, .sl false 2 [[num e, .sl false 1 us]], noText]]) (j + 1) (c + 1) n) :=
  rd_of [(10, .b true), (11, .e [num f, .sl false 1 q, num mm, .sl false 1 o, num a1, num a2, num a3, strX a4, .sl false 6 a5, .sl false 7 a6]), (23, .p (.agg [num e, .sl false 1 us])), (32, .p (.agg [num e, .sl false 1 us, num mm, .sl false 1 o, num a1, num a2, num a3, strX a4, .sl false 6 a5, .sl false 7 a6])), (35, .app), (52, .p (.agg [num f, .sl false 1 q, num 1, strX nm, .sl false 2 [[num e, .sl false 1 us]], noText])), (54, .app), (58, .i (Int.ofNat (j + 1)))]
    (pf8 h1 hg h70 h298 (app_ok (acc := outs) c 1 160 ho (by omega) (by omega)) h85 (app_ok (acc := fates) c 2 96 hf (by omega) (by omega)) (next_nat (j := j) (by omega))) (by kernel_rfl)
theorem sx_round (h1 : decide (Int.ofNat j < Int.ofNat n) = true) (hj : j < 100000) (hc : c < 100000) (ho : c = outs.length) (hf : c = fates.length) (hg : l[j]? = some [num f, .sl false 1 q, num mm, .sl false 1 o, num a1, num a2, num a3, strX a4, .sl false 6 a5, .sl false 7 a6])
    (h70 : Gam.pureD (callF tab ext M) 88 [.agg [num e, .sl false 1 p], nat c] = some (.agg [num e, .sl false 1 us]))
    (h298 : Gam.pureD (callF tab ext M) 89 [.agg [num f, .sl false 1 q, num mm, .sl false 1 o, num a1, num a2, num a3, strX a4, .sl false 6 a5, .sl false 7 a6], .agg [num e, .sl false 1 us]] = some (.agg [num e, .sl false 1 us, num mm, .sl false 1 o, num a1, num a2, num a3, strX a4, .sl false 6 a5, .sl false 7 a6]))
    (h85 : Gam.pureD (callF tab ext M) 90 [.agg [num f, .sl false 1 q, num mm, .sl false 1 o, num a1, num a2, num a3, strX a4, .sl false 6 a5, .sl false 7 a6], strX nm, .sl false 2 [[num e, .sl false 1 us]]] = some (.agg [num f, .sl false 1 q, num 1, strX nm, .sl false 2 [[num e, .sl false 1 us]], noText])) :
    ∃ υ, run (callF tab ext M) 3 M (loopAt 51 0) (sxD nm e p l outs fates j c n) = some (.norm, υ) ∧ canon 3 υ = some (sxD nm e p l (outs ++ [[num 0, num e, .sl false 1 us, num mm, .sl false 1 o, num a1, num a2, num a3, strX a4, .sl false 6 a5, .sl false 7 a6]]) (fates ++ [[num f, .sl false 1 q, num 1, strX nm, .sl false 2 [[num e, .sl false 1 us]], noText]]) (j + 1) (c + 1) n) :=
  rd_of [(10, .b true), (11, .e [num f, .sl false 1 q, num mm, .sl false 1 o, num a1, num a2, num a3, strX a4, .sl false 6 a5, .sl false 7 a6]), (23, .p (.agg [num e, .sl false 1 us])), (32, .p (.agg [num e, .sl false 1 us, num mm, .sl false 1 o, num a1, num a2, num a3, strX a4, .sl false 6 a5, .sl false 7 a6])), (35, .app), (52, .p (.agg [num f, .sl false 1 q, num 1, strX nm, .sl false 2 [[num e, .sl false 1 us]], noText])), (54, .app), (58, .i (Int.ofNat (j + 1)))]
    (pf8 h1 hg h70 h298 (app_ok (acc := outs) c 3 160 ho (by omega) (by omega)) h85 (app_ok (acc := fates) c 4 96 hf (by omega) (by omega)) (next_nat (j := j) (by omega))) (by kernel_rfl)
theorem sx_stop (h1 : decide (Int.ofNat j < Int.ofNat n) = false) : run (callF tab ext M) 3 M (loopAt 51 0) (sxD nm e p l outs fates j c n) = some (.exit 0, sxE nm e p l outs fates j c n) :=
  run_of [(10, .b false)] [] (pf1 h1) (lo' := []) (by kernel_rfl)
theorem sx_canon : canon 3 (sxR nm e p l outs fates j c n) = some (sxR nm e p l outs fates j c n) := by kernel_rfl
theorem sx_call (outs2 fates2 : List (List X)) (c2 : Nat) (hl : run (callF tab ext M) 3 M (.loop (loopAt 51 0)) (sxR nm e p l outs fates 0 c l.length) = some (.exit 0, sxE nm e p l outs2 fates2 j c2 l.length)) :
    callF tab ext (M + 1) (.fn 51) [.ptr 0 0 0, .sl false 10 l] (seB nm e p c outs fates) = some (.tup [], seD nm e p c2 outs2 fates2) :=
  callF_of [] [(.exit 0, sxE nm e p l outs2 fates2 j c2 l.length)] (pf1 hl) (by kernel_rfl)
end
def sentO2 (s : Stp) (c : Nat) (l : List Msg) : List Otp := l.mapIdx fun k m => ⟨0, { m with st := undS s (c + k) }⟩
def sentF2 (nm : ByteArray) (s : Stp) (c : Nat) (l : List Msg) : List Fte := l.mapIdx fun k m => ⟨m.st, 1, nm, [undS s (c + k)], ⟨#[]⟩⟩
theorem send_from (nm : ByteArray) (s : Stp) (hs : s.p.length ≤ 10000) (l : List Msg) (hl0 : 0 < l.length) (hl : l.length ≤ 1000) (hok : ∀ m, m ∈ l → m.ok) (O : List Otp) (F : List Fte) (hO : O.length ≤ 10000) (hF : F.length = O.length) (N : Nat) (hN : 200000 ≤ N) :
    callF tab ext N (.fn 51) [.ptr 0 0 0, .sl false 10 (msgsC l)] (seB nm s.e (intsC s.p) O.length (otpsC O) (ftesC F)) = some (.tup [], seD nm s.e (intsC s.p) (O.length + l.length) (otpsC (O ++ sentO2 s O.length l)) (ftesC (F ++ sentF2 nm s O.length l))) := by
  obtain ⟨M, rfl⟩ : ∃ M, N = M + 2 := ⟨N - 2, by omega⟩
  have hml := msgsC_length l
  have hsok : ∀ k : Nat, (undS s k).ok := fun k => ⟨by unfold undS; simp; omega⟩
  have hol := otpsC_length O
  have hfl := ftesC_length F
  have e1 : O ++ sentO2 s O.length (l.take 0) = O := by simp [sentO2]
  have e2 : F ++ sentF2 nm s O.length (l.take 0) = F := by simp [sentF2]
  have key : ∀ j (hj : j < l.length) (σ : St), (∀ f q mm o a1 a2 a3 a4 a5 a6 us, (msgsC l)[j]? = some [num f, .sl false 1 q, num mm, .sl false 1 o, num a1, num a2, num a3, strX a4, .sl false 6 a5, .sl false 7 a6] →
      Gam.pureD (callF tab ext (M + 1)) 88 [.agg [num s.e, .sl false 1 (intsC s.p)], nat (O.length + j)] = some (.agg [num s.e, .sl false 1 us]) →
      Gam.pureD (callF tab ext (M + 1)) 89 [.agg [num f, .sl false 1 q, num mm, .sl false 1 o, num a1, num a2, num a3, strX a4, .sl false 6 a5, .sl false 7 a6], .agg [num s.e, .sl false 1 us]] = some (.agg [num s.e, .sl false 1 us, num mm, .sl false 1 o, num a1, num a2, num a3, strX a4, .sl false 6 a5, .sl false 7 a6]) →
      Gam.pureD (callF tab ext (M + 1)) 90 [.agg [num f, .sl false 1 q, num mm, .sl false 1 o, num a1, num a2, num a3, strX a4, .sl false 6 a5, .sl false 7 a6], strX nm, .sl false 2 [[num s.e, .sl false 1 us]]] = some (.agg [num f, .sl false 1 q, num 1, strX nm, .sl false 2 [[num s.e, .sl false 1 us]], noText]) →
      ∃ υ, run (callF tab ext (M + 1)) 3 (M + 1) (loopAt 51 0) σ = some (.norm, υ) ∧ canon 3 υ = some (sxD nm s.e (intsC s.p) (msgsC l) (otpsC (O ++ sentO2 s O.length (l.take j)) ++ [[num 0, num s.e, .sl false 1 us, num mm, .sl false 1 o, num a1, num a2, num a3, strX a4, .sl false 6 a5, .sl false 7 a6]]) (ftesC (F ++ sentF2 nm s O.length (l.take j)) ++ [[num f, .sl false 1 q, num 1, strX nm, .sl false 2 [[num s.e, .sl false 1 us]], noText]]) (j + 1) (O.length + j + 1) (msgsC l).length)) →
      ∃ υ, run (callF tab ext (M + 1)) 3 (M + 1) (loopAt 51 0) σ = some (.norm, υ) ∧ canon 3 υ = some (sxD nm s.e (intsC s.p) (msgsC l) (otpsC (O ++ sentO2 s O.length (l.take (j + 1)))) (ftesC (F ++ sentF2 nm s O.length (l.take (j + 1)))) (j + 1) (O.length + j + 1) (msgsC l).length) := fun j hj σ hstep => by
    have hg := msgsC_get hj
    have hmo := hok _ (List.getElem_mem hj)
    have h70 := under_pure s ⟨by omega⟩ (Int.ofNat (O.length + j)) (M + 1) (by omega)
    have h298 := move298 (M + 1) l[j] hmo (undS s (O.length + j)) (hsok _) (by omega)
    have h85 := replaced_pure (M + 1) l[j] hmo.st nm [undS s (O.length + j)] (fun q hq => by rw [List.mem_singleton.1 hq]; exact hsok _) (by simp) (by simp; omega)
    have eo : otpsC (O ++ sentO2 s O.length (l.take (j + 1))) = otpsC (O ++ sentO2 s O.length (l.take j)) ++ [(Otp.mk 0 { l[j] with st := undS s (O.length + j) }).cells] := by
      unfold sentO2 otpsC; rw [mapIdx_snoc _ l j hj, ← List.append_assoc, List.map_append]; rfl
    have ef : ftesC (F ++ sentF2 nm s O.length (l.take (j + 1))) = ftesC (F ++ sentF2 nm s O.length (l.take j)) ++ [(Fte.mk l[j].st 1 nm [undS s (O.length + j)] ⟨#[]⟩).cells] := by
      unfold sentF2 ftesC; rw [mapIdx_snoc _ l j hj, ← List.append_assoc, List.map_append]; rfl
    rw [eo, ef]
    generalize l[j] = m at *
    obtain ⟨⟨f, q⟩, mm, o, ⟨a1, a2, a3, a4, a5, a6⟩⟩ := m
    exact hstep f (intsC q) mm (intsC o) a1 a2 a3 a4 (cellsL a5) (cellsF a6) (intsC (undS s (O.length + j)).p) hg h70 h298 h85
  have ho : ∀ j, j ≤ l.length → O.length + j = (otpsC (O ++ sentO2 s O.length (l.take j))).length := fun j hj => by rw [otpsC_length]; unfold sentO2; rw [List.length_append, List.length_mapIdx, List.length_take]; omega
  have hf : ∀ j, j ≤ l.length → O.length + j = (ftesC (F ++ sentF2 nm s O.length (l.take j))).length := fun j hj => by rw [ftesC_length]; unfold sentF2; rw [List.length_append, List.length_mapIdx, List.length_take]; omega
  refine sx_call nm s.e (intsC s.p) (msgsC l) (otpsC O) (ftesC F) (M + 1) l.length O.length _ _ _ ?_
  refine loop_for (σ := fun j => if j = 0 then sxR nm s.e (intsC s.p) (msgsC l) (otpsC O) (ftesC F) 0 O.length (msgsC l).length else sxD nm s.e (intsC s.p) (msgsC l) (otpsC (O ++ sentO2 s O.length (l.take j))) (ftesC (F ++ sentF2 nm s O.length (l.take j))) j (O.length + j) (msgsC l).length) (k := l.length) ?_ (fun j hj => ?_) ?_ (by simp) (by omega)
  · rw [if_pos rfl]
    exact sx_canon ..
  · rw [if_neg (by omega : ¬ j + 1 = 0)]
    refine key j hj _ fun f q mm o a1 a2 a3 a4 a5 a6 us hg h70 h298 h85 => ?_
    by_cases h0 : j = 0
    · subst h0
      rw [if_pos rfl, e1, e2]
      exact sx_first nm a4 s.e f mm a1 a2 a3 (intsC s.p) q (msgsC l) (otpsC O) (ftesC F) us o a5 a6 (M + 1) 0 O.length (msgsC l).length (lt_nat (by omega)) (by omega) (by omega) hol.symm (by omega) hg h70 h298 h85
    · rw [if_neg h0]
      exact sx_round nm a4 s.e f mm a1 a2 a3 (intsC s.p) q (msgsC l) _ _ us o a5 a6 (M + 1) j (O.length + j) (msgsC l).length (lt_nat (by omega)) (by omega) (by omega) (ho j (by omega)) (hf j (by omega)) hg h70 h298 h85
  · rw [if_neg (by omega : ¬ l.length = 0), List.take_length, hml]
    exact sx_stop nm s.e (intsC s.p) (msgsC l) _ _ (M + 1) l.length (O.length + l.length) l.length (nlt_nat (by omega))
end Go.Proofs.YtckdgafiindddaaGreatDoor

/- The resequencer at a clock input: what becomes of the groups whose time has come; what is sent on, in plain terms. -/
namespace Go.Proofs.YtckdgafiindddaaGreatDoor
open Go.Em
set_option maxRecDepth 100000

def expB (now : Int) (x : Gp) : Bool := decide (0 < x.t ∧ x.t ≤ now)
/-- The first number that a group holds. -/
def v0 (x : Gp) : Nat := match x.H with
  | [] => 0
  | p :: _ => p.1
def relK (x : Gp) : Nat := runL (v0 x) x.H
def clkG (t now : Int) (x : Gp) : Gp := ⟨x.g, v0 x + relK x, dlP t now (x.H.length - relK x), x.H.drop (relK x)⟩
def clkM (x : Gp) : List Msg := (x.H.take (relK x)).map (mqg x.g)
structure Ck where
  gs : List Gp
  O : List Otp
  F : List Fte
def clk1 (s : Stp) (t now : Int) (c : Ck) (x : Gp) : Ck := ⟨putG (clkG t now x) c.gs, c.O ++ sentO2 s c.O.length (clkM x), c.F ++ sentF2 ordT s c.O.length (clkM x)⟩
theorem relK_le (x : Gp) : relK x ≤ x.H.length := runL_le ..
theorem clkM_len (x : Gp) : (clkM x).length = relK x := by
  have := relK_le x
  unfold clkM
  rw [List.length_map, List.length_take]
  omega
theorem relK_pos {x : Gp} (h : x.H ≠ []) : 1 ≤ relK x := by
  obtain ⟨g, nx, xt, H⟩ := x
  cases H with
  | nil => exact absurd rfl h
  | cons p r =>
    show 1 ≤ (if p.1 = p.1 then runL (p.1 + 1) r + 1 else 0)
    rw [if_pos rfl]
    omega
theorem clkG_gj {x : Gp} (h : GJ x) (hne : x.H ≠ []) (t now : Int) : GJ (clkG t now x) ∧ x.nx < v0 x := by
  have hlen := h.gi.len
  obtain ⟨g, nx, xt, H⟩ := x
  cases H with
  | nil => exact absurd rfl hne
  | cons p r =>
    have hs := List.pairwise_cons.1 h.srt
    have hgt := h.gt p List.mem_cons_self
    have hle := h.le p List.mem_cons_self
    have hpos := h.pos
    dsimp only at hgt hle hpos hlen
    rw [List.length_cons] at hlen
    have hr : GI ⟨g, p.1, 0, r⟩ := ⟨by dsimp only; omega, by dsimp only; omega, hs.2, fun q hq => hs.1 q hq, by dsimp only; omega⟩
    obtain ⟨L, hL, _⟩ := gi_rsI hr
    have hk := rsI_send hL
    dsimp only at hk
    have e1 : relK ⟨g, nx, xt, p :: r⟩ = runL (p.1 + 1) r + 1 := by
      show (if p.1 = p.1 then runL (p.1 + 1) r + 1 else 0) = _
      rw [if_pos rfl]
    have e3 : clkG t now ⟨g, nx, xt, p :: r⟩ = ⟨g, p.1 + 1 + runL (p.1 + 1) r, dlP t now (r.length - runL (p.1 + 1) r), r.drop (runL (p.1 + 1) r)⟩ := by
      unfold clkG
      rw [e1]
      have e4 : v0 ⟨g, nx, xt, p :: r⟩ + (runL (p.1 + 1) r + 1) = p.1 + 1 + runL (p.1 + 1) r := by
        show p.1 + _ = _
        omega
      rw [e4]
      simp only [List.drop_succ_cons, List.length_cons, Nat.add_sub_add_right]
    rw [e3]
    refine ⟨⟨hk.pos, runL_top (B := 16) (fun q hq => h.le q (List.mem_cons_of_mem _ hq)) hle, hk.srt, hk.gt, fun q hq => h.le q (List.mem_cons_of_mem _ (List.mem_of_mem_drop hq)), fun ht e => ht ?_⟩, hgt⟩
    have e2 := congrArg List.length (show r.drop (runL (p.1 + 1) r) = [] from e)
    rw [List.length_drop] at e2
    show dlP t now (r.length - runL (p.1 + 1) r) = 0
    unfold dlP
    rw [if_pos (.inl e2)]
theorem clkG_t {t now : Int} (ht : 1 ≤ t) (x : Gp) : (clkG t now x).t = 0 ∨ now < (clkG t now x).t := by
  show dlP t now _ = 0 ∨ now < dlP t now _
  unfold dlP
  split
  · exact .inl rfl
  · right; omega

/-! ### Numbers -/
structure NumI (gs : List Gp) (S : List Otp) : Prop where
  wf : ∀ o, o ∈ S → WfM o.m
  lt : ∀ o, o ∈ S → nOf o.m < ((getG (gOf o.m) gs).nx : Int)
  inc : S.Pairwise fun a b => gOf a.m = gOf b.m → nOf a.m < nOf b.m
theorem numI_nil (gs : List Gp) : NumI gs [] := ⟨by simp, by simp, .nil⟩
theorem NumI.ext {gs gs' : List Gp} {S B : List Otp} {g : Int} (h : NumI gs S) (hw : ∀ o, o ∈ B → WfM o.m ∧ gOf o.m = g) (hn : B.Pairwise fun a b => nOf a.m < nOf b.m)
    (hlo : ∀ o, o ∈ B → ((getG g gs).nx : Int) ≤ nOf o.m ∧ nOf o.m < ((getG g gs').nx : Int)) (hm : (getG g gs).nx ≤ (getG g gs').nx) (ho : ∀ g', g' ≠ g → getG g' gs' = getG g' gs) : NumI gs' (S ++ B) := by
  refine ⟨fun o h1 => ?_, fun o h1 => ?_, List.pairwise_append.2 ⟨h.inc, hn.imp (S := fun a b : Otp => gOf a.m = gOf b.m → nOf a.m < nOf b.m) (fun h2 _ => h2), fun a ha b hb e => ?_⟩⟩
  · rcases List.mem_append.1 h1 with h1 | h1
    · exact h.wf o h1
    · exact (hw o h1).1
  · rcases List.mem_append.1 h1 with h1 | h1
    · have h2 := h.lt o h1
      by_cases e : gOf o.m = g
      · rw [e] at h2 ⊢; omega
      · rw [ho _ e]; exact h2
    · rw [(hw o h1).2]; exact (hlo o h1).2
  · have h2 := h.lt a ha
    have h3 := hw b hb
    rw [e, h3.2] at h2
    have := (hlo b hb).1
    omega
theorem sentO2_len (s : Stp) (c : Nat) (l : List Msg) : (sentO2 s c l).length = l.length := by simp [sentO2]
theorem clkO_get (s : Stp) (c : Nat) (x : Gp) (j : Nat) (h : j < (sentO2 s c (clkM x)).length) (h2 : j < x.H.length) : (sentO2 s c (clkM x))[j] = ⟨0, { mqg x.g x.H[j] with st := undS s (c + j) }⟩ := by
  simp [sentO2, clkM]
theorem clk_num {gs : List Gp} {S : List Otp} (h : NumI gs S) (hs : StI gs) (s : Stp) (c : Nat) (t now : Int) {x : Gp} (hx : x ∈ gs) (hne : x.H ≠ []) : NumI (putG (clkG t now x) gs) (S ++ sentO2 s c (clkM x)) := by
  have hgj := (hs.gj x hx).1
  have hk := clkG_gj hgj hne t now
  have e1 := getG_of_mem hs.srt hx
  have e2 : getG x.g (putG (clkG t now x) gs) = clkG t now x := getG_put_self (x := clkG t now x) hs.srt
  have hlen := sentO2_len s c (clkM x)
  rw [clkM_len] at hlen
  have hle := relK_le x
  have hat : ∀ j (hj : j < (sentO2 s c (clkM x)).length), WfM (sentO2 s c (clkM x))[j].m ∧ gOf (sentO2 s c (clkM x))[j].m = x.g ∧ nOf (sentO2 s c (clkM x))[j].m = ((v0 x + j : Nat) : Int) := fun j hj => by
    rw [clkO_get s c x j hj (by omega)]
    refine ⟨⟨x.g, x.H[j].1, x.H[j].2, _, rfl⟩, rfl, ?_⟩
    show (x.H[j].1 : Int) = _
    rw [runL_get (v0 x) x.H j (by unfold relK at hlen; omega)]
  refine h.ext (g := x.g) (fun o ho => ?_) ?_ (fun o ho => ?_) ?_ (fun g' hg => getG_put_other hs.srt hg)
  · obtain ⟨j, hj, rfl⟩ := List.getElem_of_mem ho
    exact ⟨(hat j hj).1, (hat j hj).2.1⟩
  · refine List.pairwise_iff_getElem.2 fun i j hi hj hij => ?_
    rw [(hat i hi).2.2, (hat j hj).2.2]
    omega
  · obtain ⟨j, hj, rfl⟩ := List.getElem_of_mem ho
    rw [(hat j hj).2.2, e1, e2]
    show _ ∧ _ < ((v0 x + relK x : Nat) : Int)
    omega
  · rw [e1, e2]
    show x.nx ≤ v0 x + relK x
    omega
theorem msg_num {gs : List Gp} {S : List Otp} (h : NumI gs S) (hs : StI gs) (t l now g : Int) (n k : Nat) : NumI (stG t l now gs g n k) (S ++ osG l gs g n k) := by
  unfold stG osG rejB
  by_cases he : rejP l gs g n = emptyT
  · rw [decide_eq_true he]
    simp only [Bool.not_true, Bool.false_eq_true, if_false]
    obtain ⟨h1, h2⟩ := rejP_empty he
    have hgj := hs.get g
    have hg := getG_g g gs
    have e2 : getG g (putG (recG t now (getG g gs) n k) gs) = recG t now (getG g gs) n k := by
      have := getG_put_self (x := recG t now (getG g gs) n k) hs.srt
      rw [recG_g, hg] at this
      exact this
    have ho : ∀ g', g' ≠ g → getG g' (putG (recG t now (getG g gs) n k) gs) = getG g' gs := fun g' hne => getG_put_other hs.srt (by rw [recG_g, hg]; exact hne)
    obtain ⟨hw, hnum⟩ := out_form (getG g gs) n k
    rw [hg] at hw
    by_cases hlt : (getG g gs).nx < n
    · have e3 : outG (getG g gs) n k = [] := by unfold outG; rw [if_pos hlt]
      rw [e3]
      refine h.ext (g := g) (by simp) .nil (by simp) ?_ ho
      rw [e2]
      unfold recG
      rw [if_pos hlt]
      exact Nat.le_refl _
    · rw [if_neg hlt] at hnum
      have hn : (getG g gs).nx = n := by omega
      have e3 : (recG t now (getG g gs) n k).nx = n + 1 + runL (n + 1) (getG g gs).H := by unfold recG; rw [if_neg hlt]
      have hmem : ∀ v, v ∈ (n : Int) :: (nq (getG g gs).H).take (runL (n + 1) (getG g gs).H) → (n : Int) ≤ v ∧ v < ((n + 1 + runL (n + 1) (getG g gs).H : Nat) : Int) := fun v hv => by
        rcases List.mem_cons.1 hv with rfl | hv
        · omega
        · obtain ⟨j, hj, rfl⟩ := List.getElem_of_mem hv
          rw [List.length_take] at hj
          have h3 := runL_get (n + 1) (getG g gs).H j (by omega)
          have h4 : ((nq (getG g gs).H).take (runL (n + 1) (getG g gs).H))[j]'(by rw [List.length_take]; exact hj) = ((getG g gs).H[j]'(by have := nq_len (getG g gs).H; omega)).1 := by simp [nq]
          rw [h4, h3]
          omega
      refine h.ext (g := g) hw ?_ (fun o hom => ?_) (by rw [e2, e3]; omega) ho
      · have hp : ((n : Int) :: (nq (getG g gs).H).take (runL (n + 1) (getG g gs).H)).Pairwise (· < ·) := by
          refine List.pairwise_cons.2 ⟨fun v hv => ?_, (nq_srt hgj.srt).take⟩
          obtain ⟨p, hp, rfl⟩ := List.mem_map.1 (List.mem_of_mem_take hv)
          have := hgj.gt p hp
          omega
        rw [← hnum, List.pairwise_map] at hp
        exact hp
      · have := hmem (nOf o.m) (by rw [← hnum]; exact List.mem_map.2 ⟨o, hom, rfl⟩)
        rw [e2, e3, hn]
        exact this
  · rw [decide_eq_false he]
    simpa using h

/-! ### Stamps -/
structure StmI (i : Nat) (S : List Otp) : Prop where
  le : ∀ o, o ∈ S → o.m.st.e ≤ (i : Int)
  inc : S.Pairwise fun a b => cmpS a.m.st b.m.st < 0
  pl : ∀ o, o ∈ S → o.m.st.p.length ≤ 10
theorem stmI_nil : StmI 0 [] := ⟨by simp, .nil, by simp⟩
theorem cmpS_e {a b : Stp} (h : a.e < b.e) : cmpS a b < 0 := by
  have e : ordI a.e b.e = -1 := by unfold ordI; rw [if_pos h]
  unfold cmpS orL
  rw [e, if_neg (by decide)]
  decide
theorem StmI.ext {i : Nat} {S B : List Otp} (h : StmI i S) (he : ∀ o, o ∈ B → o.m.st.e = (i : Int) + 1) (hp : B.Pairwise fun a b => cmpS a.m.st b.m.st < 0) (hl : ∀ o, o ∈ B → o.m.st.p.length ≤ 10) : StmI (i + 1) (S ++ B) := by
  refine ⟨fun o h1 => ?_, List.pairwise_append.2 ⟨h.inc, hp, fun a ha b hb => ?_⟩, fun o h1 => (List.mem_append.1 h1).elim (h.pl o) (hl o)⟩
  · rcases List.mem_append.1 h1 with h1 | h1
    · have := h.le o h1; omega
    · have := he o h1; omega
  · have h1 := h.le a ha
    have h2 := he b hb
    exact cmpS_e (by omega)
theorem lexC_und (p : List Int) (a b : Int) (h : a < b) : lexC ordI (p ++ [a]) (p ++ [b]) < 0 := by
  induction p with
  | nil =>
    show (if ordI a b = 0 then lexC ordI [] [] else ordI a b) < 0
    have := ordI_lt.2 h
    rw [if_neg (by omega)]
    exact this
  | cons x r ih =>
    show (if ordI x x = 0 then lexC ordI (r ++ [a]) (r ++ [b]) else ordI x x) < 0
    rw [if_pos (ordI_self x)]
    exact ih
theorem cmpS_und (s : Stp) {a b : Nat} (h : a < b) : cmpS (undS s a) (undS s b) < 0 := by
  have h1 := lexC_und s.p (a : Int) (b : Int) (by omega)
  show orL [ordI s.e s.e, lexC ordI (s.p ++ [(a : Int)]) (s.p ++ [(b : Int)])] < 0
  unfold orL
  rw [if_pos (ordI_self _)]
  unfold orL
  rw [if_neg (by omega)]
  exact h1
/-- All stamps of outputs come from one. -/
def UndI (s : Stp) (O : List Otp) : Prop := ∀ j (h : j < O.length), O[j].m.st = undS s j
theorem UndI.stm {s : Stp} {O : List Otp} (h : UndI s O) (hs : s.p.length ≤ 9) : (∀ o, o ∈ O → o.m.st.e = s.e) ∧ (O.Pairwise fun a b => cmpS a.m.st b.m.st < 0) ∧ ∀ o, o ∈ O → o.m.st.p.length ≤ 10 :=
  ⟨fun o ho => by
    obtain ⟨j, hj, rfl⟩ := List.getElem_of_mem ho
    rw [h j hj]; rfl, List.pairwise_iff_getElem.2 fun i j hi hj hij => by rw [h i hi, h j hj]; exact cmpS_und s hij, fun o ho => by
    obtain ⟨j, hj, rfl⟩ := List.getElem_of_mem ho
    rw [h j hj]
    show (s.p ++ [(j : Int)]).length ≤ 10
    rw [List.length_append]
    exact Nat.add_le_add_right hs 1⟩
theorem UndI.app {s : Stp} {O : List Otp} (h : UndI s O) (l : List Msg) : UndI s (O ++ sentO2 s O.length l) := fun j hj => by
  rw [List.getElem_append]
  split
  · exact h j (by assumption)
  · rename_i hj2
    simp only [sentO2, List.getElem_mapIdx]
    congr 1
    omega
theorem undI_nil (s : Stp) : UndI s [] := fun j h => absurd h (by simp)
theorem msg_stm {i : Nat} {S : List Otp} (h : StmI i S) (l : Int) (gs : List Gp) (g : Int) (n : Nat) : StmI (i + 1) (S ++ osG l gs g n i) := by
  have key : (∀ o, o ∈ osG l gs g n i → o.m.st.e = (i : Int) + 1) ∧ ((osG l gs g n i).Pairwise fun a b => cmpS a.m.st b.m.st < 0) ∧ ∀ o, o ∈ osG l gs g n i → o.m.st.p.length ≤ 10 := by
    unfold osG
    split
    · exact ⟨by simp, .nil, by simp⟩
    · unfold outG
      split
      · exact ⟨by simp, .nil, by simp⟩
      · unfold sentG
        split
        · exact ⟨fun o ho => by rw [List.mem_singleton.1 ho]; rfl, List.pairwise_singleton .., fun o ho => by rw [List.mem_singleton.1 ho]; show 1 ≤ 10; decide⟩
        · have hu : UndI ⟨(i : Int) + 1, [1]⟩ (sentO ⟨(i : Int) + 1, [1]⟩ (mqg (getG g gs).g (n, i) :: ((getG g gs).H.take (runL (n + 1) (getG g gs).H)).map (mqg (getG g gs).g))) := fun j hj => by
            simp only [sentO, List.getElem_mapIdx]
          exact hu.stm (by show 1 ≤ 9; decide)
  exact h.ext key.1 key.2.1 key.2.2

/-! ### All groups whose time has come -/
structure CkI (s : Stp) (g0 : List Gp) (S : List Otp) (c : Ck) : Prop where
  st : StI c.gs
  cnt : heldG c.gs + c.O.length = heldG g0
  mo : ∀ o, o ∈ c.O → o.m.mass = 1048576
  sts : UndI s c.O
  num : NumI c.gs (S ++ c.O)
  fl : c.F.length = c.O.length
theorem clk1_I {s : Stp} {g0 : List Gp} {S : List Otp} {c : Ck} (h : CkI s g0 S c) (t now : Int) {x : Gp} (hx : x ∈ c.gs) (hne : x.H ≠ []) : CkI s g0 S (clk1 s t now c x) := by
  have hk := clkG_gj (h.st.gj x hx).1 hne t now
  have hp := heldG_put (clkG t now x) c.gs
  rw [show (clkG t now x).g = x.g from rfl, getG_of_mem h.st.srt hx, show (clkG t now x).H.length = x.H.length - relK x from List.length_drop ..] at hp
  have hle := relK_le x
  have hc := h.cnt
  have hl := sentO2_len s c.O.length (clkM x)
  rw [clkM_len] at hl
  refine ⟨⟨putG_srt h.st.srt, fun y hy => ?_⟩, ?_, fun o ho => ?_, h.sts.app _, ?_, ?_⟩
  · rcases putG_mem hy with rfl | hy
    · exact ⟨hk.1, (h.st.gj x hx).2⟩
    · exact h.st.gj y hy
  · show heldG (putG (clkG t now x) c.gs) + (c.O ++ _).length = _
    rw [List.length_append]
    omega
  · rcases List.mem_append.1 ho with ho | ho
    · exact h.mo o ho
    · obtain ⟨j, hj, rfl⟩ := List.getElem_of_mem ho
      rw [clkO_get s _ x j hj (by omega)]
      rfl
  · show NumI (putG (clkG t now x) c.gs) (S ++ (c.O ++ _))
    rw [← List.append_assoc]
    exact clk_num h.num h.st s _ t now hx hne
  · show (c.F ++ _).length = (c.O ++ _).length
    rw [List.length_append, List.length_append, sentO2_len, h.fl]
    simp [sentF2]
theorem clk1_mem {t now : Int} {s : Stp} {c : Ck} {x y : Gp} (hy : y ∈ c.gs) (hne : x.g ≠ y.g) : y ∈ (clk1 s t now c x).gs := putG_other hy (fun e => hne e.symm)
/-- The groups E, one after the other. -/
theorem clk_fold {s : Stp} {g0 : List Gp} {S : List Otp} (t now : Int) : ∀ (E : List Gp) (c : Ck), CkI s g0 S c → (∀ x, x ∈ E → x ∈ c.gs ∧ x.H ≠ []) → (E.Pairwise fun a b => a.g ≠ b.g) →
    CkI s g0 S (E.foldl (clk1 s t now) c) ∧
    (∀ y, y ∈ (E.foldl (clk1 s t now) c).gs → (y ∈ c.gs ∧ ∀ x, x ∈ E → x.g ≠ y.g) ∨ ∃ x, x ∈ E ∧ y = clkG t now x) ∧
    (∀ y, y ∈ c.gs → (∀ x, x ∈ E → x.g ≠ y.g) → y ∈ (E.foldl (clk1 s t now) c).gs) ∧
    (∀ x, x ∈ E → clkG t now x ∈ (E.foldl (clk1 s t now) c).gs) ∧ ∃ R, (E.foldl (clk1 s t now) c).O = c.O ++ R
  | [], c, h, _, _ => ⟨h, fun y hy => .inl ⟨hy, by simp⟩, fun y hy _ => hy, by simp, [], by simp⟩
  | x :: E, c, h, hx, hp => by
    obtain ⟨hx1, hxE⟩ := hx x List.mem_cons_self
    have hp' := List.pairwise_cons.1 hp
    have h1 := clk1_I h t now hx1 hxE
    obtain ⟨a1, a2, a3, a4, R, a5⟩ := clk_fold t now E (clk1 s t now c x) h1 (fun y hy => ⟨clk1_mem (hx y (List.mem_cons_of_mem _ hy)).1 (hp'.1 y hy), (hx y (List.mem_cons_of_mem _ hy)).2⟩) hp'.2
    have hself : clkG t now x ∈ (clk1 s t now c x).gs := putG_self (clkG t now x) c.gs
    rw [List.foldl_cons]
    refine ⟨a1, fun y hy => ?_, fun y hy hne => ?_, fun y hy => ?_, sentO2 s c.O.length (clkM x) ++ R, ?_⟩
    · rcases a2 y hy with ⟨b1, b2⟩ | ⟨z, hz, e⟩
      · rcases putG_mem b1 with b3 | b3
        · exact .inr ⟨x, List.mem_cons_self, b3⟩
        · by_cases e : y.g = x.g
          · right
            refine ⟨x, List.mem_cons_self, ?_⟩
            have e1 := getG_of_mem h1.st.srt b1
            have e2 := getG_of_mem h1.st.srt hself
            rw [e] at e1
            rw [show (clkG t now x).g = x.g from rfl] at e2
            rw [← e1, e2]
          · exact .inl ⟨b3, fun z hz => by
              rcases List.mem_cons.1 hz with rfl | hz
              · exact fun e2 => e e2.symm
              · exact b2 z hz⟩
      · exact .inr ⟨z, List.mem_cons_of_mem _ hz, e⟩
    · exact a3 y (clk1_mem hy (hne x List.mem_cons_self)) fun z hz => hne z (List.mem_cons_of_mem _ hz)
    · rcases List.mem_cons.1 hy with rfl | hy
      · exact a3 _ hself fun z hz e => hp'.1 z hz e.symm
      · exact a4 y hy
    · rw [a5]
      exact List.append_assoc ..
end Go.Proofs.YtckdgafiindddaaGreatDoor

/- The resequencer at a clock input: one slot whose time has come. -/
namespace Go.Proofs.YtckdgafiindddaaGreatDoor
open Go.Em
set_option maxRecDepth 100000

theorem rel_num (x : Gp) (v : Nat) (hv : v ≤ 1000) (hlen : x.H.length ≤ 60) (N : Nat) (hN : 70000 ≤ N) :
    callF tab ext N (.fn 50) [.ptr 0 0 0, num (v : Int)] [.var x.slt.cells] = some (.sl false 10 (msgsC ((x.H.take (runL v x.H)).map (mqg x.g))), [.var (Gp.mk x.g (v + runL v x.H) x.t (x.H.drop (runL v x.H))).slt.cells]) := by
  have hle := runL_le v x.H
  have hnv : numsV x.slt.vals = nq x.H := numsV_kv (nq x.H)
  have hvl : x.slt.vals.length = x.H.length := by simp [Gp.slt, grpS, nq]
  have hmlen : x.slt.items.length = x.H.length := by simp [Gp.slt, grpS]
  have hget : ∀ j (hj : j < x.H.length) (hj' : j < (numsV x.slt.vals).length), (numsV x.slt.vals)[j] = (x.H[j].1 : Int) := fun j hj hj' => by
    simp only [hnv]
    simp [nq]
  have key := rel211 x.slt (v : Int) (runL v x.H) N hN (by rw [hvl, hmlen]) (by rw [hvl]; omega) (by rw [hvl]; exact hle)
    (fun j hj => by
      have h1 := runL_get v x.H j hj
      rw [hget j (by omega), h1]
      omega)
    (fun hj => by
      have hj' : runL v x.H < x.H.length := by rw [hnv, nq_len] at hj; exact hj
      have h1 := runL_stop v x.H hj'
      rw [hget _ hj']
      omega) (by omega) (by omega)
    (fun M hM => by rw [hnv]; exact numsG x (by omega) M hM)
  have e1 : x.slt.items.take (runL v x.H) = (x.H.take (runL v x.H)).map (mqg x.g) := by simp [Gp.slt, grpS, List.map_take]
  have e2 : Slt.mk x.slt.key ((v : Int) + (runL v x.H : Nat)) x.slt.t (x.slt.items.drop (runL v x.H)) (x.slt.vals.drop (runL v x.H)) = (Gp.mk x.g (v + runL v x.H) x.t (x.H.drop (runL v x.H))).slt := by
    simp [Gp.slt, grpS, nq, List.map_drop]
  rw [e1, e2] at key
  exact key
end Go.Proofs.YtckdgafiindddaaGreatDoor

/- The resequencer at a clock input: slots sorted by their times (insertion), slots.Expired. -/
namespace Go.Proofs.YtckdgafiindddaaGreatDoor.Tm
open Go Go.Em Go.Proofs.YtckdgafiindddaaGreatDoor
set_option maxRecDepth 100000

/-- The slot at j sinks to its place. -/
def bub : Nat → List Slt → List Slt
  | 0, L => L
  | j + 1, L => if (L.getD (j + 1) dSlt).t < (L.getD j dSlt).t then bub j ((L.set (j + 1) (L.getD j dSlt)).set j (L.getD (j + 1) dSlt)) else L
theorem bub_length : ∀ (j : Nat) (L : List Slt), (bub j L).length = L.length
  | 0, _ => rfl
  | j + 1, L => by
    unfold bub
    split
    · rw [bub_length]; simp
    · rfl
def isort : Nat → List Slt → List Slt
  | 0, L => L
  | k + 1, L => bub (k + 1) (isort k L)
theorem isort_length : ∀ (k : Nat) (L : List Slt), (isort k L).length = L.length
  | 0, _ => rfl
  | k + 1, L => by unfold isort; rw [bub_length, isort_length k L]
theorem cmpT (a b : Slt) (N : Nat) : Gam.pureD (callF tab ext (N + 20)) 93 [.agg a.cells, .agg b.cells] = some (num (ordI a.t b.t)) := by
  have h := cmp_int (N + 10) a.t b.t
  obtain ⟨⟨a1, a2, a3, a4, a5, a6⟩, a7, a8, a9, a0⟩ := a
  obtain ⟨⟨b1, b2, b3, b4, b5, b6⟩, b7, b8, b9, b0⟩ := b
  exact pure_of [(9, .p (num (ordI a8 b8)))] [] (pf1 h) (x := num (ordI a8 b8)) (bx := []) (by kernel_rfl) rfl
theorem pfI {a b c d e : Prop} {l : List Prop} (h1 : a) (h2 : b) (h3 : c) (h4 : d) (h5 : e) (h : allP l) : allP (a :: b :: c :: d :: e :: l) := ⟨h1, h2, h3, h4, h5, h⟩
section
variable (n i j : Nat) (rows : List (List X))
def isH : St := ⟨[(0, .bs 0 0 n), (1, num 0), (2, nat n), (3, .fn 93 []), (8, nat i), (9, nat j)], [.row 10 rows]⟩
def isE : St := ⟨[(0, .bs 0 0 n), (1, num 0), (2, nat n), (3, .fn 93 []), (8, nat i), (9, nat j), (34, boolX false)], [.row 10 rows]⟩
theorem isH_canon : canon 1 (isH n i j rows) = some (isH n i j rows) := by kernel_rfl
theorem i_zero (N : Nat) : run (callF tab ext N) 1 N (loopAt 150 1) (isH n i 0 rows) = some (.exit 2, isE n i 0 rows) :=
  run_of [(20, .b false)] [] (pf1 (show decide (Int.ofNat 0 > 0) = false by decide)) (lo' := []) (by kernel_rfl)
end
theorem i_step (n i j : Nat) (L : List Slt) (hn : n = L.length) (h100 : L.length ≤ 100) (hj : j + 1 < L.length) (N : Nat) (hN : 100 ≤ N) :
    (¬ L[j + 1].t < (L[j]'(by omega)).t → run (callF tab ext N) 1 N (loopAt 150 1) (isH n i (j + 1) (sltsC L)) = some (.exit 2, isE n i (j + 1) (sltsC L))) ∧
    (L[j + 1].t < (L[j]'(by omega)).t → run (callF tab ext N) 1 N (loopAt 150 1) (isH n i (j + 1) (sltsC L)) = some (.norm, isH n i j (sltsC ((L.set (j + 1) (L[j]'(by omega))).set j L[j + 1])))) := by
  obtain ⟨M, rfl⟩ : ∃ M, N = M + 20 := ⟨N - 20, by omega⟩
  have hlen := sltsC_length L
  have ga := sltsC_get hj
  have gb := sltsC_get (show j < L.length by omega)
  have h1 : decide (Int.ofNat (j + 1) > 0) = true := decide_eq_true (by grind)
  have h2 : (Int.ofNat (j + 1)).toNat < n := by simp; omega
  have h3 : (Int.ofNat j).toNat < n := by simp; omega
  have hw : IntKind.i64.wrap (Int.ofNat (j + 1) - 1) = Int.ofNat j := by rw [IntKind.wrap_i64]; simp only [Int.ofNat_eq_natCast]; omega
  have hc := cmpT L[j + 1] (L[j]'(by omega)) M
  have e2 : sltsC ((L.set (j + 1) (L[j]'(by omega))).set j L[j + 1]) = ((sltsC L).set (0 + (j + 1)) (L[j]'(by omega)).cells).set (0 + j) L[j + 1].cells := by simp [sltsC, List.map_set]
  rw [e2]
  generalize L[j + 1] = a at *
  generalize (L[j]'(by omega)) = b at *
  have ga' : (sltsC L)[0 + (Int.ofNat (j + 1)).toNat]? = some a.cells := by rw [Nat.zero_add]; exact ga
  have gb' : (sltsC L)[0 + (Int.ofNat j).toNat]? = some b.cells := by rw [Nat.zero_add]; exact gb
  have gs : ((sltsC L).set (0 + (Int.ofNat (j + 1)).toNat) b.cells)[0 + (Int.ofNat j).toNat]? = some b.cells := by
    rw [List.getElem?_set_ne (by grind)]; exact gb'
  have ho : ordI a.t b.t < 0 ↔ a.t < b.t := ordI_lt
  obtain ⟨⟨a1, a2, a3, a4, a5, a6⟩, a7, a8, a9, a0⟩ := a
  obtain ⟨⟨b1, b2, b3, b4, b5, b6⟩, b7, b8, b9, b0⟩ := b
  dsimp only at ho hc ⊢
  generalize ordI a8 b8 = r at hc ho
  constructor
  · intro h
    have h7 := decide_eq_false (fun hh => h (ho.1 hh))
    exact run_of [(20, .b true), (25, .at), (26, .ld (Slt.mk ⟨a1, a2, a3, a4, a5, a6⟩ a7 a8 a9 a0).cells), (29, .i (Int.ofNat j)), (30, .at), (31, .ld (Slt.mk ⟨b1, b2, b3, b4, b5, b6⟩ b7 b8 b9 b0).cells), (32, .p (num r)), (33, .b false)] []
      (pf8 h1 h2 ga' hw h3 gb' hc h7) (lo' := []) (by kernel_rfl)
  · intro h
    have h7 := decide_eq_true (ho.2 h)
    exact run_of [(20, .b true), (25, .at), (26, .ld (Slt.mk ⟨a1, a2, a3, a4, a5, a6⟩ a7 a8 a9 a0).cells), (29, .i (Int.ofNat j)), (30, .at), (31, .ld (Slt.mk ⟨b1, b2, b3, b4, b5, b6⟩ b7 b8 b9 b0).cells), (32, .p (num r)), (33, .b true), (41, .i (Int.ofNat j)), (44, .i (Int.ofNat j)), (45, .at), (46, .ld (Slt.mk ⟨b1, b2, b3, b4, b5, b6⟩ b7 b8 b9 b0).cells), (49, .at), (50, .ld (Slt.mk ⟨a1, a2, a3, a4, a5, a6⟩ a7 a8 a9 a0).cells), (51, .at), (1000051, .st (Slt.mk ⟨a1, a2, a3, a4, a5, a6⟩ a7 a8 a9 a0).cells), (52, .at), (1000052, .st (Slt.mk ⟨b1, b2, b3, b4, b5, b6⟩ b7 b8 b9 b0).cells), (36, .i (Int.ofNat j))] []
      (pfI h1 h2 ga' hw h3 (pf14 gb' hc h7 hw hw h3 gb' h2 ga' h2 ga' h3 gs hw)) (lo' := []) (by kernel_rfl)
theorem i_loop (n i : Nat) (N : Nat) (hN : 200 ≤ N) : ∀ (j : Nat) (L : List Slt) (F : Nat) (τ : St), n = L.length → L.length ≤ 100 → (j < L.length ∨ j = 0) → j < F → canon 1 τ = some (isH n i j (sltsC L)) → ∃ j', iter 1 (run (callF tab ext N) 1 N (loopAt 150 1)) F τ = some (.exit 2, isE n i j' (sltsC (bub j L)))
  | 0, L, F, τ, _, _, _, hF, hτ => by
    obtain ⟨F, rfl⟩ : ∃ G, F = G + 1 := ⟨F - 1, by omega⟩
    exact ⟨0, iter_end hτ (i_zero n i (sltsC L) N) (by simp)⟩
  | j + 1, L, F, τ, hn, h100, hj, hF, hτ => by
    obtain ⟨F, rfl⟩ : ∃ G, F = G + 1 := ⟨F - 1, by omega⟩
    have hj' : j + 1 < L.length := by omega
    have hs := i_step n i j L hn h100 hj' N (by omega)
    have g1 : L.getD (j + 1) dSlt = L[j + 1] := by rw [List.getD_eq_getElem?_getD, List.getElem?_eq_getElem hj']; rfl
    have g2 : L.getD j dSlt = L[j]'(by omega) := by rw [List.getD_eq_getElem?_getD, List.getElem?_eq_getElem (by omega)]; rfl
    unfold bub
    rw [g1, g2]
    by_cases h : L[j + 1].t < (L[j]'(by omega)).t
    · rw [if_pos h]
      obtain ⟨j', hi⟩ := i_loop n i N hN j ((L.set (j + 1) (L[j]'(by omega))).set j L[j + 1]) F _ (by grind) (by grind) (by grind) (by omega) (isH_canon ..)
      exact ⟨j', iter_step hτ (hs.2 h) hi⟩
    · rw [if_neg h]
      grind[iter_end]

section
variable (n i : Nat) (rows : List (List X))
def oH : St := ⟨[(0, .bs 0 0 n), (1, num 0), (2, nat n), (3, .fn 93 []), (8, nat i)], [.row 10 rows]⟩
def oE : St := ⟨[(0, .bs 0 0 n), (1, num 0), (2, nat n), (3, .fn 93 []), (8, nat i), (14, boolX false)], [.row 10 rows]⟩
theorem oH_canon : canon 1 (oH n i rows) = some (oH n i rows) := by kernel_rfl
end
theorem o_loop (L : List Slt) (h100 : L.length ≤ 100) (N : Nat) (hN : 200 ≤ N) :
    run (callF tab ext N) 1 N (.loop (loopAt 150 0)) (oH L.length 1 (sltsC L)) = some (.exit 0, oE L.length (L.length - 1 + 1) (sltsC (isort (L.length - 1) L))) := by
  refine loop_for (σ := fun k => oH L.length (k + 1) (sltsC (isort k L))) (k := L.length - 1) (oH_canon ..) (fun k hk => ?_) ?_ (by simp) (by omega)
  · have hl := isort_length k L
    obtain ⟨j', hi⟩ := i_loop L.length (k + 1) N hN (k + 1) (isort k L) N (isH L.length (k + 1) (k + 1) (sltsC (isort k L))) hl.symm (by omega) (by omega) (by omega) (isH_canon ..)
    have hi : run (callF tab ext N) 1 N (.loop (loopAt 150 1)) (isH L.length (k + 1) (k + 1) (sltsC (isort k L))) = some (.exit 2, isE L.length (k + 1) j' (sltsC (isort (k + 1) L))) := hi
    exact ⟨oH L.length (k + 1 + 1) (sltsC (isort (k + 1) L)), run_of [(14, .b true), (16, .i (Int.ofNat (k + 1 + 1)))] [(.exit 2, isE L.length (k + 1) j' (sltsC (isort (k + 1) L)))] (pf3 (lt_nat (j := k + 1) (k := L.length) (by omega)) hi (next_nat (j := k + 1) (by omega))) (lo' := []) (by kernel_rfl), oH_canon ..⟩
  · exact run_of [(14, .b false)] [] (pf1 (nlt_nat (j := L.length - 1 + 1) (k := L.length) (by omega))) (lo' := []) (by kernel_rfl)
theorem sort300 (L : List Slt) (h100 : L.length ≤ 100) (N : Nat) (hN : 201 ≤ N) : callF tab ext N (.fn 150) [.bs 0 0 L.length, num 0, nat L.length, .fn 93 []] [.row 10 (sltsC L)] = some (.tup [], [.row 10 (sltsC (isort (L.length - 1) L))]) := by
  obtain ⟨M, rfl⟩ : ∃ M, N = M + 1 := ⟨N - 1, by omega⟩
  exact callF_of [] [(.exit 0, oE L.length (L.length - 1 + 1) (sltsC (isort (L.length - 1) L)))] (pf1 (o_loop L h100 M (by omega))) (by kernel_rfl)
section
variable (n : Nat) (rows : List (List X))
def s0H : St := ⟨[(0, .bs 0 0 n), (1, nat n), (2, .fn 93 []), (6, num 20), (7, num 0), (8, num 20)], [.row 10 rows]⟩
def s0E : St := ⟨[(0, .bs 0 0 n), (1, nat n), (2, .fn 93 []), (6, num 20), (7, num 0), (8, num 20), (13, boolX false)], [.row 10 rows]⟩
def s2H : St := ⟨[(0, .bs 0 0 n), (1, nat n), (2, .fn 93 []), (6, num 20)], [.row 10 rows]⟩
def s2E : St := ⟨[(0, .bs 0 0 n), (1, nat n), (2, .fn 93 []), (6, num 20), (30, boolX false)], [.row 10 rows]⟩
end
theorem sort216 (L : List Slt) (h : L.length < 20) (N : Nat) (hN : 203 ≤ N) : callF tab ext N (.fn 114) [.bs 0 0 L.length, nat L.length, .fn 93 []] [.row 10 (sltsC L)] = some (.tup [], [.row 10 (sltsC (isort (L.length - 1) L))]) := by
  obtain ⟨M, rfl⟩ : ∃ M, N = M + 1 := ⟨N - 1, by omega⟩
  have h1 := sort300 L (by omega) M (by omega)
  have e1 : decide ((20 : Int) ≤ Int.ofNat L.length) = false := decide_eq_false (by grind)
  have e2 : decide ((20 : Int) < Int.ofNat L.length) = false := decide_eq_false (by grind)
  have hl0 : run (callF tab ext M) 1 M (.loop (loopAt 114 0)) (s0H L.length (sltsC L)) = some (.exit 0, s0E L.length (sltsC L)) :=
    loop_for (σ := fun _ => s0H L.length (sltsC L)) (k := 0) (by kernel_rfl) (fun j hj => by omega) (run_of [(13, .b false)] [] (pf1 e1) (lo' := []) (by kernel_rfl)) (by simp) (by omega)
  have hl2 : run (callF tab ext M) 1 M (.loop (loopAt 114 1)) (s2H L.length (sltsC (isort (L.length - 1) L))) = some (.exit 2, s2E L.length (sltsC (isort (L.length - 1) L))) :=
    loop_for (σ := fun _ => s2H L.length (sltsC (isort (L.length - 1) L))) (k := 0) (by kernel_rfl) (fun j hj => by omega) (run_of [(30, .b false)] [] (pf1 e2) (lo' := []) (by kernel_rfl)) (by simp) (by omega)
  generalize sltsC (isort (L.length - 1) L) = R at *
  exact callF_of [(27, .r (.tup []) [.row 10 R])] [(.exit 0, s0E L.length (sltsC L)), (.exit 2, s2E L.length R)] (pf3 hl0 h1 hl2) (by kernel_rfl)
theorem sort141 (L : List Slt) (h : L.length < 20) (N : Nat) (hN : 204 ≤ N) : callF tab ext N (.fn 92) [.bs 0 0 L.length, .fn 93 []] [.row 10 (sltsC L)] = some (.tup [], [.row 10 (sltsC (isort (L.length - 1) L))]) := by
  obtain ⟨M, rfl⟩ : ∃ M, N = M + 1 := ⟨N - 1, by omega⟩
  exact callF_of [(8, .r (.tup []) [.row 10 (sltsC (isort (L.length - 1) L))])] [] (pf1 (sort216 L h M (by omega))) (by kernel_rfl)
end Go.Proofs.YtckdgafiindddaaGreatDoor.Tm

/- The resequencer: a run over messages and clock inputs, in plain terms. -/
namespace Go.Proofs.YtckdgafiindddaaGreatDoor
open Go.Em
set_option maxRecDepth 100000

/-! ### Groups sorted by their times -/
def dG : Gp := ⟨0, 0, 0, []⟩
def bubG : Nat → List Gp → List Gp
  | 0, L => L
  | j + 1, L => if (L.getD (j + 1) dG).t < (L.getD j dG).t then bubG j ((L.set (j + 1) (L.getD j dG)).set j (L.getD (j + 1) dG)) else L
def isortG : Nat → List Gp → List Gp
  | 0, L => L
  | k + 1, L => bubG (k + 1) (isortG k L)
theorem bubG_length : ∀ (j : Nat) (L : List Gp), (bubG j L).length = L.length
  | 0, _ => rfl
  | j + 1, L => by
    unfold bubG
    split
    · rw [bubG_length]; simp
    · rfl
theorem isortG_length : ∀ (k : Nat) (L : List Gp), (isortG k L).length = L.length
  | 0, _ => rfl
  | k + 1, L => by unfold isortG; rw [bubG_length, isortG_length k L]
theorem bub_map : ∀ (j : Nat) (L : List Gp), (j < L.length ∨ j = 0) → Tm.bub j (L.map Gp.slt) = (bubG j L).map Gp.slt
  | 0, _, _ => rfl
  | j + 1, L, h => by
    have hj : j + 1 < L.length := by omega
    have g1 : (L.map Gp.slt).getD (j + 1) dSlt = L[j + 1].slt := by rw [List.getD_eq_getElem?_getD, List.getElem?_eq_getElem (by simpa using hj)]; simp
    have g2 : (L.map Gp.slt).getD j dSlt = (L[j]'(by omega)).slt := by rw [List.getD_eq_getElem?_getD, List.getElem?_eq_getElem (by simp; omega)]; simp
    have g3 : L.getD (j + 1) dG = L[j + 1] := by rw [List.getD_eq_getElem?_getD, List.getElem?_eq_getElem hj]; rfl
    have g4 : L.getD j dG = L[j]'(by omega) := by rw [List.getD_eq_getElem?_getD, List.getElem?_eq_getElem (by omega)]; rfl
    unfold Tm.bub bubG
    rw [g1, g2, g3, g4]
    show (if L[j + 1].t < (L[j]'(by omega)).t then _ else _) = _
    split
    · rw [← List.map_set, ← List.map_set]
      exact bub_map j _ (by simp; omega)
    · rfl
theorem isort_map : ∀ (k : Nat) (L : List Gp), (k < L.length ∨ k = 0) → Tm.isort k (L.map Gp.slt) = (isortG k L).map Gp.slt
  | 0, _, _ => rfl
  | k + 1, L, h => by
    unfold Tm.isort isortG
    rw [isort_map k L (by omega)]
    exact bub_map (k + 1) _ (by rw [isortG_length]; exact h)
theorem bubG_perm : ∀ (j : Nat) (L : List Gp), (j < L.length ∨ j = 0) → (bubG j L).Perm L
  | 0, _, _ => List.Perm.refl _
  | j + 1, L, h => by
    have hj : j + 1 < L.length := by omega
    have g3 : L.getD (j + 1) dG = L[j + 1] := by rw [List.getD_eq_getElem?_getD, List.getElem?_eq_getElem hj]; rfl
    have g4 : L.getD j dG = L[j]'(by omega) := by rw [List.getD_eq_getElem?_getD, List.getElem?_eq_getElem (by omega)]; rfl
    unfold bubG
    rw [g3, g4]
    split
    · exact (bubG_perm j _ (by simp; omega)).trans (List.set_set_perm hj (by omega))
    · exact List.Perm.refl _
theorem isortG_perm : ∀ (k : Nat) (L : List Gp), (k < L.length ∨ k = 0) → (isortG k L).Perm L
  | 0, _, _ => List.Perm.refl _
  | k + 1, L, h => by
    unfold isortG
    exact (bubG_perm (k + 1) _ (by rw [isortG_length]; exact h)).trans (isortG_perm k L (by omega))
/-- The groups whose time has come, in order. -/
def exG (now : Int) (gs : List Gp) : List Gp := isortG ((gs.filter (expB now)).length - 1) (gs.filter (expB now))
theorem exG_perm (now : Int) (gs : List Gp) : (exG now gs).Perm (gs.filter (expB now)) := isortG_perm _ _ (by omega)
theorem exG_mem {now : Int} {gs : List Gp} (h : StI gs) : ∀ x, x ∈ exG now gs → x ∈ gs ∧ x.H ≠ [] := fun x hx => by
  have h1 := List.mem_filter.1 ((exG_perm now gs).mem_iff.1 hx)
  have h2 : 0 < x.t ∧ x.t ≤ now := of_decide_eq_true h1.2
  exact ⟨h1.1, (h.gj x h1.1).1.due (by omega)⟩
theorem exG_ne {now : Int} {gs : List Gp} (h : StI gs) : (exG now gs).Pairwise fun a b => a.g ≠ b.g := by
  have h1 : (gs.filter (expB now)).Pairwise fun a b => a.g ≠ b.g := (List.Pairwise.filter _ h.srt).imp fun hab e => by omega
  exact (List.Perm.pairwise_iff (fun hab e => hab e.symm) (exG_perm now gs)).2 h1

/-! ### A run -/
def clkS (k : Nat) : Stp := ⟨(k : Int) + 1, [0, 3]⟩
def clkC (k : Nat) (t now : Int) (gs : List Gp) : Ck := (exG now gs).foldl (clk1 (clkS k) t now) ⟨gs, [], []⟩
def arC (t : Int) (q : Rn) (a : Arv) : Rn :=
  ⟨q.i + 1, q.S ++ (clkC q.i t (q.now + (a.d : Int)) q.gs).O, q.L, (clkC q.i t (q.now + (a.d : Int)) q.gs).gs, q.now + (a.d : Int)⟩
def arA (t l : Int) (q : Rn) (a : Arv) : Rn := if a.c then arC t q a else arM t l q a
def rnA (t l : Int) (av : List Arv) : Rn := av.foldl (arA t l) rn0
/-- How many messages arrive. -/
def cntA (av : List Arv) : Nat := (av.filter fun a => !a.c).length
structure RnX (q : Rn) (m : Nat) : Prop where
  I : RnI q
  num : NumI q.gs q.S
  stm : StmI q.i q.S
  cnt : heldG q.gs + q.S.length + q.L.length = m
  le : m ≤ q.i
theorem rnX_0 : RnX rn0 0 := ⟨rnI_0, numI_nil _, stmI_nil, rfl, Nat.le_refl 0⟩
theorem clkC_I {gs : List Gp} {S : List Otp} (h : StI gs) (hn : NumI gs S) (k : Nat) (t now : Int) : CkI (clkS k) gs S (clkC k t now gs) :=
  (clk_fold t now (exG now gs) ⟨gs, [], []⟩ ⟨h, by simp, by simp, undI_nil _, by simpa using hn, rfl⟩ (exG_mem h) (exG_ne h)).1
theorem rnX_step {q : Rn} {m : Nat} (h : RnX q m) (t l : Int) (a : Arv) (ha : a.ok) : RnX (arA t l q a) (m + if a.c then 0 else 1) := by
  unfold arA
  by_cases hc : a.c = true
  · rw [if_pos hc, if_pos hc]
    have hk := clkC_I h.I.st h.num q.i t (q.now + (a.d : Int))
    have h1 := hk.cnt
    have h2 := h.cnt
    have h3 := h.le
    have hd := ha.2.2
    have h4 := h.I.lo
    have h5 := h.I.hi
    have h6 := hk.sts.stm (by show 2 ≤ 9; decide)
    refine ⟨⟨hk.st, ?_, fun o ho => ?_, h.I.ml, ?_, ?_⟩, hk.num, h.stm.ext h6.1 h6.2.1 h6.2.2, ?_, ?_⟩
    · show heldG (clkC q.i t (q.now + (a.d : Int)) q.gs).gs + (q.S ++ _).length + q.L.length ≤ q.i + 1
      rw [List.length_append]
      omega
    · rcases List.mem_append.1 ho with ho | ho
      · exact h.I.mo o ho
      · exact hk.mo o ho
    · show 0 ≤ q.now + (a.d : Int)
      omega
    · show q.now + (a.d : Int) ≤ ((q.i + 1 : Nat) : Int) * 255
      omega
    · show heldG (clkC q.i t (q.now + (a.d : Int)) q.gs).gs + (q.S ++ _).length + q.L.length = m + 0
      rw [List.length_append]
      omega
    · show m + 0 ≤ q.i + 1
      omega
  · rw [if_neg hc, if_neg hc]
    have hk := held_step q.gs t l (q.now + (a.d : Int)) (Int.ofNat (a.g % 4)) (a.n % 16 + 1) q.i
    have h2 := h.cnt
    have h3 := h.le
    refine ⟨rnI_arM h.I a ha, msg_num h.num h.I.st .., msg_stm h.stm .., ?_, ?_⟩
    · simp only [arM, List.length_append]
      omega
    · show m + 1 ≤ q.i + 1
      omega
theorem rnA_snoc (t l : Int) (av : List Arv) (j : Nat) (h : j < av.length) : rnA t l (av.take (j + 1)) = arA t l (rnA t l (av.take j)) av[j] := by
  unfold rnA
  rw [List.take_succ_eq_append_getElem h, List.foldl_append]
  rfl
theorem arA_i (t l : Int) (q : Rn) (a : Arv) : (arA t l q a).i = q.i + 1 := by unfold arA; split <;> rfl
theorem rnA_X (t l : Int) (av : List Arv) (h : ∀ a, a ∈ av → a.ok) : RnX (rnA t l av) (cntA av) ∧ (rnA t l av).i = av.length := by
  have key : ∀ (av : List Arv) (q : Rn) (m : Nat), RnX q m → (∀ a, a ∈ av → a.ok) → RnX (av.foldl (arA t l) q) (m + cntA av) ∧ (av.foldl (arA t l) q).i = q.i + av.length := by
    intro av
    induction av with
    | nil => intro q m hq _; exact ⟨hq, rfl⟩
    | cons a r ih =>
      intro q m hq ha
      have := ih (arA t l q a) _ (rnX_step hq t l a (ha a List.mem_cons_self)) (fun b hb => ha b (List.mem_cons_of_mem _ hb))
      rw [List.foldl_cons]
      refine ⟨?_, ?_⟩
      · have e : m + cntA (a :: r) = m + (if a.c then 0 else 1) + cntA r := by
          unfold cntA
          rw [List.filter_cons]
          cases a.c
          · simp; omega
          · simp
        rw [e]
        exact this.1
      · rw [this.2, arA_i, List.length_cons]
        omega
  have := key av rn0 0 rnX_0 h
  rw [Nat.zero_add] at this
  exact ⟨this.1, by rw [show rnA t l av = av.foldl (arA t l) rn0 from rfl, this.2]; show 0 + av.length = _; omega⟩
end Go.Proofs.YtckdgafiindddaaGreatDoor

/- slots.Expired: copies of the slots whose time has come, sorted by their times. -/
namespace Go.Proofs.YtckdgafiindddaaGreatDoor
open Go.Em
set_option maxRecDepth 100000

def expS (d : Int) (x : Slt) : Bool := decide (x.t > 0) && decide (x.t ≤ d)
section
variable (es acc : List (List X)) (d : Int) (n j : Nat) (N : Nat)
def exH : St := ⟨[(1, num d), (5, .bs 0 0 n), (9, .sl false 10 es), (10, nat es.length), (11, nat j)], [.row 10 acc]⟩
def exE : St := ⟨[(1, num d), (5, .bs 0 0 n), (9, .sl false 10 es), (10, nat es.length), (11, nat j), (12, boolX false)], [.row 10 acc]⟩
theorem ex_end (h : ¬ j < es.length) : run (callF tab ext N) 0 N (loopAt 53 0) (exH es acc d n j) = some (.exit 0, exE es acc d n j) :=
  run_of [(12, .b false)] [] (pf1 (nlt_nat h)) (lo' := []) (by kernel_rfl)
theorem ex_skip (x : Slt) (hj : j < es.length) (hj2 : j < 100000) (hx : es[j]? = some x.cells) (h : expS d x = false) :
    ∃ υ, run (callF tab ext N) 0 N (loopAt 53 0) (exH es acc d n j) = some (.norm, υ) ∧ canon 0 υ = some (exH es acc d n (j + 1)) := by
  have hnx := next_nat (j := j) (by omega)
  have h0 := lt_nat hj
  unfold expS at h
  obtain ⟨⟨x1, x2, x3, x4, x5, x6⟩, x7, x8, ms, vs⟩ := x
  dsimp only at h
  cases h1 : (decide (x8 > 0)) with
  | true =>
    rw [h1, Bool.true_and] at h
    exact rd_of [(12, .b true), (13, .e (Slt.mk ⟨x1, x2, x3, x4, x5, x6⟩ x7 x8 ms vs).cells), (17, .b true), (22, .b false), (29, .i (Int.ofNat (j + 1)))] (pf5 h0 hx h1 h hnx) (by kernel_rfl)
  | false => exact rd_of [(12, .b true), (13, .e (Slt.mk ⟨x1, x2, x3, x4, x5, x6⟩ x7 x8 ms vs).cells), (17, .b false), (29, .i (Int.ofNat (j + 1)))] (pf4 h0 hx h1 hnx) (by kernel_rfl)
theorem ex_take (x : Slt) (hj : j < es.length) (hj2 : j < 100000) (hx : es[j]? = some x.cells) (h : expS d x = true) (hn : n = acc.length) (hn2 : n < 100000) (hc : Gam.pureD (callF tab ext N) 54 [.agg x.cells] = some (.agg x.cells)) :
    ∃ υ, run (callF tab ext N) 0 N (loopAt 53 0) (exH es acc d n j) = some (.norm, υ) ∧ canon 0 υ = some (exH es (acc ++ [x.cells]) d (n + 1) (j + 1)) := by
  have hnx := next_nat (j := j) (by omega)
  have h0 := lt_nat hj
  have ha := app_ok (acc := acc) n 0 152 (by omega) (by omega) (by omega)
  unfold expS at h
  rw [Bool.and_eq_true] at h
  obtain ⟨⟨x1, x2, x3, x4, x5, x6⟩, x7, x8, ms, vs⟩ := x
  exact rd_of [(12, .b true), (13, .e (Slt.mk ⟨x1, x2, x3, x4, x5, x6⟩ x7 x8 ms vs).cells), (17, .b true), (22, .b true), (26, .p (.agg (Slt.mk ⟨x1, x2, x3, x4, x5, x6⟩ x7 x8 ms vs).cells)), (28, .app), (29, .i (Int.ofNat (j + 1)))] (pf7 h0 hx h.1 h.2 hc ha hnx) (by kernel_rfl)
end
theorem sltsC_app (a b : List Slt) : sltsC (a ++ b) = sltsC a ++ sltsC b := by simp [sltsC]
theorem expired_pure (s : Stt) (hs : s.small) (d : Int) (hF : (s.slots.filter (expS d)).length < 20) (N : Nat) (hN : 190010 ≤ N) :
    Gam.pureD (callF tab ext N) 53 [.agg s.cells, num d] = some (.sl false 10 (sltsC (Tm.isort ((s.slots.filter (expS d)).length - 1) (s.slots.filter (expS d))))) := by
  obtain ⟨M, rfl⟩ : ∃ M, N = M + 1 := ⟨N - 1, by omega⟩
  obtain ⟨a, b, ss⟩ := s
  have hok := hs.2
  have hsl := hs.1
  dsimp only at hok hsl hF ⊢
  have hlen := sltsC_length ss
  have hl : run (callF tab ext M) 0 M (.loop (loopAt 53 0)) ⟨[(1, num d), (5, .bs 1 0 0), (9, .sl false 10 (sltsC ss)), (10, nat (sltsC ss).length), (11, num 0)], [.var [num a, num b, .sl false 10 (sltsC ss)], .row 10 []]⟩ = some (.exit 0, exE (sltsC ss) (sltsC (ss.filter (expS d))) d (ss.filter (expS d)).length (sltsC ss).length) := by
    refine loop_for (σ := fun j => exH (sltsC ss) (sltsC ((ss.take j).filter (expS d))) d ((ss.take j).filter (expS d)).length j) (k := (sltsC ss).length) (by kernel_rfl) (fun j hj => ?_) ?_ (by simp) (by omega)
    · have hj' : j < ss.length := by omega
      have hx := sltsC_get hj'
      have hle := List.length_filter_le (expS d) (ss.take j)
      rw [List.length_take] at hle
      rw [List.take_succ_eq_append_getElem hj', List.filter_append, List.length_append, sltsC_app]
      cases he : expS d ss[j] with
      | true =>
        have e1 : [ss[j]].filter (expS d) = [ss[j]] := by rw [List.filter_cons, if_pos he]; rfl
        rw [e1]
        exact ex_take (sltsC ss) _ d _ j M ss[j] (by omega) (by omega) hx he (sltsC_length _).symm (by omega) (clone_slot_pure M ss[j] (hok _ (List.getElem_mem hj')).1 (by omega))
      | false =>
        have e1 : [ss[j]].filter (expS d) = [] := by rw [List.filter_cons, if_neg (by rw [he]; decide)]; rfl
        rw [e1]
        have e2 : sltsC (List.filter (expS d) (List.take j ss)) ++ sltsC [] = sltsC (List.filter (expS d) (List.take j ss)) := List.append_nil _
        rw [e2]
        exact ex_skip (sltsC ss) _ d _ j M ss[j] (by omega) (by omega) hx he
    · have e : ss.take (sltsC ss).length = ss := by rw [hlen, List.take_length]
      rw [e]
      exact ex_end (sltsC ss) _ d _ _ M (by omega)
  have hso := Tm.sort141 (ss.filter (expS d)) hF M (by omega)
  have hil := Tm.isort_length ((ss.filter (expS d)).length - 1) (ss.filter (expS d))
  have hrl := sltsC_length (Tm.isort ((ss.filter (expS d)).length - 1) (ss.filter (expS d)))
  generalize Tm.isort ((ss.filter (expS d)).length - 1) (ss.filter (expS d)) = R at *
  generalize ss.filter (expS d) = F at *
  exact pure_of [(31, .r (.tup []) [.row 10 (sltsC R)])] [(.exit 0, exE (sltsC ss) (sltsC F) d F.length (sltsC ss).length)] (pf2 hl hso) (x := .bs 0 0 F.length) (bx := [.row 10 (sltsC R)]) (by kernel_rfl) (data_bs (bx := [.row 10 (sltsC R)]) (i := 0) rfl (by rw [hrl, hil]))
end Go.Proofs.YtckdgafiindddaaGreatDoor

/- The resequencer at a clock input. -/
namespace Go.Proofs.YtckdgafiindddaaGreatDoor
open Go.Em
set_option maxRecDepth 100000

/-- A clock input. -/
def clkI (e now : Int) : Inp := ⟨2, now, ⟨e, [0, 3]⟩, ⟨⟨0, []⟩, 0, [], .mk 0 0 0 ⟨#[]⟩ [] []⟩, 0, false, false, .mk 0 0 0 ⟨#[]⟩ [] []⟩
section
variable (t l e now : Int) (es ss outs fates : List (List X)) (n j c : Nat) (N : Nat)
def zerO : List X := [num 0, num 0, .sl true 10 [], .sl true 11 [], .sl true 11 [], .sl true 6 [], .sl true 10 []]
def xkB : List Bx := [.var (nodR t l).cells, .var (clkI e now).cells, .var zerO, .var [strX ordT, num e, .sl false 1 (intsC [0, 3]), num 0, num 0, .sl true 10 [], .bs 5 0 c, .sl true 11 [], .bs 6 0 c, .sl true 10 []], .var [num 0, num 0, .sl false 10 ss], .row 11 outs, .row 6 fates]
def xkH : St := ⟨[(3, .ptr 0 0 0), (5, .ptr 1 0 0), (6, .ptr 2 0 0), (7, .ptr 3 0 0), (8, .ptr 4 0 0), (25, .sl false 10 es), (26, nat n), (27, nat j)], xkB t l e now ss outs fates c⟩
def xkE : St := ⟨[(3, .ptr 0 0 0), (5, .ptr 1 0 0), (6, .ptr 2 0 0), (7, .ptr 3 0 0), (8, .ptr 4 0 0), (25, .sl false 10 es), (26, nat n), (27, nat j), (28, boolX false)], xkB t l e now ss outs fates c⟩
theorem xk_canon : canon 0 (xkH t l e now es ss outs fates n j c) = some (xkH t l e now es ss outs fates n j c) := by kernel_rfl
theorem xk_end (h : ¬ j < n) : run (callF tab ext N) 0 N (loopAt 28 0) (xkH t l e now es ss outs fates n j c) = some (.exit 0, xkE t l e now es ss outs fates n j c) :=
  run_of [(28, .b false)] [] (pf1 (nlt_nat h)) (lo' := []) (by kernel_rfl)
theorem xk_round (g xn xt xn' t' v : Int) (s2 outs2 fates2 ms vs ms' vs' A L : List (List X)) (c2 : Nat) (hj : j < n) (hj2 : j < 100000) (he : es[j]? = some (slC 2 g 0 xn xt ⟨#[]⟩ [] [] ms vs))
    (h150 : Gam.pureD (callF tab ext N) 45 [.agg (slC 2 g 0 xn xt ⟨#[]⟩ [] [] ms vs)] = some (.sl false 1 L)) (hL : 0 < L.length) (hv : L[0]? = some [num v])
    (h211 : callF tab ext N (.fn 50) [.ptr 0 0 0, num v] [.var (slC 2 g 0 xn xt ⟨#[]⟩ [] [] ms vs)] = some (.sl false 10 A, [.var (slC 2 g 0 xn' xt ⟨#[]⟩ [] [] ms' vs')]))
    (h212 : callF tab ext N (.fn 51) [.ptr 0 0 0, .sl false 10 A] (seB ordT e (intsC [0, 3]) c outs fates) = some (.tup [], seD ordT e (intsC [0, 3]) c2 outs2 fates2))
    (h210 : Gam.pureD (callF tab ext N) 49 [.agg (nodR t l).cells, .agg (slC 2 g 0 xn' xt ⟨#[]⟩ [] [] ms' vs'), num now] = some (num t'))
    (h126 : Gam.pureD (callF tab ext N) 52 [.agg [num 0, num 0, .sl false 10 ss], .agg (slC 2 g 0 xn' t' ⟨#[]⟩ [] [] ms' vs')] = some (.tup [.agg [num 0, num 0, .sl false 10 s2], num 0])) :
    ∃ υ, run (callF tab ext N) 0 N (loopAt 28 0) (xkH t l e now es ss outs fates n j c) = some (.norm, υ) ∧ canon 0 υ = some (xkH t l e now es s2 outs2 fates2 n (j + 1) c2) := by
  have h1 := lt_nat hj
  have h2 : decide (Int.ofNat L.length > 0) = true := decide_eq_true (by simp only [Int.ofNat_eq_natCast]; omega)
  have h3 := next_nat (j := j) (by omega)
  exact rd_of [(28, .b true), (29, .e (slC 2 g 0 xn xt ⟨#[]⟩ [] [] ms vs)), (32, .p (.sl false 1 L)), (35, .b true), (38, .e [num v]), (40, .r (.sl false 10 A) [.var (slC 2 g 0 xn' xt ⟨#[]⟩ [] [] ms' vs')]), (41, .r (.tup []) (seD ordT e (intsC [0, 3]) c2 outs2 fates2)), (46, .p (num t')), (51, .p (.tup [.agg [num 0, num 0, .sl false 10 s2], num 0])), (57, .i (Int.ofNat (j + 1)))]
    (pf10 h1 he h150 h2 hv h211 h212 h210 h126 h3) (by kernel_rfl)
theorem xk_fn (h132 : Gam.pureD (callF tab ext N) 29 [.agg [num 0, num 0, .sl false 10 ss]] = some (.agg [num 0, num 0, .sl false 10 ss])) (h213 : Gam.pureD (callF tab ext N) 53 [.agg [num 0, num 0, .sl false 10 ss], num now] = some (.sl false 10 es))
    (s2 : List (List X)) (hl : run (callF tab ext N) 0 N (.loop (loopAt 28 0)) (xkH t l e now es ss [] [] es.length 0 0) = some (.exit 0, xkE t l e now es s2 outs fates n j c)) (ho : c = outs.length) (hf : c = fates.length) :
    Gam.pureD (callF tab ext (N + 1)) 28 [.agg (nodR t l).cells, .agg [num 0, num 0, .sl false 10 ss], .agg (clkI e now).cells] = some (.agg (oqC outs fates [] s2)) := by
  have hl' : run (callF tab ext N) 0 N (.loop (loopAt 28 0)) ⟨[(3, .ptr 0 0 0), (5, .ptr 2 0 0), (6, .ptr 3 0 0), (7, .ptr 4 0 0), (8, .ptr 5 0 0), (25, .sl false 10 es), (26, nat es.length), (27, num 0)], [.var (nodR t l).cells, .var [num 0, num 0, .sl false 10 ss], .var (clkI e now).cells, .var zerO, .var [strX ordT, num e, .sl false 1 (intsC [0, 3]), num 0, num 0, .sl true 10 [], .bs 6 0 0, .sl true 11 [], .bs 7 0 0, .sl true 10 []], .var [num 0, num 0, .sl false 10 ss], .row 11 [], .row 6 []]⟩ = some (.exit 0, xkE t l e now es s2 outs fates n j c) := by
    rw [← hl]
    exact loop_canon (by kernel_rfl) (xk_canon ..)
  exact pure_of [(21, .p (.agg [num 0, num 0, .sl false 10 ss])), (25, .p (.sl false 10 es))] [(.exit 0, xkE t l e now es s2 outs fates n j c)] (pf3 h132 h213 hl')
    (x := .agg [num 0, num 0, .sl false 10 s2, .bs 0 0 c, .sl true 11 [], .bs 1 0 c, .sl true 10 []]) (bx := [.row 11 outs, .row 6 fates]) (by kernel_rfl)
    (data_agg (dataL_cons rfl (dataL_cons rfl (dataL_cons rfl (dataL_cons (data_bs rfl ho) (dataL_cons rfl (dataL_cons (data_bs rfl hf) (dataL_cons rfl rfl))))))))
theorem step52c (o1 o2 o3 : List (List X)) (h : Gam.pureD (callF tab ext N) 28 [.agg (nodR t l).cells, .agg [num 0, num 0, .sl false 10 ss], .agg (clkI e now).cells] = some (.agg (oqC o1 o2 [] o3))) :
    Gam.pureD (callF tab ext (N + 1)) 14 [.agg (nodR t l).cells, .agg [num 0, num 0, .sl false 10 ss], .agg (clkI e now).cells] = some (.agg (oqC o1 o2 [] o3)) :=
  pure_of [(23, .p (.agg (oqC o1 o2 [] o3)))] [] (pf1 h) (x := .agg (oqC o1 o2 [] o3)) (bx := []) (by kernel_rfl) rfl
end
theorem StI.few {gs : List Gp} (h : StI gs) : gs.length ≤ 4 := by
  have key := srt_len (gs.map (·.g)) (-1) 3 (by rw [List.pairwise_map]; exact h.srt) (fun v hv => by
    obtain ⟨x, hx, rfl⟩ := List.mem_map.1 hv
    have := (h.gj x hx).2
    omega)
  rw [List.length_map] at key
  omega
theorem exp_filter (now : Int) (gs : List Gp) : (gst gs).slots.filter (expS now) = (gs.filter (expB now)).map Gp.slt := by
  show (gs.map Gp.slt).filter (expS now) = _
  rw [List.filter_map]
  congr 1
  apply List.filter_congr
  intro x _
  show (decide (x.t > 0) && decide (x.t ≤ now)) = decide (0 < x.t ∧ x.t ≤ now)
  rw [Bool.decide_and]
theorem exp213 {gs : List Gp} (h : StI gs) (now : Int) (N : Nat) (hN : 190010 ≤ N) : Gam.pureD (callF tab ext N) 53 [.agg (gst gs).cells, num now] = some (.sl false 10 (sltsC ((exG now gs).map Gp.slt))) := by
  have hf := h.few
  have hl := List.length_filter_le (expB now) gs
  have key := expired_pure (gst gs) (gst_small gs h.gsI.sm) now (by rw [exp_filter, List.length_map]; omega) N hN
  rw [exp_filter, List.length_map, isort_map _ _ (by omega)] at key
  exact key
theorem GJ.h16 {x : Gp} (h : GJ x) : ∀ p, p ∈ x.H → 1 ≤ p.1 ∧ p.1 ≤ 16 := fun p hp => by
  have h1 := h.gt p hp
  have h2 := h.le p hp
  omega
theorem clk_at {gs : List Gp} (h : StI gs) (k : Nat) (t l now : Int) (ht : 0 ≤ t) (ht2 : t ≤ 100000) (hw0 : 0 ≤ now) (hw2 : now ≤ 1000000) (hh : heldG gs ≤ 1000) (N : Nat) (hN : 201000 ≤ N) :
    Gam.pureD (callF tab ext N) 14 [.agg (nodR t l).cells, .agg (gst gs).cells, .agg (clkI ((k : Int) + 1) now).cells] = some (.agg (oqC (otpsC (clkC k t now gs).O) (ftesC (clkC k t now gs).F) [] (sltsC (gst (clkC k t now gs).gs).slots))) := by
  obtain ⟨M, rfl⟩ : ∃ M, N = M + 2 := ⟨N - 2, by omega⟩
  refine step52c t l _ now _ (M + 1) _ _ _ ?_
  have hE := exG_mem (now := now) h
  have hne := exG_ne (now := now) h
  have hfew := h.few
  have hEl : (exG now gs).length ≤ 4 := by
    have h1 := (exG_perm now gs).length_eq
    have h2 := List.length_filter_le (expB now) gs
    omega
  have h132 := clone_state_pure M (gst gs) (gst_small gs h.gsI.sm).ok (by omega)
  have h213 := exp213 h now M (by omega)
  have key : ∀ j, j ≤ (exG now gs).length → CkI (clkS k) gs [] (((exG now gs).take j).foldl (clk1 (clkS k) t now) ⟨gs, [], []⟩) ∧ ∀ hj : j < (exG now gs).length, (exG now gs)[j] ∈ (((exG now gs).take j).foldl (clk1 (clkS k) t now) ⟨gs, [], []⟩).gs := fun j _ => by
    have := clk_fold (s := clkS k) (g0 := gs) (S := []) t now ((exG now gs).take j) ⟨gs, [], []⟩ ⟨h, by simp, by simp, undI_nil _, numI_nil _, rfl⟩ (fun x hx => hE x (List.mem_of_mem_take hx)) hne.take
    refine ⟨this.1, fun hj => this.2.2.1 _ (hE _ (List.getElem_mem hj)).1 fun x hx => ?_⟩
    obtain ⟨i, hi, rfl⟩ := List.getElem_of_mem hx
    rw [List.length_take] at hi
    rw [List.getElem_take]
    exact List.pairwise_iff_getElem.1 hne i j (by omega) hj (by omega)
  have hck := (key _ (Nat.le_refl _)).1
  rw [List.take_length] at hck
  show Gam.pureD _ _ [_, .agg [num 0, num 0, .sl false 10 (sltsC (gst gs).slots)], _] = _
  refine xk_fn t l ((k : Int) + 1) now (sltsC ((exG now gs).map Gp.slt)) (sltsC (gst gs).slots) (otpsC (clkC k t now gs).O) (ftesC (clkC k t now gs).F) (sltsC ((exG now gs).map Gp.slt)).length (sltsC ((exG now gs).map Gp.slt)).length (clkC k t now gs).O.length M h132 h213 _ ?_ (otpsC_length _).symm (by rw [ftesC_length]; exact hck.fl.symm)
  have hel : (sltsC ((exG now gs).map Gp.slt)).length = (exG now gs).length := by rw [sltsC_length, List.length_map]
  have loop := loop_for (Γ := callF tab ext M) (nIn := 0) (fu := M) (b := loopAt 28 0) (e := .exit 0) (k := (exG now gs).length)
    (τ := xkH t l ((k : Int) + 1) now (sltsC ((exG now gs).map Gp.slt)) (sltsC (gst gs).slots) [] [] (sltsC ((exG now gs).map Gp.slt)).length 0 0)
    (fin := xkE t l ((k : Int) + 1) now (sltsC ((exG now gs).map Gp.slt)) (sltsC (gst (clkC k t now gs).gs).slots) (otpsC (clkC k t now gs).O) (ftesC (clkC k t now gs).F) (sltsC ((exG now gs).map Gp.slt)).length (exG now gs).length (clkC k t now gs).O.length)
    (σ := fun j => xkH t l ((k : Int) + 1) now (sltsC ((exG now gs).map Gp.slt)) (sltsC (gst (((exG now gs).take j).foldl (clk1 (clkS k) t now) ⟨gs, [], []⟩).gs).slots) (otpsC (((exG now gs).take j).foldl (clk1 (clkS k) t now) ⟨gs, [], []⟩).O) (ftesC (((exG now gs).take j).foldl (clk1 (clkS k) t now) ⟨gs, [], []⟩).F) (sltsC ((exG now gs).map Gp.slt)).length j (((exG now gs).take j).foldl (clk1 (clkS k) t now) ⟨gs, [], []⟩).O.length)
    (xk_canon ..) (fun j hj => ?_) ?_ (by simp) (by omega)
  · rw [hel] at loop ⊢
    exact loop
  · obtain ⟨hc, hm⟩ := key j (by omega)
    have hmem := hm hj
    have hxne := (hE _ (List.getElem_mem hj)).2
    rw [List.take_succ_eq_append_getElem hj, List.foldl_append]
    show ∃ υ, _ ∧ canon 0 υ = some (xkH t l _ now _ (sltsC (gst (clk1 (clkS k) t now _ _).gs).slots) (otpsC (clk1 (clkS k) t now _ _).O) (ftesC (clk1 (clkS k) t now _ _).F) _ _ (clk1 (clkS k) t now _ _).O.length)
    have he : (sltsC ((exG now gs).map Gp.slt))[j]? = some (exG now gs)[j].slt.cells := by
      have := sltsC_get (l := (exG now gs).map Gp.slt) (j := j) (by simpa using hj)
      rw [this]
      simp
    have hcn := hc.cnt
    have hst := hc.st
    have hfl := hc.fl
    generalize ((exG now gs).take j).foldl (clk1 (clkS k) t now) ⟨gs, [], []⟩ = c at *
    generalize (exG now gs)[j] = x at *
    clear key hck
    have hgj := (hst.gj x hmem).1
    have hgi := hgj.gi
    have hlen := hgi.len
    have h150 := numsG x (by omega) M (by omega)
    have hpos : 0 < (intsC (nq x.H)).length := by
      rw [intsC_len, nq_len]
      exact List.length_pos_iff.2 hxne
    have hv : (intsC (nq x.H))[0]? = some [num (v0 x : Int)] := by
      obtain ⟨g, nx, xt, H⟩ := x
      cases H with
      | nil => exact absurd rfl hxne
      | cons p r => rfl
    have hv0 : v0 x ≤ 16 := by
      obtain ⟨g, nx, xt, H⟩ := x
      cases H with
      | nil => exact absurd rfl hxne
      | cons p r => exact hgj.le p List.mem_cons_self
    have h211 := rel_num x (v0 x) (by omega) (by omega) M (by omega)
    have hcl := clkM_len x
    have hkp := relK_pos hxne
    have hkl := relK_le x
    have h212 := send_from ordT (clkS k) (by simp [clkS]) (clkM x) (by omega) (by omega) (fun m hm => by
      obtain ⟨p, _, rfl⟩ := List.mem_map.1 hm
      exact mqg_ok _ p) c.O c.F (by omega) hfl M (by omega)
    have h210 := dl_at (M - 10) t l x.g ((v0 x + relK x : Nat) : Int) x.t now (msgsC ((x.H.drop (relK x)).map (mqg x.g))) (cellsL ((nq (x.H.drop (relK x))).map kv)) ht ht2 hw0 hw2
    rw [show M - 10 + 10 = M by omega, msgsC_length, List.length_map, List.length_drop] at h210
    have h126 := putG_at c.gs hst.srt hst.gsI.sm (clkG t now x) (by show (x.H.drop _).length ≤ 101; rw [List.length_drop]; omega) M (by omega)
    have hol : (c.O ++ sentO2 (clkS k) c.O.length (clkM x)).length = c.O.length + (clkM x).length := by rw [List.length_append, sentO2_len]
    rw [← hol] at h212
    exact xk_round t l ((k : Int) + 1) now (sltsC ((exG now gs).map Gp.slt)) (sltsC (gst c.gs).slots) (otpsC c.O) (ftesC c.F) (sltsC ((exG now gs).map Gp.slt)).length j c.O.length M x.g x.nx x.t ((v0 x + relK x : Nat) : Int) (dlP t now (x.H.length - relK x)) (v0 x) (sltsC (gst (putG (clkG t now x) c.gs)).slots) _ _ (msgsC (x.H.map (mqg x.g))) (cellsL ((nq x.H).map kv)) (msgsC ((x.H.drop (relK x)).map (mqg x.g))) (cellsL ((nq (x.H.drop (relK x))).map kv)) (msgsC (clkM x)) (intsC (nq x.H)) _ (by omega) (by omega) he h150 hpos hv h211 h212 h210 h126
  · rw [List.take_length]
    exact xk_end t l _ now _ _ _ _ _ _ _ M (by omega)
end Go.Proofs.YtckdgafiindddaaGreatDoor

/- manifoldlaw34.run over messages and clock inputs: what it comes to. -/
namespace Go.Proofs.YtckdgafiindddaaGreatDoor
open Go.Em
set_option maxRecDepth 100000

theorem rl_of {Γ : Gam} {nIn fu : Nat} {ps : List Prop} (ans : List (Nat × Ans)) (lo : List (Ex × St)) (hp : allP ps) {m : C} {σ σ' : St} (h : (match runA Γ ans nIn fu m σ lo with | some (.norm, υ, [], qs) => (canon nIn υ).map fun ω => (ω, qs) | _ => none) = some (σ', ps)) : ∃ υ, run Γ nIn fu m σ = some (.norm, υ) ∧ canon nIn υ = some σ' := by
  split at h
  · rename_i υ qs hr
    obtain ⟨ω, hc, e⟩ := Option.map_eq_some_iff.1 h
    cases e
    exact ⟨υ, runA_sound hr hp, hc⟩
  · cases h
section
variable (t l : Int) (es S L ss O F sp S2 : List (List X)) (n m i k n2 g x d : Nat) (now ms0 m0 m3 : Int) (fl : Bool) (N : Nat)
theorem r0_clk (hi : i < es.length) (hi2 : i < 40) (he : es[i]? = some [u8 g, u8 x, u8 d, boolX true]) (hd : d < 256) (hn0 : 0 ≤ now) (hn1 : now ≤ 1000000)
    (h52 : Gam.pureD (callF tab ext (N + 100)) 14 [.agg (nodR t l).cells, .agg [num 0, num 0, .sl false 10 ss], .agg (clkI ((i : Int) + 1) (now + (d : Int))).cells] = some (.agg (oqC O F [] sp)))
    (h133 : Gam.pureD (callF tab ext (N + 100)) 20 [.agg [num 0, num 0, .sl false 10 ss]] = some (num ms0)) (hms : IntKind.i64.wrap (0 + ms0) = ms0)
    (hlo : run (callF tab ext (N + 100)) 0 (N + 100) (.loop (loopAt 7 1)) (r1H t l es S L ss O F [] sp n m i 0 (now + (d : Int)) ms0 fl) = some (.exit 2, r1E t l es S2 L ss O F [] sp n2 m i k (now + (d : Int)) m3 fl))
    (h133b : Gam.pureD (callF tab ext (N + 100)) 20 [.agg [num 0, num 0, .sl false 10 sp]] = some (num m0)) (h134 : Gam.pureD (callF tab ext (N + 100)) 21 [.sl false 10 []] = some (num 0)) (hm : IntKind.i64.wrap (m0 + 0) = m3)
    (hL : m = L.length) (hm2 : m ≤ 10000) :
    ∃ υ, run (callF tab ext (N + 100)) 0 (N + 100) (loopAt 7 0) (r0H t l es S L ss n m i now fl) = some (.norm, υ) ∧ canon 0 υ = some (r0H t l es S2 (L ++ []) sp n2 m (i + 1) (now + (d : Int)) false) := by
  have h1 := lt_nat hi
  have h2 : decide (Int.ofNat i < 40) = true := decide_eq_true (by simp only [Int.ofNat_eq_natCast]; omega)
  have h3 := wrap_small (y := d) (by omega)
  have h4 : IntKind.i64.wrap (now + Int.ofNat d) = now + (d : Int) := by rw [IntKind.wrap_i64]; simp only [Int.ofNat_eq_natCast]; omega
  have h5 := tmodN g 3
  have h6 := wrap_small (y := g % 4) (by omega)
  have h7 := tmodN x 15
  have h8 := wrap_small (y := x % 16) (by omega)
  have h9 : IntKind.i64.wrap (1 + Int.ofNat (x % 16)) = Int.ofNat (x % 16 + 1) := by rw [IntKind.wrap_i64]; simp only [Int.ofNat_eq_natCast]; omega
  have hnx := next_nat (j := i) (by omega)
  have h54 := input54 N (Int.ofNat i) (Int.ofNat (g % 4)) (Int.ofNat (x % 16 + 1)) (now + (d : Int))
  rw [hnx] at h54
  have hneq : (m3 != m3) = false := by simp
  have hroom : 0 + m = L.length ∧ roomOk (m + ([] : List (List X)).length) 152 = true ∧ false = false := ⟨by omega, (show roomOk (m + 0) 152 = true from room_of (by omega) (by omega)), rfl⟩
  have hlo' : run (callF tab ext (N + 100)) 0 (N + 100) (.loop (loopAt 7 1)) ⟨[(1, .sl false 4 es), (2, .ptr 0 0 0), (4, .bs 1 0 n), (5, .bs 2 0 m), (6, .ptr 3 0 0), (8, num (now + (d : Int))), (9, nat i), (11, num ms0), (12, .ptr 5 0 0), (13, num 0)], [.var (nodR t l).cells, .row 10 S, .row 10 L, .var [num 0, num 0, .sl fl 10 ss], .var [num 2, num (now + (d : Int)), num (Int.ofNat (i + 1)), .sl true 1 (intsC [0, 3]), num 0, .sl true 1 [], num 0, .sl true 1 [], num 0, num 0, num 0, strX ⟨#[]⟩, .sl true 6 [], .sl true 7 [], num 0, boolX false, boolX false, num 0, num 0, num 0, strX ⟨#[]⟩, .sl true 6 [], .sl true 7 []], .var (oqC O F [] sp)]⟩ = some (.exit 2, r1E t l es S2 L ss O F [] sp n2 m i k (now + (d : Int)) m3 fl) := by
    rw [← hlo]
    exact loop_canon (by kernel_rfl) (r1_canon ..)
  exact rl_of [(17, .b true), (20, .b true), (27, .e [u8 g, u8 x, u8 d, boolX true]), (30, .i (Int.ofNat d)), (31, .i (now + (d : Int))), (35, .e [u8 g, u8 x, u8 d, boolX true]), (38, .i (Int.ofNat (g % 4))), (39, .i (Int.ofNat (g % 4))), (42, .e [u8 g, u8 x, u8 d, boolX true]), (45, .i (Int.ofNat (x % 16))), (46, .i (Int.ofNat (x % 16))), (47, .i (Int.ofNat (x % 16 + 1))), (49, .p (.agg (inpR ((i : Int) + 1) (Int.ofNat (g % 4)) (Int.ofNat (x % 16 + 1)) (now + (d : Int))).cells)), (52, .e [u8 g, u8 x, u8 d, boolX true]), (57, .i (Int.ofNat (i + 1))), (64, .p (.agg (oqC O F [] sp))), (67, .p (num ms0)), (68, .i ms0), (97, .p (num m0)), (100, .p (num 0)), (101, .i m3), (102, .b false), (107, .app), (23, .i (Int.ofNat (i + 1)))] [(.exit 2, r1E t l es S2 L ss O F [] sp n2 m i k (now + (d : Int)) m3 fl)]
    (pfJ h1 h2 he h3 h4 he h5 (pfJ h6 he h7 h8 h9 h54 he (pfJ hnx h52 h133 hms hlo' h133b h134 (pf4 hm hneq hroom hnx)))) (by kernel_rfl)
end
theorem run_roundA (t l : Int) (ht : 0 ≤ t) (ht2 : t ≤ 100000) (av : List Arv) (q : Rn) (p : Nat) (hq : RnX q p) (hi : q.i < av.length) (hi2 : q.i < 40) (ha : av[q.i].ok) (N : Nat) (hN : 202000 ≤ N) :
    ∃ υ, run (callF tab ext N) 0 N (loopAt 7 0) (rnSt t l (arvC av) q) = some (.norm, υ) ∧ canon 0 υ = some (rnSt t l (arvC av) (arA t l q av[q.i])) := by
  by_cases hc : av[q.i].c = true
  · obtain ⟨M, rfl⟩ : ∃ M, N = M + 100 := ⟨N - 100, by omega⟩
    have e1 : arA t l q av[q.i] = arC t q av[q.i] := by unfold arA; rw [if_pos hc]
    rw [e1]
    have hcnt := hq.cnt
    have hle := hq.le
    have h1 := hq.I.lo
    have h2 := hq.I.hi
    have hget := arvC_get hi
    have hd := ha.2.2
    generalize av[q.i] = a at *
    obtain ⟨g, n, d, c⟩ := a
    dsimp only at hc hd
    subst hc
    have hck := clkC_I hq.I.st hq.num q.i t (q.now + (d : Int))
    have h52 := clk_at hq.I.st q.i t l (q.now + (d : Int)) ht ht2 (by omega) (by omega) (by omega) (M + 100) (by omega)
    have h133 := mass133 q.gs hq.I.st.gsI (by omega) (M + 100) (by omega)
    have hcc := hck.cnt
    have h133b := mass133 (clkC q.i t (q.now + (d : Int)) q.gs).gs hck.st.gsI (by omega) (M + 100) (by omega)
    have hom := hck.mo
    have e2 : arC t q ⟨g, n, d, true⟩ = ⟨q.i + 1, q.S ++ (clkC q.i t (q.now + (d : Int)) q.gs).O, q.L, (clkC q.i t (q.now + (d : Int)) q.gs).gs, q.now + (d : Int)⟩ := rfl
    rw [e2]
    clear e1 e2 hck
    generalize clkC q.i t (q.now + (d : Int)) q.gs = C at *
    obtain ⟨gs2, os, F⟩ := C
    dsimp only at *
    have h134 := mass134 [] (by simp) (fun m hm => by cases hm) (M + 100) (by omega)
    have hms : IntKind.i64.wrap (0 + (heldG q.gs : Int) * 1048576) = (heldG q.gs : Int) * 1048576 := by rw [IntKind.wrap_i64]; omega
    have hlo := r1_loop t l (arvC av) (outsC q.S) (msgsC q.L) (sltsC (gst q.gs).slots) (ftesC F) [] (sltsC (gst gs2).slots) os q.L.length q.i (q.now + (d : Int)) ((heldG q.gs : Int) * 1048576) (q.i == 0) hom (by omega) (by rw [outsC_len]; omega) (by omega) (by omega) (M + 100) (by omega)
    rw [outsC_len] at hlo
    have hm3 : IntKind.i64.wrap ((heldG gs2 : Int) * 1048576 + 0) = (heldG q.gs : Int) * 1048576 - (os.length : Int) * 1048576 := by rw [IntKind.wrap_i64]; omega
    have hml := msgsC_length q.L
    have key := r0_clk t l (arvC av) (outsC q.S) (msgsC q.L) (sltsC (gst q.gs).slots) (otpsC os) (ftesC F) (sltsC (gst gs2).slots) (outsC q.S ++ outsC os) q.S.length q.L.length q.i os.length (q.S.length + os.length) g n d q.now _ _ _ (q.i == 0) M (by rw [arvC_len]; exact hi) hi2 hget hd h1 (by omega) h52 h133 hms hlo h133b h134 hm3 hml.symm (by omega)
    rw [← outsC_app, List.append_nil] at key
    unfold rnSt
    dsimp only
    rw [List.length_append]
    exact key
  · have e1 : arA t l q av[q.i] = arM t l q av[q.i] := by unfold arA; rw [if_neg hc]
    rw [e1]
    exact run_round t l ht ht2 av q hq.I hi hi2 ha (by simpa using hc) N hN
theorem run_loopA (t l : Int) (ht : 0 ≤ t) (ht2 : t ≤ 100000) (av : List Arv) (hok : ∀ a, a ∈ av → a.ok) (N : Nat) (hN : 202000 ≤ N) (τ : St) (hτ : canon 0 τ = some (rnSt t l (arvC av) rn0)) :
    run (callF tab ext N) 0 N (.loop (loopAt 7 0)) τ = some (.exit 0, r0E t l (arvC av) (outsC (rnA t l (av.take 40)).S) (msgsC (rnA t l (av.take 40)).L) (sltsC (gst (rnA t l (av.take 40)).gs).slots) (rnA t l (av.take 40)).S.length (rnA t l (av.take 40)).L.length (av.take 40).length (rnA t l (av.take 40)).now ((av.take 40).length == 0)) := by
  have hk : (av.take 40).length = min 40 av.length := List.length_take ..
  have hal := arvC_len av
  have hX : ∀ j, j ≤ (av.take 40).length → RnX (rnA t l (av.take j)) (cntA (av.take j)) ∧ (rnA t l (av.take j)).i = j := fun j hj => by
    have := rnA_X t l (av.take j) (fun a ha => hok a (List.mem_of_mem_take ha))
    rw [List.length_take, Nat.min_eq_left (by omega)] at this
    exact this
  refine loop_for (σ := fun j => rnSt t l (arvC av) (rnA t l (av.take j))) (k := (av.take 40).length) hτ (fun j hj => ?_) ?_ (by simp) (by omega)
  · obtain ⟨hI, hi⟩ := hX j (by omega)
    have hj2 : j < av.length := by omega
    have := run_roundA t l ht ht2 av (rnA t l (av.take j)) _ hI (by omega) (by omega) (hok _ (List.getElem_mem _)) N hN
    rw [rnA_snoc t l av j hj2]
    have e : av[(rnA t l (av.take j)).i]'(by omega) = av[j] := by simp only [hi]
    rw [e] at this
    exact this
  · obtain ⟨_, hi⟩ := hX _ (Nat.le_refl _)
    have e : av.take (av.take 40).length = av.take 40 := by
      rw [hk, List.take_eq_take_iff]
      omega
    rw [e] at hi ⊢
    unfold rnSt
    rw [hi]
    exact r0_end t l (arvC av) _ _ _ _ _ (av.take 40).length _ _ N (by omega)
/-- run hands back what it comes to. -/
theorem run59A (t l : Int) (ht : 0 ≤ t) (ht2 : t ≤ 100000) (av : List Arv) (hok : ∀ a, a ∈ av → a.ok) (N : Nat) (hN : 202001 ≤ N) :
    Gam.pureD (callF tab ext N) 7 [.agg (nodR t l).cells, .sl false 4 (arvC av)] = some (.tup [.sl false 10 (outsC (rnA t l (av.take 40)).S), .sl false 10 (msgsC (rnA t l (av.take 40)).L), .agg (gst (rnA t l (av.take 40)).gs).cells, boolX true]) := by
  obtain ⟨M, rfl⟩ : ∃ M, N = M + 1 := ⟨N - 1, by omega⟩
  have h := run_loopA t l ht ht2 av hok M (by omega) ⟨[(1, .sl false 4 (arvC av)), (2, .ptr 0 0 0), (4, .bs 2 0 0), (5, .bs 3 0 0), (6, .ptr 1 0 0), (8, num 0), (9, num 0)], [.var (nodR t l).cells, .var [num 0, num 0, .sl true 10 []], .row 10 [], .row 10 []]⟩ (by kernel_rfl)
  generalize rnA t l (av.take 40) = q at h ⊢
  obtain ⟨i, S, L, gs, now⟩ := q
  have hs := outsC_len S
  have hml := msgsC_length L
  exact pure_of [] [(.exit 0, r0E t l (arvC av) (outsC S) (msgsC L) (sltsC (gst gs).slots) S.length L.length (av.take 40).length now ((av.take 40).length == 0))] (pf1 h)
    (x := .tup [.bs 0 0 S.length, .bs 1 0 L.length, .agg [num 0, num 0, .sl ((av.take 40).length == 0) 10 (sltsC (gst gs).slots)], boolX true]) (bx := [.row 10 (outsC S), .row 10 (msgsC L)]) (by kernel_rfl)
    (by
      have h1 := data_bs (bx := [.row 10 (outsC S), .row 10 (msgsC L)]) (i := 0) rfl hs.symm
      have h2 := data_bs (bx := [.row 10 (outsC S), .row 10 (msgsC L)]) (i := 1) rfl hml.symm
      have h3 := dataL_cons h1 (dataL_cons h2 (dataL_cons (x := .agg [num 0, num 0, .sl ((av.take 40).length == 0) 10 (sltsC (gst gs).slots)]) (y := .agg (gst gs).cells) rfl (dataL_cons (x := boolX true) (r := []) rfl rfl)))
      simp only [X.data]
      rw [h3]
      rfl)
end Go.Proofs.YtckdgafiindddaaGreatDoor

/- ResequencerOrders comes to true on the machine. -/
namespace Go.Proofs.YtckdgafiindddaaGreatDoor
open Go.Em
set_option maxRecDepth 100000

/-! ### Messages are counted -/
section
variable (es A B ss : List (List X)) (c i g x d : Nat) (b : Bool) (N : Nat)
def oaH : St := ⟨[(0, .sl false 4 es), (7, .sl false 10 A), (8, .sl false 10 B), (9, .ptr 0 0 0), (10, boolX true), (11, nat c), (12, nat i)], [.var [num 0, num 0, .sl false 10 ss]]⟩
def oaE : St := ⟨[(0, .sl false 4 es), (7, .sl false 10 A), (8, .sl false 10 B), (9, .ptr 0 0 0), (10, boolX true), (11, nat c), (12, nat i), (37, boolX false)], [.var [num 0, num 0, .sl false 10 ss]]⟩
theorem oa_canon : canon 0 (oaH es A B ss c i) = some (oaH es A B ss c i) := by kernel_rfl
theorem oa_end (h : ¬ (i < es.length ∧ i < 40)) : run (callF tab ext N) 0 N (loopAt 3 0) (oaH es A B ss c i) = some (.exit 0, oaE es A B ss c i) := by
  by_cases h1 : i < es.length
  · have h1' := lt_nat h1
    have h2 : decide (Int.ofNat i < 40) = false := decide_eq_false (by simp only [Int.ofNat_eq_natCast]; omega)
    exact run_of [(33, .b true), (36, .b false)] [] (pf2 h1' h2) (lo' := []) (by kernel_rfl)
  · exact run_of [(33, .b false)] [] (pf1 (nlt_nat h1)) (lo' := []) (by kernel_rfl)
theorem oa_round (hi : i < es.length) (hi2 : i < 40) (hc : c < 100) (he : es[i]? = some [u8 g, u8 x, u8 d, boolX b]) :
    run (callF tab ext N) 0 N (loopAt 3 0) (oaH es A B ss c i) = some (.norm, oaH es A B ss (c + if b then 0 else 1) (i + 1)) := by
  have h1 := lt_nat hi
  have h2 : decide (Int.ofNat i < 40) = true := decide_eq_true (by simp only [Int.ofNat_eq_natCast]; omega)
  have h3 := next_nat (j := i) (by omega)
  have h4 := next_nat (j := c) (by omega)
  cases b with
  | true => exact run_of [(33, .b true), (36, .b true), (42, .e [u8 g, u8 x, u8 d, boolX true]), (39, .i (Int.ofNat (i + 1)))] [] (pf4 h1 h2 he h3) (lo' := []) (by kernel_rfl)
  | false => exact run_of [(33, .b true), (36, .b true), (42, .e [u8 g, u8 x, u8 d, boolX false]), (47, .i (Int.ofNat (c + 1))), (39, .i (Int.ofNat (i + 1)))] [] (pf5 h1 h2 he h4 h3) (lo' := []) (by kernel_rfl)
end
theorem cntA_le (av : List Arv) : cntA av ≤ av.length := List.length_filter_le ..
theorem cntA_snoc (av : List Arv) (j : Nat) (h : j < av.length) : cntA (av.take (j + 1)) = cntA (av.take j) + if av[j].c then 0 else 1 := by
  unfold cntA
  rw [List.take_succ_eq_append_getElem h, List.filter_append, List.length_append, List.filter_cons]
  cases av[j].c <;> rfl
theorem oa_loop (av : List Arv) (A B ss : List (List X)) (N : Nat) (hN : 1000 ≤ N) (τ : St) (hτ : canon 0 τ = some (oaH (arvC av) A B ss 0 0)) :
    run (callF tab ext N) 0 N (.loop (loopAt 3 0)) τ = some (.exit 0, oaE (arvC av) A B ss (cntA (av.take 40)) (av.take 40).length) := by
  have hal := arvC_len av
  have hk : (av.take 40).length = min 40 av.length := List.length_take ..
  refine loop_for (σ := fun j => oaH (arvC av) A B ss (cntA (av.take j)) j) (k := (av.take 40).length) hτ (fun j hj => ?_) ?_ (by simp) (by omega)
  · have hj2 : j < av.length := by omega
    have hle := cntA_le (av.take j)
    rw [List.length_take] at hle
    rw [cntA_snoc av j hj2]
    exact ⟨_, oa_round (arvC av) A B ss (cntA (av.take j)) j av[j].g av[j].n av[j].d av[j].c N (by omega) (by omega) (by omega) (arvC_get hj2), oa_canon ..⟩
  · have e : av.take (av.take 40).length = av.take 40 := by
      rw [hk, List.take_eq_take_iff]
      omega
    rw [e]
    exact oa_end (arvC av) _ _ _ _ _ N (by omega)

/-! ### What was sent is compared, each with each -/
section
variable (A : List (List X)) (i k : Nat) (N : Nat)
def obH : St := ⟨[(7, .sl false 10 A), (13, nat i)], []⟩
def obE : St := ⟨[(7, .sl false 10 A), (13, nat i), (65, boolX false)], []⟩
def ocH : St := ⟨[(7, .sl false 10 A), (13, nat i), (14, nat k)], []⟩
def ocE : St := ⟨[(7, .sl false 10 A), (13, nat i), (14, nat k), (70, boolX false)], []⟩
theorem ob_canon : canon 0 (obH A i) = some (obH A i) := by kernel_rfl
theorem oc_canon : canon 0 (ocH A i k) = some (ocH A i k) := by kernel_rfl
theorem oc_end (h : ¬ k < i) : run (callF tab ext N) 0 N (loopAt 3 2) (ocH A i k) = some (.exit 4, ocE A i k) :=
  run_of [(70, .b false)] [] (pf1 (nlt_nat h)) (lo' := []) (by kernel_rfl)
theorem oc_round (m o : Msg) (hw : WfM m) (hwo : WfM o) (hk : k < i) (hi : i < A.length) (hi2 : i < 1000) (hx : A[i]? = some m.cells) (hy : A[k]? = some o.cells) (hn : gOf o = gOf m → nOf o < nOf m) (hst : cmpS o.st m.st < 0) (ho : o.st.p.length ≤ 10) :
    run (callF tab ext (N + 100)) 0 (N + 100) (loopAt 3 2) (ocH A i k) = some (.norm, ocH A i (k + 1)) := by
  have h1 := lt_nat hk
  have h2 := group_wf hw N
  have h3 := group_wf hwo N
  have h4 := number_wf hwo N
  have h5 := number_wf hw N
  have h6 := cmp_stamp (N + 100) o.st m.st (by omega) (by omega)
  have h7 := next_nat (j := k) (by omega)
  have h8 : decide (cmpS o.st m.st ≥ 0) = false := decide_eq_false (by omega)
  by_cases e : gOf o = gOf m
  · have h9 : (gOf m == gOf o) = true := by rw [e]; exact BEq.rfl
    have h10 : decide (nOf o ≥ nOf m) = false := decide_eq_false (by have := hn e; omega)
    generalize gOf m = z1 at *
    generalize gOf o = z2 at *
    generalize nOf m = z3 at *
    generalize nOf o = z4 at *
    generalize hz : cmpS o.st m.st = z5 at *
    obtain ⟨⟨a1, a2⟩, a3, a4, a5, a6, a7, a8, a9, a0⟩ := m
    obtain ⟨⟨b1, b2⟩, b3, b4, b5, b6, b7, b8, b9, b0⟩ := o
    exact run_of [(70, .b true), (75, .e (Msg.mk ⟨a1, a2⟩ a3 a4 (.mk a5 a6 a7 a8 a9 a0)).cells), (77, .p (num z1)), (80, .e (Msg.mk ⟨b1, b2⟩ b3 b4 (.mk b5 b6 b7 b8 b9 b0)).cells), (82, .p (num z2)), (83, .b true), (87, .e (Msg.mk ⟨b1, b2⟩ b3 b4 (.mk b5 b6 b7 b8 b9 b0)).cells), (89, .p (num z4)), (92, .e (Msg.mk ⟨a1, a2⟩ a3 a4 (.mk a5 a6 a7 a8 a9 a0)).cells), (94, .p (num z3)), (95, .b false), (100, .e (Msg.mk ⟨b1, b2⟩ b3 b4 (.mk b5 b6 b7 b8 b9 b0)).cells), (105, .e (Msg.mk ⟨a1, a2⟩ a3 a4 (.mk a5 a6 a7 a8 a9 a0)).cells), (108, .p (num z5)), (109, .b false), (72, .i (Int.ofNat (k + 1)))] []
      (pfJ h1 hx h2 hy h3 h9 hy (pf9 h4 hx h5 h10 hy hx h6 h8 h7)) (lo' := []) (by kernel_rfl)
  · have h9 : (gOf m == gOf o) = false := by rw [beq_eq_false_iff_ne]; exact fun h => e h.symm
    generalize gOf m = z1 at *
    generalize gOf o = z2 at *
    generalize hz : cmpS o.st m.st = z5 at *
    obtain ⟨⟨a1, a2⟩, a3, a4, a5, a6, a7, a8, a9, a0⟩ := m
    obtain ⟨⟨b1, b2⟩, b3, b4, b5, b6, b7, b8, b9, b0⟩ := o
    exact run_of [(70, .b true), (75, .e (Msg.mk ⟨a1, a2⟩ a3 a4 (.mk a5 a6 a7 a8 a9 a0)).cells), (77, .p (num z1)), (80, .e (Msg.mk ⟨b1, b2⟩ b3 b4 (.mk b5 b6 b7 b8 b9 b0)).cells), (82, .p (num z2)), (83, .b false), (100, .e (Msg.mk ⟨b1, b2⟩ b3 b4 (.mk b5 b6 b7 b8 b9 b0)).cells), (105, .e (Msg.mk ⟨a1, a2⟩ a3 a4 (.mk a5 a6 a7 a8 a9 a0)).cells), (108, .p (num z5)), (109, .b false), (72, .i (Int.ofNat (k + 1)))] []
      (pfJ h1 hx h2 hy h3 h9 hy (pf4 hx h6 h8 h7)) (lo' := []) (by kernel_rfl)
theorem ob_end (h : ¬ i < A.length) : run (callF tab ext N) 0 N (loopAt 3 1) (obH A i) = some (.exit 2, obE A i) :=
  run_of [(65, .b false)] [] (pf1 (nlt_nat h)) (lo' := []) (by kernel_rfl)
theorem ob_round (hi : i < A.length) (hi2 : i < 1000) (hl : run (callF tab ext N) 0 N (.loop (loopAt 3 2)) (ocH A i 0) = some (.exit 4, ocE A i i)) :
    run (callF tab ext N) 0 N (loopAt 3 1) (obH A i) = some (.norm, obH A (i + 1)) :=
  run_of [(65, .b true), (67, .i (Int.ofNat (i + 1)))] [(.exit 4, ocE A i i)] (pf3 (lt_nat hi) hl (next_nat (j := i) (by omega))) (lo' := []) (by kernel_rfl)
end
theorem ob_loop (S : List Otp) (gs : List Gp) (q : Nat) (hn : NumI gs S) (hs : StmI q S) (hl : S.length ≤ 100) (N : Nat) (hN : 1000 ≤ N) (τ : St) (hτ : canon 0 τ = some (obH (outsC S) 0)) :
    run (callF tab ext N) 0 N (.loop (loopAt 3 1)) τ = some (.exit 2, obE (outsC S) S.length) := by
  obtain ⟨M, rfl⟩ : ∃ M, N = M + 100 := ⟨N - 100, by omega⟩
  have hlS := outsC_len S
  refine loop_for (σ := fun i => obH (outsC S) i) (k := S.length) hτ (fun i hi => ?_) (ob_end (outsC S) S.length (M + 100) (by omega)) (by simp) (by omega)
  refine ⟨_, ob_round (outsC S) i (M + 100) (by omega) (by omega) ?_, ob_canon ..⟩
  refine loop_for (σ := fun k => ocH (outsC S) i k) (k := i) (oc_canon ..) (fun k hk => ?_) (oc_end (outsC S) i i (M + 100) (by omega)) (by simp) (by omega)
  have h1 := List.pairwise_iff_getElem.1 hn.inc k i (by omega) hi hk
  have h2 := List.pairwise_iff_getElem.1 hs.inc k i (by omega) hi hk
  exact ⟨_, oc_round (outsC S) i k M S[i].m (S[k]'(by omega)).m (hn.wf _ (List.getElem_mem _)) (hn.wf _ (List.getElem_mem _)) hk (by omega) (by omega) (outsC_get hi) (outsC_get (by omega)) h1 h2 (hs.pl _ (List.getElem_mem _)), oc_canon ..⟩
theorem or_fin (es A B ss : List (List X)) (tm lm a b c h i : Nat) (N : Nat) (htm : tm < 256) (ha : a = A.length) (hb : b = B.length) (hsum : a + b + h = c) (hc : c ≤ 100) (hk : Gam.pureD (callF tab ext N) 6 [] = some (boolX true))
    (h53 : Gam.pureD (callF tab ext N) 8 [num (Int.ofNat tm), num (Int.ofNat (lm % 8))] = some (.agg (nodR (Int.ofNat tm) (Int.ofNat (lm % 8))).cells))
    (h59 : Gam.pureD (callF tab ext N) 7 [.agg (nodR (Int.ofNat tm) (Int.ofNat (lm % 8))).cells, .sl false 4 es] = some (.tup [.sl false 10 A, .sl false 10 B, .agg [num 0, num 0, .sl false 10 ss], boolX true]))
    (h1 : run (callF tab ext N) 0 N (.loop (loopAt 3 0)) (oaH es A B ss 0 0) = some (.exit 0, oaE es A B ss c i))
    (h56 : Gam.pureD (callF tab ext N) 9 [.agg [num 0, num 0, .sl false 10 ss]] = some (nat h))
    (h2 : run (callF tab ext N) 0 N (.loop (loopAt 3 1)) ⟨[(7, .sl false 10 A), (13, num 0)], [.var [num 0, num 0, .sl false 10 ss]]⟩ = some (.exit 2, obE A a)) :
    callF tab ext (N + 1) (.fn 3) [.sl false 4 es, u8 tm, u8 lm] [] = some (.v (.bool true), []) := by
  subst ha
  subst hb
  have e1 := wrap_small (y := tm) (by omega)
  have e2 := tmodN lm 7
  have e3 := wrap_small (y := lm % 8) (by omega)
  have e4 : IntKind.i64.wrap (Int.ofNat A.length + Int.ofNat B.length) = Int.ofNat (A.length + B.length) := by rw [IntKind.wrap_i64]; simp only [Int.ofNat_eq_natCast]; omega
  have e5 : IntKind.i64.wrap (Int.ofNat (A.length + B.length) + Int.ofNat h) = Int.ofNat c := by rw [IntKind.wrap_i64]; simp only [Int.ofNat_eq_natCast]; omega
  have e6 : (Int.ofNat c != Int.ofNat c) = false := by simp
  exact callF_of [(15, .p (boolX true)), (19, .i (Int.ofNat tm)), (21, .i (Int.ofNat (lm % 8))), (22, .i (Int.ofNat (lm % 8))), (23, .p (.agg (nodR (Int.ofNat tm) (Int.ofNat (lm % 8))).cells)), (25, .p (.tup [.sl false 10 A, .sl false 10 B, .agg [num 0, num 0, .sl false 10 ss], boolX true])), (55, .i (Int.ofNat (A.length + B.length))), (57, .p (nat h)), (58, .i (Int.ofNat c)), (60, .b false)] [(.exit 0, oaE es A B ss c i), (.exit 2, obE A A.length)]
    (pfJ hk e1 e2 e3 h53 h59 h1 (pf5 e4 h56 e5 e6 h2)) (by kernel_rfl)
theorem rorders_all (av : List Arv) (hok : ∀ a, a ∈ av → a.ok) (tm lm : Nat) (htm : tm < 256) : callF tab ext 202101 (.fn 3) [.sl false 4 (arvC av), u8 tm, u8 lm] [] = some (.v (.bool true), []) := by
  have hk := known34_at 201700
  obtain ⟨hX, hi⟩ := rnA_X (Int.ofNat tm) (Int.ofNat (lm % 8)) (av.take 40) (fun a ha => hok a (List.mem_of_mem_take ha))
  have hlen : (av.take 40).length ≤ 40 := by rw [List.length_take]; omega
  have hcl := cntA_le (av.take 40)
  have hcnt := hX.cnt
  have h53 := node53 202000 (Int.ofNat tm) (Int.ofNat (lm % 8))
  have h59 := run59A (Int.ofNat tm) (Int.ofNat (lm % 8)) (by simp) (by simp only [Int.ofNat_eq_natCast]; omega) av hok 202100 (by omega)
  have h56 := held_pure (gst (rnA (Int.ofNat tm) (Int.ofNat (lm % 8)) (av.take 40)).gs) (gst_small _ hX.I.st.gsI.sm) 202100 (by omega)
  have h1 := oa_loop av (outsC (rnA (Int.ofNat tm) (Int.ofNat (lm % 8)) (av.take 40)).S) (msgsC (rnA (Int.ofNat tm) (Int.ofNat (lm % 8)) (av.take 40)).L) (sltsC (gst (rnA (Int.ofNat tm) (Int.ofNat (lm % 8)) (av.take 40)).gs).slots) 202100 (by omega) _ (oa_canon ..)
  have h2 := ob_loop (rnA (Int.ofNat tm) (Int.ofNat (lm % 8)) (av.take 40)).S _ _ hX.num hX.stm (by omega) 202100 (by omega) ⟨[(7, .sl false 10 (outsC (rnA (Int.ofNat tm) (Int.ofNat (lm % 8)) (av.take 40)).S)), (13, num 0)], [.var [num 0, num 0, .sl false 10 (sltsC (gst (rnA (Int.ofNat tm) (Int.ofNat (lm % 8)) (av.take 40)).gs).slots)]]⟩ (by kernel_rfl)
  generalize rnA (Int.ofNat tm) (Int.ofNat (lm % 8)) (av.take 40) = q at *
  exact or_fin (arvC av) (outsC q.S) (msgsC q.L) (sltsC (gst q.gs).slots) tm lm q.S.length q.L.length (cntA (av.take 40)) (heldG q.gs) _ 202100 htm (outsC_len _).symm (msgsC_length _).symm (by omega) (by omega) hk h53 h59 h1 h56 h2
end Go.Proofs.YtckdgafiindddaaGreatDoor
