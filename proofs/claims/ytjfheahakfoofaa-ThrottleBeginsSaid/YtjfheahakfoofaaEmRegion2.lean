/- The abstract machine: operations that do not touch one another can change places. -/
import Derived.Test.YtjfheahakfoofaaEmRegion
namespace Go.Em
variable {P : Program} {R : CodeRel} {x : Ctx} {K : Kn} {C : List CB} {σ : St} {a : Act} {w : World}
variable {A : Ann} {Γ : Gam}

/-- What an operation without effect does: it looks at the boxes that it tells of, and leaves them all. -/
def Pure1 (Γ : Gam) (tm : List (Nat × X)) (b b' : List Bx) (i : I) (y : X) (fp : FP) : Prop :=
  b' = b ∧ ∀ b2 : List Bx, (∀ r, r ∈ fp.rd → b2[r]? = b[r]?) → stepI Γ ⟨tm, b2⟩ i = some (y, b2, fp)

theorem pure0 {tm : List (Nat × X)} {b b' : List Bx} {i : I} {y : X} {fp : FP} (f : Option X) (h : ∀ b2 : List Bx, stepI Γ ⟨tm, b2⟩ i = f.map fun z => (z, b2, ⟨false, [], []⟩)) (e : stepI Γ ⟨tm, b⟩ i = some (y, b', fp)) :
    Pure1 Γ tm b b' i y fp ∧ ∀ r, r ∉ fp.wr → b'[r]? = b[r]? := by
  rw [h b] at e
  obtain ⟨z, hz, e1⟩ := map_some e
  simp only [Prod.mk.injEq] at e1
  obtain ⟨rfl, rfl, rfl⟩ := e1
  exact ⟨⟨rfl, fun b2 _ => by rw [h b2, hz]; rfl⟩, fun _ _ => rfl⟩

theorem set_other {bx : List Bx} {i r : Nat} {B : Bx} (h : r ≠ i) : (bx.set i B)[r]? = bx[r]? := List.getElem?_set_ne (fun e => h e.symm)

theorem push_other {bx l : List Bx} {r : Nat} (h : ∀ k, k < l.length → r ≠ bx.length + k) : (bx ++ l)[r]? = bx[r]? := by
  by_cases hr : r < bx.length
  · rw [List.getElem?_append_left hr]
  · rw [List.getElem?_append_right (by omega), List.getElem?_eq_none (by
      rcases Nat.lt_or_ge (r - bx.length) l.length with h1 | h1
      · exact absurd (by omega) (h _ h1)
      · exact h1), List.getElem?_eq_none (by omega)]

theorem callRef_other {fv : Fv} {args : List X} {b b' : List Bx} {y : X} {sel : List Nat} (e : callRef Γ fv args b = some (y, b', sel)) {r : Nat} (h : r ∉ sel ++ List.range' b.length (b'.length - b.length)) : b'[r]? = b[r]? := by
  unfold callRef at e
  dsimp only at e
  split at e
  · split at e
    · simp at e
    · split at e
      · simp at e
      · split at e
        · simp only [Option.some.injEq, Prod.mk.injEq] at e
          obtain ⟨_, rfl, rfl⟩ := e
          simp only [List.mem_append, not_or, List.mem_range'_1, not_and, Nat.not_lt, List.length_append, setBs_length, List.length_drop] at h
          by_cases hr : r < b.length
          · rw [List.getElem?_append_left (by rw [setBs_length]; exact hr), setBs_other _ _ _ _ h.1]
          · have h2 := h.2 (by omega)
            rw [List.getElem?_eq_none (by simp only [List.length_append, setBs_length, List.length_drop]; omega), List.getElem?_eq_none (by omega)]
        · simp at e
  · simp at e

theorem stepI_frame {tm : List (Nat × X)} {b b' : List Bx} {i : I} {y : X} {fp : FP} (e : stepI Γ ⟨tm, b⟩ i = some (y, b', fp)) :
    (fp.eff = false → Pure1 Γ tm b b' i y fp) ∧ ∀ r, r ∉ fp.wr → b'[r]? = b[r]? := by
  have hev := fun b2 q => ev_bx tm b2 [] q
  cases i with
  | mov p => have := pure0 ((St.ev ⟨tm, []⟩ p)) (fun b2 => by simp only [stepI, hev b2]) e; exact ⟨fun _ => this.1, this.2⟩
  | pick c p q =>
    have := pure0 (match St.ev ⟨tm, []⟩ c, St.ev ⟨tm, []⟩ p, St.ev ⟨tm, []⟩ q with | some (.v (.bool t)), some y1, some y2 => some (if t then y1 else y2) | _, _, _ => none)
      (fun b2 => by simp only [stepI, hev b2]; ((repeat' split) <;> first | rfl | (simp_all [Option.map_map, Function.comp_def]; done) | (simp_all only [Option.map_map, Function.comp_def]; rfl) | (exfalso; solve_by_elim))) e
    exact ⟨fun _ => this.1, this.2⟩
  | alloc z =>
    simp only [stepI, Option.some.injEq, Prod.mk.injEq] at e
    obtain ⟨rfl, rfl, rfl⟩ := e
    refine ⟨fun h => by simp at h, fun r hr => push_other fun k hk => ?_⟩
    simp at hk hr; omega
  | box p =>
    simp only [stepI] at e
    split at e
    · simp at e
    · split at e
      · simp only [Option.some.injEq, Prod.mk.injEq] at e
        obtain ⟨rfl, rfl, rfl⟩ := e
        refine ⟨fun h => by simp at h, fun r hr => push_other fun k hk => ?_⟩
        simp at hk hr; omega
      · simp at e
  | build z ps =>
    have := pure0 (match parts3 ⟨tm, []⟩ ps with | none => none | some ps => (fillX z ps).map .agg) (fun b2 => by
      simp only [stepI, parts3_bx tm b2 []]
      ((repeat' split) <;> first | rfl | (simp_all [Option.map_map, Function.comp_def]; done) | (simp_all only [Option.map_map, Function.comp_def]; rfl) | (exfalso; solve_by_elim))) e
    exact ⟨fun _ => this.1, this.2⟩
  | bslice n z ps =>
    have := pure0 (match parts2 ⟨tm, []⟩ ps with | none => none | some ps => if n == ps.length then (bsElems z.length 0 ps).map (.sl true z.length) else none) (fun b2 => by
      simp only [stepI, parts2_bx tm b2 []]
      ((repeat' split) <;> first | rfl | (simp_all [Option.map_map, Function.comp_def]; done) | (simp_all only [Option.map_map, Function.comp_def]; rfl) | (exfalso; solve_by_elim))) e
    exact ⟨fun _ => this.1, this.2⟩
  | load n p =>
    simp only [stepI] at e
    split at e
    · simp at e
    · rename_i q hq
      obtain ⟨z, hz, e1⟩ := map_some e
      simp only [Prod.mk.injEq] at e1
      obtain ⟨rfl, rfl, rfl⟩ := e1
      refine ⟨fun _ => ⟨rfl, fun b2 h2 => ?_⟩, fun _ _ => rfl⟩
      simp only [stepI, ev_bx tm b2 b, hq]
      rw [loadX_on h2, hz]; rfl
  | store n p q =>
    simp only [stepI] at e
    split at e
    · obtain ⟨z, hz, e1⟩ := map_some e
      simp only [Prod.mk.injEq] at e1
      obtain ⟨rfl, rfl, rfl⟩ := e1
      refine ⟨fun h => by simp at h, fun r hr => ?_⟩
      unfold storeX at hz
      split at hz
      · split at hz
        · rename_i i e o
          simp only [boxesRead, List.mem_singleton] at hr
          split at hz
          · split at hz
            · obtain ⟨cs, _, rfl⟩ := map_some hz; exact set_other hr
            · simp at hz
          · split at hz
            · simp at hz
            · split at hz
              · obtain ⟨cs, _, rfl⟩ := map_some hz; exact set_other hr
              · simp at hz
          · simp at hz
        · simp at hz
      · simp at hz
    · simp at e
  | bin op p q =>
    have := pure0 (match St.ev ⟨tm, []⟩ p, St.ev ⟨tm, []⟩ q with | some (.v m), some (.v n) => (binV op m n).map .v | _, _ => none) (fun b2 => by
      simp only [stepI, hev b2]
      ((repeat' split) <;> first | rfl | (simp_all [Option.map_map, Function.comp_def]; done) | (simp_all only [Option.map_map, Function.comp_def]; rfl) | (exfalso; solve_by_elim))) e
    exact ⟨fun _ => this.1, this.2⟩
  | beq n p q =>
    have := pure0 (match St.ev ⟨tm, []⟩ p, St.ev ⟨tm, []⟩ q with | some (.v (.bool m)), some (.v (.bool k)) => some (.v (.bool (if n then !(m == k) else m == k))) | _, _ => none) (fun b2 => by
      simp only [stepI, hev b2]; ((repeat' split) <;> first | rfl | (simp_all [Option.map_map, Function.comp_def]; done) | (simp_all only [Option.map_map, Function.comp_def]; rfl) | (exfalso; solve_by_elim))) e
    exact ⟨fun _ => this.1, this.2⟩
  | snil n p =>
    have := pure0 (match St.ev ⟨tm, []⟩ p with | some (.bs _ _ (_ + 1)) => some (.v (.bool n)) | some (.sl _ _ (_ :: _)) => some (.v (.bool n)) | _ => none) (fun b2 => by
      simp only [stepI, hev b2]; ((repeat' split) <;> first | rfl | (simp_all [Option.map_map, Function.comp_def]; done) | (simp_all only [Option.map_map, Function.comp_def]; rfl) | (exfalso; solve_by_elim))) e
    exact ⟨fun _ => this.1, this.2⟩
  | un op p =>
    have := pure0 (match St.ev ⟨tm, []⟩ p with | some (.v m) => (unV op m).map .v | _ => none) (fun b2 => by
      simp only [stepI, hev b2]
      ((repeat' split) <;> first | rfl | (simp_all [Option.map_map, Function.comp_def]; done) | (simp_all only [Option.map_map, Function.comp_def]; rfl) | (exfalso; solve_by_elim))) e
    exact ⟨fun _ => this.1, this.2⟩
  | conv k p =>
    have := pure0 (match St.ev ⟨tm, []⟩ p with | some (.v (.int _ n)) => some (.v (.int k (k.wrap n))) | _ => none) (fun b2 => by
      simp only [stepI, hev b2]; ((repeat' split) <;> first | rfl | (simp_all [Option.map_map, Function.comp_def]; done) | (simp_all only [Option.map_map, Function.comp_def]; rfl) | (exfalso; solve_by_elim))) e
    exact ⟨fun _ => this.1, this.2⟩
  | idc p =>
    have := pure0 (match St.ev ⟨tm, []⟩ p with | some (.v (.string s)) => some (.v (.string s)) | _ => none) (fun b2 => by
      simp only [stepI, hev b2]; ((repeat' split) <;> first | rfl | (simp_all [Option.map_map, Function.comp_def]; done) | (simp_all only [Option.map_map, Function.comp_def]; rfl) | (exfalso; solve_by_elim))) e
    exact ⟨fun _ => this.1, this.2⟩
  | mkfn f l =>
    have := pure0 ((evs ⟨tm, []⟩ l).map (.fn f)) (fun b2 => by simp only [stepI, evs_bx tm b2 []]; simp [Option.map_map, Function.comp_def]) e
    exact ⟨fun _ => this.1, this.2⟩
  | mksl n z p q =>
    simp only [stepI] at e
    split at e
    · split at e
      · simp only [Option.some.injEq, Prod.mk.injEq] at e
        obtain ⟨rfl, rfl, rfl⟩ := e
        refine ⟨fun h => by simp at h, fun r hr => push_other fun k hk => ?_⟩
        simp at hk hr; omega
      · simp at e
    · simp at e
  | slice s p lo hi mx =>
    simp only [stepI] at e
    split at e
    · rename_i t s' es hq
      have : fp = ⟨false, [], []⟩ ∧ b' = b := by
        split at e
        · split at e
          · split at e
            · simp only [Option.some.injEq, Prod.mk.injEq] at e; exact ⟨e.2.2.symm, e.2.1.symm⟩
            · split at e
              · split at e
                · simp only [Option.some.injEq, Prod.mk.injEq] at e; exact ⟨e.2.2.symm, e.2.1.symm⟩
                · simp at e
              · simp at e
          · simp at e
        · simp at e
      obtain ⟨rfl, rfl⟩ := this
      refine ⟨fun _ => ⟨rfl, fun b2 _ => ?_⟩, fun _ _ => rfl⟩
      simp only [stepI, ev_bx tm b2 b', optNat_bx tm b2 b', hq]
      split at e
      · rename_i l h el eh
        split at e
        · rename_i hc
          rw [if_pos hc]
          split at e
          · simp only [Option.some.injEq, Prod.mk.injEq, and_true] at e ⊢; exact e
          · rename_i m
            split at e
            · rename_i mv hm
              split at e
              · rename_i hc2; rw [if_pos hc2]; simp only [Option.some.injEq, Prod.mk.injEq, and_true] at e ⊢; exact e
              · simp at e
            · simp at e
        · simp at e
      · simp at e
    · rename_i i off len hq
      split at e
      · rename_i l h el eh
        split at e
        · rename_i hc
          split at e
          · rename_i hlh
            simp only [Option.some.injEq, Prod.mk.injEq] at e
            obtain ⟨rfl, rfl, rfl⟩ := e
            refine ⟨fun _ => ⟨rfl, fun b2 _ => ?_⟩, fun _ _ => rfl⟩
            simp only [stepI, ev_bx tm b2 b, optNat_bx tm b2 b, hq, el, eh]
            rw [if_pos hc, if_pos hlh]
          · rename_i hlh
            split at e
            · rename_i s' es hb
              split at e
              · rename_i hss
                simp only [Option.some.injEq, Prod.mk.injEq] at e
                obtain ⟨rfl, rfl, rfl⟩ := e
                refine ⟨fun _ => ⟨rfl, fun b2 h2 => ?_⟩, fun _ _ => rfl⟩
                simp only [stepI, ev_bx tm b2 b, optNat_bx tm b2 b, hq, el, eh]
                rw [if_pos hc, if_neg hlh]
                simp only [h2 i (by simp), hb, hss, if_true]
              · simp at e
            · simp at e
        · simp at e
      · simp at e
    · simp at e
  | sslice p lo hi =>
    have := pure0 (match St.ev ⟨tm, []⟩ p with
      | some (.v (.string s)) => match optNat ⟨tm, []⟩ 0 lo, optNat ⟨tm, []⟩ s.size hi with
        | some l, some h => if l ≤ h && h ≤ s.size then some (.v (.string (s.extract l h))) else none
        | _, _ => none
      | _ => none) (fun b2 => by
      simp only [stepI, hev b2, optNat_bx tm b2 []]
      cases St.ev ⟨tm, []⟩ p with
      | none => rfl
      | some xx => cases xx with
        | v vv => cases vv with
          | string s =>
            dsimp only
            cases optNat ⟨tm, []⟩ 0 lo with
            | none => rfl
            | some l => cases optNat ⟨tm, []⟩ s.size hi with
              | none => rfl
              | some h =>
                dsimp only
                split <;> rfl
          | _ => rfl
        | _ => rfl) e
    exact ⟨fun _ => this.1, this.2⟩
  | faddr n p =>
    have := pure0 (match St.ev ⟨tm, []⟩ p with | some (.ptr i e o) => some (.ptr i e (o + n)) | some (.dp cs) => some (.dp (cs.drop n)) | _ => none) (fun b2 => by
      simp only [stepI, hev b2]; ((repeat' split) <;> first | rfl | (simp_all [Option.map_map, Function.comp_def]; done) | (simp_all only [Option.map_map, Function.comp_def]; rfl) | (exfalso; solve_by_elim))) e
    exact ⟨fun _ => this.1, this.2⟩
  | field n o p =>
    have := pure0 (match St.ev ⟨tm, []⟩ p with
      | some (.agg cs) => match n with
        | none => cs[o]?
        | some n => if ((cs.drop o).take n).length == n then some (.agg ((cs.drop o).take n)) else none
      | _ => none) (fun b2 => by
      simp only [stepI, hev b2]
      ((repeat' split) <;> first | rfl | (simp_all [Option.map_map, Function.comp_def]; done) | (simp_all only [Option.map_map, Function.comp_def]; rfl) | (exfalso; solve_by_elim))) e
    exact ⟨fun _ => this.1, this.2⟩
  | iaddr ar s p q =>
    simp only [stepI] at e
    split at e
    · rename_i yz n ez en
      split at e
      · rename_i t s' es
        split at e
        · rename_i hss
          obtain ⟨z, hz, e1⟩ := map_some e
          simp only [Prod.mk.injEq] at e1
          obtain ⟨rfl, rfl, rfl⟩ := e1
          refine ⟨fun _ => ⟨rfl, fun b2 _ => ?_⟩, fun _ _ => rfl⟩
          simp only [stepI, ev_bx tm b2 b, ez, en, hss, if_true, hz]; rfl
        · simp at e
      · rename_i i off len
        split at e
        · rename_i s' es hb
          split at e
          · rename_i hc
            simp only [Option.some.injEq, Prod.mk.injEq] at e
            obtain ⟨rfl, rfl, rfl⟩ := e
            refine ⟨fun _ => ⟨rfl, fun b2 h2 => ?_⟩, fun _ _ => rfl⟩
            simp only [stepI, ev_bx tm b2 b, ez, en, h2 i (by simp), hb]
            rw [if_pos hc]
          · simp at e
        · simp at e
      · split at e
        · rename_i hc
          simp only [Option.some.injEq, Prod.mk.injEq] at e
          obtain ⟨rfl, rfl, rfl⟩ := e
          refine ⟨fun _ => ⟨rfl, fun b2 _ => ?_⟩, fun _ _ => rfl⟩
          simp only [stepI, ev_bx tm b2 b, ez, en]
          rw [if_pos hc]
        · simp at e
      · split at e
        · rename_i hc
          simp only [Option.some.injEq, Prod.mk.injEq] at e
          obtain ⟨rfl, rfl, rfl⟩ := e
          refine ⟨fun _ => ⟨rfl, fun b2 _ => ?_⟩, fun _ _ => rfl⟩
          simp only [stepI, ev_bx tm b2 b, ez, en]
          rw [if_pos hc]
        · simp at e
      · simp at e
    · simp at e
  | aidx m s r p q =>
    have := pure0 (match St.ev ⟨tm, []⟩ p, (St.ev ⟨tm, []⟩ q).bind natX with
      | some (.agg cs), some j => if j < m then (match r with
        | none => cs[j * s]?
        | some k => if ((cs.drop (j * s)).take k).length == k then some (.agg ((cs.drop (j * s)).take k)) else none) else none
      | _, _ => none) (fun b2 => by
      simp only [stepI, hev b2]
      cases St.ev ⟨tm, []⟩ p with
      | none => rfl
      | some xx => cases xx with
        | agg cs => cases (St.ev ⟨tm, []⟩ q).bind natX with
          | none => rfl
          | some jj =>
            dsimp only
            by_cases hc : jj < m
            · rw [if_pos hc, if_pos hc]
              cases r with
              | none => rfl
              | some k => dsimp only; split <;> rfl
            · rw [if_neg hc, if_neg hc]; rfl
        | _ => rfl) e
    exact ⟨fun _ => this.1, this.2⟩
  | sidx p q =>
    have := pure0 (match St.ev ⟨tm, []⟩ p, (St.ev ⟨tm, []⟩ q).bind natX with
      | some (.v (.string s)), some n => match s[n]? with
        | some b => some (.v (.int .u8 b.toNat))
        | none => none
      | _, _ => none) (fun b2 => by
      simp only [stepI, hev b2]
      ((repeat' split) <;> first | rfl | (simp_all [Option.map_map, Function.comp_def]; done) | (simp_all only [Option.map_map, Function.comp_def]; rfl) | (exfalso; solve_by_elim))) e
    exact ⟨fun _ => this.1, this.2⟩
  | nilck p =>
    have := pure0 (match St.ev ⟨tm, []⟩ p with | some (.ptr i e o) => some (.ptr i e o) | some (.dp cs) => some (.dp cs) | some (.fn f cs) => some (.fn f cs) | some (.yl i) => some (.yl i) | _ => none) (fun b2 => by
      simp only [stepI, hev b2]; ((repeat' split) <;> first | rfl | (simp_all [Option.map_map, Function.comp_def]; done) | (simp_all only [Option.map_map, Function.comp_def]; rfl) | (exfalso; solve_by_elim))) e
    exact ⟨fun _ => this.1, this.2⟩
  | extract p n =>
    have := pure0 (match St.ev ⟨tm, []⟩ p with | some (.tup xs) => xs[n]? | _ => none) (fun b2 => by
      simp only [stepI, hev b2]; ((repeat' split) <;> first | rfl | (simp_all [Option.map_map, Function.comp_def]; done) | (simp_all only [Option.map_map, Function.comp_def]; rfl) | (exfalso; solve_by_elim))) e
    exact ⟨fun _ => this.1, this.2⟩
  | len p =>
    have := pure0 (match St.ev ⟨tm, []⟩ p with | some (.sl _ _ es) => some (.v (.int .i64 (es.length : Int))) | some (.bs _ _ n) => some (.v (.int .i64 (n : Int))) | _ => none) (fun b2 => by
      simp only [stepI, hev b2]; ((repeat' split) <;> first | rfl | (simp_all [Option.map_map, Function.comp_def]; done) | (simp_all only [Option.map_map, Function.comp_def]; rfl) | (exfalso; solve_by_elim))) e
    exact ⟨fun _ => this.1, this.2⟩
  | slen p =>
    have := pure0 (match St.ev ⟨tm, []⟩ p with | some (.v (.string s)) => some (.v (.int .i64 (s.size : Int))) | _ => none) (fun b2 => by
      simp only [stepI, hev b2]; ((repeat' split) <;> first | rfl | (simp_all [Option.map_map, Function.comp_def]; done) | (simp_all only [Option.map_map, Function.comp_def]; rfl) | (exfalso; solve_by_elim))) e
    exact ⟨fun _ => this.1, this.2⟩
  | mm m l =>
    have := pure0 (match evs ⟨tm, []⟩ l with | some (.v (.int .i64 k) :: r) => (mmV m k r).map fun z => .v (.int .i64 z) | _ => none) (fun b2 => by
      simp only [stepI, evs_bx tm b2 []]
      ((repeat' split) <;> first | rfl | (simp_all [Option.map_map, Function.comp_def]; done) | (simp_all only [Option.map_map, Function.comp_def]; rfl) | (exfalso; solve_by_elim))) e
    exact ⟨fun _ => this.1, this.2⟩
  | app own s n p q =>
    simp only [stepI] at e
    split at e
    · rename_i yp yq ep eq
      split at e
      · simp at e
      · rename_i sz' new hsrc
        split at e
        · simp at e
        · rename_i hsz
          split at e
          · rename_i sz0 es
            split at e
            · rename_i hc
              split at e
              · split at e
                · simp only [Option.some.injEq, Prod.mk.injEq] at e
                  obtain ⟨rfl, rfl, rfl⟩ := e
                  exact ⟨fun h => by simp at h, fun _ _ => rfl⟩
                · simp only [Option.some.injEq, Prod.mk.injEq] at e
                  obtain ⟨rfl, rfl, rfl⟩ := e
                  refine ⟨fun h => by simp at h, fun r hr => push_other fun k hk => ?_⟩
                  simp at hk hr; omega
              · rename_i hown
                simp only [Option.some.injEq, Prod.mk.injEq] at e
                obtain ⟨rfl, rfl, rfl⟩ := e
                refine ⟨fun _ => ⟨rfl, fun b2 h2 => ?_⟩, fun _ _ => rfl⟩
                simp only [stepI, ev_bx tm b2 b, ep, eq, srcOf_on h2, hsrc]
                rw [if_neg hsz, if_pos hc, if_neg hown]
            · simp at e
          · split at e
            · split at e
              · simp only [Option.some.injEq, Prod.mk.injEq] at e
                obtain ⟨rfl, rfl, rfl⟩ := e
                refine ⟨fun h => by simp at h, fun r hr => ?_⟩
                simp only [List.mem_cons, List.not_mem_nil, or_false, not_or] at hr
                rw [push_other (fun k hk => ?_), set_other hr.1]
                simp at hk ⊢; omega
              · simp at e
            · simp at e
          · simp at e
    · simp at e
  | call own ref raw f l =>
    simp only [stepI] at e
    split at e
    · rename_i yf ys ef es
      unfold callX at e
      split at e
      · simp at e
      · rename_i as hconv
        split at e
        · rename_i g caps
          split at e
          · rename_i hc
            split at e
            · simp at e
            · rename_i z hz
              split at e
              · rename_i hcond
                simp only [Option.some.injEq, Prod.mk.injEq] at e
                obtain ⟨rfl, rfl, rfl⟩ := e
                refine ⟨fun _ => ⟨rfl, fun b2 h2 => ?_⟩, fun _ _ => rfl⟩
                simp only [Bool.and_eq_true, Bool.not_eq_true'] at hc
                have hd : dataL b2 raw ys = dataL b raw ys := dataL_on ys h2
                simp only [stepI, ev_bx tm b2 b, evs_bx tm b2 b, ef, es, callX, hd, hc.1.2]
                rw [hc.1.2] at hconv
                simp only [Bool.false_eq_true, if_false] at hconv ⊢
                simp only [hconv, hc.1.1, hc.2, hz, hcond]
                simp
              · simp at e
          · split at e
            · split at e
              · simp at e
              · rename_i hz
                simp only [Option.some.injEq, Prod.mk.injEq] at e
                obtain ⟨rfl, rfl, rfl⟩ := e
                exact ⟨fun h => by simp [refFP] at h, fun r hr => callRef_other hz (by simpa [refFP] using hr)⟩
            · simp at e
        · split at e
          · split at e
            · simp at e
            · rename_i hz
              simp only [Option.some.injEq, Prod.mk.injEq] at e
              obtain ⟨rfl, rfl, rfl⟩ := e
              exact ⟨fun h => by simp [refFP] at h, fun r hr => callRef_other hz (by simpa [refFP] using hr)⟩
          · simp at e
        · simp at e
    · simp at e

end Go.Em
