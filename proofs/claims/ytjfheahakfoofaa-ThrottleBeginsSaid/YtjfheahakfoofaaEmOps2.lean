/- The abstract machine: operations on structs, slices and strings are sound. -/
import Derived.Test.YtjfheahakfoofaaEmFlat
namespace Go.Em
variable {P : Program} {R : CodeRel} {x : Ctx} {K : Kn} {C : List CB} {σ : St} {a : Act} {w : World}
variable {o : Oper} {y : X} {bx : List Bx} {fp : FP} {A : Ann} {Γ : Gam}

theorem fold_splice (off : Nat) : ∀ (l : List Value) (k : Nat) (cells : Array Value), off + k + l.length ≤ cells.size →
    ((l.zipIdx k).foldl (fun (cs : Array Value) (p : Value × Nat) => cs.setIfInBounds (off + p.2) p.1) cells).toList = cells.toList.take (off + k) ++ l ++ cells.toList.drop (off + k + l.length)
  | [], k, cells, _ => by simp
  | v :: r, k, cells, h => by
    simp only [List.zipIdx_cons, List.foldl_cons]
    rw [fold_splice off r (k + 1) (cells.setIfInBounds (off + k) v) (by simp at h ⊢; omega)]
    have e := list_seg_step cells.toList (off + k) v r (by simp at h ⊢; omega)
    simpa [Array.toList_setIfInBounds, Nat.add_assoc] using e

theorem fill_step (place : Nat → Option (Nat × Nat)) (cells : Array Value) (i off size : Nat) (v : Value) (rest : List (Nat × Value)) (hp : place i = some (off, size)) (hs : v.cells.size = size)
    (hf : off + v.cells.size ≤ cells.size) :
    ∃ cells', Instr.fill place cells ((i, v) :: rest) = Instr.fill place cells' rest ∧ cells'.toList = cells.toList.take off ++ v.cells.toList ++ cells.toList.drop (off + v.cells.toList.length) := by
  refine ⟨v.cells.zipIdx.foldl (fun (cs : Array Value) (p : Value × Nat) => cs.setIfInBounds (off + p.2) p.1) cells, ?_, ?_⟩
  · have h1 : (decide (v.cells.size ≠ size) || decide (off + v.cells.size > cells.size)) = false := by simp [hs]; omega
    simp only [Instr.fill, hp]
    rw [if_neg (by simpa using h1)]
  · have := fold_splice off v.cells.toList 0 cells (by simp; omega)
    simp only [Nat.add_zero] at this
    rw [← this, ← Array.foldl_toList, Array.toList_zipIdx]

theorem fill_rep {place : Nat → Option (Nat × Nat × TypeId)} {place' : Nat → Option (Nat × Nat)} (hpl : ∀ i b c t, place i = some (b, c, t) → place' i = some (b, c)) (ht : TmOk K C σ.tm a.tmps) :
    ∀ {ops : List (Nat × Operand)} {qs : List (Nat × Nat × Opd)} {ps : List (Nat × Nat × X)} {zero cs : List X} {zarr : Array Value}, trParts3 P place ops = some qs → parts3 σ qs = some ps →
      fillX zero ps = some cs → CRep K C zero zarr.toList → ∃ arr, Instr.fill place' zarr (ops.map fun p => (p.1, a.eval p.2)) = some arr ∧ CRep K C cs arr.toList
  | [], qs, ps, zero, cs, zarr, h1, h2, h3, h4 => by
    simp only [trParts3, Option.some.injEq] at h1; subst h1
    simp only [parts3, Option.some.injEq] at h2; subst h2
    simp only [fillX, Option.some.injEq] at h3; subst h3
    exact ⟨zarr, rfl, h4⟩
  | (i, op) :: r, qs, ps, zero, cs, zarr, h1, h2, h3, h4 => by
    simp only [trParts3] at h1
    cases hp : place i with
    | none => simp [hp] at h1
    | some q =>
      obtain ⟨b, c, t⟩ := q
      simp only [hp] at h1
      cases ho : trOpd P t op with
      | none => simp [ho] at h1
      | some q =>
        cases hr : trParts3 P place r with
        | none => simp [ho, hr] at h1
        | some l =>
          simp only [ho, hr, Option.some.injEq] at h1; subst h1
          simp only [parts3] at h2
          cases he : σ.ev q with
          | none => simp [he] at h2
          | some y =>
            simp only [he] at h2
            obtain ⟨ps', hps, rfl⟩ := Option.map_eq_some_iff.1 h2
            simp only [fillX] at h3
            split at h3
            · rename_i hc
              simp only [Bool.and_eq_true, beq_iff_eq] at hc
              cases hsp : splice zero b y.cells with
              | none => simp [hsp] at h3
              | some z =>
                simp only [hsp] at h3
                have hy := (ev_rep ht ho he).cells hc.1
                obtain ⟨hz, hf⟩ := h4.splice hy hsp
                obtain ⟨cells', e1, e2⟩ := fill_step place' zarr i b c (a.eval op) (r.map fun p => (p.1, a.eval p.2)) (hpl i b c t hp) (by have := hy.len; simp at this; omega) (by simpa using hf)
                rw [← e2] at hz
                obtain ⟨arr, h5, h6⟩ := fill_rep hpl ht hr hps h3 hz
                exact ⟨arr, by rw [List.map_cons, e1]; exact h5, h6⟩
            · simp at h3

theorem mapM_run {α β : Type} (f : α → Sem β) (g : α → β) (w : World) : ∀ (l : List α), (∀ x, x ∈ l → (f x).run P w = .ok (g x) w) → (l.mapM f).run P w = .ok (l.map g) w
  | [], _ => by simp
  | x :: r, h => by
    have ih := mapM_run f g w r (fun y hy => h y (by simp [hy]))
    simp [List.mapM_cons, h x (by simp), ih]

theorem mapM_run_arr {α β : Type} (f : α → Sem β) (g : α → β) (w : World) (l : Array α) (h : ∀ x, x ∈ l.toList → (f x).run P w = .ok (g x) w) : (l.mapM f).run P w = .ok (l.map g) w := by
  have e : l = l.toList.toArray := by simp
  rw [e, List.mapM_toArray]
  simp only [Sem.run_map, mapM_run f g w l.toList h, Result.andThen_ok]
  congr 1
  apply Array.ext'; simp

theorem op_build_struct {t : TypeId} {parts : Array (Nat × Operand)} {fs : Array Field} {z cs : List X} {qs : List (Nat × Nat × Opd)} {ps : List (Nat × Nat × X)} (h : Rel P R x K C σ a w) (ho : o.op = .build t parts)
    (hu : P.underlying t = some (.struct fs)) (hz : zeroP P t = some z) (hall : (fs.toList.all fun f => (sizeP P f.type).isSome) = true)
    (hq : trParts3 P (fun i => (fs[i]?).bind fun f => (sizeP P f.type).map fun n => (f.offset, n, f.type)) parts.toList = some qs) (hp : parts3 σ qs = some ps) (hf : fillX z ps = some cs) :
    OpOk P R x σ a w o (.agg cs) σ.bx := by
  obtain ⟨zv, hrun, hr, _, _⟩ := zeroP_run hz w
  have hm : (fs.mapM fun f => (do pure (f.offset, ← sizeOf f.type) : Sem (Nat × Nat))).run P w = .ok (fs.map fun f => (f.offset, (sizeP P f.type).getD 0)) w := by
    refine mapM_run_arr _ _ w fs (fun f hfm => ?_)
    have := (List.all_eq_true.1 hall) f hfm
    obtain ⟨n, hn⟩ := Option.isSome_iff_exists.1 this
    simp [sizeP_run hn w, hn]
  obtain ⟨arr, h1, h2⟩ := fill_rep (place' := fun i => (fs.map fun f => (f.offset, (sizeP P f.type).getD 0))[i]?) (fun i b c t e => by
    obtain ⟨f, hf1, hf2⟩ := Option.bind_eq_some_iff.1 e
    obtain ⟨n, hn, e'⟩ := Option.map_eq_some_iff.1 hf2
    cases e'
    simp [hf1, hn]) h.tm hq hp hf (hr K C)
  refine .still h (v := .agg arr) ?_ (.agg (by simpa using h2.len) h2.cell (fun j y v ey ev => h2.rep j y v ey (by simpa using ev)))
  have h1' : Instr.fill (fun i => (fs.map fun f => (f.offset, (sizeP P f.type).getD 0))[i]?) zv.cells (parts.map fun p => (p.1, a.eval p.2)).toList = some arr := by simpa using h1
  simp only [execOp, ho, Instr.build, Sem.run_bind, hrun, run_underlying hu, hm, Result.andThen_ok, Sem.run_pure]
  rw [h1']
  rfl

theorem op_build_arr {t e : TypeId} {parts : Array (Nat × Operand)} {m n : Nat} {z cs : List X} {qs : List (Nat × Nat × Opd)} {ps : List (Nat × Nat × X)} (h : Rel P R x K C σ a w) (ho : o.op = .build t parts)
    (hu : P.underlying t = some (.array m e)) (hz : zeroP P t = some z) (hn : sizeP P e = some n)
    (hq : trParts3 P (fun i => some (i * n, n, e)) parts.toList = some qs) (hp : parts3 σ qs = some ps) (hf : fillX z ps = some cs) :
    OpOk P R x σ a w o (.agg cs) σ.bx := by
  obtain ⟨zv, hrun, hr, _, _⟩ := zeroP_run hz w
  obtain ⟨arr, h1, h2⟩ := fill_rep (place' := fun i => some (i * n, n)) (fun i b c t e => by cases e; rfl) h.tm hq hp hf (hr K C)
  refine .still h (v := .agg arr) ?_ (.agg (by simpa using h2.len) h2.cell (fun j y v ey ev => h2.rep j y v ey (by simpa using ev)))
  have h1' : Instr.fill (fun i => some (i * n, n)) zv.cells (parts.map fun p => (p.1, a.eval p.2)).toList = some arr := by simpa using h1
  simp only [execOp, ho, Instr.build, Sem.run_bind, hrun, run_underlying hu, sizeP_run hn w, Result.andThen_ok, Sem.run_pure]
  rw [h1']
  rfl

/-! ### A slice that is written out -/
theorem bs_fill {t : TypeId} {sz : Nat} (ht : TmOk K C σ.tm a.tmps) :
    ∀ {ops : List (Nat × Operand)} {qs : List (Nat × Opd)} {ps : List (Nat × X)} {es : List (List X)} {k : Nat} {arr : Array Value}, trParts2 P t ops = some qs → parts2 σ qs = some ps →
      bsElems sz k ps = some es → (k + ps.length) * sz ≤ arr.size →
      ∃ arr', Instr.fill (fun i => some (i * sz, sz)) arr (ops.map fun p => (p.1, a.eval p.2)) = some arr' ∧ arr'.size = arr.size ∧ arr'.toList.take (k * sz) = arr.toList.take (k * sz) ∧ es.length = ps.length ∧
        Flat K sz es ((arr'.toList.drop (k * sz)).take (es.length * sz))
  | [], qs, ps, es, k, arr, h1, h2, h3, h4 => by
    simp only [trParts2, Option.some.injEq] at h1; subst h1
    simp only [parts2, Option.some.injEq] at h2; subst h2
    simp only [bsElems, Option.some.injEq] at h3; subst h3
    exact ⟨arr, rfl, rfl, rfl, rfl, by simpa using Flat.nil⟩
  | (i, op) :: r, qs, ps, es, k, arr, h1, h2, h3, h4 => by
    simp only [trParts2] at h1
    cases ho : trOpd P t op with
    | none => simp [ho] at h1
    | some q =>
      cases hr : trParts2 P t r with
      | none => simp [ho, hr] at h1
      | some l =>
        simp only [ho, hr, Option.some.injEq] at h1; subst h1
        simp only [parts2] at h2
        cases he : σ.ev q with
        | none => simp [he] at h2
        | some y =>
          simp only [he] at h2
          obtain ⟨ps', hps, rfl⟩ := Option.map_eq_some_iff.1 h2
          simp only [bsElems] at h3
          split at h3
          · rename_i hc
            simp only [Bool.and_eq_true, beq_iff_eq, List.isEmpty_iff] at hc
            obtain ⟨⟨⟨rfl, hc1⟩, hc2⟩, hc3⟩ := hc
            obtain ⟨es', hes, rfl⟩ := Option.map_eq_some_iff.1 h3
            have hy := (ev_rep ht ho he).cells hc1
            have hy0 : CRep K [] y.cells (a.eval op).cells.toList := ⟨hy.len, hy.cell, fun j z v e e' => (hy.rep j z v e e').noRef (by
              refine List.eq_nil_iff_forall_not_mem.2 fun n hn => ?_
              have : n ∈ refsL y.cells := mem_refsL.2 ⟨z, List.mem_of_getElem? e, hn⟩
              rw [hc3] at this; simp at this)⟩
            have hvl : (a.eval op).cells.size = sz := by have := hy.len; simp at this; omega
            have hfit : i * sz + sz ≤ arr.size := by
              have h5 : (i + 1) * sz ≤ (i + ((i, y) :: ps').length) * sz := Nat.mul_le_mul_right sz (by simp)
              rw [Nat.add_mul, Nat.one_mul] at h5; omega
            obtain ⟨cells', e1, e2⟩ := fill_step (fun i => some (i * sz, sz)) arr i (i * sz) sz (a.eval op) (r.map fun p => (p.1, a.eval p.2)) rfl hvl (by omega)
            have hsz' : cells'.size = arr.size := by
              have := congrArg List.length e2
              simp [hvl] at this; omega
            obtain ⟨arr', f1, f2, f3, f4, f5⟩ := bs_fill ht hr hps hes (arr := cells') (by
              rw [hsz']; simp only [List.length_cons] at h4; rw [show i + 1 + ps'.length = i + (ps'.length + 1) by omega]; exact h4)
            refine ⟨arr', by rw [List.map_cons, e1]; exact f1, by omega, ?_, by simp [f4], ?_⟩
            · have h6 : arr'.toList.take (i * sz) = (arr'.toList.take ((i + 1) * sz)).take (i * sz) := by
                rw [List.take_take, Nat.min_eq_left (Nat.mul_le_mul_right sz (by omega))]
              rw [h6, f3, e2, List.take_take, Nat.min_eq_left (Nat.mul_le_mul_right sz (by omega))]
              rw [List.append_assoc, List.take_append_of_le_length (by simp; omega), List.take_take, Nat.min_self]
            · have h7 : (arr'.toList.drop (i * sz)).take ((es'.length + 1) * sz) = (a.eval op).cells.toList ++ (arr'.toList.drop ((i + 1) * sz)).take (es'.length * sz) := by
                have h8 : (arr'.toList.drop (i * sz)).take sz = (a.eval op).cells.toList := by
                  have h9 : (arr'.toList.drop (i * sz)).take sz = (arr'.toList.take ((i + 1) * sz)).drop (i * sz) := by
                    rw [List.take_drop, Nat.add_mul, Nat.one_mul]
                  rw [h9, f3, e2]
                  have hlen : (arr.toList.take (i * sz)).length = i * sz := by simp; omega
                  rw [List.append_assoc, Nat.add_mul, Nat.one_mul]
                  have h10 : (arr.toList.take (i * sz) ++ ((a.eval op).cells.toList ++ arr.toList.drop (i * sz + (a.eval op).cells.toList.length))).take (i * sz + sz) = arr.toList.take (i * sz) ++ (a.eval op).cells.toList := by
                    rw [← List.append_assoc, List.take_append_of_le_length (by simp [hvl]; omega)]
                    exact List.take_of_length_le (by simp [hvl]; omega)
                  rw [h10, List.drop_append_of_le_length (by omega), List.drop_of_length_le (by omega)]; simp
                rw [Nat.add_mul, Nat.one_mul, Nat.add_comm (es'.length * sz) sz, List.take_add, h8, List.drop_drop, Nat.add_mul, Nat.one_mul]
              rw [List.length_cons, h7]
              exact (Flat.one hy0 hc2).append f5
          · simp at h3

theorem op_bslice {t e : TypeId} {len : Nat} {parts : Array (Nat × Operand)} {z : List X} {es : List (List X)} {qs : List (Nat × Opd)} {ps : List (Nat × X)} (h : Rel P R x K C σ a w) (ho : o.op = .buildSlice t len parts)
    (hu : P.underlying t = some (.slice e)) (hz : zeroP P e = some z) (hl : len * z.length ≤ 2 ^ 24)
    (hq : trParts2 P e parts.toList = some qs) (hp : parts2 σ qs = some ps) (hlen : len = ps.length) (hf : bsElems z.length 0 ps = some es) : OpOk P R x σ a w o (.sl true z.length es) σ.bx := by
  obtain ⟨zv, hrun, hr, hsz, hpos⟩ := zeroP_run hz w
  have hzs : zv.cells.size = z.length := by have := (hr K C).len; simpa using this
  have key : ∀ zero : Array Value, ∃ arr', Instr.fill (fun i => some (i * z.length, z.length)) ((Array.range (len * z.length)).map (zero[· % zero.size]!)) (parts.toList.map fun p => (p.1, a.eval p.2)) = some arr' ∧
      es.length = len ∧ Flat K z.length es arr'.toList := by
    intro zero
    obtain ⟨arr', f1, f2, _, f4, f5⟩ := bs_fill (k := 0) (arr := (Array.range (len * z.length)).map (zero[· % zero.size]!)) h.tm hq hp hf (by simp [hlen])
    refine ⟨arr', f1, by omega, ?_⟩
    have : arr'.toList.length = es.length * z.length := by simp [f2, f4, hlen]
    rw [Nat.zero_mul, List.drop_zero, List.take_of_length_le (by omega)] at f5
    exact f5
  have fin : ∀ arr' : Array Value, es.length = len → Flat K z.length es arr'.toList → (execOp a.eval o).run P w = .ok (.value (.slice (some ⟨w.heap.size, 0, none⟩) len len)) (w.alloc (.cells arr' e)) →
      OpOk P R x σ a w o (.sl true z.length es) σ.bx := by
    intro arr' h1 h2 h3
    refine ⟨_, C, _, _, _, h3, .inl rfl, h.learn arr' e, ?_⟩
    rw [← h1]
    refine (h2.mono (Kn.add_le h.inv arr')).rep (fun k v hv => ?_) (fun _ => rfl) (Nat.le_refl _)
    simp only [Kn.add, if_true, Nat.zero_add]; rw [← toArray_getElem?]; exact hv
  have hu' := run_underlying hu w
  have hno : ¬ (len * z.length > 2 ^ 24) := by omega
  by_cases h0 : len * z.length = 0
  · obtain ⟨arr', k1, k2, k3⟩ := key #[]
    refine fin arr' k2 k3 ?_
    have k1' : Instr.fill (fun i => some (i * z.length, z.length)) ((Array.range (len * z.length)).map ((#[] : Array Value)[· % (#[] : Array Value).size]!)) (parts.map fun p => (p.1, a.eval p.2)).toList = some arr' := by simpa using k1
    simp only [execOp, ho, Instr.buildSlice, Sem.run_bind, hu', sizeP_run hsz w, Result.andThen_ok]
    rw [if_neg hno, if_pos h0]
    simp only [Sem.run_bind, Sem.run_pure, Result.andThen_ok]
    rw [k1']
    simp only [newRow, newObj]
    rfl
  · obtain ⟨arr', k1, k2, k3⟩ := key zv.cells
    refine fin arr' k2 k3 ?_
    have k1' : Instr.fill (fun i => some (i * z.length, z.length)) ((Array.range (len * z.length)).map (zv.cells[· % zv.cells.size]!)) (parts.map fun p => (p.1, a.eval p.2)).toList = some arr' := by simpa using k1
    simp only [execOp, ho, Instr.buildSlice, Sem.run_bind, hu', sizeP_run hsz w, Result.andThen_ok]
    rw [if_neg hno, if_neg h0]
    simp only [Sem.run_bind, hrun, Sem.run_pure, Result.andThen_ok]
    rw [k1']
    simp only [newRow, newObj]
    rfl

end Go.Em
