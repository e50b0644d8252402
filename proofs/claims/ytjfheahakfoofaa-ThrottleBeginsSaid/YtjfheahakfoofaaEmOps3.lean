/- The abstract machine: stores, slices, strings, small operations are sound. -/
import Derived.Test.YtjfheahakfoofaaEmOps2
namespace Go.Em
variable {P : Program} {R : CodeRel} {x : Ctx} {K : Kn} {C : List CB} {σ : St} {a : Act} {w : World}
variable {o : Oper} {y : X} {bx : List Bx} {fp : FP} {A : Ann} {Γ : Gam}

theorem crep_noRef {xs : List X} {vs : List Value} (h : CRep K C xs vs) (e : (refsL xs).isEmpty = true) : CRep K [] xs vs :=
  ⟨h.len, h.cell, fun j z v e1 e2 => (h.rep j z v e1 e2).noRef (by
    refine List.eq_nil_iff_forall_not_mem.2 fun n hn => ?_
    have h1 : n ∈ refsL xs := mem_refsL.2 ⟨z, List.mem_of_getElem? e1, hn⟩
    rw [List.isEmpty_iff.1 e] at h1; simp at h1)⟩

/-- A store into a box. -/
theorem store_rep {t : TypeId} {n : Nat} {p z : X} {pv zv : Value} (h : Rel P R x K C σ a w) (hn : sizeP P t = some n) (hp : Rep K C p pv) (hz : Rep K C z zv) (e : storeX σ.bx n p z = some bx) :
    ∃ b k w', pv = .pointer (some ⟨b, k, none⟩) ∧ (storeVar t ⟨b, k, none⟩ zv).run P w = .ok () w' ∧ Rel P R x K C ⟨σ.tm, bx⟩ a w' := by
  unfold storeX at e
  split at e
  · rename_i hc
    simp only [Bool.and_eq_true, beq_iff_eq] at hc
    have hzc := hz.cells hc.1
    have hsz : zv.cells.size = n := by have := hzc.len; simp at this; omega
    have run : ∀ (b k : Nat) (arr : Array Value) (el : TypeId), w.heap[b]? = some (.cells arr el (0, 0)) → k + zv.cells.toList.length ≤ arr.size →
        (storeVar t ⟨b, k, none⟩ zv).run P w = .ok () (w.setRow b (arr.toList.take k ++ zv.cells.toList ++ arr.toList.drop (k + zv.cells.toList.length)).toArray) := by
      intro b k arr el hb hf
      have := run_storeCells_at P b k el zv.cells.toList 0 arr w hb (by simpa using hf) hzc.oneCell
      simp only [Nat.add_zero] at this
      simp only [storeVar, Sem.run_bind, sizeP_run hn w, Result.andThen_ok]
      rw [if_neg (by simp [hsz])]
      simpa using this
    split at e
    · rename_i i el k
      cases hp with
      | ptr hcb =>
        rename_i b base hi sz
        split at e
        · rename_i cs hb
          split at e
          · rename_i h0
            have h0 : el = 0 := by simpa using h0
            subst h0
            obtain ⟨cs', hs, rfl⟩ := Option.map_eq_some_iff.1 e
            obtain ⟨h1, h2, arr, t', hbl, hr⟩ := h.inv.box i _ _ hb hcb
            subst h1
            obtain ⟨hsp, hfit⟩ := hr.splice hzc hs
            have hfit' : k + zv.cells.toList.length ≤ arr.size := by simpa using hfit
            have hsize : (arr.toList.take k ++ zv.cells.toList ++ arr.toList.drop (k + zv.cells.toList.length)).toArray.size = arr.size := by simp; simp at hfit'; omega
            have hlen : cs'.length = cs.length := by
              have h3 := hsp.len; have h4 := hr.len
              simp at h3 h4 hfit'; omega
            refine ⟨b, k, _, by simp, run b k arr t' hbl hfit', ?_⟩
            refine h.setBox hb rfl hcb (FrameOk.setRow hbl hsize fun q hq => ?_) ⟨rfl, by omega, _, t', setRow_heap w b arr _ t' _ hbl, by simpa using hsp⟩ (by simp [Bx.isLoop])
            have hq' : ¬ q < arr.size := by
              intro hlt
              have h4 := hr.len; simp at h4
              exact hq ⟨rfl, by omega, by omega⟩
            rw [Array.getElem?_eq_none (by omega), Array.getElem?_eq_none (by omega)]
          · simp at e
        · rename_i sz' es hb
          split at e
          · simp at e
          · rename_i cs he
            split at e
            · rename_i hre
              obtain ⟨cs', hs, rfl⟩ := Option.map_eq_some_iff.1 e
              obtain ⟨h1, h2, h3, arr, t', hbl, hl, hr⟩ := h.inv.box i _ _ hb hcb
              subst h1
              have hz0 := crep_noRef hzc hre
              have hi1 := (List.getElem?_eq_some_iff.1 he).1
              have hm : el * sz + sz ≤ es.length * sz := by
                have := Nat.mul_le_mul_right sz (show el + 1 ≤ es.length from hi1)
                rw [Nat.add_mul, Nat.one_mul] at this; exact this
              have hcl := h3 cs (List.mem_of_getElem? he)
              have hspl : k + z.cells.length ≤ cs.length ∧ cs' = cs.take k ++ z.cells ++ cs.drop (k + z.cells.length) := by
                unfold splice at hs; split at hs
                · rename_i hle; simp only [Option.some.injEq] at hs; exact ⟨hle, hs.symm⟩
                · simp at hs
              obtain ⟨hle, rfl⟩ := hspl
              have hzl : zv.cells.toList.length = z.cells.length := hzc.len
              have hfit' : base + el * sz + k + zv.cells.toList.length ≤ arr.size := by omega
              have hsize : (arr.toList.take (base + el * sz + k) ++ zv.cells.toList ++ arr.toList.drop (base + el * sz + k + zv.cells.toList.length)).toArray.size = arr.size := by simp; simp at hfit'; omega
              refine ⟨b, _, _, rfl, run b (base + el * sz + k) arr t' hbl hfit', ?_⟩
              have hget : ∀ q, (arr.toList.take (base + el * sz + k) ++ zv.cells.toList ++ arr.toList.drop (base + el * sz + k + zv.cells.toList.length)).toArray[q]? =
                  if q < base + el * sz + k then arr[q]? else if q < base + el * sz + k + z.cells.length then zv.cells[q - (base + el * sz + k)]? else arr[q]? := by
                intro q
                have hA : (arr.toList.take (base + el * sz + k)).length = base + el * sz + k := by simp; omega
                simp only [List.getElem?_toArray]
                by_cases h5 : q < base + el * sz + k
                · rw [if_pos h5, List.append_assoc, List.getElem?_append_left (by omega), List.getElem?_take, if_pos h5, toArray_getElem?]
                · rw [if_neg h5, List.append_assoc, List.getElem?_append_right (by omega), hA]
                  by_cases h6 : q < base + el * sz + k + z.cells.length
                  · rw [if_pos h6, List.getElem?_append_left (by omega), toArray_getElem?]
                  · rw [if_neg h6, List.getElem?_append_right (by omega), List.getElem?_drop, toArray_getElem?]
                    congr 1; omega
              refine h.setBox hb rfl hcb (FrameOk.setRow hbl hsize fun q hq => ?_) ⟨rfl, by simpa using h2, ?_, _, t', setRow_heap w b arr _ t' _ hbl, by omega, ?_⟩ (by simp [Bx.isLoop])
              · rw [hget q]
                have hout : ¬ (base ≤ q ∧ q < hi) := fun hh => hq ⟨rfl, hh.1, hh.2⟩
                by_cases h5 : q < base + el * sz + k
                · rw [if_pos h5]
                · rw [if_neg h5, if_neg (by omega)]
              · intro e0 he0
                obtain ⟨q, hq, rfl⟩ := List.mem_iff_getElem.1 he0
                rw [List.getElem_set]
                split
                · simp; omega
                · exact h3 _ (List.getElem_mem _)
              · intro i' j z' ez
                obtain ⟨e0, he0, hj⟩ := at2_some.1 ez
                rw [List.getElem?_set] at he0
                split at he0
                · rename_i hii
                  subst hii
                  simp only [Option.some.injEq] at he0; subst he0
                  have hjs := (List.getElem?_eq_some_iff.1 hj).1
                  have hjl : j < sz := by simp at hjs; omega
                  rw [hget]
                  by_cases h5 : j < k
                  · rw [List.append_assoc, List.getElem?_append_left (by simp; omega), List.getElem?_take, if_pos h5] at hj
                    obtain ⟨hc1, v, hv, hrv⟩ := hr el j z' (at2_some.2 ⟨cs, he, hj⟩)
                    exact ⟨hc1, v, by rw [if_pos (by omega)]; exact hv, hrv⟩
                  · have hT : (cs.take k).length = k := by simp; omega
                    rw [List.append_assoc, List.getElem?_append_right (by omega), hT] at hj
                    rw [if_neg (by omega)]
                    by_cases h6 : j - k < z.cells.length
                    · rw [List.getElem?_append_left h6] at hj
                      obtain ⟨v, hv, hrv⟩ := hz0.get hj
                      refine ⟨hz0.cell z' (List.mem_of_getElem? hj), v, ?_, hrv⟩
                      rw [if_pos (by omega), ← toArray_getElem?, ← hv]; congr 1; omega
                    · rw [List.getElem?_append_right (by omega), List.getElem?_drop] at hj
                      have : k + z.cells.length + (j - k - z.cells.length) = j := by omega
                      rw [this] at hj
                      obtain ⟨hc1, v, hv, hrv⟩ := hr el j z' (at2_some.2 ⟨cs, he, hj⟩)
                      exact ⟨hc1, v, by rw [if_neg (by omega)]; exact hv, hrv⟩
                · rename_i hii
                  obtain ⟨hc1, v, hv, hrv⟩ := hr i' j z' (at2_some.2 ⟨e0, he0, hj⟩)
                  refine ⟨hc1, v, ?_, hrv⟩
                  obtain ⟨hb1, hb2, hb3⟩ := at2_lt h3 (at2_some.2 ⟨e0, he0, hj⟩)
                  rw [hget]
                  by_cases hlt : i' < el
                  · have := Nat.mul_le_mul_right sz (show i' + 1 ≤ el from hlt)
                    rw [Nat.add_mul, Nat.one_mul] at this
                    rw [if_pos (by omega)]; exact hv
                  · have := Nat.mul_le_mul_right sz (show el + 1 ≤ i' by omega)
                    rw [Nat.add_mul, Nat.one_mul] at this
                    rw [if_neg (by omega), if_neg (by omega)]; exact hv
            · simp at e
        · simp at e
    · simp at e
  · simp at e

theorem op_store {t t1 t2 : TypeId} {n : Nat} {p z : Operand} {p' z' : Opd} {yp yz : X} (h : Rel P R x K C σ a w) (ho : o.op = .store t p z) (hn : sizeP P t = some n) (hp : trOpd P t1 p = some p') (hz : trOpd P t2 z = some z')
    (ep : σ.ev p' = some yp) (ez : σ.ev z' = some yz) (e : storeX σ.bx n yp yz = some bx) : OpOk P R x σ a w o undefX bx := by
  obtain ⟨b, k, w', hv, hrun, hrel⟩ := store_rep h hn (ev_rep h.tm hp ep) (ev_rep h.tm hz ez) e
  refine ⟨K, C, .skip, undef, w', ?_, .inr ⟨rfl, rfl⟩, hrel, .v rfl⟩
  simp [execOp, ho, Instr.storeAt, hv, Instr.sureAddr, hrun]

theorem rep_len {v : Value} {n : Nat} (h : Rep K C y v) (e : (match y with | .sl _ _ es => some es.length | .bs _ _ n => some n | _ => none) = some n) :
    ∃ ob cap, v = .slice ob n cap := by
  cases h with
  | slNil => simp at e; subst e; exact ⟨none, 0, rfl⟩
  | sl => simp at e; subst e; exact ⟨_, _, rfl⟩
  | bs => simp at e; subst e; exact ⟨_, _, rfl⟩
  | bsNil => simp at e; subst e; exact ⟨_, _, rfl⟩
  | _ => simp at e

theorem run_builtin_len {args : Array Operand} {tys : Array TypeId} {t : TypeId} {p : Operand} {d : TypeDesc} {v : Value} {n : Nat} (ho : o.op = .call ⟨.builtin .len, args, tys⟩) (ha : args.toList = [p]) (ht : tys[0]? = some t) (hu : P.underlying t = some d)
    (hv : a.eval p = v) (hl : (∃ e ob cap, d = .slice e ∧ v = .slice ob n cap) ∨ (∃ s : ByteArray, d = .string ∧ v = .string s ∧ s.size = n)) :
    (execOp a.eval o).run P w = .ok (.value (.int .i64 (n : Int))) w := by
  have ha' : args = #[p] := by rw [← Array.toArray_toList (xs := args), ha]
  subst ha'
  rcases hl with ⟨e, ob, cap, rfl, rfl⟩ | ⟨s, rfl, rfl, rfl⟩
  · simp [execOp, ho, resolve, invoke, builtin, Builtin.len_, ht, run_underlying hu, hv, goInt]
  · simp [execOp, ho, resolve, invoke, builtin, Builtin.len_, ht, run_underlying hu, hv, goInt]

theorem op_conv {k : IntKind} {s d t1 : TypeId} {z : Operand} {z' : Opd} {k' ks : IntKind} {n : Int} (h : Rel P R x K C σ a w) (ho : o.op = .convert s d z) (hs : P.underlying s = some (.int ks)) (hd : P.underlying d = some (.int k)) (hz : trOpd P t1 z = some z')
    (ez : σ.ev z' = some (.v (.int k' n))) : OpOk P R x σ a w o (.v (.int k (k.wrap n))) σ.bx := by
  have r1 := rep_v (ev_rep h.tm hz ez)
  exact .still h (v := .int k (k.wrap n)) (by simp [execOp, ho, convert, run_underlying hs, run_underlying hd, r1, Conv.intToInt]) (.v rfl)

theorem op_idc {s d t1 : TypeId} {z : Operand} {z' : Opd} {b : ByteArray} (h : Rel P R x K C σ a w) (ho : o.op = .convert s d z) (hs : P.underlying s = some .string) (hd : P.underlying d = some .string) (hz : trOpd P t1 z = some z')
    (ez : σ.ev z' = some (.v (.string b))) : OpOk P R x σ a w o (.v (.string b)) σ.bx := by
  have r1 := rep_v (ev_rep h.tm hz ez)
  exact .still h (v := .string b) (by simp [execOp, ho, convert, run_underlying hs, run_underlying hd, r1]) (.v rfl)

theorem op_mkfn {f : FuncId} {first caps : Array Operand} {ts : List TypeId} {qs : List Opd} {ys : List X} (h : Rel P R x K C σ a w) (ho : o.op = .makeFunc (.func f) first caps) (hf : first.isEmpty = true) (hq : trOpds P ts caps.toList = some qs)
    (he : evs σ qs = some ys) : OpOk P R x σ a w o (.fn f ys) σ.bx := by
  obtain ⟨h1, h2⟩ := evs_rep h.tm hq he
  have hf' : first = #[] := by simpa using hf
  refine .still h (v := .func (.func f) #[] (caps.map a.eval)) (by simp [execOp, ho, Instr.makeFunc, hf']) (.fn (by simp [h1]) fun j z v ez ev => h2 j z v ez ?_)
  simpa using ev

theorem op_mksl {t e t1 t2 : TypeId} {l c : Operand} {l' c' : Opd} {z : List X} {bytes n m : Nat} {yl yc : X} (h : Rel P R x K C σ a w) (ho : o.op = .makeSlice t l c) (hu : P.underlying t = some (.slice e)) (hz : zeroP P e = some z) (hb : bytesP P e = some bytes)
    (hl : trOpd P t1 l = some l') (hc : trOpd P t2 c = some c') (el : σ.ev l' = some yl) (ec : σ.ev c' = some yc) (nl : natX yl = some n) (nc : natX yc = some m) (hnm : n ≤ m) (hroom : roomOk m bytes = true) :
    OpOk P R x σ a w o (.bs σ.bx.length 0 n) (σ.bx ++ [.row z.length (List.replicate n z)]) := by
  have r1 := natX_rep (ev_rep h.tm hl el) nl
  have r2 := natX_rep (ev_rep h.tm hc ec) nc
  obtain ⟨zv, hrun, hr, hsz, hpos⟩ := zeroP_run hz w
  simp only [roomOk, Bool.and_eq_true, decide_eq_true_eq] at hroom
  unfold bytesP at hb
  obtain ⟨i, hi, rfl⟩ := Option.map_eq_some_iff.1 hb
  have hiz : i.zero = some zv := by
    simp only [zeroValue, typeInfo, Sem.run_bind, run_program, Result.andThen_ok, hi] at hrun
    simp only [Sem.run_pure, Result.andThen_ok] at hrun
    split at hrun
    · rename_i v hv; simp at hrun; rw [hv, hrun]
    · simp at hrun
  have his : i.size = z.length := by simpa [sizeP, hi] using hsz
  have hzs : zv.cells.size = z.length := by have := (hr K C).len; simpa using this
  have hmb : (i.bytes : Int) * (m : Int) ≤ 281474976710656 := by
    have : i.bytes * m ≤ 281474976710656 := by rw [Nat.mul_comm]; omega
    have e1 : ((i.bytes : Int) * (m : Int)) = ((i.bytes * m : Nat) : Int) := (Int.natCast_mul _ _).symm
    rw [e1]; omega
  have hmake := run_make (P := P) w t e i zv hu hi hiz .i64 .i64 (n : Int) (m : Int) (by omega) (by omega) hmb (by omega)
  have hc2 : (C ++ [CB.at w.heap.size 0 (m * z.length) z.length])[σ.bx.length]? = some (.at w.heap.size 0 (m * z.length) z.length) := by
    rw [← h.inv.size]; simp
  refine ⟨K, C ++ [.at w.heap.size 0 (m * z.length) z.length], _, .slice (some ⟨w.heap.size, 0, none⟩) n m, w.alloc (.cells (madeCells zv.cells (m * z.length)) e), ?_, .inl rfl, ?_, ?_⟩
  · simp only [execOp, ho, r1, r2, Sem.run_bind, hmake, Result.andThen_ok, his, Int.toNat_natCast]
    rfl
  · refine h.push _ ((Flat.made (hr K []) rfl hnm).box (alloc_get w _) (fun k v hv => ?_) ?_ (by simp [size_madeCells])) (fun b k hw => hw.1)
    · rw [List.getElem?_take] at hv
      split at hv
      · rw [toArray_getElem?] at hv; rw [Nat.zero_add]; exact hv
      · simp at hv
    · simp; exact Nat.mul_le_mul_right _ hnm
  · have := Rep.bs (K := K) (off := 0) (len := n) (cap := m) hc2 (by simp) hnm
    simpa using this

theorem op_field {t t1 ft : TypeId} {z : Operand} {z' : Opd} {fs : Array Field} {f : Nat} {fd : Field} {n : Option Nat} {cs : List X} (h : Rel P R x K C σ a w) (ho : o.op = .field t z f) (hu : P.underlying t = some (.struct fs)) (hf : fs[f]? = some fd) (hft : ft = fd.type)
    (hn : aggP P ft = some n) (hz : trOpd P t1 z = some z') (ez : σ.ev z' = some (.agg cs))
    (e : (match n with | none => cs[fd.offset]? | some n => if ((cs.drop fd.offset).take n).length == n then some (.agg ((cs.drop fd.offset).take n)) else none) = some y) : OpOk P R x σ a w o y σ.bx := by
  subst hft
  have hr := ev_rep h.tm hz ez
  generalize hv : a.eval z = v at hr
  cases hr with
  | agg hs hcell hrr =>
    rename_i vs
    have hcr : CRep K C cs vs.toList := ⟨by simpa using hs, hcell, fun j y v e e' => hrr j y v e (by simpa using e')⟩
    cases n with
    | none =>
      obtain ⟨v, hv', hrv⟩ := hcr.get e
      rw [toArray_getElem?] at hv'
      refine .still h (v := v) ?_ hrv
      simp [execOp, ho, Instr.field, run_underlying hu, hf, hv, asAgg, part, (aggP_run hn w).1, hv']
    | some n =>
      simp only at e
      split at e
      · rename_i hl
        simp only [Option.some.injEq] at e; subst e
        have hl : ((cs.drop fd.offset).take n).length = n := by simpa using hl
        have h2 := (hcr.drop fd.offset).take n
        refine .still h (v := .agg (vs.extract fd.offset (fd.offset + n))) ?_ ?_
        · simp [execOp, ho, Instr.field, run_underlying hu, hf, hv, asAgg, part, (aggP_run hn w).1, (aggP_run hn w).2 n rfl]
        · have e2 : (vs.extract fd.offset (fd.offset + n)).toList = (vs.toList.drop fd.offset).take n := by simp [List.extract_eq_take_drop]
          refine .agg ?_ h2.cell (fun j y v ey ev => h2.rep j y v ey (by rw [← e2, toArray_getElem?]; exact ev))
          have := h2.len; rw [← e2, Array.length_toList] at this; exact this
      · simp at e

theorem op_extract {z : Operand} {z' : Opd} {t1 : TypeId} {i : Nat} {xs : List X} (h : Rel P R x K C σ a w) (ho : o.op = .extract z i) (hz : trOpd P t1 z = some z') (ez : σ.ev z' = some (.tup xs)) (e : xs[i]? = some y) : OpOk P R x σ a w o y σ.bx := by
  have hr := ev_rep h.tm hz ez
  generalize hv : a.eval z = v at hr
  cases hr with
  | tup hs hrr =>
    rename_i vs
    have hi : i < vs.size := by rw [hs]; exact (List.getElem?_eq_some_iff.1 e).1
    refine .still h (v := vs[i]) ?_ (hrr i y _ e (Array.getElem?_eq_getElem hi))
    simp [execOp, ho, Instr.extract, hv, hi]

theorem op_nilck {z : Operand} {z' : Opd} {t1 : TypeId} (h : Rel P R x K C σ a w) (ho : o.op = .nilCheck z) (hz : trOpd P t1 z = some z') (ez : σ.ev z' = some y) (hk : (match y with | .ptr _ _ _ | .dp _ | .fn _ _ | .yl _ => true | _ => false) = true) : OpOk P R x σ a w o y σ.bx := by
  have hr := ev_rep h.tm hz ez
  refine .still h (v := a.eval z) ?_ hr
  generalize hv : a.eval z = v at hr
  cases hr <;> simp at hk <;> simp [execOp, ho, hv]

theorem op_sidx {t t1 t2 : TypeId} {z i : Operand} {z' i' : Opd} {s : ByteArray} {n : Nat} {yi : X} {b : UInt8} (h : Rel P R x K C σ a w) (ho : o.op = .index t z i) (hu : P.underlying t = some .string) (hz : trOpd P t1 z = some z') (hi : trOpd P t2 i = some i')
    (ez : σ.ev z' = some (.v (.string s))) (ei : σ.ev i' = some yi) (hn : natX yi = some n) (hb : s[n]? = some b) : OpOk P R x σ a w o (.v (.int .u8 b.toNat)) σ.bx := by
  have r1 := rep_v (ev_rep h.tm hz ez)
  have r2 := natX_rep (ev_rep h.tm hi ei) hn
  refine .still h (v := .int .u8 b.toNat) ?_ (.v rfl)
  simp [execOp, ho, Instr.index, r1, r2, asIntOf, run_underlying hu, hb]

theorem op_iaddr_sl {t t1 t2 e : TypeId} {z i : Operand} {z' i' : Opd} {n sz : Nat} {yi : X} {tt : Bool} {es : List (List X)} {e0 : List X} (h : Rel P R x K C σ a w) (ho : o.op = .indexAddr t z i) (hu : P.underlying t = some (.slice e)) (hs : sizeP P e = some sz)
    (hz : trOpd P t1 z = some z') (hi : trOpd P t2 i = some i') (ez : σ.ev z' = some (.sl tt sz es)) (ei : σ.ev i' = some yi) (hn : natX yi = some n) (he : es[n]? = some e0) : OpOk P R x σ a w o (.dp e0) σ.bx := by
  have hr := ev_rep h.tm hz ez
  have r2 := natX_rep (ev_rep h.tm hi ei) hn
  have hlt := (List.getElem?_eq_some_iff.1 he).1
  generalize hv : a.eval z = v at hr
  have hr' := hr
  cases hr with
  | slNil => simp at he
  | sl vals hlen ht hcap hcell hk hrr =>
    rename_i b k cap
    obtain ⟨l, hfl, hkl⟩ := hr'.flat
    refine .still h (v := .pointer (some ⟨b, k + n * sz, none⟩)) ?_ ?_
    · have hlt' : n < es.length := hlt
      simp [execOp, ho, Instr.indexAt, r2, asIntOf, run_underlying hu, hv, hlt', sizeP_run hs w, addr_add]
    · refine .dp (fun j => l.getD (n * sz + j) undef) (fun j z ej => (hfl.get n j z (at2_some.2 ⟨e0, he, ej⟩)).1) (fun j z ej => ?_) (fun j z ej => ?_)
      · obtain ⟨_, v, hv, _⟩ := hfl.get n j z (at2_some.2 ⟨e0, he, ej⟩)
        rw [Nat.add_assoc, hkl _ v hv]; simp [List.getD, hv]
      · obtain ⟨_, v, hv, hrv⟩ := hfl.get n j z (at2_some.2 ⟨e0, he, ej⟩)
        simp only [List.getD, hv]; exact hrv

theorem op_iaddr_bs {t t1 t2 e : TypeId} {z i : Operand} {z' i' : Opd} {n sz : Nat} {yi : X} {ib off len : Nat} {es : List (List X)} (h : Rel P R x K C σ a w) (ho : o.op = .indexAddr t z i) (hu : P.underlying t = some (.slice e)) (hs : sizeP P e = some sz)
    (hz : trOpd P t1 z = some z') (hi : trOpd P t2 i = some i') (ez : σ.ev z' = some (.bs ib off len)) (ei : σ.ev i' = some yi) (hn : natX yi = some n) (hb : σ.bx[ib]? = some (.row sz es)) (hlt : n < len) : OpOk P R x σ a w o (.ptr ib (off + n) 0) σ.bx := by
  have hr := ev_rep h.tm hz ez
  have r2 := natX_rep (ev_rep h.tm hi ei) hn
  generalize hv : a.eval z = v at hr
  cases hr with
  | bs hc hcap hlen =>
    rename_i b base hi' sz' cap
    obtain ⟨h1, _⟩ := h.inv.box ib _ _ hb hc
    subst h1
    refine .still h (v := .pointer (some ⟨b, base + off * sz' + n * sz', none⟩)) ?_ ?_
    · simp [execOp, ho, Instr.indexAt, r2, asIntOf, run_underlying hu, hv, hlt, sizeP_run hs w, addr_add]
    · have := Rep.ptr (K := K) (e := off + n) (o := 0) hc
      rw [Nat.add_mul, Nat.add_zero, ← Nat.add_assoc] at this; exact this
  | bsNil hc hob => omega

theorem op_iaddr_arr {t t1 t2 e : TypeId} {z i : Operand} {z' i' : Opd} {n sz m : Nat} {yi yz : X} (h : Rel P R x K C σ a w) (ho : o.op = .indexAddr t z i) (hu : P.underlying t = some (.array m e)) (hs : sizeP P e = some sz)
    (hz : trOpd P t1 z = some z') (hi : trOpd P t2 i = some i') (ez : σ.ev z' = some yz) (ei : σ.ev i' = some yi) (hn : natX yi = some n) (hlt : n < m)
    (e' : (match yz with | .ptr i e o => some (X.ptr i e (o + n * sz)) | .dp cs => some (.dp (cs.drop (n * sz))) | _ => none) = some y) : OpOk P R x σ a w o y σ.bx := by
  have hr := ev_rep h.tm hz ez
  have r2 := natX_rep (ev_rep h.tm hi ei) hn
  generalize hv : a.eval z = v at hr
  have key : ∀ b k, v = .pointer (some ⟨b, k, none⟩) → (execOp a.eval o).run P w = .ok (.value (.pointer (some ⟨b, k + n * sz, none⟩))) w := by
    intro b k hvk
    subst hvk
    simp [execOp, ho, Instr.indexAt, r2, asIntOf, run_underlying hu, hv, hlt, sizeP_run hs w, addr_add, Instr.sureAddr]
  split at e'
  · simp only [Option.some.injEq] at e'; subst e'
    cases hr with
    | ptr hc => exact .still h (key _ _ rfl) (by rw [Nat.add_assoc]; exact .ptr hc)
  · simp only [Option.some.injEq] at e'; subst e'
    cases hr with
    | dp vals hcell hk hrr =>
      rename_i cs b k
      refine .still h (key _ _ rfl) (.dp (fun j => vals (n * sz + j)) (fun j z e => hcell _ z (by simpa using e)) (fun j z e => ?_) (fun j z e => hrr _ z (by simpa using e)))
      rw [Nat.add_assoc]; exact hk _ z (by simpa using e)
  · simp at e'

theorem op_aidx {t t1 t2 e : TypeId} {z i : Operand} {z' i' : Opd} {n sz m : Nat} {r : Option Nat} {yi : X} {cs : List X} (h : Rel P R x K C σ a w) (ho : o.op = .index t z i) (hu : P.underlying t = some (.array m e)) (hs : sizeP P e = some sz) (hg : aggP P e = some r)
    (hz : trOpd P t1 z = some z') (hi : trOpd P t2 i = some i') (ez : σ.ev z' = some (.agg cs)) (ei : σ.ev i' = some yi) (hn : natX yi = some n) (hlt : n < m)
    (e' : (match r with | none => cs[n * sz]? | some k => if ((cs.drop (n * sz)).take k).length == k then some (.agg ((cs.drop (n * sz)).take k)) else none) = some y) : OpOk P R x σ a w o y σ.bx := by
  have hr := ev_rep h.tm hz ez
  have r2 := natX_rep (ev_rep h.tm hi ei) hn
  generalize hv : a.eval z = v at hr
  cases hr with
  | agg hsz hcell hrr =>
    rename_i vs
    have hcr : CRep K C cs vs.toList := ⟨by simpa using hsz, hcell, fun j y v e e' => hrr j y v e (by simpa using e')⟩
    cases r with
    | none =>
      obtain ⟨v, hv', hrv⟩ := hcr.get e'
      rw [toArray_getElem?] at hv'
      refine .still h (v := v) ?_ hrv
      simp [execOp, ho, Instr.index, r2, asIntOf, run_underlying hu, hv, hlt, sizeP_run hs w, part, (aggP_run hg w).1, hv']
    | some k =>
      simp only at e'
      split at e'
      · rename_i hl
        simp only [Option.some.injEq] at e'; subst e'
        have h2 := (hcr.drop (n * sz)).take k
        have hk : k = sz := by
          have h3 := (aggP_run hg w).2 k rfl
          rw [sizeP_run hs w] at h3
          simp at h3; exact h3.symm
        subst hk
        refine .still h (v := .agg (vs.extract (n * k) (n * k + k))) ?_ ?_
        · simp [execOp, ho, Instr.index, r2, asIntOf, run_underlying hu, hv, hlt, sizeP_run hs w, part, (aggP_run hg w).1]
        · have e2 : (vs.extract (n * k) (n * k + k)).toList = (vs.toList.drop (n * k)).take k := by simp [List.extract_eq_take_drop]
          refine .agg ?_ h2.cell (fun j y v ey ev => h2.rep j y v ey (by rw [← e2, toArray_getElem?]; exact ev))
          have := h2.len; rw [← e2, Array.length_toList] at this; exact this
      · simp at e'

theorem op_snil {op : BinOp} {t t1 u : TypeId} {e : TypeId} {p q : Operand} {p' : Opd} {yp : X} (h : Rel P R x K C σ a w) (ho : o.op = .binOp op t p q u) (hu : P.underlying t = some (.slice e)) (hop : op = .eql ∨ op = .neq) (hq : q = .const (.slice none 0 0)) (hp : trOpd P t1 p = some p')
    (ep : σ.ev p' = some yp) (hyp : (match yp with | .bs _ _ (_ + 1) => true | .sl _ _ (_ :: _) => true | _ => false) = true) : OpOk P R x σ a w o (.v (.bool (decide (op = .neq)))) σ.bx := by
  have hr := ev_rep h.tm hp ep
  subst hq
  have hs : ∃ b n c, a.eval p = .slice (some b) n c := by
    generalize a.eval p = v at hr
    cases hr <;> first | exact ⟨_, _, _, rfl⟩ | (simp at hyp; done)
  obtain ⟨b, n, c, hv⟩ := hs
  have he : ∀ d, (Op.equalIn (d + 1) t (.slice (some b) n c) (.slice none 0 0)).run P w = .ok false w := by intro d; simp [Op.equalIn, run_underlying hu]
  have he' : (Op.equal t (.slice (some b) n c) (.slice none 0 0)).run P w = .ok false w := he 9999
  have hg : (eqGuard op t p (.const (.slice none 0 0)) (.slice (some b) n c) (.slice none 0 0)).run P w = .ok () w := by unfold eqGuard; split <;> rfl
  have b1 : binOp .eql t (.slice (some b) n c) (.slice none 0 0) = (do pure (.bool (← Op.equal t (.slice (some b) n c) (.slice none 0 0))) : Sem Value) := rfl
  have b2 : binOp .neq t (.slice (some b) n c) (.slice none 0 0) = (do pure (.bool (!(← Op.equal t (.slice (some b) n c) (.slice none 0 0)))) : Sem Value) := rfl
  generalize Op.equal t (.slice (some b) n c) (.slice none 0 0) = s at he' b1 b2
  refine .still h (v := .bool (decide (op = .neq))) ?_ (.v rfl)
  have hb : (binOp op t (.slice (some b) n c) (.slice none 0 0)).run P w = .ok (.bool (decide (op = .neq))) w := by
    rcases hop with rfl | rfl
    · rw [b1]; simp [he']
    · rw [b2]; simp [he']
  have hq' : a.eval (.const (.slice none 0 0)) = .slice none 0 0 := rfl
  simp only [execOp, ho, hv, hq', Sem.run_bind, hg, hb, Result.andThen_ok]
  rfl

end Go.Em
