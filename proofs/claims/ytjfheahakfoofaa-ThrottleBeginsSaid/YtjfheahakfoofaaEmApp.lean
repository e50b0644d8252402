/- The abstract machine: append to a row of the call's own is sound. -/
import Derived.Test.YtjfheahakfoofaaEmOps4
namespace Go.Em
variable {P : Program} {R : CodeRel} {x : Ctx} {K : Kn} {C : List CB} {σ : St} {a : Act} {w : World}
variable {o : Oper} {y : X} {bx : List Bx} {fp : FP} {A : Ann} {Γ : Gam}

/-- A box is given up, and another one takes over a part of what it owned. -/
theorem Rel.move (h : Rel P R x K C σ a w) {i : Nat} {D B : Bx} {c c' : CB} (hD : σ.bx[i]? = some D) (hl : D.live = true) (hnl : D.isLoop = false) (hc : C[i]? = some c) (hsub : ∀ b o, c'.owns b o → c.owns b o)
    (hB : BoxOk P R K (C ++ [c']) w B c') : Rel P R x K (C ++ [c']) ⟨σ.tm, σ.bx.set i .dead ++ [B]⟩ a w := by
  have hk := h.kill i (fun B' e e' => by rw [hD] at e; cases e; rw [hnl] at e'; cases e')
  have hmine : ∀ b o, c'.owns b o → Owns C σ.bx b o := fun b o hw => ⟨i, c, D, hc, hD, hl, hsub b o hw⟩
  have hnot : ∀ b o, c'.owns b o → ¬ Owns C (σ.bx.set i .dead) b o := by
    rintro b o hw ⟨j, d, A', hd, hA', hl', hw'⟩
    rw [List.getElem?_set] at hA'
    split at hA'
    · split at hA'
      · simp at hA'; subst hA'; simp [Bx.live] at hl'
      · simp at hA'
    · rename_i hij
      exact h.inv.disj i j c d D A' b o hij hc hd hD hA' hl hl' (hsub b o hw) hw'
  have hnew : ∀ b o, Owns (C ++ [c']) (σ.bx.set i .dead ++ [B]) b o → Owns C σ.bx b o := by
    intro b o ho
    rcases owns_push (by simpa using h.inv.size) ho with ho | ho
    · exact owns_kill ho
    · exact hmine b o ho
  refine { hk with inv := ?_, tm := ?_, own := ?_, cin := ?_, defs := ?_, loops := ?_ }
  · exact hk.inv.push hB (fun b o hw => h.inv.apart b o (hmine b o hw)) hnot
  · exact hk.tm.mono (KLe.refl _) (CLe.append _ _)
  · intro b o ho; exact h.own b o (hnew b o ho)
  · intro j d e; exact CLe.append _ _ _ _ (h.cin j d e)
  · obtain ⟨rs, h1, h2, h3⟩ := h.defs.marks
    exact ⟨⟨rs, h1, h2, fun r hr => ⟨(h3 r hr).1, (h3 r hr).2.1, fun q ho => (h3 r hr).2.2 q (hnew r q ho)⟩⟩, h.defs.round⟩
  · intro j hj hl'
    obtain ⟨B', hB', hl''⟩ := hk.loops j hj hl'
    exact ⟨B', by rw [List.getElem?_append_left (List.getElem?_eq_some_iff.1 hB').1]; exact hB', hl''⟩

theorem op_app_bs {t0 t1 e e1 : TypeId} {args : Array Operand} {tys : Array TypeId} {ps pz : Operand} {qs qz : Opd} {ts tz : TypeId} {sz bytes i off len : Nat} {z : List X} {es new : List (List X)} {yz : X} (h : Rel P R x K C σ a w) (ho : o.op = .call ⟨.builtin .append, args, tys⟩) (ha : args.toList = [ps, pz])
    (h0 : tys[0]? = some t0) (h1 : tys[1]? = some t1) (hu0 : P.underlying t0 = some (.slice e)) (hu1 : P.underlying t1 = some (.slice e1)) (hs : sizeP P e = some sz) (hb : bytesP P e = some bytes) (hz : zeroP P e = some z) (hpos : 0 < bytes)
    (hps : trOpd P ts ps = some qs) (hpz : trOpd P tz pz = some qz) (eps : σ.ev qs = some (.bs i off len)) (epz : σ.ev qz = some yz) (hsrc : srcOf σ.bx yz = some (sz, new)) (hbx : σ.bx[i]? = some (.row sz es)) (hend : off + len = es.length)
    (hroom : roomOk (len + new.length) bytes = true) :
    OpOk P R x σ a w o (.bs σ.bx.length 0 (len + new.length)) (σ.bx.set i .dead ++ [.row sz (es.drop off ++ new)]) := by
  have ha' : args = #[ps, pz] := by rw [← Array.toArray_toList (xs := args), ha]
  subst ha'
  have htys : ∃ rest, tys = (t0 :: t1 :: rest).toArray := by
    have e0 : tys = tys.toList.toArray := by simp
    cases hl : tys.toList with
    | nil => rw [e0, hl] at h0; simp at h0
    | cons a0 r => cases r with
      | nil => rw [e0, hl] at h1; simp at h1
      | cons b0 r =>
        rw [e0, hl] at h0 h1; simp at h0 h1; subst h0; subst h1
        exact ⟨r, by rw [e0, hl]⟩
  obtain ⟨rest, rfl⟩ := htys
  simp only [roomOk, Bool.and_eq_true, decide_eq_true_eq] at hroom
  have r1 := ev_rep h.tm hps eps
  have r2 := ev_rep h.tm hpz epz
  obtain ⟨oc, c, news, hv2, hf2, hfc, _⟩ := src_rep h.inv r2 hsrc
  have hsrc1 : srcOf σ.bx (.bs i off len) = some (sz, es.drop off) := by
    simp only [srcOf, rowOf, hbx]
    rw [if_pos (by omega)]
    congr 2
    exact List.take_of_length_le (by simp; omega)
  obtain ⟨ob, cap, olds, e1', hfo, hfco, hspot⟩ := src_rep h.inv r1 hsrc1
  have hlen : (es.drop off).length = len := by simp; omega
  rw [hlen] at e1' hfco
  have hexec : (execOp a.eval o).run P w = ((Builtin.append_ #[t0, t1] o.type #[.slice ob len cap, .slice oc new.length c]).run P w).andThen fun v w' => .ok (.value v) w' := by
    have hargs : Builtin.append_ (t0 :: t1 :: rest).toArray o.type #[a.eval ps, a.eval pz] = Builtin.append_ #[t0, t1] o.type #[a.eval ps, a.eval pz] := by
      simp [Builtin.append_]
    simp only [execOp, ho, resolve, invoke, builtin, Sem.run_bind, Sem.run_pure, Result.andThen_ok, List.map_toArray, List.map_cons, List.map_nil, hargs]
    rw [e1', hv2]
  have hfl := hfo.append hf2
  have hflen : (olds ++ news).length = (len + new.length) * sz := by rw [hfl.len, List.length_append, hlen]
  have hnl : (Bx.row sz es).isLoop = false := rfl
  have grow : cap < len + new.length → OpOk P R x σ a w o (.bs σ.bx.length 0 (len + new.length)) (σ.bx.set i .dead ++ [.row sz (es.drop off ++ new)]) := by
    intro hlt
    obtain ⟨tail, hrun, htl⟩ := run_app_grow (P := P) (ty := o.type) hu0 hu1 hs hb hz olds news hfco hfc hlt (by omega) hroom.2 hpos
    have hm := grownCap_ge w (len + new.length) cap e
    generalize hmm : grownCap w (len + new.length) cap e = m at hrun htl hm
    have hk := (h.still (FrameOk.drew nowhere w)).kill i (fun B e e' => by rw [hbx] at e; cases e; cases e')
    have hsz : (olds ++ news ++ tail).toArray.size = m * sz := by
      simp only [List.size_toArray]
      rw [List.length_append, hflen, htl, ← Nat.add_mul]; congr 1; omega
    have hc2 : (C ++ [CB.at w.heap.size 0 (m * sz) sz])[σ.bx.length]? = some (.at w.heap.size 0 (m * sz) sz) := by
      rw [← h.inv.size]; simp
    refine ⟨K, C ++ [.at w.heap.size 0 (m * sz) sz], _, _, _, by rw [hexec, hrun]; rfl, .inl rfl, ?_, ?_⟩
    · refine hk.push _ (hfl.box (alloc_get w.drew _) (fun k v hv => ?_) ?_ (by omega)) (fun b k hw => hw.1)
      · rw [Nat.zero_add, List.getElem?_toArray, List.getElem?_append_left (List.getElem?_eq_some_iff.1 hv).1]; exact hv
      · rw [Nat.zero_add, List.length_append, hlen]; exact Nat.mul_le_mul_right _ hm
    · have := Rep.bs (K := K) (off := 0) (len := len + new.length) (cap := m) hc2 (by simp) hm
      simpa using this
  rw [e1'] at r1
  cases r1 with
  | bs hc hcap hlc =>
    rename_i b base hi sz' 
    obtain ⟨arr, el, g1, g2, g3, hbl, hfe⟩ := (h.inv.box i _ _ hbx hc).flat
    subst g1
    by_cases hfit : len + new.length ≤ cap
    · have hin : base + off * sz' + (len + new.length) * sz' ≤ hi := by
        have h5 := Nat.mul_le_mul_right sz' hfit
        rw [Nat.add_mul] at hcap; omega
      have hnl' : news.length = new.length * sz' := hf2.len
      rw [Nat.add_mul] at hin
      have hst := run_storeCells_at P b (base + off * sz' + len * sz') el news 0 arr w hbl (by omega) hf2.oneCell
      simp only [Nat.add_zero] at hst
      have hrun := run_app_fit (P := P) (ty := o.type) (ob := some ⟨b, base + off * sz', none⟩) hu0 hu1 hs news _ (hfc w rfl) hfit (fun ad e => by cases e; rw [addr_add]; exact hst) (fun e => by cases e)
      generalize harr : (arr.toList.take (base + off * sz' + len * sz') ++ news ++ arr.toList.drop (base + off * sz' + len * sz' + news.length)).toArray = arr' at hrun hst
      have hT : (arr.toList.take (base + off * sz' + len * sz')).length = base + off * sz' + len * sz' := by simp; omega
      have hsize : arr'.size = arr.size := by rw [← harr]; simp; omega
      have hget : ∀ q, arr'[q]? = if q < base + off * sz' + len * sz' then arr[q]? else if q < base + off * sz' + len * sz' + news.length then news[q - (base + off * sz' + len * sz')]? else arr[q]? := by
        intro q
        rw [← harr, List.getElem?_toArray]
        by_cases h5 : q < base + off * sz' + len * sz'
        · rw [if_pos h5, List.append_assoc, List.getElem?_append_left (by omega), List.getElem?_take, if_pos h5, toArray_getElem?]
        · rw [if_neg h5, List.append_assoc, List.getElem?_append_right (by omega), hT]
          by_cases h6 : q < base + off * sz' + len * sz' + news.length
          · rw [if_pos h6, List.getElem?_append_left (by omega)]
          · rw [if_neg h6, List.getElem?_append_right (by omega), List.getElem?_drop, toArray_getElem?]
            congr 1; omega
      have hesl : es.length * sz' = off * sz' + len * sz' := by rw [← hend, Nat.add_mul]
      -- the box with what is written, in its place
      have hfes := hfe.append hf2
      have hbox1 : BoxOk P R K C (w.setRow b arr') (.row sz' (es ++ new)) (.at b base hi sz') := by
        refine hfes.box (setRow_heap w b arr arr' el _ hbl) (fun k v hv => ?_) (by rw [List.length_append, Nat.add_mul]; omega) (by omega)
        have hL : ((arr.toList.drop base).take (es.length * sz')).length = es.length * sz' := by simp; omega
        rw [hget]
        by_cases hk : k < es.length * sz'
        · rw [List.getElem?_append_left (by omega), List.getElem?_take, if_pos hk, List.getElem?_drop, toArray_getElem?] at hv
          rw [if_pos (by omega)]; exact hv
        · rw [List.getElem?_append_right (by omega), hL] at hv
          have := (List.getElem?_eq_some_iff.1 hv).1
          rw [if_neg (by omega), if_pos (by omega), ← hv]; congr 1; omega
      have hrel1 := h.setBox (B := .row sz' (es ++ new)) hbx rfl hc (FrameOk.setRow hbl hsize fun q hq => by
        rw [hget]
        have hout : ¬ (base ≤ q ∧ q < hi) := fun hh => hq ⟨rfl, hh.1, hh.2⟩
        by_cases h5 : q < base + off * sz' + len * sz'
        · rw [if_pos h5]
        · rw [if_neg h5, if_neg (by omega)]) hbox1 (fun e => by cases e)
      have hget1 : (σ.bx.set i (.row sz' (es ++ new)))[i]? = some (.row sz' (es ++ new)) := by
        simp [(List.getElem?_eq_some_iff.1 hbx).1]
      have hbox2 : BoxOk P R K (C ++ [.at b (base + off * sz') hi sz']) (w.setRow b arr') (.row sz' (es.drop off ++ new)) (.at b (base + off * sz') hi sz') := by
        obtain ⟨_, _, _, arr2, el2, hb2, hl2, hr2⟩ := hbox1
        rw [setRow_heap w b arr arr' el _ hbl] at hb2
        simp only [Option.some.injEq, Obj.cells.injEq] at hb2
        obtain ⟨rfl, rfl, _⟩ := hb2
        refine ⟨rfl, by rw [List.length_append, hlen, Nat.add_mul]; omega, fun e0 he0 => ?_, arr', el, setRow_heap w b arr arr' el _ hbl, by omega, fun i' j y hy => ?_⟩
        · rcases List.mem_append.1 he0 with he0 | he0
          · exact hfe.elems _ (List.mem_of_mem_drop he0)
          · exact hf2.elems _ he0
        · have hd : es.drop off ++ new = (es ++ new).drop off := by rw [List.drop_append_of_le_length (by omega)]
          obtain ⟨e0, he0, hj⟩ := at2_some.1 hy
          rw [hd, List.getElem?_drop] at he0
          obtain ⟨hc1, v, hv, hrv⟩ := hr2 (off + i') j y (at2_some.2 ⟨e0, he0, hj⟩)
          refine ⟨hc1, v, ?_, hrv⟩
          rw [Nat.add_mul] at hv
          rw [← hv]; congr 1; omega
      have hrel2 := hrel1.move hget1 rfl rfl hc (c' := .at b (base + off * sz') hi sz') (fun b' o' hw => ⟨hw.1, by have := hw.2.1; omega, hw.2.2⟩) hbox2
      have hset : (σ.bx.set i (.row sz' (es ++ new))).set i .dead = σ.bx.set i .dead := by simp
      simp only [hset] at hrel2
      have hc2 : (C ++ [CB.at b (base + off * sz') hi sz'])[σ.bx.length]? = some (.at b (base + off * sz') hi sz') := by
        rw [← h.inv.size]; simp
      refine ⟨K, _, _, _, _, by rw [hexec, hrun]; rfl, .inl rfl, hrel2, ?_⟩
      have := Rep.bs (K := K) (off := 0) (len := len + new.length) (cap := cap) hc2 (by rw [Nat.zero_add]; rw [Nat.add_mul] at hcap; omega) hfit
      simpa using this
    · exact grow (by omega)
  | bsNil hc hob =>
    by_cases hn : new = []
    · subst hn
      have hnews : news = [] := List.eq_nil_of_length_eq_zero (by simpa using hf2.len)
      subst hnews
      have he : es = [] := List.eq_nil_of_length_eq_zero (by omega)
      subst he
      have hrun := fun ob => run_app_fit (P := P) (ty := o.type) (ob := ob) (n := 0) (cap := 0) hu0 hu1 hs [] w (hfc w rfl) (by simp) (fun ad e => by simp [storeCells]) (fun _ => rfl)
      have hrel := h.move (B := .row sz []) (c' := .ghost) hbx rfl rfl hc (fun b o hw => hw.elim) rfl
      refine ⟨K, _, _, _, _, by rw [hexec, hrun]; rfl, .inl rfl, hrel, ?_⟩
      exact Rep.bsNil (C := C ++ [CB.ghost]) (by rw [← h.inv.size]; simp) hob
    · exact grow (by have := List.length_pos_iff.2 hn; omega)

end Go.Em
