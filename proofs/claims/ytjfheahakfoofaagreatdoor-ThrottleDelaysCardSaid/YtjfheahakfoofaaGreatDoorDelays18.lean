/- The library's tables, laid as the rows say, are those of the machine. -/
import Derived.LaidMore
import Derived.Lay
import Derived.OpenShut
import Derived.ProofKit
import Derived.Test.YtjfheahakfoofaaGreatDoorDelays17
namespace Go.Proofs.YtjfheahakfoofaaGreatDoor
open Go.Em Go.ChangeShapes Go.WideShapes Go.ChangeAt Go.RowKit
set_option maxRecDepth 100000

def laidZ : List (String × DataW Unit) := [("unicode/utf8.acceptRanges", Rows.laid_unicode_utf8_acceptRanges), ("unicode/utf8.first", Rows.laid_unicode_utf8_first)]
def fieldsZ (P : Program) (t : TypeId) : Array Field := match P.underlying t with
  | some (.struct fs) => fs
  | _ => #[]
theorem under5 : Tryz.prog.underlying 5 = some (.int .u8) := by kernel_rfl
theorem under191 : Tryz.prog.underlying 191 = some (.array 256 5) := by kernel_rfl
theorem under194 : Tryz.prog.underlying 194 = some (.array 16 193) := by kernel_rfl
theorem under193 : Tryz.prog.underlying 193 = some (.struct (fieldsZ Tryz.prog 193)) := by kernel_rfl
theorem field0 : ((fieldsZ Tryz.prog 193)[0]?).map (fun f => (f.type, f.offset)) = some (5, 0) := by kernel_rfl
theorem field1 : ((fieldsZ Tryz.prog 193)[1]?).map (fun f => (f.type, f.offset)) = some (5, 1) := by kernel_rfl
theorem rep_bytes {W : World} {g : Nat} {l : List Nat} (h : ∀ j z, l[j]? = some z → W.cell? ⟨g, j, none⟩ = some (.int .u8 (Int.ofNat z))) : Rep (Kw W) [] (.dp (bytesX l)) (.pointer (some ⟨g, 0, none⟩)) := by
  have hx : ∀ (j : Nat) (x : X), (bytesX l)[j]? = some x → ∃ z, l[j]? = some z ∧ x = .v (.int .u8 (Int.ofNat z)) := fun j x e => by
    unfold bytesX at e
    rw [List.getElem?_map, Option.map_eq_some_iff] at e
    obtain ⟨z, hz, rfl⟩ := e
    exact ⟨z, hz, rfl⟩
  refine .dp (fun j => .int .u8 (Int.ofNat (l.getD j 0))) (fun j x e => ?_) (fun j x e => ?_) (fun j x e => ?_)
  · obtain ⟨z, _, rfl⟩ := hx j x e; rfl
  · obtain ⟨z, hz, rfl⟩ := hx j x e
    show W.cell? ⟨g, 0 + j, none⟩ = _
    rw [Nat.zero_add, h j z hz, List.getD_eq_getElem?_getD, hz]; rfl
  · obtain ⟨z, hz, rfl⟩ := hx j x e
    rw [List.getD_eq_getElem?_getD, hz]
    exact .v rfl
theorem globs {W : World} (h : laidMetH Tryz.prog laidZ W) : (∀ j z, Go.Pinned.utf8FirstZ[j]? = some z → W.cell? ⟨0, j, none⟩ = some (.int .u8 (Int.ofNat z))) ∧ ∀ j z, ([128, 191, 160, 191, 128, 159, 144, 191, 128, 143] ++ List.replicate 22 0)[j]? = some z → W.cell? ⟨1, j, none⟩ = some (.int .u8 (Int.ofNat z)) := by
  rw [MakeChecks.laidMetH_plain _ _ _ (by kernel_rfl)] at h
  obtain ⟨ps, ⟨g, t, cs, fuel, p, q, hg, ht, hv, hd, ⟨g', t', cs', fuel', p', q', hg', ht', hv', hd', _, _⟩, _⟩, _, _⟩ := h
  obtain rfl := Option.some.inj ((show Tryz.prog.globalNamed "unicode/utf8.acceptRanges" = some 1 by kernel_rfl).symm.trans hg)
  obtain rfl := Option.some.inj ((show (Tryz.prog.globals[1]?).map (·.type) = some 194 by kernel_rfl).symm.trans ht)
  obtain rfl := Option.some.inj ((show Tryz.prog.globalNamed "unicode/utf8.first" = some 0 by kernel_rfl).symm.trans hg')
  obtain rfl := Option.some.inj ((show (Tryz.prog.globals[0]?).map (·.type) = some 191 by kernel_rfl).symm.trans ht')
  have c5 : Tryz.prog.cellsOf 5 = 1 := by kernel_rfl
  have c193 : Tryz.prog.cellsOf 193 = 2 := by kernel_rfl
  constructor
  · intro j z hz
    obtain ⟨xs, m, _, ex, _, hl, hel⟩ := DataW.trod_array under191 hd'
    have hlen : Go.Pinned.utf8FirstZ.length = 256 := by kernel_rfl
    have hj : j < 256 := by rw [← hlen]; exact (List.getElem?_eq_some_iff.1 hz).1
    have hE := hel j hj
    rw [c5, Nat.mul_one, List.getElem?_eq_getElem (by omega)] at hE
    obtain ⟨y, e1, e2, _⟩ := DataW.trod_int under5 hE
    have e3 : (xs.map (·.1)) = Go.Pinned.utf8FirstZ.map fun (n : Nat) => .lit (.int .u8 (Int.ofNat n)) := (DataW.agg.inj (Prod.mk.inj ex).1).symm
    have e4 : (xs.map (·.1))[j]? = (Go.Pinned.utf8FirstZ.map fun (n : Nat) => (DataW.lit (.int .u8 (Int.ofNat n)) : DataW Unit))[j]? := by rw [e3]
    rw [List.getElem?_map, List.getElem?_map, List.getElem?_eq_getElem (by omega : j < xs.length), hz, e2] at e4
    simp only [Option.map_some, Option.some.injEq, DataW.lit.injEq, Lit.int.injEq, true_and] at e4
    subst e4
    rw [World.var?_cell hg' hv' j]
    have : cs'.toList[j]? = some (.int .u8 (Int.ofNat z)) := by
      have h0 : ((cs'.toList.drop j).take 1)[0]? = some (.int .u8 (Int.ofNat z)) := by rw [e1]; rfl
      simpa using h0
    simpa using this
  · intro j z hz
    obtain ⟨xs, m, _, ex, _, hl, hel⟩ := DataW.trod_array under194 hd
    have hlen : ([128, 191, 160, 191, 128, 159, 144, 191, 128, 143] ++ List.replicate 22 0).length = 32 := by kernel_rfl
    have hj : j < 32 := by rw [← hlen]; exact (List.getElem?_eq_some_iff.1 hz).1
    have hE := hel (j / 2) (by omega)
    rw [c193, List.getElem?_eq_getElem (by omega)] at hE
    obtain ⟨ys, m2, _, ey, _, hl2, hel2⟩ := DataW.trod_struct under193 hE
    have f2 : (fieldsZ Tryz.prog 193).size = 2 := by kernel_rfl
    have hk : j % 2 < 2 := Nat.mod_lt _ (by omega)
    have hfo : ∀ k, k < 2 → ((fieldsZ Tryz.prog 193)[k]?).map (fun f => (f.type, f.offset)) = some (5, k) := fun k hk => by
      match k, hk with
      | 0, _ => exact field0
      | 1, _ => exact field1
    obtain ⟨f, hf, hf2⟩ := Option.map_eq_some_iff.1 (hfo (j % 2) hk)
    have hE2 := hel2 (j % 2) f hf
    obtain ⟨hft, hfo'⟩ := Prod.mk.inj hf2
    rw [hft, hfo', c5, List.getElem?_eq_getElem (by omega)] at hE2
    obtain ⟨y, e1, e2, _⟩ := DataW.trod_int under5 hE2
    have hall : ((List.range 32).all fun j => match (Rows.laid_unicode_utf8_acceptRanges : DataW Unit) with
      | .agg l => match l[j / 2]? with
        | some (.agg r) => match r[j % 2]?, ([128, 191, 160, 191, 128, 159, 144, 191, 128, 143] ++ List.replicate 22 0)[j]? with
          | some (.lit (.int .u8 z)), some z' => z == Int.ofNat z'
          | _, _ => false
        | _ => false
      | _ => false) = true := by kernel_rfl
    have h1 := List.all_eq_true.1 hall j (List.mem_range.2 hj)
    have e3 : (Rows.laid_unicode_utf8_acceptRanges : DataW Unit) = .agg (xs.map (·.1)) := (Prod.mk.inj ex).1
    have e5 : (xs.map (·.1))[j / 2]? = some (.agg (ys.map (·.1))) := by
      rw [List.getElem?_map, List.getElem?_eq_getElem (by omega : j / 2 < xs.length), ey]; rfl
    have e6 : (ys.map (·.1))[j % 2]? = some (.lit (.int .u8 y)) := by
      rw [List.getElem?_map, List.getElem?_eq_getElem (by omega : j % 2 < ys.length), e2]; rfl
    rw [e3] at h1
    dsimp only at h1
    rw [e5] at h1
    dsimp only at h1
    rw [e6, hz] at h1
    have hy : y = Int.ofNat z := eq_of_beq h1
    subst hy
    rw [World.var?_cell hg hv j]
    have : cs.toList[j]? = some (.int .u8 (Int.ofNat z)) := by
      have h0 : ((((cs.toList.drop (j / 2 * 2)).take 2).drop (j % 2)).take 1)[0]? = some (.int .u8 (Int.ofNat z)) := by rw [e1]; rfl
      rw [List.getElem?_take, if_pos (by omega), List.getElem?_drop, List.getElem?_take, if_pos (by omega), List.getElem?_drop] at h0
      have : j / 2 * 2 + (j % 2 + 0) = j := by omega
      rw [this] at h0
      exact h0
    simpa using this
theorem globOk {W : World} (h : laidMetH Tryz.prog laidZ W) : GlobOk (RCode Tryz.prog gl) (Kw W) := by
  obtain ⟨h0, h1⟩ := globs h
  intro g cs e
  change gl g = some cs at e
  unfold gl at e
  split at e
  · rename_i hg
    obtain rfl : g = 0 := by simpa using hg
    cases e
    exact rep_bytes h0
  · split at e
    · rename_i hg
      obtain rfl : g = 1 := by simpa using hg
      cases e
      exact rep_bytes h1
    · cases e
end Go.Proofs.YtjfheahakfoofaaGreatDoor
