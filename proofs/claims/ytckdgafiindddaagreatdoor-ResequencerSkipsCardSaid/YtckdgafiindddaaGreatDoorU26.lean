/- Functions of the library that are not walked: numbers' texts, repetitions, code points. -/
import Derived.Shelf.Strings.Repeat
import Derived.Shelf.Strconv.AtoiAll
import Derived.Shelf.Unicode.DecodeAny
import Derived.Shelf.Strings.Search2
import Derived.Lib.AppendIntMem
import Derived.Lib.SmallJoins
import Derived.Shelf.Strings.BuilderRune
import Derived.Shelf.Strings.BuilderK
import Derived.Laws.IdiomStrings
import Derived.Shelf.Slices.Clone
import Derived.Shelf.Unicode.ValidAny
import Derived.LaidMore
import Derived.LaidSub
import Derived.Test.YtckdgafiindddaaGreatDoorRows
import Derived.Lay
import Derived.OpenShut
import Derived.SevenTiedAt
import Derived.Stop.Joined
import Derived.Test.YtckdgafiindddaaGreatDoorU24
import Derived.Test.YtckdgafiindddaaGreatDoorU25
set_option linter.all false
namespace Go.Proofs
open Go.Shelf
namespace YtckdgafiindddaaGreatDoor
open Go.RowKit Go.Em
section
variable {P : Program} {R : CodeRel}
/-- A function that gives back a value without references, and may make blocks of its own. -/
theorem fsem_rep {f : FuncId} {args : List X} {inb : List Bx} {y : X} (h : ∀ (cargs : Array Value) (w : World) (K : Kn) (C : List CB), Inv P R K C inb w → ArgsRep K C args cargs → Calls P f cargs w fun e w' => ∃ u, e = .returned u ∧ (∀ K C, Rep K C y u) ∧ Below w.heap.size w w') : FSem P R f args inb y inb := by
  intro K C w cargs hI ha
  refine (h cargs w K C hI ha).mono ?_
  rintro e w' ⟨u, rfl, hr, hB⟩
  have hf := frame_of_below hB
  exact ⟨u, K, [], rfl, owns_same (hI.still hf), hr _ _, KLe.refl _, fun b o v e => .inl e, fun b o ho => .inl (by grind), hf.mono (fun b o _ hs => hs.elim), fun i B hB hl => ⟨B, hB, hl⟩⟩
theorem one_arg {K : Kn} {C : List CB} {u : Value} {cargs : Array Value} (ha : ArgsRep K C [.v u] cargs) : cargs = #[u] := by
  have hs : cargs.size = 1 := ha.1
  have r0 := rep_v (ha.2 0 _ cargs[0] rfl (Array.getElem?_eq_getElem (by omega)))
  grind
theorem two_args {K : Kn} {C : List CB} {u v : Value} {cargs : Array Value} (ha : ArgsRep K C [.v u, .v v] cargs) : cargs = #[u, v] := by
  have hs : cargs.size = 2 := ha.1
  have r0 := rep_v (ha.2 0 _ cargs[0] rfl (Array.getElem?_eq_getElem (by omega)))
  have r1 := rep_v (ha.2 1 _ cargs[1] rfl (Array.getElem?_eq_getElem (by omega)))
  grind
theorem rep_two {K : Kn} {C : List CB} {x y : X} {u v : Value} (h1 : Rep K C x u) (h2 : Rep K C y v) : Rep K C (.tup [x, y]) (.tuple #[u, v]) := by
  refine .tup rfl fun j a b ha hb => ?_
  grind
end
theorem glob_cell {R : CodeRel} (hR : R.gl = gl) {K : Kn} {C : List CB} {bx : List Bx} {w : World} (hI : Inv Tryz.prog R K C bx w) {g : Nat} {cs : List X} (hg : gl g = some cs) {j : Nat} {x : X} (hj : cs[j]? = some x) : ∃ v, w.cell? ⟨g, j, none⟩ = some v ∧ Rep K [] x v := by
  have h := hI.glob g cs (by simp_all)
  cases h with
  | dp vals hcell hk hr =>
    have e3 := hI.known _ _ _ (hk j _ hj)<;>grind
theorem pow_of {R : CodeRel} (hR : R.gl = gl) {K : Kn} {C : List CB} {bx : List Bx} {w : World} (hI : Inv Tryz.prog R K C bx w) : PowIs (Tryz.laysItoa_ren.g 17) w := by
  rw [show Tryz.laysItoa_ren.g 17 = 1 by kernel_rfl]
  intro i hi
  obtain ⟨v, h1, h2⟩ := glob_cell hR hI (g := 1) rfl (j := i) (x := .v (.int .u64 ((10 ^ i : Nat) : Int))) (by grind)
  grind[rep_v]
theorem itoa_sem {R : CodeRel} (hR : R.gl = gl) (z : Int) (h0 : -9223372036854775808 ≤ z) (h1 : z ≤ 9223372036854775807) (inb : List Bx) : FSem Tryz.prog R 103 [.v (.int .i64 z)] inb (.v (.string ⟨(Lib.itoa z).toArray⟩)) inb := by
  refine fsem_rep fun cargs w K C hI ha => ?_
  rw [one_arg ha]
  refine (AnyC.strconv_Itoa Tryz.laysItoa z h0 h1 w (pow_of hR hI)).mono ?_
  rintro e w' ⟨rfl, k, os, rfl⟩
  exact ⟨_, rfl, fun _ _ => .v rfl, Lib.below_grow _ _ (Nat.le_refl _) _ _⟩
theorem repeat_extra : Builder.Extra Tryz.prog Tryz.laysRep_ren := {
  sizeBuilder := by kernel_rfl
  liesBuilder := by kernel_rfl
  t5 := Tryz.laysRep.t5
  a5 := Tryz.laysRep.a5
  z5 := Tryz.laysRep.z5
  v5 := Tryz.laysRep.v5
  infoByte := by kernel_rfl
  cellsByte := by kernel_rfl
  sizeByte := by kernel_rfl
  neB5 := by decide }
theorem repeat_sem {R : CodeRel} (s : ByteArray) (c : Int) (h0 : 0 ≤ c) (h1 : c ≤ 1000000) (h2 : s.size ≤ 1000000) (inb : List Bx) : FSem Tryz.prog R 249 [.v (.string s), .v (.int .i64 c)] inb (.v (.string ⟨(Lib.repeatL s.data.toList c.toNat).toArray⟩)) inb := by
  refine fsem_rep fun cargs w K C hI ha => ?_
  rw [two_args ha]
  obtain ⟨n, rfl⟩ : ∃ n : Nat, c = n := ⟨c.toNat, by omega⟩
  have hn : n ≤ 1000000 := by omega
  have hm := Nat.mul_le_mul h2 hn
  refine (Any.strings_Repeat Tryz.laysRep repeat_extra s n w (by omega) (by omega)).mono ?_
  rintro e w' ⟨rfl, hB⟩
  exact ⟨_, rfl, fun _ _ => .v rfl, hB⟩
theorem tabsD_of {R : CodeRel} (hR : R.gl = gl) {K : Kn} {C : List CB} {bx : List Bx} {w : World} (hI : Inv Tryz.prog R K C bx w) : Lib.Utf8Tabs (Tryz.laysDec_ren.g 3) (Tryz.laysDec_ren.g 4) w := by
  have cell : ∀ (g : Nat) (cs : List X), gl g = some cs → ∀ (j : Nat) (v : Value), cs[j]? = some (.v v) → w.cell? ⟨g, j, none⟩ = some v := fun g cs hg j v hj => by
    grind[glob_cell,rep_v]
  rw [show Tryz.laysDec_ren.g 3 = 2 by kernel_rfl, show Tryz.laysDec_ren.g 4 = 3 by kernel_rfl]
  constructor
  · intro c hc
    have hall : ((List.range 256).all fun c => match (bytesX Go.Pinned.utf8FirstZ)[c]? with
      | some (.v (.int .u8 z)) => z == Lib.firstT c
      | _ => false) = true := by kernel_rfl
    have h1 := List.all_eq_true.1 hall c (List.mem_range.2 hc)
    split at h1
    · rename_i z hz
      rw [cell 2 _ rfl c _ hz, eq_of_beq h1]
    grind
  · intro i hi
    have hall : ((List.range 16).all fun i => (match (bytesX ([128, 191, 160, 191, 128, 159, 144, 191, 128, 143] ++ List.replicate 22 0))[2 * i]? with
      | some (.v (.int .u8 z)) => z == Lib.accLo i
      | _ => false) && (match (bytesX ([128, 191, 160, 191, 128, 159, 144, 191, 128, 143] ++ List.replicate 22 0))[2 * i + 1]? with
      | some (.v (.int .u8 z)) => z == Lib.accHi i
      | _ => false)) = true := by kernel_rfl
    have h1 := List.all_eq_true.1 hall i (List.mem_range.2 hi)
    rw [Bool.and_eq_true] at h1
    obtain ⟨h1, h2⟩ := h1
    constructor
    · split at h1
      · rename_i z hz
        rw [cell 3 _ rfl (2 * i) _ hz, eq_of_beq h1]
      grind
    · split at h2
      · rename_i z hz
        rw [cell 3 _ rfl (2 * i + 1) _ hz, eq_of_beq h2]
      grind
theorem decode_sem {R : CodeRel} (hR : R.gl = gl) (s : ByteArray) (inb : List Bx) : FSem Tryz.prog R 245 [.v (.string s)] inb (.tup [.v (.int .i32 (decGo s).1), .v (.int .i64 (decGo s).2)]) inb := by
  refine fsem_rep fun cargs w K C hI ha => ?_
  rw [one_arg ha]
  refine (Any.utf8_DecodeRuneInString Tryz.laysDec s w (tabsD_of hR hI)).mono ?_
  rintro e w' ⟨rfl, hB⟩
  exact ⟨_, rfl, fun _ _ => rep_two (.v rfl) (.v rfl), hB⟩
theorem err_cell {R : CodeRel} (hR : R.gl = gl) {K : Kn} {C : List CB} {bx : List Bx} {w : World} (hI : Inv Tryz.prog R K C bx w) {g : Nat} (hg : gl g = some [.ifc]) : ∃ v, w.cell? ⟨g, 0, none⟩ = some v ∧ (v = .nilIface ∨ ∃ te pe, v = .iface te pe) := by
  obtain ⟨v, h1, h2⟩ := glob_cell hR hI hg (j := 0) (x := .ifc) rfl
  cases h2<;>simp_all
def atoiRes (s : ByteArray) : X := match Lib.atoiAll s.data.toList with
  | .ok v => .tup [.v (.int .i64 v), .v .nilIface]
  | .range => .tup [.v (.int .i64 (Lib.atoiSat s.data.toList)), .ifc]
  | _ => .tup [.v (.int .i64 0), .ifc]
theorem atoi_sem {R : CodeRel} (hR : R.gl = gl) (s : ByteArray) (hs : s.size ≤ 281474976710656) (inb : List Bx) : FSem Tryz.prog R 201 [.v (.string s)] inb (atoiRes s) inb := by
  refine fsem_rep fun cargs w K C hI ha => ?_
  rw [one_arg ha]
  unfold atoiRes
  cases h : Lib.atoiAll s.data.toList with
  | ok v =>
    refine (Any.strconv_Atoi_ok Tryz.laysAtoi s (by omega) v h w).mono ?_
    rintro e w' ⟨rfl, hB⟩
    refine ⟨_, rfl, fun _ _ => rep_two (.v rfl) (.v rfl), ?_⟩
    rcases hB with rfl | ⟨t, rfl⟩<;>simp_all[Below.refl,Go.Joins.below_bytesWorld]
  | range =>
    obtain ⟨v, h1, h2⟩ := err_cell hR hI (g := 5) rfl
    refine (Any.strconv_Atoi_range Tryz.laysAtoi s hs h v w (by rw [show Tryz.laysAtoi_ren.g 16 = 5 by kernel_rfl]<;>grind) h2).mono ?_
    rintro e w' ⟨N, rfl, _, _, hB⟩
    exact ⟨_, rfl, fun _ _ => rep_two (.v rfl) .ifc, hB⟩
  | _ =>
    obtain ⟨v, h1, h2⟩ := err_cell hR hI (g := 4) rfl
    refine (Any.strconv_Atoi_syntax Tryz.laysAtoi s hs h v w (by rw [show Tryz.laysAtoi_ren.g 15 = 4 by kernel_rfl]<;>grind) h2).mono ?_
    rintro e w' ⟨N, rfl, _, _, hB⟩
    exact ⟨_, rfl, fun _ _ => rep_two (.v rfl) .ifc, hB⟩
theorem index1_sem {R : CodeRel} (s c : ByteArray) (b : UInt8) (hc : c.data.toList = [b]) (inb : List Bx) : FSem Tryz.prog R 277 [.v (.string s), .v (.string c)] inb (.v (.int .i64 (Lib.indexByte s.data.toList b))) inb := by
  refine fsem_rep fun cargs w K C hI ha => ?_
  rw [two_args ha]
  have hc' : c = ⟨#[b]⟩ := by
    obtain ⟨d⟩ := c
    congr
    apply Array.toList_inj.1
    exact hc
  rw [hc']
  refine (Any.stringslite_Index_one Tryz.laysIdx s b w).mono ?_
  rintro e w' ⟨rfl, hw⟩
  exact ⟨_, rfl, fun _ _ => .v rfl, hw ▸ Below.refl _ _⟩
theorem anyFrom_eq (s : ByteArray) : ∀ (f pos : Nat), anyFrom s marks f pos = Mk.seek s f pos
  | 0, _ => rfl
  | f + 1, pos => by
    unfold anyFrom Mk.seek
    rw [anyFrom_eq s f]
    rfl
theorem marks_sem {R : CodeRel} (s : ByteArray) (hs : s.size < 4294967281) (inb : List Bx) : FSem Tryz.prog R 198 [.v (.string s), .v (.string marks)] inb (.v (.int .i64 (if s.size ≤ 8 then anyFrom s marks s.size 0 else Lib.indexAny s.data.toList marks.data.toList))) inb := by
  refine fsem_rep fun cargs w K C hI ha => ?_
  rw [two_args ha]
  by_cases h8 : s.size ≤ 8
  · rw [if_pos h8, anyFrom_eq]
    refine (Mk.indexAny_short { Tryz.laysAny with } s w h8).mono ?_
    rintro e w' ⟨rfl, hB⟩
    exact ⟨_, rfl, fun _ _ => .v rfl, hB⟩
  · rw [if_neg h8]
    have hz : (Tryz.prog.info? (Tryz.laysAny_ren.t 116)).map (fun i => (i.zero, i.size)) = some (some (.agg (Array.replicate 256 (.bool false))), 256) := by kernel_rfl
    refine (Any.strings_IndexAny_long Tryz.laysAny (zero_of_info hz).1 (zero_of_info hz).2 s marks w (by decide) (by omega) hs (by decide) (fun j b hb => ?_)).mono ?_
    · have h3 : ∀ b ∈ [46, 91, 63], (b : UInt8).toNat < 128 := by decide
      exact h3 b (List.mem_of_getElem? hb)
    · rintro e w' ⟨rfl, hw⟩
      refine ⟨_, rfl, fun _ _ => .v rfl, ?_⟩
      rw [hw]
      exact ((Below.refl _ _).alloc (Nat.le_refl _) _).alloc (by simp) _
theorem ints_length : ∀ {es : List (List X)} {zs : List Int}, intsOf es = some zs → es.length = zs.length ∧ ∀ j, j < zs.length → es[j]? = some [.v (.int .i64 (zs.getD j 0))]
  | [], zs, h => by
    simp_all[intsOf]
  | e :: r, zs, h => by
    unfold intsOf at h
    split at h
    · grind
    · rename_i z r' heq
      obtain ⟨rfl, rfl⟩ := List.cons.inj heq
      split at h
      · rename_i l hl
        simp at h; subst h
        obtain ⟨h1, h2⟩ := ints_length hl<;>grind
      grind
    grind
end YtckdgafiindddaaGreatDoor
end Go.Proofs

/- charset.Text: the text of code points. -/
namespace Go.Proofs
open Go.Shelf
namespace YtckdgafiindddaaGreatDoor
open Go.RowKit Go.Em
theorem wr_extra : Builder.Extra Tryz.prog Tryz.laysWR_ren := {
  sizeBuilder := by kernel_rfl
  liesBuilder := by kernel_rfl
  t5 := Tryz.laysWR.t5
  a5 := Tryz.laysWR.a5
  z5 := Tryz.laysWR.z5
  v5 := Tryz.laysWR.v5
  infoByte := by kernel_rfl
  cellsByte := by kernel_rfl
  sizeByte := by kernel_rfl
  neB5 := by decide }
theorem bs_extra : Builder.Extra Tryz.prog Tryz.laysBS_ren := {
  sizeBuilder := by kernel_rfl
  liesBuilder := by kernel_rfl
  t5 := Tryz.laysWR.t5
  a5 := Tryz.laysWR.a5
  z5 := Tryz.laysWR.z5
  v5 := Tryz.laysWR.v5
  infoByte := by kernel_rfl
  cellsByte := by kernel_rfl
  sizeByte := by kernel_rfl
  neB5 := by decide }
set_option maxHeartbeats 1000000 in
set_option maxRecDepth 100000 in
theorem isPoint_calls (z : Int) (w : World) : Calls Tryz.prog 214 #[.int .i64 z] w fun e w' => e = .returned (.bool (pointOk z)) ∧ w' = w := by
  have e : pointOk z = (decide (0 ≤ z) && decide (z ≤ 1114111) && (decide (z < 55296) || decide (57343 < z))) := by
    unfold pointOk
    rw [Bool.eq_iff_iff]
    simp
    omega
  rw [e]
  go_enter Tryz.func214, Tryz.ntmps214
  go_wp2
  all_goals (go_ret; refine ⟨?_, rfl⟩; simp_all <;> omega)
theorem flat_len (zs : List Int) : (zs.flatMap Lib.encodeRune).length ≤ 4 * zs.length := by
  induction zs with
  | nil => grind
  | cons z r ih =>
    grind[Lib.encodeRuneZ_length,Lib.encodeRune]
theorem byteCells_append (a b : List UInt8) : Lib.byteCells (a ++ b) = Lib.byteCells a ++ Lib.byteCells b := by simp [Lib.byteCells]
def ptRes (zs : List Int) : Value := if zs.all pointOk then .tuple #[.string ⟨(zs.flatMap Lib.encodeRune).toArray⟩, .int .i64 0] else .tuple #[.string ⟨#[]⟩, .int .i64 2]
set_option maxHeartbeats 4000000 in
set_option maxRecDepth 100000 in
theorem points_calls (zs : List Int) (hz : zs.length ≤ 1000000) (v : Value) (w : World) (hv : (∃ ob, v = .slice ob 0 0 ∧ zs = []) ∨ ∃ b o cap, v = .slice (some ⟨b, o, none⟩) zs.length cap ∧ ∀ j, j < zs.length → w.cell? ⟨b, o + j, none⟩ = some (.int .i64 (zs.getD j 0))) :
    Calls Tryz.prog 182 #[v] w fun e w' => e = .returned (ptRes zs) ∧ Below w.heap.size w w' := by
  have hstr : ∀ (l : List UInt8) (wx : World), Lib.IsBuilderF 283 5 w.heap.size w.heap.size (Lib.byteCells l) wx → w.heap.size ≤ wx.heap.size → Calls Tryz.prog 216 #[.pointer (some ⟨w.heap.size, 0, none⟩)] wx fun e w' => e = .returned (.string ⟨l.toArray⟩) ∧ Below w.heap.size wx w' := fun l wx h hs => by
    refine (Any.Builder_String_any_k Tryz.laysBS bs_extra w.heap.size w.heap.size l wx h hs).mono ?_<;>grind
  have hb0 := Lib.IsBuilderF.of (Lib.fresh_isBuilder 283 5 w)
  have hB0 : Below w.heap.size w (w.alloc (Obj.cells #[Value.pointer none, Value.slice none 0 0] 283)) := (Below.refl _ _).alloc (Nat.le_refl _) _
  rcases hv with ⟨ob, rfl, rfl⟩ | ⟨b, o, cap, rfl, hc⟩
  · go_enter Tryz.func182, Tryz.ntmps182
    go_wp2
    go_loopg [6, 9] 0 (fun g _ s9 wx => s9 = .int .i64 0 ∧ Lib.IsBuilderF 283 5 w.heap.size w.heap.size (Lib.byteCells []) wx ∧ Below w.heap.size w wx)
    case atStart => exact ⟨rfl, hb0, hB0⟩
    case round =>
      obtain ⟨rfl, hb, hB⟩ := hrel
      have hl := hstr [] _ hb hB.size
      have HL := Lib.hid hl
      clear hl hstr
      go_wp2_with (go_at_call 216; refine HL.out.mono ?_; rintro e w2 ⟨rfl, hB2⟩)
      go_ret2
      exact ⟨rfl, hB.trans hB2⟩
  · have hcells : ∀ wx, Below w.heap.size w wx → ∀ j, j < zs.length → wx.cell? ⟨b, o + j, none⟩ = some (.int .i64 (zs.getD j 0)) := fun wx hB j hj => by
      have h1 := hc j hj
      have hlt : b < w.heap.size := by
        rcases Nat.lt_or_ge b w.heap.size with h' | h'
        · grind
        · grind[World.cell?]
      unfold World.cell? at h1 ⊢
      rw [hB.block b hlt]<;>grind
    clear hc
    go_enter Tryz.func182, Tryz.ntmps182
    go_wp2
    go_loopg [6, 9] zs.length (fun g _ s9 wx => ∃ i : Nat, i + g = zs.length ∧ s9 = .int .i64 i ∧ Lib.IsBuilderF 283 5 w.heap.size w.heap.size (Lib.byteCells ((zs.take i).flatMap Lib.encodeRune)) wx ∧ Below w.heap.size w wx ∧ Aside ((zs.take i).all pointOk = true))
    case atStart => exact ⟨0, by omega, rfl, hb0, hB0, rfl⟩
    case round =>
      obtain ⟨i, hig, rfl, hb, hB, A⟩ := hrel
      cases gk with
      | zero =>
        obtain rfl : i = zs.length := by omega
        have hiz : ¬ ((zs.length : Int) < (zs.length : Int)) := by omega
        have hl := hstr ((zs.take zs.length).flatMap Lib.encodeRune) _ hb hB.size
        have HL := Lib.hid hl
        clear hcells hl hstr
        go_wp2_with (go_at_call 216; refine HL.out.mono ?_; rintro e w2 ⟨rfl, hB2⟩)
        go_ret2
        have hA := A.out
        rw [List.take_length] at hA
        refine ⟨?_, hB.trans hB2⟩
        have hr : ptRes zs = .tuple #[.string ⟨(zs.flatMap Lib.encodeRune).toArray⟩, .int .i64 0] := by unfold ptRes; rw [hA]; rfl
        rw [hr]
        rfl
      | succ g =>
        have hi : i < zs.length := by omega
        have hiz : (i : Int) < (zs.length : Int) := by omega
        have hcell := hcells wr hB i hi
        clear hcells
        have hstep : zs.take (i + 1) = zs.take i ++ [zs.getD i 0] := by
          rw [List.take_add_one, List.getElem?_eq_getElem hi, List.getD_eq_getElem?_getD, List.getElem?_eq_getElem hi]; rfl
        have hmem : zs.getD i 0 ∈ zs := by rw [List.getD_eq_getElem?_getD, List.getElem?_eq_getElem hi]; exact List.getElem_mem hi
        have H1 : Aside (zs.take (i + 1) = zs.take i ++ [zs.getD i 0]) := hstep
        have H2 : Aside (zs.getD i 0 ∈ zs) := hmem
        clear hstep hmem
        obtain ⟨z, hz'⟩ : ∃ z, zs.getD i 0 = z := ⟨_, rfl⟩
        rw [hz'] at hcell
        have H3 : Aside (zs.getD i 0 = z) := hz'
        clear hz'
        cases hp : pointOk z with
        | false =>
          go_wp2_with (go_at_call 214; refine (isPoint_calls z _).mono ?_; rintro e w' ⟨rfl, hw⟩; rw [hw, hp])
          go_ret2
          have hall : zs.all pointOk = false := by
            rw [List.all_eq_false]
            exact ⟨z, by rw [← H3.out]<;>grind, by grind⟩
          have hr : ptRes zs = .tuple #[.string ⟨#[]⟩, .int .i64 2] := by unfold ptRes; rw [hall]; rfl
          exact ⟨by rw [hr]; rfl, hB⟩
        | true =>
          have hp' := of_decide_eq_true hp
          have hwr : IntKind.i32.wrap z = z := by unfold IntKind.wrap; simp [IntKind.bits, IntKind.signed]; omega
          have hlen : (Lib.byteCells ((zs.take i).flatMap Lib.encodeRune)).length + 4 ≤ 140737488355328 := by
            have := flat_len (zs.take i)
            rw [List.length_take] at this
            simp only [Lib.byteCells, List.length_map]
            omega
          have hw := Any.Builder_WriteRune_k Tryz.laysWR wr_extra w.heap.size w.heap.size _ z (by omega) (by omega) wr hb hlen hB.size
          have HW := Lib.hid hw
          clear hlen hw hstr
          go_wp2_with (first
            | (go_at_call 214; refine (isPoint_calls z _).mono ?_; rintro e w' ⟨rfl, hw⟩; rw [hw, hp])
            | (go_at_call 215; refine HW.out.mono ?_; rintro e w2 ⟨rfl, hb2, hB2, _⟩))
          go_roundg g
          case measure => omega
          case rel =>
            refine ⟨i + 1, by omega, rfl, .inr ?_, hB.trans hB2, ?_⟩
            · rw [H1.out, List.flatMap_append, byteCells_append, H3.out]
              have : Lib.byteCells ([z].flatMap Lib.encodeRune) = Lib.runeCells z := by rw [List.flatMap_cons, List.flatMap_nil, List.append_nil, Lib.byteCells_encodeRune]
              rw [this]
              exact hb2
            · show _ = _
              rw [H1.out, List.all_append, A.out, H3.out]<;>grind
theorem points_sem {R : CodeRel} (t : Bool) (es : List (List X)) (zs : List Int) (h : intsOf es = some zs) (hz : zs.length ≤ 1000000) (inb : List Bx) :
    FSem Tryz.prog R 182 [.sl t 1 es] inb (if zs.all pointOk then .tup [.v (.string ⟨(zs.flatMap Lib.encodeRune).toArray⟩), .v (.int .i64 0)] else .tup [.v (.string ⟨#[]⟩), .v (.int .i64 2)]) inb := by
  refine fsem_rep fun cargs w K C hI ha => ?_
  obtain ⟨h1, h2⟩ := ints_length h
  have hs : cargs.size = 1 := ha.1
  have r0 := ha.2 0 _ cargs[0] rfl (Array.getElem?_eq_getElem (by omega))
  have hca : cargs = #[cargs[0]] := by
    refine Array.ext (by grind) fun i h1 h2 => ?_
    match i, h1, h2 with
    | 0, _, _ => rfl
    | i + 1, h1, _ => omega
  rw [hca]
  generalize cargs[0] = v at r0
  have hv : (∃ ob, v = .slice ob 0 0 ∧ zs = []) ∨ ∃ b o cap, v = .slice (some ⟨b, o, none⟩) zs.length cap ∧ ∀ j, j < zs.length → w.cell? ⟨b, o + j, none⟩ = some (.int .i64 (zs.getD j 0)) := by
    generalize hx : X.sl t 1 es = x at r0
    cases r0 <;> try cases hx
    case slNil ob =>
      grind
    case sl b o cap vals hcap hcell hr htight hlen hk =>
      refine .inr ⟨b, o, cap, by rw [h1], fun j hj => ?_⟩
      have e1 := h2 j hj
      have e2 : at2 es j 0 = some (.v (.int .i64 (zs.getD j 0))) := by simp [at2, e1]
      have e3 := hI.known _ _ _ (hk j 0 _ e2)<;>grind[rep_v]
  refine (points_calls zs hz v w hv).mono ?_
  rintro e w' ⟨rfl, hB⟩
  refine ⟨_, rfl, fun _ _ => ?_, hB⟩
  unfold ptRes
  split
  · exact rep_two (.v rfl) (.v rfl)
  · exact rep_two (.v rfl) (.v rfl)
end YtckdgafiindddaaGreatDoor
end Go.Proofs

/- charset.shifted: the letters of a text, moved by a distance. -/
namespace Go.Proofs
open Go.Shelf
namespace YtckdgafiindddaaGreatDoor
open Go.RowKit Go.Em
/-- The first n cells of a block are the bytes of l, and may be written. -/
def BytesAt (w : World) (b : Nat) (l : List UInt8) (n : Nat) : Prop := ∀ j, j < n → w.cell? ⟨b, j, none⟩ = some (.int .u8 ((l.getD j 0).toNat : Int)) ∧ w.frozen? ⟨b, j, none⟩ = false
theorem bytes_set {w : World} {b n i : Nat} {l : List UInt8} (h : BytesAt w b l n) (hi : i < n) (hn : n = l.length) (v : UInt8) : BytesAt (w.setCell ⟨b, i, none⟩ (.int .u8 (v.toNat : Int))) b (l.set i v) n := fun j hj => by
  obtain ⟨h1, h2⟩ := h j hj<;>grind[World.frozen?_setCell,World.cell?_setCell_same,World.cell?_setCell_other]
def shStep (c d : Int) (l : List UInt8) (i : Nat) : List UInt8 := (l.take i).map (shB c d) ++ l.drop i
theorem shStep_len (c d : Int) (l : List UInt8) (i : Nat) : (shStep c d l i).length = l.length := by
  grind[shStep]
theorem shStep_at {c d : Int} {l : List UInt8} {i : Nat} (hi : i < l.length) : (shStep c d l i).getD i 0 = l.getD i 0 := by
  grind[shStep]
theorem shStep_next {c d : Int} {l : List UInt8} {i : Nat} (hi : i < l.length) : shStep c d l (i + 1) = (shStep c d l i).set i (shB c d (l.getD i 0)) := by
  unfold shStep
  rw [List.take_add_one, List.getElem?_eq_getElem hi, Option.toList_some, List.map_append, List.map_cons, List.map_nil]
  rw [List.drop_eq_getElem_cons hi]
  rw [List.set_append_right _ _ (by grind)]
  have : i - ((l.take i).map (shB c d)).length = 0 := by simp; omega
  grind
theorem shStep_all (c d : Int) (l : List UInt8) : shStep c d l l.length = l.map (shB c d) := by
  grind[shStep]
set_option maxHeartbeats 4000000 in
set_option maxRecDepth 100000 in
theorem shifted_calls (s : ByteArray) (c d : Int) (hc0 : 0 ≤ c) (hc1 : c ≤ 97) (hd0 : -32 ≤ d) (hd1 : d ≤ 32) (hcd : 0 ≤ c + d) (hs : s.size ≤ 1000000) (w : World) :
    Calls Tryz.prog 223 #[.string s, .int .u8 c, .int .i64 d] w fun e w' => e = .returned (.string ⟨(s.data.toList.map (shB c d)).toArray⟩) ∧ Below w.heap.size w w' := by
  have hcv := run_bytes_of_string (P := Tryz.prog) w 9 281 5 s Tryz.underlying9 Tryz.underlying281 Tryz.underlying5
  have hlen : s.data.toList.length = s.size := Array.length_toList ..
  obtain ⟨l, hl⟩ : ∃ l, l = s.data.toList := ⟨_, rfl⟩
  rw [← hl] at hlen ⊢
  obtain ⟨W0, hW0⟩ : ∃ W0, W0 = w.drew.alloc (.cells (bytesRow s (grownCap w s.size 0 5)) 5 ((bytesRow s (grownCap w s.size 0 5)).size, (bytesRow s (grownCap w s.size 0 5)).size + 1)) := ⟨_, rfl⟩
  obtain ⟨cap, hcap⟩ : ∃ cap, cap = grownCap w s.size 0 5 := ⟨_, rfl⟩
  rw [← hW0, ← hcap] at hcv
  have hB0 : Below w.heap.size w W0 := by rw [hW0]; exact (Below.refl _ w).drew.alloc (Nat.le_refl _) _
  have hA0 : BytesAt W0 w.heap.size l s.size := fun j hj => by
    have hj' : j < s.data.size := hj
    rw [hW0]
    have e1 := World.cell?_alloc_mark w.drew (bytesRow s (grownCap w s.size 0 5)) 5 ((bytesRow s (grownCap w s.size 0 5)).size, (bytesRow s (grownCap w s.size 0 5)).size + 1) j
    have e2 := World.frozen?_alloc_mark w.drew (bytesRow s (grownCap w s.size 0 5)) 5 (bytesRow s (grownCap w s.size 0 5)).size ((bytesRow s (grownCap w s.size 0 5)).size + 1) j
    have hh : w.drew.heap.size = w.heap.size := rfl
    grind[bytesRow]
  have hback : ∀ wx, BytesAt wx w.heap.size (shStep c d l s.size) s.size → (convert 281 9 (.slice (some ⟨w.heap.size, 0, none⟩) s.size cap)).run Tryz.prog wx = .ok (.string ⟨(l.map (shB c d)).toArray⟩) wx := fun wx h => by
    have e1 : shStep c d l s.size = l.map (shB c d) := by rw [← hlen]; exact shStep_all c d l
    rw [e1] at h
    have hlm : (l.map (shB c d)).length = s.size := by rw [List.length_map, hlen]
    have := run_convert_bytes_back (P := Tryz.prog) wx 281 9 5 ⟨w.heap.size, 0, none⟩ cap (l.map (shB c d)) Tryz.underlying281 Tryz.underlying5 Tryz.underlying9 (fun j hj => by
      rw [Addr.add_lit, Nat.zero_add, (h j (by omega)).1, List.getD_eq_getElem?_getD, List.getElem?_eq_getElem hj]
      rfl)
    grind
  have HB : Hid (∀ wx, BytesAt wx w.heap.size (shStep c d l s.size) s.size → (convert 281 9 (.slice (some ⟨w.heap.size, 0, none⟩) s.size cap)).run Tryz.prog wx = .ok (.string ⟨(l.map (shB c d)).toArray⟩) wx) := hback
  have HL : Aside (l.length = s.size) := hlen
  have HA0 : Hid (BytesAt W0 w.heap.size l s.size) := hA0
  clear hback hlen hA0 hW0 hcap hl
  go_enter Tryz.func223, Tryz.ntmps223
  go_wp2
  go_loopg [8, 9, 14] s.size (fun g _ _ s14 wx => ∃ i : Nat, i + g = s.size ∧ s14 = .int .i64 i ∧ Hid (BytesAt wx w.heap.size (shStep c d l i) s.size) ∧ Below w.heap.size w wx)
  case atStart => exact ⟨0, by omega, rfl, HA0, hB0⟩
  case round =>
    obtain ⟨i, hig, rfl, hA, hB⟩ := hrel
    cases gk with
    | zero =>
      obtain rfl : i = s.size := by omega
      have hiz : ¬ ((s.size : Int) < (s.size : Int)) := by omega
      have hb := HB.out _ hA.out
      go_wp2
      go_ret
      exact ⟨rfl, hB⟩
    | succ g =>
      have hi : i < s.size := by omega
      have hiz : (i : Int) < (s.size : Int) := by omega
      obtain ⟨h1, h2⟩ := hA.out i hi
      rw [shStep_at (by rw [HL.out]; omega)] at h1
      obtain ⟨b, hb⟩ : ∃ b, l.getD i 0 = b := ⟨_, rfl⟩
      rw [hb] at h1
      have HN2 : Aside (shB c d b = b → BytesAt wr w.heap.size (shStep c d l (i + 1)) s.size) := fun e => by
        have hi' : i < (shStep c d l i).length := by rw [shStep_len, HL.out]; exact hi
        have e2 : (shStep c d l i).set i b = shStep c d l i := by
          have e3 := shStep_at (c := c) (d := d) (l := l) (i := i) (by rw [HL.out]; omega)
          rw [List.getD_eq_getElem?_getD, List.getElem?_eq_getElem hi', hb] at e3
          have e4 : (shStep c d l i)[i] = b := e3
          rw [← e4]
          exact List.set_getElem_self hi'
        rw [shStep_next (by rw [HL.out]; omega), hb, e, e2]
        exact hA.out
      have HN : Aside (BytesAt (wr.setCell ⟨w.heap.size, i, none⟩ (.int .u8 ((shB c d b).toNat : Int))) w.heap.size (shStep c d l (i + 1)) s.size) := by
        show BytesAt _ _ _ _
        rw [shStep_next (by rw [HL.out]; omega), hb]
        exact bytes_set hA.out hi (by rw [shStep_len]; exact HL.out.symm) _
      have hb8 : (b.toNat : Int) < 256 := by have := b.toNat_lt; omega
      have hb0 : (0 : Int) ≤ (b.toNat : Int) := by omega
      have HS : Aside (shB c d b = if c ≤ (b.toNat : Int) ∧ (b.toNat : Int) < c + 26 then UInt8.ofNat ((b.toNat : Int) + d).toNat else b) := rfl
      clear hb
      obtain ⟨z, hz⟩ : ∃ z : Int, z = (b.toNat : Int) := ⟨_, rfl⟩
      rw [← hz] at h1 hb8 hb0
      go_wp2
      · have e : shB c d b = UInt8.ofNat ((b.toNat : Int) + d).toNat := by rw [HS.out, if_pos (by omega)]
        have e2 : ((shB c d b).toNat : Int) = (b.toNat : Int) + d := by
          rw [e, UInt8.toNat_ofNat']
          omega
        have hN : BytesAt (wr.setCell ⟨w.heap.size, i, none⟩ (.int .u8 ((b.toNat : Int) + d))) w.heap.size (shStep c d l (i + 1)) s.size := by
          rw [← e2]; exact HN.out
        go_roundg g
        case measure => omega
        case rel => exact ⟨i + 1, by omega, rfl, hN, hB.setCell (Nat.le_refl _) _⟩
      · have hN := HN2.out (by rw [HS.out, if_neg (by omega)])
        go_roundg g
        case measure => omega
        case rel => exact ⟨i + 1, by omega, rfl, hN, hB⟩
      · have hN := HN2.out (by rw [HS.out, if_neg (by omega)])
        go_roundg g
        case measure => omega
        case rel => exact ⟨i + 1, by omega, rfl, hN, hB⟩
theorem three_args {K : Kn} {C : List CB} {u v x : Value} {cargs : Array Value} (ha : ArgsRep K C [.v u, .v v, .v x] cargs) : cargs = #[u, v, x] := by
  have hs : cargs.size = 3 := ha.1
  have r0 := rep_v (ha.2 0 _ cargs[0] rfl (Array.getElem?_eq_getElem (by omega)))
  have r1 := rep_v (ha.2 1 _ cargs[1] rfl (Array.getElem?_eq_getElem (by omega)))
  have r2 := rep_v (ha.2 2 _ cargs[2] rfl (Array.getElem?_eq_getElem (by omega)))
  grind
theorem shift_sem {R : CodeRel} (s : ByteArray) (c d : Int) (hc0 : 0 ≤ c) (hc1 : c ≤ 97) (hd0 : -32 ≤ d) (hd1 : d ≤ 32) (hcd : 0 ≤ c + d) (hs : s.size ≤ 1000000) (inb : List Bx) : FSem Tryz.prog R 223 [.v (.string s), .v (.int .u8 c), .v (.int .i64 d)] inb (.v (.string ⟨(s.data.toList.map (shB c d)).toArray⟩)) inb := by
  refine fsem_rep fun cargs w K C hI ha => ?_
  rw [three_args ha]
  refine (shifted_calls s c d hc0 hc1 hd0 hd1 hcd hs w).mono ?_
  rintro e w' ⟨rfl, hB⟩
  exact ⟨_, rfl, fun _ _ => .v rfl, hB⟩
end YtckdgafiindddaaGreatDoor
end Go.Proofs

/- The abstract machine with this table is sound for the program: the functions of the library that are not walked. -/
namespace Go.Proofs
open Go.Shelf
def Tryz.laysClone_ren : Go.Shelf.Ren := ⟨fun | 15 => 81 | n => n, fun | 22 => 40 | 3 => 3 | 4 => 4 | n => n, fun | n => n⟩
theorem Tryz.laysClone : Go.Proofs.Lays2.n15 Tryz.prog Tryz.laysClone_ren := {
  mixed := by kernel_rfl
  f15 := Tryz.func81.trans (congrArg some (by kernel_rfl))
  t3 := Tryz.underlying3
  a3 := Tryz.isAgg3
  z3 := Tryz.sizeOf3
  v3 := Tryz.zeroValue3
  t4 := Tryz.underlying4
  a4 := Tryz.isAgg4
  z4 := Tryz.sizeOf4
  v4 := Tryz.zeroValue4
  t22 := Tryz.underlying40
  a22 := Tryz.isAgg40
  z22 := Tryz.sizeOf40
  v22 := Tryz.zeroValue40
  i3 := by kernel_rfl }
def Tryz.laysValid_ren : Go.Shelf.Ren := ⟨fun | 196 => 243 | 259 => 284 | n => n, fun | 9 => 9 | 4 => 4 | 3 => 3 | 5 => 5 | 12 => 12 | 119 => 339 | 0 => 0 | 46 => 145 | 139 => 342 | 138 => 341 | 53 => 198 | n => n, fun | 3 => 2 | 4 => 3 | n => n⟩
theorem Tryz.laysValid : Go.Proofs.Lays.n196 Tryz.prog Tryz.laysValid_ren := {
  mixed := by kernel_rfl
  f196 := Tryz.func243.trans (congrArg some (by kernel_rfl))
  f259 := Tryz.func284.trans (congrArg some (by kernel_rfl))
  t0 := Tryz.underlying0
  a0 := Tryz.isAgg0
  z0 := Tryz.sizeOf0
  v0 := Tryz.zeroValue0
  t3 := Tryz.underlying3
  a3 := Tryz.isAgg3
  z3 := Tryz.sizeOf3
  v3 := Tryz.zeroValue3
  t4 := Tryz.underlying4
  a4 := Tryz.isAgg4
  z4 := Tryz.sizeOf4
  v4 := Tryz.zeroValue4
  t5 := Tryz.underlying5
  a5 := Tryz.isAgg5
  z5 := Tryz.sizeOf5
  v5 := Tryz.zeroValue5
  t9 := Tryz.underlying9
  a9 := Tryz.isAgg9
  z9 := Tryz.sizeOf9
  v9 := Tryz.zeroValue9
  t12 := Tryz.underlying12
  a12 := Tryz.isAgg12
  z12 := Tryz.sizeOf12
  v12 := Tryz.zeroValue12
  t46 := Tryz.underlying145
  a46 := Tryz.isAgg145
  z46 := Tryz.sizeOf145
  v46 := Tryz.zeroValue145
  t53 := Tryz.underlying198
  a53 := Tryz.isAgg198
  z53 := Tryz.sizeOf198
  v53 := Tryz.zeroValue198
  t119 := Tryz.underlying339
  a119 := Tryz.isAgg339
  z119 := Tryz.sizeOf339
  t138 := Tryz.underlying341
  a138 := Tryz.isAgg341
  z138 := Tryz.sizeOf341
  v138 := Tryz.zeroValue341
  t139 := Tryz.underlying342
  a139 := Tryz.isAgg342
  z139 := Tryz.sizeOf342
  v139 := Tryz.zeroValue342
  g3 := by kernel_rfl
  g4 := by kernel_rfl }
namespace YtckdgafiindddaaGreatDoor
open Go.RowKit Go.Em

set_option maxHeartbeats 1000000 in
set_option maxRecDepth 100000 in
theorem compare_calls (a b : ByteArray) (w : World) :
    Calls Tryz.prog 99 #[.string a, .string b] w fun e w' => e = .returned (.int .i64 (Lib.compareBytes a.data.toList b.data.toList)) ∧ w' = w := by
  go_enter Tryz.func99, Tryz.ntmps99
  go_wp2
  rw [run_callFunc_extern Tryz.func128 (by kernel_rfl) (by kernel_rfl) (by kernel_rfl) (e := Extern.BytealgCompare.compare) (by kernel_rfl), Lib.run_compareString]
  simp only [Result.andThen]
  rw [Oper.upon_value]
  go_wp2
  go_ret
  exact ⟨rfl, rfl⟩

section
variable {P : Program} {R : CodeRel}
/-- A function that gives back a value of one word, and may make blocks of its own. -/
theorem fsem_word {f : FuncId} {args : List X} {inb : List Bx} {u : Value} (hu : okV u = true) (h : ∀ (cargs : Array Value) (w : World) (K : Kn) (C : List CB), Inv P R K C inb w → ArgsRep K C args cargs → Calls P f cargs w fun e w' => e = .returned u ∧ Below w.heap.size w w') : FSem P R f args inb (.v u) inb := by
  intro K C w cargs hI ha
  refine (h cargs w K C hI ha).mono ?_
  rintro e w' ⟨rfl, hB⟩
  have hf := frame_of_below hB
  exact ⟨u, K, [], rfl, owns_same (hI.still hf), .v hu, KLe.refl _, fun b o v e => .inl e, fun b o ho => .inl (by rw [List.append_nil] at ho; exact ho), hf.mono (fun b o _ hs => hs.elim), fun i B hB hl => ⟨B, hB, hl⟩⟩
end
theorem intsOf_length : ∀ {es : List (List X)} {zs : List Int}, intsOf es = some zs → es.length = zs.length ∧ ∀ j, j < zs.length → es[j]? = some [.v (.int .i64 (zs.getD j 0))]
  | [], zs, h => by
    simp only [intsOf, Option.some.injEq] at h; subst h
    exact ⟨rfl, fun j hj => by simp at hj⟩
  | e :: r, zs, h => by
    unfold intsOf at h
    split at h
    · rename_i heq; cases heq
    · rename_i z r' heq
      obtain ⟨rfl, rfl⟩ := List.cons.inj heq
      split at h
      · rename_i l hl
        simp only [Option.some.injEq] at h; subst h
        obtain ⟨h1, h2⟩ := intsOf_length hl
        refine ⟨by simp [h1], fun j hj => ?_⟩
        cases j with
        | zero => rfl
        | succ j =>
          have := h2 j (by simpa using hj)
          simpa using this
      · cases h
    · cases h
theorem clone_sem {R : CodeRel} (t : Bool) (es : List (List X)) (zs : List Int) (h : intsOf es = some zs) (hz : zs.length ≤ 1000000) (inb : List Bx) : FSem Tryz.prog R 81 [.sl t 1 es] inb (.bs inb.length 0 zs.length) (inb ++ [.row 1 (intRow zs)]) := by
  refine fsem_ints (el := 3) zs fun cargs w K C hI ha => ?_
  obtain ⟨h1, h2⟩ := intsOf_length h
  have hs : cargs.size = 1 := ha.1
  have r0 := ha.2 0 _ cargs[0] rfl (Array.getElem?_eq_getElem (by omega))
  have hca : cargs = #[cargs[0]] := by
    refine Array.ext (by simp [hs]) fun i h1 h2 => ?_
    match i, h1, h2 with
    | 0, _, _ => rfl
    | i + 1, h1, _ => omega
  rw [hca]
  generalize cargs[0] = v at r0
  generalize hx : X.sl t 1 es = x at r0
  cases r0 <;> try cases hx
  case slNil ob =>
    simp only [intsOf, Option.some.injEq] at h; subst h
    cases ob with
    | none =>
      refine (Any.slices_Clone_int_nil Tryz.laysClone 0 0 w).mono ?_
      rintro e w' ⟨rfl, rfl⟩
      exact ⟨_, rfl, ⟨rfl, .inl ⟨rfl, rfl⟩⟩, Below.refl _ _⟩
    | some a =>
      refine (Any.slices_Clone_int_zero Tryz.laysClone a 0 w).mono ?_
      rintro e w' ⟨v', rfl, ho, _, hB⟩
      exact ⟨v', rfl, ho, hB⟩
  case sl b o cap vals hcap hcell hr htight hlen hk =>
    have hcells : ∀ j, j < zs.length → w.cell? ⟨b, o + j, none⟩ = some (.int .i64 (zs.getD j 0)) := fun j hj => by
      have e1 := h2 j hj
      have e2 : at2 es j 0 = some (.v (.int .i64 (zs.getD j 0))) := by simp [at2, e1]
      have e3 := hI.known _ _ _ (hk j 0 _ e2)
      have e4 := rep_v (hr j 0 _ e2)
      rw [← e4]
      simpa using e3
    refine (Any.slices_Clone_int Tryz.laysClone b o es.length cap zs w (by omega) (by omega) hcells).mono ?_
    rintro e w' ⟨v', rfl, ho, _, hB⟩
    refine ⟨v', rfl, ?_, hB⟩
    rw [h1, List.take_length] at ho
    exact ho

/-- The tables of the library's text, as they lie in memory. -/
theorem tabs_of {R : CodeRel} (hR : R.gl = gl) {K : Kn} {C : List CB} {bx : List Bx} {w : World} (hI : Inv Tryz.prog R K C bx w) : Lib.Utf8Tabs (Tryz.laysValid_ren.g 3) (Tryz.laysValid_ren.g 4) w := by
  have cell : ∀ (g : Nat) (cs : List X), gl g = some cs → ∀ (j : Nat) (v : Value), cs[j]? = some (.v v) → w.cell? ⟨g, j, none⟩ = some v := fun g cs hg j v hj => by
    have h := hI.glob g cs (by rw [hR]; exact hg)
    cases h with
    | dp vals hcell hk hr =>
      have e3 := hI.known _ _ _ (hk j _ hj)
      rw [← rep_v (hr j _ hj)]
      simpa using e3
  have g3 : Tryz.laysValid_ren.g 3 = 2 := by kernel_rfl
  have g4 : Tryz.laysValid_ren.g 4 = 3 := by kernel_rfl
  rw [g3, g4]
  constructor
  · intro c hc
    have hall : ((List.range 256).all fun c => match (bytesX Go.Pinned.utf8FirstZ)[c]? with
      | some (.v (.int .u8 z)) => z == Lib.firstT c
      | _ => false) = true := by kernel_rfl
    have h1 := List.all_eq_true.1 hall c (List.mem_range.2 hc)
    split at h1
    · rename_i z hz
      rw [cell 2 _ rfl c _ hz, eq_of_beq h1]
    · cases h1
  · intro i hi
    have hall : ((List.range 16).all fun i => (match (bytesX ([128, 191, 160, 191, 128, 159, 144, 191, 128, 143] ++ List.replicate 22 0))[2 * i]? with
      | some (.v (.int .u8 z)) => z == Lib.accLo i
      | _ => false) && (match (bytesX ([128, 191, 160, 191, 128, 159, 144, 191, 128, 143] ++ List.replicate 22 0))[2 * i + 1]? with
      | some (.v (.int .u8 z)) => z == Lib.accHi i
      | _ => false)) = true := by kernel_rfl
    have h1 := List.all_eq_true.1 hall i (List.mem_range.2 hi)
    rw [Bool.and_eq_true] at h1
    obtain ⟨h1, h2⟩ := h1
    constructor
    · split at h1
      · rename_i z hz
        rw [cell 3 _ rfl (2 * i) _ hz, eq_of_beq h1]
      · cases h1
    · split at h2
      · rename_i z hz
        rw [cell 3 _ rfl (2 * i + 1) _ hz, eq_of_beq h2]
      · cases h2

theorem valid_sem {R : CodeRel} (hR : R.gl = gl) (s : ByteArray) (hs : s.size ≤ 9223372036854775807) (inb : List Bx) : FSem Tryz.prog R 243 [.v (.string s)] inb (.v (.bool (Lib.validD s.data.toList))) inb := by
  refine fsem_word rfl fun cargs w K C hI ha => ?_
  have h2 : cargs = #[.string s] := by
    have hs : cargs.size = 1 := ha.1
    have r0 := rep_v (ha.2 0 _ cargs[0] rfl (Array.getElem?_eq_getElem (by omega)))
    refine Array.ext (by simp [hs]) fun i h1 h2 => ?_
    match i, h1, h2 with
    | 0, _, _ => simpa using r0
    | i + 1, h1, _ => omega
  rw [h2]
  exact Any.utf8_ValidString Tryz.laysValid s w hs (tabs_of hR hI)

theorem ascii_mem {s : ByteArray} (h : asciiB s = true) (j : Nat) (b : UInt8) (hb : s.data.toList[j]? = some b) : b.toNat < 128 := by
  have h1 := List.all_eq_true.1 h b (List.mem_of_getElem? hb)
  exact of_decide_eq_true h1
theorem any_sem {R : CodeRel} (s t : ByteArray) (hs : s.size < 4294967281) (ht : t.size < 4294967281) (ha : asciiB s = true) (hb : asciiB t = true) (inb : List Bx) : FSem Tryz.prog R 198 [.v (.string s), .v (.string t)] inb (.v (.int .i64 (Lib.indexAny s.data.toList t.data.toList))) inb := by
  refine fsem_word rfl fun cargs w K C hI hc => ?_
  have h2 : cargs = #[.string s, .string t] := by
    have hs : cargs.size = 2 := hc.1
    have r0 := rep_v (hc.2 0 _ cargs[0] rfl (Array.getElem?_eq_getElem (by omega)))
    have r1 := rep_v (hc.2 1 _ cargs[1] rfl (Array.getElem?_eq_getElem (by omega)))
    refine Array.ext (by simp [hs]) fun i h1 h2 => ?_
    match i, h1, h2 with
    | 0, _, _ => simpa using r0
    | 1, _, _ => simpa using r1
    | i + 2, h1, _ => omega
  rw [h2]
  exact Any.strings_IndexAny_laid Tryz.laysAny (by kernel_rfl) s t w hs ht (ascii_mem ha) (ascii_mem hb)

theorem ite_some {α : Type} {c : Bool} {a g : α} {b : Option α} (h : (if c = true then some a else b) = some g) : (c = true ∧ a = g) ∨ (c = false ∧ b = some g) := by
  cases c with
  | true => exact .inl ⟨rfl, Option.some.inj h⟩
  | false => exact .inr ⟨rfl, h⟩
theorem tabOk : TabOk Tryz.prog gl tab := by
  intro f fd h
  unfold tab at h
  split at h
  · exact ⟨_, h⟩
  · cases h

theorem extOk : ExtOk Tryz.prog gl ext := by
  intro f g hg args inb res outb h
  unfold ext at hg
  rcases ite_some hg with ⟨hf, hq⟩ | ⟨_, hg0⟩
  · have hf' : f = 99 := by simpa using hf
    subst hf'
    subst hq
    unfold compareExt at h
    split at h
    · rename_i a b
      simp only [Option.some.injEq, Prod.mk.injEq] at h
      obtain ⟨rfl, rfl⟩ := h
      refine ⟨fnOk Tryz.func99 (fun e => absurd e (of_decide_eq_false (by kernel_rfl))) (fun e => by simpa [e] using (show Tryz.f99.body.isSome = true by kernel_rfl)), fsem_pure rfl fun cargs w K C ha => ?_⟩
      have h2 : cargs = #[.string a, .string b] := by
        have hs : cargs.size = 2 := ha.1
        have r0 := rep_v (ha.2 0 _ cargs[0] rfl (Array.getElem?_eq_getElem (by omega)))
        have r1 := rep_v (ha.2 1 _ cargs[1] rfl (Array.getElem?_eq_getElem (by omega)))
        refine Array.ext (by simp [hs]) fun i h1 h2 => ?_
        match i, h1, h2 with
        | 0, _, _ => simpa using r0
        | 1, _, _ => simpa using r1
        | i + 2, h1, _ => omega
      rw [h2]
      exact compare_calls a b w
    · cases h
  · rcases ite_some hg0 with ⟨hf, hq⟩ | ⟨_, hg1⟩
    · have hf' : f = 243 := by simpa using hf
      subst hf'
      subst hq
      unfold validExt at h
      split at h
      · split at h
        · rename_i a hsz
          simp only [Option.some.injEq, Prod.mk.injEq] at h
          obtain ⟨rfl, rfl⟩ := h
          exact ⟨fnOk Tryz.func243 (fun e => absurd e (of_decide_eq_false (by kernel_rfl))) (fun e => by simpa [e] using (show Tryz.f243.body.isSome = true by kernel_rfl)), valid_sem rfl a hsz inb⟩
        · cases h
      · cases h
    · rcases ite_some hg1 with ⟨hf, hq⟩ | ⟨_, hg2⟩
      · have hf' : f = 81 := by simpa using hf
        subst hf'
        subst hq
        unfold cloneExt at h
        split at h
        · split at h
          · rename_i zs hzs
            split at h
            · rename_i hle
              simp only [Option.some.injEq, Prod.mk.injEq] at h
              obtain ⟨rfl, rfl⟩ := h
              exact ⟨fnOk Tryz.func81 (fun e => absurd e (of_decide_eq_false (by kernel_rfl))) (fun e => by simpa [e] using (show Tryz.f81.body.isSome = true by kernel_rfl)), clone_sem _ _ zs hzs hle inb⟩
            · cases h
          · cases h
        · cases h
      · rcases ite_some hg2 with ⟨hf, hq⟩ | ⟨_, hg3⟩
        · have hf' : f = 198 := by simpa using hf
          subst hf'
          subst hq
          unfold indexAnyExt at h
          split at h
          · split at h
            · rename_i a b hc
              obtain ⟨h1, h2, h3, h4⟩ := hc
              simp only [Option.some.injEq, Prod.mk.injEq] at h
              obtain ⟨rfl, rfl⟩ := h
              exact ⟨fnOk Tryz.func198 (fun e => absurd e (of_decide_eq_false (by kernel_rfl))) (fun e => by simpa [e] using (show Tryz.f198.body.isSome = true by kernel_rfl)), any_sem a b h1 h2 h3 h4 inb⟩
            · split at h
              · rename_i a b _ hc
                obtain ⟨h1, rfl⟩ := hc
                simp only [Option.some.injEq, Prod.mk.injEq] at h
                obtain ⟨rfl, rfl⟩ := h
                exact ⟨fnOk Tryz.func198 (fun e => absurd e (of_decide_eq_false (by kernel_rfl))) (fun e => by simpa [e] using (show Tryz.f198.body.isSome = true by kernel_rfl)), marks_sem a h1 inb⟩
              · cases h
          · cases h
        · rcases ite_some hg3 with ⟨hf, hq⟩ | ⟨_, hg4⟩
          · have hf' : f = 91 := by simpa using hf
            subst hf'
            subst hq
            unfold insExt at h
            split at h
            · split at h
              · rename_i n z t k1 x k2 rows hc
                obtain ⟨hk1, hk2, h1, h2, h3, h4⟩ := hc
                subst hk1
                subst hk2
                simp only [Option.some.injEq, Prod.mk.injEq] at h
                obtain ⟨rfl, rfl⟩ := h
                have e : z = Int.ofNat z.toNat := by simp only [Int.ofNat_eq_natCast]; omega
                have := ins_sem (R := RCode Tryz.prog gl) n z.toNat t x rows h4 h1 h2
                rw [← e] at this
                exact ⟨fnOk Tryz.func91 (fun e => absurd e (of_decide_eq_false (by kernel_rfl))) (fun e => by simpa [e] using (show Tryz.f91.body.isSome = true by kernel_rfl)), this⟩
              · cases h
            · cases h
          · rcases ite_some hg4 with ⟨hf, hq⟩ | ⟨_, hg5⟩
            · have hf' : f = 46 := by simpa using hf
              subst hf'
              subst hq
              unfold insExt at h
              split at h
              · split at h
                · rename_i n z t k1 x k2 rows hc
                  obtain ⟨hk1, hk2, h1, h2, h3, h4⟩ := hc
                  subst hk1
                  subst hk2
                  simp only [Option.some.injEq, Prod.mk.injEq] at h
                  obtain ⟨rfl, rfl⟩ := h
                  have e : z = Int.ofNat z.toNat := by simp only [Int.ofNat_eq_natCast]; omega
                  have := Im.ins_sem (R := RCode Tryz.prog gl) n z.toNat t x rows h4 h1 h2
                  rw [← e] at this
                  exact ⟨fnOk Tryz.func46 (fun e => absurd e (of_decide_eq_false (by kernel_rfl))) (fun e => by simpa [e] using (show Tryz.f46.body.isSome = true by kernel_rfl)), this⟩
                · cases h
              · cases h
            · rcases ite_some hg5 with ⟨hf, hq⟩ | ⟨_, hg6⟩
              · have hf' : f = 48 := by simpa using hf
                subst hf'
                subst hq
                unfold insExt at h
                split at h
                · split at h
                  · rename_i n z t k1 x k2 rows hc
                    obtain ⟨hk1, hk2, h1, h2, h3, h4⟩ := hc
                    subst hk1
                    subst hk2
                    simp only [Option.some.injEq, Prod.mk.injEq] at h
                    obtain ⟨rfl, rfl⟩ := h
                    have e : z = Int.ofNat z.toNat := by simp only [Int.ofNat_eq_natCast]; omega
                    have := Iv.ins_sem (R := RCode Tryz.prog gl) n z.toNat t x rows h4 h1 h2
                    rw [← e] at this
                    exact ⟨fnOk Tryz.func48 (fun e => absurd e (of_decide_eq_false (by kernel_rfl))) (fun e => by simpa [e] using (show Tryz.f48.body.isSome = true by kernel_rfl)), this⟩
                  · cases h
                · cases h
              · rcases ite_some hg6 with ⟨hf, hq⟩ | ⟨_, hg7⟩
                · have hf' : f = 86 := by simpa using hf
                  subst hf'
                  subst hq
                  unfold cloneXExt at h
                  split at h
                  · split at h
                    · rename_i t k2 es hc
                      obtain ⟨hk2, h1⟩ := hc
                      subst hk2
                      simp only [Option.some.injEq, Prod.mk.injEq] at h
                      obtain ⟨rfl, rfl⟩ := h
                      exact ⟨fnOk Tryz.func86 (fun e => absurd e (of_decide_eq_false (by kernel_rfl))) (fun e => by simpa [e] using (show Tryz.f86.body.isSome = true by kernel_rfl)), cl_sem86 t es h1⟩
                    · cases h
                  · cases h
                · rcases ite_some hg7 with ⟨hf, hq⟩ | ⟨_, hg8⟩
                  · have hf' : f = 87 := by simpa using hf
                    subst hf'
                    subst hq
                    unfold cloneXExt at h
                    split at h
                    · split at h
                      · rename_i t k2 es hc
                        obtain ⟨hk2, h1⟩ := hc
                        subst hk2
                        simp only [Option.some.injEq, Prod.mk.injEq] at h
                        obtain ⟨rfl, rfl⟩ := h
                        exact ⟨fnOk Tryz.func87 (fun e => absurd e (of_decide_eq_false (by kernel_rfl))) (fun e => by simpa [e] using (show Tryz.f87.body.isSome = true by kernel_rfl)), cl_sem87 t es h1⟩
                      · cases h
                    · cases h
                  · rcases ite_some hg8 with ⟨hf, hq⟩ | ⟨_, hg9⟩
                    · have hf' : f = 69 := by simpa using hf
                      subst hf'
                      subst hq
                      unfold cloneXExt at h
                      split at h
                      · split at h
                        · rename_i t k2 es hc
                          obtain ⟨hk2, h1⟩ := hc
                          subst hk2
                          simp only [Option.some.injEq, Prod.mk.injEq] at h
                          obtain ⟨rfl, rfl⟩ := h
                          exact ⟨fnOk Tryz.func69 (fun e => absurd e (of_decide_eq_false (by kernel_rfl))) (fun e => by simpa [e] using (show Tryz.f69.body.isSome = true by kernel_rfl)), cl_sem69 t es h1⟩
                        · cases h
                      · cases h
                    · rcases ite_some hg9 with ⟨hf, hq⟩ | ⟨_, hg10⟩
                      · have hf' : f = 103 := by simpa using hf
                        subst hf'
                        subst hq
                        unfold itoaExt at h
                        split at h
                        · split at h
                          · rename_i z hc
                            simp only [Option.some.injEq, Prod.mk.injEq] at h
                            obtain ⟨rfl, rfl⟩ := h
                            exact ⟨fnOk Tryz.func103 (fun e => absurd e (of_decide_eq_false (by kernel_rfl))) (fun e => by simpa [e] using (show Tryz.f103.body.isSome = true by kernel_rfl)), itoa_sem rfl z hc.1 hc.2 inb⟩
                          · cases h
                        · cases h
                      · rcases ite_some hg10 with ⟨hf, hq⟩ | ⟨_, hg11⟩
                        · have hf' : f = 249 := by simpa using hf
                          subst hf'
                          subst hq
                          unfold repeatExt at h
                          split at h
                          · split at h
                            · rename_i s c hc
                              simp only [Option.some.injEq, Prod.mk.injEq] at h
                              obtain ⟨rfl, rfl⟩ := h
                              exact ⟨fnOk Tryz.func249 (fun e => absurd e (of_decide_eq_false (by kernel_rfl))) (fun e => by simpa [e] using (show Tryz.f249.body.isSome = true by kernel_rfl)), repeat_sem s c hc.1 hc.2.1 hc.2.2 inb⟩
                            · cases h
                          · cases h
                        · rcases ite_some hg11 with ⟨hf, hq⟩ | ⟨_, hg12⟩
                          · have hf' : f = 245 := by simpa using hf
                            subst hf'
                            subst hq
                            unfold decodeExt at h
                            split at h
                            · rename_i s
                              simp only [Option.some.injEq, Prod.mk.injEq] at h
                              obtain ⟨rfl, rfl⟩ := h
                              exact ⟨fnOk Tryz.func245 (fun e => absurd e (of_decide_eq_false (by kernel_rfl))) (fun e => by simpa [e] using (show Tryz.f245.body.isSome = true by kernel_rfl)), decode_sem rfl s inb⟩
                            · cases h
                          · rcases ite_some hg12 with ⟨hf, hq⟩ | ⟨_, hg13⟩
                            · have hf' : f = 201 := by simpa using hf
                              subst hf'
                              subst hq
                              unfold atoiExt at h
                              split at h
                              · split at h
                                · rename_i s hc
                                  have hres : res = atoiRes s ∧ outb = inb := by
                                    unfold atoiRes
                                    cases hq : Lib.atoiAll s.data.toList <;> (rw [hq] at h; simp only [Option.some.injEq, Prod.mk.injEq] at h; exact ⟨h.1.symm, h.2.symm⟩)
                                  obtain ⟨rfl, rfl⟩ := hres
                                  exact ⟨fnOk Tryz.func201 (fun e => absurd e (of_decide_eq_false (by kernel_rfl))) (fun e => by simpa [e] using (show Tryz.f201.body.isSome = true by kernel_rfl)), atoi_sem rfl s hc outb⟩
                                · cases h
                              · cases h
                            · rcases ite_some hg13 with ⟨hf, hq⟩ | ⟨_, hg14⟩
                              · have hf' : f = 277 := by simpa using hf
                                subst hf'
                                subst hq
                                unfold index1Ext at h
                                split at h
                                · split at h
                                  · rename_i s c _ b hb
                                    split at h
                                    · simp only [Option.some.injEq, Prod.mk.injEq] at h
                                      obtain ⟨rfl, rfl⟩ := h
                                      exact ⟨fnOk Tryz.func277 (fun e => absurd e (of_decide_eq_false (by kernel_rfl))) (fun e => by simpa [e] using (show Tryz.f277.body.isSome = true by kernel_rfl)), index1_sem s c b hb inb⟩
                                    · cases h
                                  · cases h
                                · cases h
                              · rcases ite_some hg14 with ⟨hf, hq⟩ | ⟨_, hg15⟩
                                · have hf' : f = 182 := by simpa using hf
                                  subst hf'
                                  subst hq
                                  unfold pointsExt at h
                                  split at h
                                  · rename_i t es
                                    split at h
                                    · rename_i zs hzs
                                      split at h
                                      · rename_i hle
                                        have := points_sem (R := RCode Tryz.prog gl) t es zs hzs hle inb
                                        split at h
                                        · rename_i hp
                                          rw [if_pos hp] at this
                                          simp only [Option.some.injEq, Prod.mk.injEq] at h
                                          obtain ⟨rfl, rfl⟩ := h
                                          exact ⟨fnOk Tryz.func182 (fun e => absurd e (of_decide_eq_false (by kernel_rfl))) (fun e => by simpa [e] using (show Tryz.f182.body.isSome = true by kernel_rfl)), this⟩
                                        · rename_i hp
                                          rw [if_neg hp] at this
                                          simp only [Option.some.injEq, Prod.mk.injEq] at h
                                          obtain ⟨rfl, rfl⟩ := h
                                          exact ⟨fnOk Tryz.func182 (fun e => absurd e (of_decide_eq_false (by kernel_rfl))) (fun e => by simpa [e] using (show Tryz.f182.body.isSome = true by kernel_rfl)), this⟩
                                      · cases h
                                    · cases h
                                  · cases h
                                · rcases ite_some hg15 with ⟨hf, hq⟩ | ⟨_, hg16⟩
                                  · have hf' : f = 223 := by simpa using hf
                                    subst hf'
                                    subst hq
                                    unfold shiftExt at h
                                    split at h
                                    · split at h
                                      · rename_i s c d hc
                                        simp only [Option.some.injEq, Prod.mk.injEq] at h
                                        obtain ⟨rfl, rfl⟩ := h
                                        exact ⟨fnOk Tryz.func223 (fun e => absurd e (of_decide_eq_false (by kernel_rfl))) (fun e => by simpa [e] using (show Tryz.f223.body.isSome = true by kernel_rfl)), shift_sem s c d hc.1 hc.2.1 hc.2.2.1 hc.2.2.2.1 hc.2.2.2.2.1 hc.2.2.2.2.2 inb⟩
                                      · cases h
                                    · cases h
                                  · cases hg16

theorem machine (n : Nat) : GamOk Tryz.prog (RCode Tryz.prog gl) (callF tab ext n) := callF_ok tabOk extOk n
end YtckdgafiindddaaGreatDoor
end Go.Proofs

/- The library's tables, laid as the rows say, are those of the machine. -/
namespace Go.Proofs.YtckdgafiindddaaGreatDoor
open Go.Em Go.ChangeShapes Go.WideShapes Go.ChangeAt Go.RowKit
set_option maxRecDepth 100000

def laid2 : List (String × DataW Unit) := [("internal/strconv.uint64pow10", Rows.laid_internal_strconv_uint64pow10), ("unicode/utf8.acceptRanges", Rows.laid_unicode_utf8_acceptRanges), ("strconv.ErrRange", Rows.laid_strconv_ErrRange), ("strconv.ErrSyntax", Rows.laid_strconv_ErrSyntax), ("unicode/utf8.first", Rows.laid_unicode_utf8_first)]
def laidZ : List (String × DataW Unit) := [("math/bits.deBruijn32tab", Rows.laid_math_bits_deBruijn32tab), ("math/bits.deBruijn64tab", Rows.laid_math_bits_deBruijn64tab), ("internal/strconv.uint64pow10", Rows.laid_internal_strconv_uint64pow10), ("unicode/utf8.acceptRanges", Rows.laid_unicode_utf8_acceptRanges), ("strconv.ErrRange", Rows.laid_strconv_ErrRange), ("strconv.ErrSyntax", Rows.laid_strconv_ErrSyntax), ("unicode/utf8.first", Rows.laid_unicode_utf8_first)]
def keepZ (x : String × DataW Unit) : Bool := x.1 == "unicode/utf8.acceptRanges" || x.1 == "unicode/utf8.first" || x.1 == "internal/strconv.uint64pow10" || x.1 == "strconv.ErrRange" || x.1 == "strconv.ErrSyntax"
theorem laid_keep : laidZ.filter keepZ = laid2 := by kernel_rfl
def fieldsZ (P : Program) (t : TypeId) : Array Field := match P.underlying t with
  | some (.struct fs) => fs
  | _ => #[]
theorem under5 : Tryz.prog.underlying 5 = some (.int .u8) := by kernel_rfl
theorem under250 : Tryz.prog.underlying 339 = some (.array 256 5) := by kernel_rfl
theorem under253 : Tryz.prog.underlying 342 = some (.array 16 341) := by kernel_rfl
theorem under251 : Tryz.prog.underlying 341 = some (.struct (fieldsZ Tryz.prog 341)) := by kernel_rfl
theorem field0 : ((fieldsZ Tryz.prog 341)[0]?).map (fun f => (f.type, f.offset)) = some (5, 0) := by kernel_rfl
theorem field1 : ((fieldsZ Tryz.prog 341)[1]?).map (fun f => (f.type, f.offset)) = some (5, 1) := by kernel_rfl
theorem rep_bytes {W : World} {g : Nat} {l : List Nat} (h : ∀ j z, l[j]? = some z → W.cell? ⟨g, j, none⟩ = some (.int .u8 (Int.ofNat z))) : Rep (Kw W) [] (.dp (bytesX l)) (.pointer (some ⟨g, 0, none⟩)) := by
  have hx : ∀ (j : Nat) (x : X), (bytesX l)[j]? = some x → ∃ z, l[j]? = some z ∧ x = .v (.int .u8 (Int.ofNat z)) := fun j x e => by
    unfold bytesX at e
    rw [List.getElem?_map, Option.map_eq_some_iff] at e
    obtain ⟨z, hz, rfl⟩ := e
    exact ⟨z, hz, rfl⟩
  refine .dp (fun j => .int .u8 (Int.ofNat (l.getD j 0))) (fun j x e => ?_) (fun j x e => ?_) (fun j x e => ?_)
  · obtain ⟨z, _, rfl⟩ := hx j x e; rfl
  · obtain ⟨z, hz, rfl⟩ := hx j x e
    show W.cell? ⟨g, 0 + j, none⟩ = _
    rw [Nat.zero_add, h j z hz, List.getD_eq_getElem?_getD, hz]; rfl
  · obtain ⟨z, hz, rfl⟩ := hx j x e
    rw [List.getD_eq_getElem?_getD, hz]
    exact .v rfl
theorem under380 : Tryz.prog.underlying 320 = some (.array 20 198) := by kernel_rfl
theorem under317 : Tryz.prog.underlying 198 = some (.int .u64) := by kernel_rfl
theorem under331 : Tryz.prog.underlying 267 = some (.interface #[("Error", 285)]) := by kernel_rfl
/-- What reads as an interface that holds something is one. -/
theorem trod_ifc {H : Type} {enc : TypeId × Value → H} {P : Program} {w : World} {base : Nat} {spare : Nat → Bool} {held : Bool} {fuel : Nat} {t : TypeId} {ms : Array (String × TypeId)} {cs : List Value} {nm : String} {x : DataW H} {q : List MemPlace} (ht : P.underlying t = some (.interface ms)) (h : DataW.trod enc P w base spare held fuel t cs = some (.iface nm x, q)) : ∃ u v, cs = [.iface u v] := by
  cases fuel with
  | zero => cases h
  | succ f =>
    unfold DataW.trod at h
    rw [ht] at h
    split at h <;> first
      | exact ⟨_, _, rfl⟩
      | (exfalso; clear h; simp_all; done)
      | (exfalso; simp_all; done)
theorem globs {W : World} (h : laidMetH Tryz.prog laid2 W) : (∀ j z, Go.Pinned.utf8FirstZ[j]? = some z → W.cell? ⟨2, j, none⟩ = some (.int .u8 (Int.ofNat z))) ∧ (∀ j z, ([128, 191, 160, 191, 128, 159, 144, 191, 128, 143] ++ List.replicate 22 0)[j]? = some z → W.cell? ⟨3, j, none⟩ = some (.int .u8 (Int.ofNat z))) ∧ (∀ j, j < 20 → W.cell? ⟨1, j, none⟩ = some (.int .u64 ((10 ^ j : Nat) : Int))) ∧ (∃ u v, W.cell? ⟨5, 0, none⟩ = some (.iface u v)) ∧ ∃ u v, W.cell? ⟨4, 0, none⟩ = some (.iface u v) := by
  rw [MakeChecks.laidMetH_plain _ _ _ (by kernel_rfl)] at h
  obtain ⟨ps, ⟨g3, t3, cs3, fuel3, p3, q3, hg3, ht3, hv3, hd3, ⟨g, t, cs, fuel, p, q, hg, ht, hv, hd, ⟨g7, t7, cs7, fuel7, p7, q7, hg7, ht7, hv7, hd7, ⟨g6, t6, cs6, fuel6, p6, q6, hg6, ht6, hv6, hd6, ⟨g', t', cs', fuel', p', q', hg', ht', hv', hd', _, _⟩, _⟩, _⟩, _⟩, _⟩, _, _⟩ := h
  obtain rfl := Option.some.inj ((show Tryz.prog.globalNamed "internal/strconv.uint64pow10" = some 1 by kernel_rfl).symm.trans hg3)
  obtain rfl := Option.some.inj ((show (Tryz.prog.globals[1]?).map (·.type) = some 320 by kernel_rfl).symm.trans ht3)
  obtain rfl := Option.some.inj ((show Tryz.prog.globalNamed "unicode/utf8.acceptRanges" = some 3 by kernel_rfl).symm.trans hg)
  obtain rfl := Option.some.inj ((show (Tryz.prog.globals[3]?).map (·.type) = some 342 by kernel_rfl).symm.trans ht)
  obtain rfl := Option.some.inj ((show Tryz.prog.globalNamed "strconv.ErrRange" = some 5 by kernel_rfl).symm.trans hg7)
  obtain rfl := Option.some.inj ((show (Tryz.prog.globals[5]?).map (·.type) = some 267 by kernel_rfl).symm.trans ht7)
  obtain rfl := Option.some.inj ((show Tryz.prog.globalNamed "strconv.ErrSyntax" = some 4 by kernel_rfl).symm.trans hg6)
  obtain rfl := Option.some.inj ((show (Tryz.prog.globals[4]?).map (·.type) = some 267 by kernel_rfl).symm.trans ht6)
  obtain rfl := Option.some.inj ((show Tryz.prog.globalNamed "unicode/utf8.first" = some 2 by kernel_rfl).symm.trans hg')
  obtain rfl := Option.some.inj ((show (Tryz.prog.globals[2]?).map (·.type) = some 339 by kernel_rfl).symm.trans ht')
  have c5 : Tryz.prog.cellsOf 5 = 1 := by kernel_rfl
  have c251 : Tryz.prog.cellsOf 341 = 2 := by kernel_rfl
  have c317 : Tryz.prog.cellsOf 198 = 1 := by kernel_rfl
  refine ⟨?_, ?_, ?_, ?_, ?_⟩
  · intro j z hz
    obtain ⟨xs, m, _, ex, _, hl, hel⟩ := DataW.trod_array under250 hd'
    have hlen : Go.Pinned.utf8FirstZ.length = 256 := by kernel_rfl
    have hj : j < 256 := by rw [← hlen]; exact (List.getElem?_eq_some_iff.1 hz).1
    have hE := hel j hj
    rw [c5, Nat.mul_one, List.getElem?_eq_getElem (by omega)] at hE
    obtain ⟨y, e1, e2, _⟩ := DataW.trod_int under5 hE
    have e3 : (xs.map (·.1)) = Go.Pinned.utf8FirstZ.map fun (n : Nat) => .lit (.int .u8 (Int.ofNat n)) := (DataW.agg.inj (Prod.mk.inj ex).1).symm
    have e4 : (xs.map (·.1))[j]? = (Go.Pinned.utf8FirstZ.map fun (n : Nat) => (DataW.lit (.int .u8 (Int.ofNat n)) : DataW Unit))[j]? := by rw [e3]
    rw [List.getElem?_map, List.getElem?_map, List.getElem?_eq_getElem (by omega : j < xs.length), hz, e2] at e4
    simp only [Option.map_some, Option.some.injEq, DataW.lit.injEq, Lit.int.injEq, true_and] at e4
    subst e4
    rw [World.var?_cell hg' hv' j]
    have : cs'.toList[j]? = some (.int .u8 (Int.ofNat z)) := by
      have h0 : ((cs'.toList.drop j).take 1)[0]? = some (.int .u8 (Int.ofNat z)) := by rw [e1]; rfl
      simpa using h0
    simpa using this
  · intro j z hz
    obtain ⟨xs, m, _, ex, _, hl, hel⟩ := DataW.trod_array under253 hd
    have hlen : ([128, 191, 160, 191, 128, 159, 144, 191, 128, 143] ++ List.replicate 22 0).length = 32 := by kernel_rfl
    have hj : j < 32 := by rw [← hlen]; exact (List.getElem?_eq_some_iff.1 hz).1
    have hE := hel (j / 2) (by omega)
    rw [c251, List.getElem?_eq_getElem (by omega)] at hE
    obtain ⟨ys, m2, _, ey, _, hl2, hel2⟩ := DataW.trod_struct under251 hE
    have f2 : (fieldsZ Tryz.prog 341).size = 2 := by kernel_rfl
    have hk : j % 2 < 2 := Nat.mod_lt _ (by omega)
    have hfo : ∀ k, k < 2 → ((fieldsZ Tryz.prog 341)[k]?).map (fun f => (f.type, f.offset)) = some (5, k) := fun k hk => by
      match k, hk with
      | 0, _ => exact field0
      | 1, _ => exact field1
    obtain ⟨f, hf, hf2⟩ := Option.map_eq_some_iff.1 (hfo (j % 2) hk)
    have hE2 := hel2 (j % 2) f hf
    obtain ⟨hft, hfo'⟩ := Prod.mk.inj hf2
    rw [hft, hfo', c5, List.getElem?_eq_getElem (by omega)] at hE2
    obtain ⟨y, e1, e2, _⟩ := DataW.trod_int under5 hE2
    have hall : ((List.range 32).all fun j => match (Rows.laid_unicode_utf8_acceptRanges : DataW Unit) with
      | .agg l => match l[j / 2]? with
        | some (.agg r) => match r[j % 2]?, ([128, 191, 160, 191, 128, 159, 144, 191, 128, 143] ++ List.replicate 22 0)[j]? with
          | some (.lit (.int .u8 z)), some z' => z == Int.ofNat z'
          | _, _ => false
        | _ => false
      | _ => false) = true := by kernel_rfl
    have h1 := List.all_eq_true.1 hall j (List.mem_range.2 hj)
    have e3 : (Rows.laid_unicode_utf8_acceptRanges : DataW Unit) = .agg (xs.map (·.1)) := (Prod.mk.inj ex).1
    have e5 : (xs.map (·.1))[j / 2]? = some (.agg (ys.map (·.1))) := by
      rw [List.getElem?_map, List.getElem?_eq_getElem (by omega : j / 2 < xs.length), ey]; rfl
    have e6 : (ys.map (·.1))[j % 2]? = some (.lit (.int .u8 y)) := by
      rw [List.getElem?_map, List.getElem?_eq_getElem (by omega : j % 2 < ys.length), e2]; rfl
    rw [e3] at h1
    dsimp only at h1
    rw [e5] at h1
    dsimp only at h1
    rw [e6, hz] at h1
    have hy : y = Int.ofNat z := eq_of_beq h1
    subst hy
    rw [World.var?_cell hg hv j]
    have : cs.toList[j]? = some (.int .u8 (Int.ofNat z)) := by
      have h0 : ((((cs.toList.drop (j / 2 * 2)).take 2).drop (j % 2)).take 1)[0]? = some (.int .u8 (Int.ofNat z)) := by rw [e1]; rfl
      rw [List.getElem?_take, if_pos (by omega), List.getElem?_drop, List.getElem?_take, if_pos (by omega), List.getElem?_drop] at h0
      have : j / 2 * 2 + (j % 2 + 0) = j := by omega
      rw [this] at h0
      exact h0
    simpa using this
  · intro j hj
    obtain ⟨xs, m, _, ex, _, hl, hel⟩ := DataW.trod_array under380 hd3
    have hE := hel j hj
    rw [c317, Nat.mul_one, List.getElem?_eq_getElem (by omega)] at hE
    obtain ⟨y, e1, e2, _⟩ := DataW.trod_int under317 hE
    have e3 : (Rows.laid_internal_strconv_uint64pow10 : DataW Unit) = .agg (xs.map (·.1)) := (Prod.mk.inj ex).1
    have hall : ((List.range 20).all fun j => match (Rows.laid_internal_strconv_uint64pow10 : DataW Unit) with
      | .agg l => match l[j]? with
        | some (.lit (.int .u64 z)) => z == ((10 ^ j : Nat) : Int)
        | _ => false
      | _ => false) = true := by kernel_rfl
    have h1 := List.all_eq_true.1 hall j (List.mem_range.2 hj)
    have e6 : (xs.map (·.1))[j]? = some (.lit (.int .u64 y)) := by
      rw [List.getElem?_map, List.getElem?_eq_getElem (by omega : j < xs.length), e2]; rfl
    rw [e3] at h1
    dsimp only at h1
    rw [e6] at h1
    have hy : y = ((10 ^ j : Nat) : Int) := eq_of_beq h1
    subst hy
    rw [World.var?_cell hg3 hv3 j]
    have : cs3.toList[j]? = some (.int .u64 ((10 ^ j : Nat) : Int)) := by
      have h0 : ((cs3.toList.drop j).take 1)[0]? = some (.int .u64 ((10 ^ j : Nat) : Int)) := by rw [e1]; rfl
      simpa using h0
    simpa using this
  · obtain ⟨u, v, e⟩ := trod_ifc under331 hd7
    refine ⟨u, v, ?_⟩
    rw [World.var?_cell hg7 hv7 0]
    have : cs7.toList[0]? = some (.iface u v) := by rw [e]; rfl
    simpa using this
  · obtain ⟨u, v, e⟩ := trod_ifc under331 hd6
    refine ⟨u, v, ?_⟩
    rw [World.var?_cell hg6 hv6 0]
    have : cs6.toList[0]? = some (.iface u v) := by rw [e]; rfl
    simpa using this
theorem rep_ifc {W : World} {g : Nat} {u : TypeId} {v : Value} (h : W.cell? ⟨g, 0, none⟩ = some (.iface u v)) : Rep (Kw W) [] (.dp [.ifc]) (.pointer (some ⟨g, 0, none⟩)) := by
  refine .dp (fun _ => .iface u v) (fun j x e => ?_) (fun j x e => ?_) (fun j x e => ?_)
  all_goals
    match j, e with
    | 0, e => ?_
    | j + 1, e => cases e
  · cases e; rfl
  · cases e; exact h
  · cases e; exact .ifc
theorem rep_pow {W : World} {g : Nat} (h : ∀ j, j < 20 → W.cell? ⟨g, j, none⟩ = some (.int .u64 ((10 ^ j : Nat) : Int))) : Rep (Kw W) [] (.dp ((List.range 20).map fun i => .v (.int .u64 ((10 ^ i : Nat) : Int)))) (.pointer (some ⟨g, 0, none⟩)) := by
  have hx : ∀ (j : Nat) (x : X), ((List.range 20).map fun i : Nat => (X.v (.int .u64 ((10 ^ i : Nat) : Int))))[j]? = some x → j < 20 ∧ x = .v (.int .u64 ((10 ^ j : Nat) : Int)) := fun j x e => by
    rw [List.getElem?_map, Option.map_eq_some_iff] at e
    obtain ⟨i, hi, rfl⟩ := e
    obtain ⟨hl, hi⟩ := List.getElem?_eq_some_iff.1 hi
    rw [List.getElem_range] at hi
    subst hi
    exact ⟨by simpa using hl, rfl⟩
  refine .dp (fun j => .int .u64 ((10 ^ j : Nat) : Int)) (fun j x e => ?_) (fun j x e => ?_) (fun j x e => ?_)
  · obtain ⟨_, rfl⟩ := hx j x e; rfl
  · obtain ⟨hj, rfl⟩ := hx j x e
    show W.cell? ⟨g, 0 + j, none⟩ = _
    rw [Nat.zero_add, h j hj]
  · obtain ⟨_, rfl⟩ := hx j x e
    exact .v rfl
theorem globOk {W : World} (h7 : laidMetH Tryz.prog laidZ W) : GlobOk (RCode Tryz.prog gl) (Kw W) := by
  have h := h7.filter keepZ
  rw [laid_keep] at h
  obtain ⟨h0, h1, h3, ⟨u, v, hr⟩, ⟨u', v', hs⟩⟩ := globs h
  intro g cs e
  change gl g = some cs at e
  unfold gl at e
  split at e
  · rename_i hg
    obtain rfl : g = 2 := by simpa using hg
    cases e
    exact rep_bytes h0
  · split at e
    · rename_i hg
      obtain rfl : g = 3 := by simpa using hg
      cases e
      exact rep_bytes h1
    · split at e
      · rename_i hg
        obtain rfl : g = 1 := by simpa using hg
        cases e
        exact rep_pow h3
      · split at e
        · rename_i hg
          obtain rfl : g = 4 := by simpa using hg
          cases e
          exact rep_ifc hs
        · split at e
          · rename_i hg
            obtain rfl : g = 5 := by simpa using hg
            cases e
            exact rep_ifc hr
          · cases e
end Go.Proofs.YtckdgafiindddaaGreatDoor

/- A row's closed facts, in parts (one declaration each: the kernel would hold 10 GB otherwise). -/
namespace Go.Proofs.YtckdgafiindddaaGreatDoor
open Go.ChangeShapes Go.WideShapes Go.ChangeAt Go.RowKit Go.Em
set_option maxRecDepth 100000
theorem joined_of {P : Program} {f : FuncId} {fn : Func} {s : ChangeSpec} {c : OpenClaim} (p1 : laidOutB P = true) (p2 : mapsRowed P = true) (p3 : ((P.stops == []) && (P.stopKnobs == [])) = true)
    (p4 : P.stopsHeard = true) (p5 : P.mayEnter = true)
    (a1 : (c.inPlace == P.inPlace f) = true) (a2 : (c.unfollowed == P.unfollowed f) = true) (a3 : (c.recurses == P.recurses f) = true) (a4 : (c.named == P.varsNamed f) = true)
    (b1 : (c.wf (OpenSpec.ofChange s) && fn.params.all (P.readableRec ·) && namedTie P c.named s.vars && (c.stops == []) && (c.knobs == [])) = true)
    (b2 : ((c.maps == (fn.params.toList ++ s.plain.varTypes P).any (P.mapsRec ·)) && (c.ifaces == (fn.params.toList ++ s.plain.varTypes P).any (P.ifacesRec ·)) && (c.mapsOut == P.mapsAmong fn.resultTypes.toList) &&
      (c.loops == (fn.params.toList ++ s.plain.varTypes P).any (P.loopsFrom ·)) && (c.wideKeys == (fn.params.toList ++ s.plain.varTypes P ++ fn.resultTypes.toList).any (P.wideKeysFrom ·))) = true)
    (b3 : (s.vars.all (P.varReadable ·) && fn.resultTypes.all (fun t => P.readableRec t && decide (t < P.types.size)) && (c.ifacesOut == fn.resultTypes.toList.any (P.ifacesRec ·)) && (c.loopsOut == fn.resultTypes.toList.any (P.loopsFrom ·)) && c.shortTexts.isNone) = true)
    (c1 : (c.plainKeys == P.plainKeys) = true) (c2 : (c.lifted == P.liftsFinal) = true) (c3 : (P.make == some c.make) = true)
    (b4 : ((c.kinds == (if c.domain.isEmpty then [] else fn.params.toList.map fun t => match P.underlying t with | some (.int k) => some k | _ => none)) && (c.pinned == c.pinnedBy) &&
      (c.veiled == (fn.params.toList ++ s.plain.varTypes P ++ fn.resultTypes.toList).any (P.veiledRec ·)) && c.veiledFits P fn.params.toList (fn.params.toList ++ s.plain.varTypes P ++ fn.resultTypes.toList)) = true) :
    joinedFacts P f fn s c = true := by
  simp only [Bool.and_eq_true] at p3 b1 b2 b3 b4
  obtain ⟨q1, q2⟩ := p3
  obtain ⟨⟨⟨⟨r1, r2⟩, r3⟩, r4⟩, r5⟩ := b1
  obtain ⟨⟨⟨⟨s1, s2⟩, s3⟩, s4⟩, s5⟩ := b2
  obtain ⟨⟨⟨⟨t1, t2⟩, t3⟩, t4⟩, t5⟩ := b3
  obtain ⟨⟨⟨u1, u2⟩, u3⟩, u4⟩ := b4
  simp only [joinedFacts, Bool.and_eq_true]
  exact ⟨⟨⟨⟨⟨⟨⟨⟨⟨⟨⟨⟨⟨⟨⟨⟨⟨⟨⟨⟨⟨⟨⟨⟨⟨⟨⟨⟨⟨⟨⟨r1, p1⟩, p2⟩, r2⟩, r3⟩, r4⟩, q1⟩, r5⟩, q2⟩, a1⟩, a2⟩, a3⟩, a4⟩, s1⟩, s2⟩, s3⟩, s4⟩, s5⟩, t1⟩, t2⟩, t3⟩, t4⟩, c1⟩, t5⟩, p4⟩, p5⟩, c2⟩, c3⟩, u1⟩, u2⟩, u3⟩, u4⟩
theorem jf_stops : ((Tryz.prog.stops == []) && (Tryz.prog.stopKnobs == [])) = true := by kernel_rfl
theorem jf_heard : Tryz.prog.stopsHeard = true := by kernel_rfl
theorem jf_enter : Tryz.prog.mayEnter = true := by kernel_rfl
theorem jf_looks : true = Tryz.prog.looks [] := by kernel_rfl
theorem jf_main : Tryz.pinned.checked.prog.mainIs = some (true, "5137f3551b1c4a9c79fdd57f10f0ba5c9da7cb1eacc1cb82495b3c1407e76844".toList) := by kernel_rfl
theorem jf_plain : Tryz.prog.plainKeys = Rows.resequencerOrdersRow.plainKeys := by kernel_rfl
theorem jf_lifted : Tryz.prog.liftsFinal = Rows.resequencerOrdersRow.lifted := by kernel_rfl
theorem jf_make : (Tryz.prog.make == some Rows.resequencerOrdersRow.make) = true := by kernel_rfl
end Go.Proofs.YtckdgafiindddaaGreatDoor
