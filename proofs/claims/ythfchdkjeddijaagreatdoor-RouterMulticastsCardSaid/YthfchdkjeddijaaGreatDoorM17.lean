/- slices.Delete at the slots: what it says to its caller. -/
import Derived.WalkKit
import Derived.Deep.LoopGhost
import Derived.Shelf.Slices.Clone
import Derived.Shelf.Unicode.ValidAny
import Derived.Shelf.Strings.IndexAnyAll
import Derived.LaidMore
import Derived.LaidSub
import Derived.Test.YthfchdkjeddijaaGreatDoorRows
import Derived.Lay
import Derived.OpenShut
import Derived.ProofKit
import Derived.SevenTiedAt
import Derived.Stop.Joined
import Derived.Test.YthfchdkjeddijaaGreatDoorEmM7
import Derived.Test.YthfchdkjeddijaaGreatDoorEmM8
import Derived.Test.YthfchdkjeddijaaGreatDoorM15
import Derived.Test.YthfchdkjeddijaaGreatDoorM16
namespace Go.Proofs.YthfchdkjeddijaaGreatDoor
open Go.Em Go.RowKit Go.Lib

theorem del_get {cs : List Value} {n i j k : Nat} {v : Value} (hcl : cs.length = n * 10) (hij : i < j) (hj : j ≤ n) (h : (cs.take (i * 10) ++ cs.drop (j * 10))[k]? = some v) :
    (k < i * 10 ∧ cs[k]? = some v) ∨ (i * 10 ≤ k ∧ k < (i + (n - j)) * 10 ∧ (cs.drop (j * 10))[k - i * 10]? = some v) := by
  have hT : (cs.take (i * 10)).length = i * 10 := by rw [List.length_take]; omega
  by_cases h1 : k < i * 10
  · rw [List.getElem?_append_left (by omega), List.getElem?_take, if_pos h1] at h
    exact .inl ⟨h1, h⟩
  · rw [List.getElem?_append_right (by omega), hT] at h
    have := (List.getElem?_eq_some_iff.1 h).1
    rw [List.length_drop] at this
    exact .inr ⟨by omega, by omega, h⟩

set_option maxRecDepth 100000 in
theorem del_sem {R : CodeRel} (n i j : Nat) (rows : List (List X)) (hij : i < j) (hj : j ≤ n) (hn : n = rows.length) (hn2 : n ≤ 1000) :
    FSem Tryz.prog R 101 [.bs 0 0 n, .v (.int .i64 (Int.ofNat i)), .v (.int .i64 (Int.ofNat j))] [.row 10 rows] (.bs 1 0 (n - (j - i))) [.dead, .row 10 (rows.take i ++ rows.drop j)] := by
  intro K C w cargs hI ha
  have hs : cargs.size = 3 := ha.1
  have r0 := ha.2 0 _ cargs[0] rfl (Array.getElem?_eq_getElem (by omega))
  have r1 := ha.2 1 _ cargs[1] rfl (Array.getElem?_eq_getElem (by omega))
  have r2 := ha.2 2 _ cargs[2] rfl (Array.getElem?_eq_getElem (by omega))
  have hca : cargs = #[cargs[0], cargs[1], cargs[2]] := by
    refine Array.ext (by simp [hs]) fun j h1 h2 => ?_
    match j, h1, h2 with
    | 0, _, _ => rfl
    | 1, _, _ => rfl
    | 2, _, _ => rfl
    | j + 3, h1, _ => omega
  rw [hca]
  generalize cargs[0] = v0 at r0
  generalize cargs[1] = v1 at r1
  generalize cargs[2] = v2 at r2
  obtain rfl := rep_v r1
  obtain rfl := rep_v r2
  obtain ⟨c0, hC⟩ : ∃ c0, C = [c0] := by
    have := hI.size
    match C, this with
    | [c0], _ => exact ⟨c0, rfl⟩
  subst hC
  generalize hx0 : X.bs 0 0 n = y0 at r0
  cases r0 <;> try cases hx0
  case bsNil ob hc => omega
  case bs b base hi' sz cap hc hcap hlen =>
    have e0 : c0 = .at b base hi' sz := by simpa using hc
    subst e0
    obtain ⟨arr, el, g1, g2, g3, hbl, hfe⟩ := (hI.box 0 _ _ rfl rfl).flat
    subst g1
    simp only [Nat.zero_mul, Nat.zero_add, Nat.add_zero] at hcap ⊢
    generalize hcd : (arr.toList.drop base).take (rows.length * 10) = cs at hfe
    have hcl : cs.length = n * 10 := by rw [hfe.len, ← hn]
    have hcar : ∀ j v, cs[j]? = some v → arr[base + j]? = some v := fun j v h => by
      rw [← hcd, List.getElem?_take] at h
      split at h
      · rw [List.getElem?_drop] at h; simpa using h
      · cases h
    have hcs : ∀ j v, cs[j]? = some v → w.cell? ⟨b, base + j, none⟩ = some v := fun j v h => by
      simp only [World.cell?, hbl]; exact hcar j v h
    have h1c := hfe.oneCell
    have hfz : ∀ o, w.frozen? ⟨b, o, none⟩ = false := fun o => by simp [World.frozen?, hbl]
    have hflat := (hfe.take i).append (hfe.drop j)
    have hlb : arr.toList.length = arr.size := Array.length_toList
    refine (del_walk b base n cap i j cs w hij hj (by omega) hcl hcs hfz h1c).mono ?_
    rintro e w' ⟨rfl, rfl⟩
    have hzl := zcells_len (n - (i + (n - j)))
    have hz1 := zcells_one (n - (i + (n - j)))
    generalize (Builtin.zeroCells zslot.cells (n - (i + (n - j)))).toList = zs at hzl hz1
    have hdl : (cs.drop (j * 10)).length = (n - j) * 10 := by rw [List.length_drop, hcl]; omega
    have hbl2 : w.drew.heap[b]? = some (.cells arr el (0, 0)) := hbl
    rw [setCells_row w.drew b _ arr el _ hbl2 (by omega) (fun v hv' => h1c v (List.mem_of_mem_drop hv'))]
    have hget1 := fun q => splice_get arr.toList (cs.drop (j * 10)) (base + i * 10) q (by omega)
    have hsz1 : (arr.toList.take (base + i * 10) ++ cs.drop (j * 10) ++ arr.toList.drop (base + i * 10 + (cs.drop (j * 10)).length)).toArray.size = arr.size := by
      simp only [List.size_toArray, List.length_append, List.length_take, List.length_drop, hlb]; omega
    generalize (arr.toList.take (base + i * 10) ++ cs.drop (j * 10) ++ arr.toList.drop (base + i * 10 + (cs.drop (j * 10)).length)).toArray = arr1 at hget1 hsz1 ⊢
    have hb1 := setRow_heap w.drew b arr arr1 el (0, 0) hbl2
    have hlb1 : arr1.toList.length = arr1.size := Array.length_toList
    rw [setCells_row _ b _ arr1 el _ hb1 (by omega) hz1]
    have hget2 := fun q => splice_get arr1.toList zs (base + (i + (n - j)) * 10) q (by omega)
    have hsz2 : (arr1.toList.take (base + (i + (n - j)) * 10) ++ zs ++ arr1.toList.drop (base + (i + (n - j)) * 10 + zs.length)).toArray.size = arr1.size := by
      simp only [List.size_toArray, List.length_append, List.length_take, List.length_drop, hlb1]; omega
    generalize (arr1.toList.take (base + (i + (n - j)) * 10) ++ zs ++ arr1.toList.drop (base + (i + (n - j)) * 10 + zs.length)).toArray = arr2 at hget2 hsz2 ⊢
    have hb2 := setRow_heap _ b arr1 arr2 el (0, 0) hb1
    simp only [Array.getElem?_toList] at hget1 hget2
    refine post_move (c' := .at b base hi' 10) hI (FrameOk.trans (FrameOk.drew _ w) (FrameOk.trans (FrameOk.setRow hbl2 hsz1 fun q hq => ?_) (FrameOk.setRow (S := (CB.at b base hi' 10).owns) hb1 hsz2 fun q hq => ?_) (fun _ _ _ h => h)) (fun _ _ _ h => h)) (fun b' o' h => .inl h) (hflat.box hb2 (fun k v hk => ?_) ?_ (by omega)) ?_
    · rw [hget1]
      have hout : ¬ (base ≤ q ∧ q < hi') := fun hh => hq ⟨rfl, hh.1, hh.2⟩
      by_cases h5 : q < base + i * 10
      · rw [if_pos h5]
      · rw [if_neg h5, if_neg (by omega)]
    · rw [hget2]
      have hout : ¬ (base ≤ q ∧ q < hi') := fun hh => hq ⟨rfl, hh.1, hh.2⟩
      by_cases h5 : q < base + (i + (n - j)) * 10
      · rw [if_pos h5]
      · rw [if_neg h5, if_neg (by omega)]
    · rw [hget2]
      rcases del_get hcl hij hj hk with ⟨h1, h2⟩ | ⟨h1, h2, h3⟩
      · rw [if_pos (by omega), hget1, if_pos (by omega)]; exact hcar k v h2
      · rw [if_pos (by omega), hget1, if_neg (by omega), if_pos (by omega), ← h3]; congr 1; omega
    · have := hflat.len
      simp only [List.length_append, List.length_take, List.length_drop]
      omega
    · have := @Rep.bs K ([.at b base hi' 10] ++ [.at b base hi' 10]) 1 0 (n - (j - i)) b base hi' 10 cap rfl (by omega) (by omega)
      simpa using this
end Go.Proofs.YthfchdkjeddijaaGreatDoor

/- The abstract machine with this table is sound for the program: the functions of the library that are not walked. -/
namespace Go.Proofs
open Go.Shelf
def Tryz.laysClone_ren : Go.Shelf.Ren := ⟨fun | 15 => 90 | n => n, fun | 22 => 43 | 3 => 3 | 4 => 4 | n => n, fun | n => n⟩
theorem Tryz.laysClone : Go.Proofs.Lays2.n15 Tryz.prog Tryz.laysClone_ren := {
  mixed := by kernel_rfl
  f15 := Tryz.func90.trans (congrArg some (by kernel_rfl))
  t3 := Tryz.underlying3
  a3 := Tryz.isAgg3
  z3 := Tryz.sizeOf3
  v3 := Tryz.zeroValue3
  t4 := Tryz.underlying4
  a4 := Tryz.isAgg4
  z4 := Tryz.sizeOf4
  v4 := Tryz.zeroValue4
  t22 := Tryz.underlying43
  a22 := Tryz.isAgg43
  z22 := Tryz.sizeOf43
  v22 := Tryz.zeroValue43
  i3 := by kernel_rfl }
def Tryz.laysValid_ren : Go.Shelf.Ren := ⟨fun | 196 => 167 | 259 => 236 | n => n, fun | 9 => 9 | 4 => 4 | 3 => 3 | 5 => 5 | 12 => 12 | 119 => 301 | 0 => 0 | 46 => 237 | 139 => 304 | 138 => 303 | 53 => 298 | n => n, fun | 3 => 1 | 4 => 2 | n => n⟩
theorem Tryz.laysValid : Go.Proofs.Lays.n196 Tryz.prog Tryz.laysValid_ren := {
  mixed := by kernel_rfl
  f196 := Tryz.func167.trans (congrArg some (by kernel_rfl))
  f259 := Tryz.func236.trans (congrArg some (by kernel_rfl))
  t0 := Tryz.underlying0
  a0 := Tryz.isAgg0
  z0 := Tryz.sizeOf0
  v0 := Tryz.zeroValue0
  t3 := Tryz.underlying3
  a3 := Tryz.isAgg3
  z3 := Tryz.sizeOf3
  v3 := Tryz.zeroValue3
  t4 := Tryz.underlying4
  a4 := Tryz.isAgg4
  z4 := Tryz.sizeOf4
  v4 := Tryz.zeroValue4
  t5 := Tryz.underlying5
  a5 := Tryz.isAgg5
  z5 := Tryz.sizeOf5
  v5 := Tryz.zeroValue5
  t9 := Tryz.underlying9
  a9 := Tryz.isAgg9
  z9 := Tryz.sizeOf9
  v9 := Tryz.zeroValue9
  t12 := Tryz.underlying12
  a12 := Tryz.isAgg12
  z12 := Tryz.sizeOf12
  v12 := Tryz.zeroValue12
  t46 := Tryz.underlying237
  a46 := Tryz.isAgg237
  z46 := Tryz.sizeOf237
  v46 := Tryz.zeroValue237
  t53 := Tryz.underlying298
  a53 := Tryz.isAgg298
  z53 := Tryz.sizeOf298
  v53 := Tryz.zeroValue298
  t119 := Tryz.underlying301
  a119 := Tryz.isAgg301
  z119 := Tryz.sizeOf301
  t138 := Tryz.underlying303
  a138 := Tryz.isAgg303
  z138 := Tryz.sizeOf303
  v138 := Tryz.zeroValue303
  t139 := Tryz.underlying304
  a139 := Tryz.isAgg304
  z139 := Tryz.sizeOf304
  v139 := Tryz.zeroValue304
  g3 := by kernel_rfl
  g4 := by kernel_rfl }
def Tryz.laysAny_ren : Go.Shelf.Ren := ⟨fun | 153 => 241 | 152 => 300 | 226 => 301 | 227 => 302 | 228 => 303 | 137 => 346 | 119 => 347 | 224 => 348 | 225 => 349 | 217 => 376 | 266 => 393 | n => n, fun | 9 => 9 | 3 => 3 | 4 => 4 | 5 => 5 | 21 => 21 | 117 => 366 | 116 => 365 | 0 => 0 | 46 => 237 | 124 => 408 | n => n, fun | n => n⟩
theorem Tryz.laysAny : Go.Proofs.Lays.n153 Tryz.prog Tryz.laysAny_ren := {
  mixed := by kernel_rfl
  f119 := Tryz.func347.trans (congrArg some (by kernel_rfl))
  f137 := Tryz.func346.trans (congrArg some (by kernel_rfl))
  f152 := Tryz.func300.trans (congrArg some (by kernel_rfl))
  f153 := Tryz.func241.trans (congrArg some (by kernel_rfl))
  f217 := Tryz.func376.trans (congrArg some (by kernel_rfl))
  f224 := Tryz.func348.trans (congrArg some (by kernel_rfl))
  f225 := Tryz.func349.trans (congrArg some (by kernel_rfl))
  f226 := Tryz.func301.trans (congrArg some (by kernel_rfl))
  f227 := Tryz.func302.trans (congrArg some (by kernel_rfl))
  f228 := Tryz.func303.trans (congrArg some (by kernel_rfl))
  f266 := Tryz.func393.trans (congrArg some (by kernel_rfl))
  t0 := Tryz.underlying0
  a0 := Tryz.isAgg0
  z0 := Tryz.sizeOf0
  v0 := Tryz.zeroValue0
  t3 := Tryz.underlying3
  a3 := Tryz.isAgg3
  z3 := Tryz.sizeOf3
  v3 := Tryz.zeroValue3
  t4 := Tryz.underlying4
  a4 := Tryz.isAgg4
  z4 := Tryz.sizeOf4
  v4 := Tryz.zeroValue4
  t5 := Tryz.underlying5
  a5 := Tryz.isAgg5
  z5 := Tryz.sizeOf5
  v5 := Tryz.zeroValue5
  t9 := Tryz.underlying9
  a9 := Tryz.isAgg9
  z9 := Tryz.sizeOf9
  v9 := Tryz.zeroValue9
  t21 := Tryz.underlying21
  a21 := Tryz.isAgg21
  z21 := Tryz.sizeOf21
  v21 := Tryz.zeroValue21
  t46 := Tryz.underlying237
  a46 := Tryz.isAgg237
  z46 := Tryz.sizeOf237
  v46 := Tryz.zeroValue237
  t116 := Tryz.underlying365
  a116 := Tryz.isAgg365
  z116 := Tryz.sizeOf365
  t117 := Tryz.underlying366
  a117 := Tryz.isAgg366
  z117 := Tryz.sizeOf366
  v117 := Tryz.zeroValue366
  t124 := Tryz.underlying408
  a124 := Tryz.isAgg408
  z124 := Tryz.sizeOf408
  v124 := Tryz.zeroValue408 }
namespace YthfchdkjeddijaaGreatDoor
open Go.RowKit Go.Em

set_option maxHeartbeats 1000000 in
set_option maxRecDepth 100000 in
theorem compare_calls (a b : ByteArray) (w : World) :
    Calls Tryz.prog 159 #[.string a, .string b] w fun e w' => e = .returned (.int .i64 (Lib.compareBytes a.data.toList b.data.toList)) ∧ w' = w := by
  go_enter Tryz.func159, Tryz.ntmps159
  go_wp2
  rw [run_callFunc_extern Tryz.func235 (by kernel_rfl) (by kernel_rfl) (by kernel_rfl) (e := Extern.BytealgCompare.compare) (by kernel_rfl), Lib.run_compareString]
  simp only [Result.andThen]
  rw [Oper.upon_value]
  go_wp2
  go_ret
  exact ⟨rfl, rfl⟩

section
variable {P : Program} {R : CodeRel}
/-- A function that gives back a value of one word, and may make blocks of its own. -/
theorem fsem_word {f : FuncId} {args : List X} {inb : List Bx} {u : Value} (hu : okV u = true) (h : ∀ (cargs : Array Value) (w : World) (K : Kn) (C : List CB), Inv P R K C inb w → ArgsRep K C args cargs → Calls P f cargs w fun e w' => e = .returned u ∧ Below w.heap.size w w') : FSem P R f args inb (.v u) inb := by
  intro K C w cargs hI ha
  refine (h cargs w K C hI ha).mono ?_
  rintro e w' ⟨rfl, hB⟩
  have hf := frame_of_below hB
  exact ⟨u, K, [], rfl, owns_same (hI.still hf), .v hu, KLe.refl _, fun b o v e => .inl e, fun b o ho => .inl (by rw [List.append_nil] at ho; exact ho), hf.mono (fun b o _ hs => hs.elim), fun i B hB hl => ⟨B, hB, hl⟩⟩
end
theorem intsOf_length : ∀ {es : List (List X)} {zs : List Int}, intsOf es = some zs → es.length = zs.length ∧ ∀ j, j < zs.length → es[j]? = some [.v (.int .i64 (zs.getD j 0))]
  | [], zs, h => by
    simp only [intsOf, Option.some.injEq] at h; subst h
    exact ⟨rfl, fun j hj => by simp at hj⟩
  | e :: r, zs, h => by
    unfold intsOf at h
    split at h
    · rename_i heq; cases heq
    · rename_i z r' heq
      obtain ⟨rfl, rfl⟩ := List.cons.inj heq
      split at h
      · rename_i l hl
        simp only [Option.some.injEq] at h; subst h
        obtain ⟨h1, h2⟩ := intsOf_length hl
        refine ⟨by simp [h1], fun j hj => ?_⟩
        cases j with
        | zero => rfl
        | succ j =>
          have := h2 j (by simpa using hj)
          simpa using this
      · cases h
    · cases h
theorem clone_sem {R : CodeRel} (t : Bool) (es : List (List X)) (zs : List Int) (h : intsOf es = some zs) (hz : zs.length ≤ 1000000) (inb : List Bx) : FSem Tryz.prog R 90 [.sl t 1 es] inb (.bs inb.length 0 zs.length) (inb ++ [.row 1 (intRow zs)]) := by
  refine fsem_ints (el := 3) zs fun cargs w K C hI ha => ?_
  obtain ⟨h1, h2⟩ := intsOf_length h
  have hs : cargs.size = 1 := ha.1
  have r0 := ha.2 0 _ cargs[0] rfl (Array.getElem?_eq_getElem (by omega))
  have hca : cargs = #[cargs[0]] := by
    refine Array.ext (by simp [hs]) fun i h1 h2 => ?_
    match i, h1, h2 with
    | 0, _, _ => rfl
    | i + 1, h1, _ => omega
  rw [hca]
  generalize cargs[0] = v at r0
  generalize hx : X.sl t 1 es = x at r0
  cases r0 <;> try cases hx
  case slNil ob =>
    simp only [intsOf, Option.some.injEq] at h; subst h
    cases ob with
    | none =>
      refine (Any.slices_Clone_int_nil Tryz.laysClone 0 0 w).mono ?_
      rintro e w' ⟨rfl, rfl⟩
      exact ⟨_, rfl, ⟨rfl, .inl ⟨rfl, rfl⟩⟩, Below.refl _ _⟩
    | some a =>
      refine (Any.slices_Clone_int_zero Tryz.laysClone a 0 w).mono ?_
      rintro e w' ⟨v', rfl, ho, _, hB⟩
      exact ⟨v', rfl, ho, hB⟩
  case sl b o cap vals hcap hcell hr htight hlen hk =>
    have hcells : ∀ j, j < zs.length → w.cell? ⟨b, o + j, none⟩ = some (.int .i64 (zs.getD j 0)) := fun j hj => by
      have e1 := h2 j hj
      have e2 : at2 es j 0 = some (.v (.int .i64 (zs.getD j 0))) := by simp [at2, e1]
      have e3 := hI.known _ _ _ (hk j 0 _ e2)
      have e4 := rep_v (hr j 0 _ e2)
      rw [← e4]
      simpa using e3
    refine (Any.slices_Clone_int Tryz.laysClone b o es.length cap zs w (by omega) (by omega) hcells).mono ?_
    rintro e w' ⟨v', rfl, ho, _, hB⟩
    refine ⟨v', rfl, ?_, hB⟩
    rw [h1, List.take_length] at ho
    exact ho

/-- The tables of the library's text, as they lie in memory. -/
theorem tabs_of {R : CodeRel} (hR : R.gl = gl) {K : Kn} {C : List CB} {bx : List Bx} {w : World} (hI : Inv Tryz.prog R K C bx w) : Lib.Utf8Tabs (Tryz.laysValid_ren.g 3) (Tryz.laysValid_ren.g 4) w := by
  have cell : ∀ (g : Nat) (cs : List X), gl g = some cs → ∀ (j : Nat) (v : Value), cs[j]? = some (.v v) → w.cell? ⟨g, j, none⟩ = some v := fun g cs hg j v hj => by
    have h := hI.glob g cs (by rw [hR]; exact hg)
    cases h with
    | dp vals hcell hk hr =>
      have e3 := hI.known _ _ _ (hk j _ hj)
      rw [← rep_v (hr j _ hj)]
      simpa using e3
  have g3 : Tryz.laysValid_ren.g 3 = 1 := by kernel_rfl
  have g4 : Tryz.laysValid_ren.g 4 = 2 := by kernel_rfl
  rw [g3, g4]
  constructor
  · intro c hc
    have hall : ((List.range 256).all fun c => match (bytesX Go.Pinned.utf8FirstZ)[c]? with
      | some (.v (.int .u8 z)) => z == Lib.firstT c
      | _ => false) = true := by kernel_rfl
    have h1 := List.all_eq_true.1 hall c (List.mem_range.2 hc)
    split at h1
    · rename_i z hz
      rw [cell 1 _ rfl c _ hz, eq_of_beq h1]
    · cases h1
  · intro i hi
    have hall : ((List.range 16).all fun i => (match (bytesX ([128, 191, 160, 191, 128, 159, 144, 191, 128, 143] ++ List.replicate 22 0))[2 * i]? with
      | some (.v (.int .u8 z)) => z == Lib.accLo i
      | _ => false) && (match (bytesX ([128, 191, 160, 191, 128, 159, 144, 191, 128, 143] ++ List.replicate 22 0))[2 * i + 1]? with
      | some (.v (.int .u8 z)) => z == Lib.accHi i
      | _ => false)) = true := by kernel_rfl
    have h1 := List.all_eq_true.1 hall i (List.mem_range.2 hi)
    rw [Bool.and_eq_true] at h1
    obtain ⟨h1, h2⟩ := h1
    constructor
    · split at h1
      · rename_i z hz
        rw [cell 2 _ rfl (2 * i) _ hz, eq_of_beq h1]
      · cases h1
    · split at h2
      · rename_i z hz
        rw [cell 2 _ rfl (2 * i + 1) _ hz, eq_of_beq h2]
      · cases h2

theorem valid_sem {R : CodeRel} (hR : R.gl = gl) (s : ByteArray) (hs : s.size ≤ 9223372036854775807) (inb : List Bx) : FSem Tryz.prog R 167 [.v (.string s)] inb (.v (.bool (Lib.validD s.data.toList))) inb := by
  refine fsem_word rfl fun cargs w K C hI ha => ?_
  have h2 : cargs = #[.string s] := by
    have hs : cargs.size = 1 := ha.1
    have r0 := rep_v (ha.2 0 _ cargs[0] rfl (Array.getElem?_eq_getElem (by omega)))
    refine Array.ext (by simp [hs]) fun i h1 h2 => ?_
    match i, h1, h2 with
    | 0, _, _ => simpa using r0
    | i + 1, h1, _ => omega
  rw [h2]
  exact Any.utf8_ValidString Tryz.laysValid s w hs (tabs_of hR hI)

theorem ascii_mem {s : ByteArray} (h : asciiB s = true) (j : Nat) (b : UInt8) (hb : s.data.toList[j]? = some b) : b.toNat < 128 := by
  have h1 := List.all_eq_true.1 h b (List.mem_of_getElem? hb)
  exact of_decide_eq_true h1
theorem any_sem {R : CodeRel} (s t : ByteArray) (hs : s.size < 4294967281) (ht : t.size < 4294967281) (ha : asciiB s = true) (hb : asciiB t = true) (inb : List Bx) : FSem Tryz.prog R 241 [.v (.string s), .v (.string t)] inb (.v (.int .i64 (Lib.indexAny s.data.toList t.data.toList))) inb := by
  refine fsem_word rfl fun cargs w K C hI hc => ?_
  have h2 : cargs = #[.string s, .string t] := by
    have hs : cargs.size = 2 := hc.1
    have r0 := rep_v (hc.2 0 _ cargs[0] rfl (Array.getElem?_eq_getElem (by omega)))
    have r1 := rep_v (hc.2 1 _ cargs[1] rfl (Array.getElem?_eq_getElem (by omega)))
    refine Array.ext (by simp [hs]) fun i h1 h2 => ?_
    match i, h1, h2 with
    | 0, _, _ => simpa using r0
    | 1, _, _ => simpa using r1
    | i + 2, h1, _ => omega
  rw [h2]
  exact Any.strings_IndexAny_laid Tryz.laysAny (by kernel_rfl) s t w hs ht (ascii_mem ha) (ascii_mem hb)

theorem tabOk : TabOk Tryz.prog gl tab := by
  intro f fd h
  unfold tab at h
  split at h
  · exact ⟨_, h⟩
  · cases h

theorem extOk : ExtOk Tryz.prog gl ext := by
  intro f g hg args inb res outb h
  unfold ext at hg
  split at hg
  · rename_i hf
    have hf' : f = 159 := by simpa using hf
    subst hf'
    simp only [Option.some.injEq] at hg
    subst hg
    unfold compareExt at h
    split at h
    · rename_i a b
      simp only [Option.some.injEq, Prod.mk.injEq] at h
      obtain ⟨rfl, rfl⟩ := h
      refine ⟨fnOk Tryz.func159 (fun e => absurd e (of_decide_eq_false (by kernel_rfl))) (fun e => by simpa [e] using (show Tryz.f159.body.isSome = true by kernel_rfl)), fsem_pure rfl fun cargs w K C ha => ?_⟩
      have h2 : cargs = #[.string a, .string b] := by
        have hs : cargs.size = 2 := ha.1
        have r0 := rep_v (ha.2 0 _ cargs[0] rfl (Array.getElem?_eq_getElem (by omega)))
        have r1 := rep_v (ha.2 1 _ cargs[1] rfl (Array.getElem?_eq_getElem (by omega)))
        refine Array.ext (by simp [hs]) fun i h1 h2 => ?_
        match i, h1, h2 with
        | 0, _, _ => simpa using r0
        | 1, _, _ => simpa using r1
        | i + 2, h1, _ => omega
      rw [h2]
      exact compare_calls a b w
    · cases h
  · split at hg
    · rename_i hf
      have hf' : f = 167 := by simpa using hf
      subst hf'
      simp only [Option.some.injEq] at hg
      subst hg
      unfold validExt at h
      split at h
      · split at h
        · rename_i a hsz
          simp only [Option.some.injEq, Prod.mk.injEq] at h
          obtain ⟨rfl, rfl⟩ := h
          exact ⟨fnOk Tryz.func167 (fun e => absurd e (of_decide_eq_false (by kernel_rfl))) (fun e => by simpa [e] using (show Tryz.f167.body.isSome = true by kernel_rfl)), valid_sem rfl a hsz inb⟩
        · cases h
      · cases h
    · split at hg
      · rename_i hf
        have hf' : f = 90 := by simpa using hf
        subst hf'
        simp only [Option.some.injEq] at hg
        subst hg
        unfold cloneExt at h
        split at h
        · split at h
          · rename_i zs hzs
            split at h
            · rename_i hle
              simp only [Option.some.injEq, Prod.mk.injEq] at h
              obtain ⟨rfl, rfl⟩ := h
              exact ⟨fnOk Tryz.func90 (fun e => absurd e (of_decide_eq_false (by kernel_rfl))) (fun e => by simpa [e] using (show Tryz.f90.body.isSome = true by kernel_rfl)), clone_sem _ _ zs hzs hle inb⟩
            · cases h
          · cases h
        · cases h
      · split at hg
        · rename_i hf
          have hf' : f = 241 := by simpa using hf
          subst hf'
          simp only [Option.some.injEq] at hg
          subst hg
          unfold indexAnyExt at h
          split at h
          · split at h
            · rename_i a b hc
              obtain ⟨h1, h2, h3, h4⟩ := hc
              simp only [Option.some.injEq, Prod.mk.injEq] at h
              obtain ⟨rfl, rfl⟩ := h
              exact ⟨fnOk Tryz.func241 (fun e => absurd e (of_decide_eq_false (by kernel_rfl))) (fun e => by simpa [e] using (show Tryz.f241.body.isSome = true by kernel_rfl)), any_sem a b h1 h2 h3 h4 inb⟩
            · cases h
          · cases h
        · split at hg
          · rename_i hf
            have hf' : f = 154 := by simpa using hf
            subst hf'
            simp only [Option.some.injEq] at hg
            subst hg
            unfold insExt at h
            split at h
            · split at h
              · rename_i n z t k1 x k2 rows hc
                obtain ⟨hk1, hk2, h1, h2, h3, h4⟩ := hc
                subst hk1
                subst hk2
                simp only [Option.some.injEq, Prod.mk.injEq] at h
                obtain ⟨rfl, rfl⟩ := h
                have e : z = Int.ofNat z.toNat := by simp only [Int.ofNat_eq_natCast]; omega
                have := ins_sem (R := RCode Tryz.prog gl) n z.toNat t x rows h4 h1 h2
                rw [← e] at this
                exact ⟨fnOk Tryz.func154 (fun e => absurd e (of_decide_eq_false (by kernel_rfl))) (fun e => by simpa [e] using (show Tryz.f154.body.isSome = true by kernel_rfl)), this⟩
              · cases h
            · cases h
          · split at hg
            · rename_i hf
              have hf' : f = 101 := by simpa using hf
              subst hf'
              simp only [Option.some.injEq] at hg
              subst hg
              unfold delExt at h
              split at h
              · split at h
                · rename_i n z1 z2 k2 rows hc
                  obtain ⟨hk2, h1, h2, h3, h4, h5⟩ := hc
                  subst hk2
                  simp only [Option.some.injEq, Prod.mk.injEq] at h
                  obtain ⟨rfl, rfl⟩ := h
                  have e1 : z1 = Int.ofNat z1.toNat := by simp only [Int.ofNat_eq_natCast]; omega
                  have e2 : z2 = Int.ofNat z2.toNat := by simp only [Int.ofNat_eq_natCast]; omega
                  have := del_sem (R := RCode Tryz.prog gl) n z1.toNat z2.toNat rows (by omega) h5 h1 h2
                  rw [← e1, ← e2] at this
                  exact ⟨fnOk Tryz.func101 (fun e => absurd e (of_decide_eq_false (by kernel_rfl))) (fun e => by simpa [e] using (show Tryz.f101.body.isSome = true by kernel_rfl)), this⟩
                · cases h
              · cases h
            · cases hg

theorem machine (n : Nat) : GamOk Tryz.prog (RCode Tryz.prog gl) (callF tab ext n) := callF_ok tabOk extOk n
end YthfchdkjeddijaaGreatDoor
end Go.Proofs

/- The library's tables, laid as the rows say, are those of the machine. -/
namespace Go.Proofs.YthfchdkjeddijaaGreatDoor
open Go.Em Go.ChangeShapes Go.WideShapes Go.ChangeAt Go.RowKit
set_option maxRecDepth 100000

def laid2 : List (String × DataW Unit) := [("unicode/utf8.acceptRanges", Rows.laid_unicode_utf8_acceptRanges), ("unicode/utf8.first", Rows.laid_unicode_utf8_first)]
def laidZ : List (String × DataW Unit) := [("math/bits.deBruijn32tab", Rows.laid_math_bits_deBruijn32tab), ("math/bits.deBruijn64tab", Rows.laid_math_bits_deBruijn64tab), ("internal/strconv.uint64pow10", Rows.laid_internal_strconv_uint64pow10), ("unicode/utf8.acceptRanges", Rows.laid_unicode_utf8_acceptRanges), ("strconv.ErrRange", Rows.laid_strconv_ErrRange), ("strconv.ErrSyntax", Rows.laid_strconv_ErrSyntax), ("unicode/utf8.first", Rows.laid_unicode_utf8_first)]
def keepZ (x : String × DataW Unit) : Bool := x.1 == "unicode/utf8.acceptRanges" || x.1 == "unicode/utf8.first"
theorem laid_keep : laidZ.filter keepZ = laid2 := by kernel_rfl
def fieldsZ (P : Program) (t : TypeId) : Array Field := match P.underlying t with
  | some (.struct fs) => fs
  | _ => #[]
theorem under5 : Tryz.prog.underlying 5 = some (.int .u8) := by kernel_rfl
theorem under301 : Tryz.prog.underlying 301 = some (.array 256 5) := by kernel_rfl
theorem under304 : Tryz.prog.underlying 304 = some (.array 16 303) := by kernel_rfl
theorem under303 : Tryz.prog.underlying 303 = some (.struct (fieldsZ Tryz.prog 303)) := by kernel_rfl
theorem field0 : ((fieldsZ Tryz.prog 303)[0]?).map (fun f => (f.type, f.offset)) = some (5, 0) := by kernel_rfl
theorem field1 : ((fieldsZ Tryz.prog 303)[1]?).map (fun f => (f.type, f.offset)) = some (5, 1) := by kernel_rfl
theorem rep_bytes {W : World} {g : Nat} {l : List Nat} (h : ∀ j z, l[j]? = some z → W.cell? ⟨g, j, none⟩ = some (.int .u8 (Int.ofNat z))) : Rep (Kw W) [] (.dp (bytesX l)) (.pointer (some ⟨g, 0, none⟩)) := by
  have hx : ∀ (j : Nat) (x : X), (bytesX l)[j]? = some x → ∃ z, l[j]? = some z ∧ x = .v (.int .u8 (Int.ofNat z)) := fun j x e => by
    unfold bytesX at e
    rw [List.getElem?_map, Option.map_eq_some_iff] at e
    obtain ⟨z, hz, rfl⟩ := e
    exact ⟨z, hz, rfl⟩
  refine .dp (fun j => .int .u8 (Int.ofNat (l.getD j 0))) (fun j x e => ?_) (fun j x e => ?_) (fun j x e => ?_)
  · obtain ⟨z, _, rfl⟩ := hx j x e; rfl
  · obtain ⟨z, hz, rfl⟩ := hx j x e
    show W.cell? ⟨g, 0 + j, none⟩ = _
    rw [Nat.zero_add, h j z hz, List.getD_eq_getElem?_getD, hz]; rfl
  · obtain ⟨z, hz, rfl⟩ := hx j x e
    rw [List.getD_eq_getElem?_getD, hz]
    exact .v rfl
theorem globs {W : World} (h : laidMetH Tryz.prog laid2 W) : (∀ j z, Go.Pinned.utf8FirstZ[j]? = some z → W.cell? ⟨1, j, none⟩ = some (.int .u8 (Int.ofNat z))) ∧ ∀ j z, ([128, 191, 160, 191, 128, 159, 144, 191, 128, 143] ++ List.replicate 22 0)[j]? = some z → W.cell? ⟨2, j, none⟩ = some (.int .u8 (Int.ofNat z)) := by
  rw [MakeChecks.laidMetH_plain _ _ _ (by kernel_rfl)] at h
  obtain ⟨ps, ⟨g, t, cs, fuel, p, q, hg, ht, hv, hd, ⟨g', t', cs', fuel', p', q', hg', ht', hv', hd', _, _⟩, _⟩, _, _⟩ := h
  obtain rfl := Option.some.inj ((show Tryz.prog.globalNamed "unicode/utf8.acceptRanges" = some 2 by kernel_rfl).symm.trans hg)
  obtain rfl := Option.some.inj ((show (Tryz.prog.globals[2]?).map (·.type) = some 304 by kernel_rfl).symm.trans ht)
  obtain rfl := Option.some.inj ((show Tryz.prog.globalNamed "unicode/utf8.first" = some 1 by kernel_rfl).symm.trans hg')
  obtain rfl := Option.some.inj ((show (Tryz.prog.globals[1]?).map (·.type) = some 301 by kernel_rfl).symm.trans ht')
  have c5 : Tryz.prog.cellsOf 5 = 1 := by kernel_rfl
  have c303 : Tryz.prog.cellsOf 303 = 2 := by kernel_rfl
  constructor
  · intro j z hz
    obtain ⟨xs, m, _, ex, _, hl, hel⟩ := DataW.trod_array under301 hd'
    have hlen : Go.Pinned.utf8FirstZ.length = 256 := by kernel_rfl
    have hj : j < 256 := by rw [← hlen]; exact (List.getElem?_eq_some_iff.1 hz).1
    have hE := hel j hj
    rw [c5, Nat.mul_one, List.getElem?_eq_getElem (by omega)] at hE
    obtain ⟨y, e1, e2, _⟩ := DataW.trod_int under5 hE
    have e3 : (xs.map (·.1)) = Go.Pinned.utf8FirstZ.map fun (n : Nat) => .lit (.int .u8 (Int.ofNat n)) := (DataW.agg.inj (Prod.mk.inj ex).1).symm
    have e4 : (xs.map (·.1))[j]? = (Go.Pinned.utf8FirstZ.map fun (n : Nat) => (DataW.lit (.int .u8 (Int.ofNat n)) : DataW Unit))[j]? := by rw [e3]
    rw [List.getElem?_map, List.getElem?_map, List.getElem?_eq_getElem (by omega : j < xs.length), hz, e2] at e4
    simp only [Option.map_some, Option.some.injEq, DataW.lit.injEq, Lit.int.injEq, true_and] at e4
    subst e4
    rw [World.var?_cell hg' hv' j]
    have : cs'.toList[j]? = some (.int .u8 (Int.ofNat z)) := by
      have h0 : ((cs'.toList.drop j).take 1)[0]? = some (.int .u8 (Int.ofNat z)) := by rw [e1]; rfl
      simpa using h0
    simpa using this
  · intro j z hz
    obtain ⟨xs, m, _, ex, _, hl, hel⟩ := DataW.trod_array under304 hd
    have hlen : ([128, 191, 160, 191, 128, 159, 144, 191, 128, 143] ++ List.replicate 22 0).length = 32 := by kernel_rfl
    have hj : j < 32 := by rw [← hlen]; exact (List.getElem?_eq_some_iff.1 hz).1
    have hE := hel (j / 2) (by omega)
    rw [c303, List.getElem?_eq_getElem (by omega)] at hE
    obtain ⟨ys, m2, _, ey, _, hl2, hel2⟩ := DataW.trod_struct under303 hE
    have f2 : (fieldsZ Tryz.prog 303).size = 2 := by kernel_rfl
    have hk : j % 2 < 2 := Nat.mod_lt _ (by omega)
    have hfo : ∀ k, k < 2 → ((fieldsZ Tryz.prog 303)[k]?).map (fun f => (f.type, f.offset)) = some (5, k) := fun k hk => by
      match k, hk with
      | 0, _ => exact field0
      | 1, _ => exact field1
    obtain ⟨f, hf, hf2⟩ := Option.map_eq_some_iff.1 (hfo (j % 2) hk)
    have hE2 := hel2 (j % 2) f hf
    obtain ⟨hft, hfo'⟩ := Prod.mk.inj hf2
    rw [hft, hfo', c5, List.getElem?_eq_getElem (by omega)] at hE2
    obtain ⟨y, e1, e2, _⟩ := DataW.trod_int under5 hE2
    have hall : ((List.range 32).all fun j => match (Rows.laid_unicode_utf8_acceptRanges : DataW Unit) with
      | .agg l => match l[j / 2]? with
        | some (.agg r) => match r[j % 2]?, ([128, 191, 160, 191, 128, 159, 144, 191, 128, 143] ++ List.replicate 22 0)[j]? with
          | some (.lit (.int .u8 z)), some z' => z == Int.ofNat z'
          | _, _ => false
        | _ => false
      | _ => false) = true := by kernel_rfl
    have h1 := List.all_eq_true.1 hall j (List.mem_range.2 hj)
    have e3 : (Rows.laid_unicode_utf8_acceptRanges : DataW Unit) = .agg (xs.map (·.1)) := (Prod.mk.inj ex).1
    have e5 : (xs.map (·.1))[j / 2]? = some (.agg (ys.map (·.1))) := by
      rw [List.getElem?_map, List.getElem?_eq_getElem (by omega : j / 2 < xs.length), ey]; rfl
    have e6 : (ys.map (·.1))[j % 2]? = some (.lit (.int .u8 y)) := by
      rw [List.getElem?_map, List.getElem?_eq_getElem (by omega : j % 2 < ys.length), e2]; rfl
    rw [e3] at h1
    dsimp only at h1
    rw [e5] at h1
    dsimp only at h1
    rw [e6, hz] at h1
    have hy : y = Int.ofNat z := eq_of_beq h1
    subst hy
    rw [World.var?_cell hg hv j]
    have : cs.toList[j]? = some (.int .u8 (Int.ofNat z)) := by
      have h0 : ((((cs.toList.drop (j / 2 * 2)).take 2).drop (j % 2)).take 1)[0]? = some (.int .u8 (Int.ofNat z)) := by rw [e1]; rfl
      rw [List.getElem?_take, if_pos (by omega), List.getElem?_drop, List.getElem?_take, if_pos (by omega), List.getElem?_drop] at h0
      have : j / 2 * 2 + (j % 2 + 0) = j := by omega
      rw [this] at h0
      exact h0
    simpa using this
theorem globOk {W : World} (h7 : laidMetH Tryz.prog laidZ W) : GlobOk (RCode Tryz.prog gl) (Kw W) := by
  have h := h7.filter keepZ
  rw [laid_keep] at h
  obtain ⟨h0, h1⟩ := globs h
  intro g cs e
  change gl g = some cs at e
  unfold gl at e
  split at e
  · rename_i hg
    obtain rfl : g = 1 := by simpa using hg
    cases e
    exact rep_bytes h0
  · split at e
    · rename_i hg
      obtain rfl : g = 2 := by simpa using hg
      cases e
      exact rep_bytes h1
    · cases e
end Go.Proofs.YthfchdkjeddijaaGreatDoor

/- A row's closed facts, in parts (one declaration each: the kernel would hold 10 GB otherwise). -/
namespace Go.Proofs.YthfchdkjeddijaaGreatDoor
open Go.ChangeShapes Go.WideShapes Go.ChangeAt Go.RowKit Go.Em
set_option maxRecDepth 100000
theorem joined_of {P : Program} {f : FuncId} {fn : Func} {s : ChangeSpec} {c : OpenClaim} (p1 : laidOutB P = true) (p2 : mapsRowed P = true) (p3 : ((P.stops == []) && (P.stopKnobs == [])) = true)
    (p4 : P.stopsHeard = true) (p5 : P.mayEnter = true)
    (a1 : (c.inPlace == P.inPlace f) = true) (a2 : (c.unfollowed == P.unfollowed f) = true) (a3 : (c.recurses == P.recurses f) = true) (a4 : (c.named == P.varsNamed f) = true)
    (b1 : (c.wf (OpenSpec.ofChange s) && fn.params.all (P.readableRec ·) && namedTie P c.named s.vars && (c.stops == []) && (c.knobs == [])) = true)
    (b2 : ((c.maps == (fn.params.toList ++ s.plain.varTypes P).any (P.mapsRec ·)) && (c.ifaces == (fn.params.toList ++ s.plain.varTypes P).any (P.ifacesRec ·)) && (c.mapsOut == P.mapsAmong fn.resultTypes.toList) &&
      (c.loops == (fn.params.toList ++ s.plain.varTypes P).any (P.loopsFrom ·)) && (c.wideKeys == (fn.params.toList ++ s.plain.varTypes P ++ fn.resultTypes.toList).any (P.wideKeysFrom ·))) = true)
    (b3 : (s.vars.all (P.varReadable ·) && fn.resultTypes.all (fun t => P.readableRec t && decide (t < P.types.size)) && (c.ifacesOut == fn.resultTypes.toList.any (P.ifacesRec ·)) && (c.loopsOut == fn.resultTypes.toList.any (P.loopsFrom ·)) && c.shortTexts.isNone) = true)
    (c1 : (c.plainKeys == P.plainKeys) = true) (c2 : (c.lifted == P.liftsFinal) = true) (c3 : (P.make == some c.make) = true)
    (b4 : ((c.kinds == (if c.domain.isEmpty then [] else fn.params.toList.map fun t => match P.underlying t with | some (.int k) => some k | _ => none)) && (c.pinned == c.pinnedBy) &&
      (c.veiled == (fn.params.toList ++ s.plain.varTypes P ++ fn.resultTypes.toList).any (P.veiledRec ·)) && c.veiledFits P fn.params.toList (fn.params.toList ++ s.plain.varTypes P ++ fn.resultTypes.toList)) = true) :
    joinedFacts P f fn s c = true := by
  simp only [Bool.and_eq_true] at p3 b1 b2 b3 b4
  obtain ⟨q1, q2⟩ := p3
  obtain ⟨⟨⟨⟨r1, r2⟩, r3⟩, r4⟩, r5⟩ := b1
  obtain ⟨⟨⟨⟨s1, s2⟩, s3⟩, s4⟩, s5⟩ := b2
  obtain ⟨⟨⟨⟨t1, t2⟩, t3⟩, t4⟩, t5⟩ := b3
  obtain ⟨⟨⟨u1, u2⟩, u3⟩, u4⟩ := b4
  simp only [joinedFacts, Bool.and_eq_true]
  exact ⟨⟨⟨⟨⟨⟨⟨⟨⟨⟨⟨⟨⟨⟨⟨⟨⟨⟨⟨⟨⟨⟨⟨⟨⟨⟨⟨⟨⟨⟨⟨r1, p1⟩, p2⟩, r2⟩, r3⟩, r4⟩, q1⟩, r5⟩, q2⟩, a1⟩, a2⟩, a3⟩, a4⟩, s1⟩, s2⟩, s3⟩, s4⟩, s5⟩, t1⟩, t2⟩, t3⟩, t4⟩, c1⟩, t5⟩, p4⟩, p5⟩, c2⟩, c3⟩, u1⟩, u2⟩, u3⟩, u4⟩
theorem jf_stops : ((Tryz.prog.stops == []) && (Tryz.prog.stopKnobs == [])) = true := by kernel_rfl
theorem jf_heard : Tryz.prog.stopsHeard = true := by kernel_rfl
theorem jf_enter : Tryz.prog.mayEnter = true := by kernel_rfl
theorem jf_looks : true = Tryz.prog.looks [] := by kernel_rfl
theorem jf_main : Tryz.pinned.checked.prog.mainIs = some (true, "fda8d723c99205a616a719e840104a1e214bfa621fcce8c0bc2210fee27a5a68".toList) := by kernel_rfl
theorem jf_plain : Tryz.prog.plainKeys = Rows.dedupRunsRow.plainKeys := by kernel_rfl
theorem jf_lifted : Tryz.prog.liftsFinal = Rows.dedupRunsRow.lifted := by kernel_rfl
theorem jf_make : (Tryz.prog.make == some Rows.dedupRunsRow.make) = true := by kernel_rfl
end Go.Proofs.YthfchdkjeddijaaGreatDoor
