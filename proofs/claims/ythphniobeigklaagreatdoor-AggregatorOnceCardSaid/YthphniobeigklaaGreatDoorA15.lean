/- Itoa: the worked proof of the kit, turned to what is known of the table's cells alone. -/
import Derived.Shelf.LaysM
import Derived.Shelf.Strconv.Itoa1
import Derived.Shelf.Strconv.Itoa2
import Derived.Lib.Walk
import Derived.Lib.ItoaMem
import Derived.WalkKit
import Derived.BigCall
import Derived.BigGuard
set_option linter.all false
namespace Go.Proofs
open Go.Shelf Go.RowKit Go.Sort Go.Lib
variable {P : Program} {ρ : Ren}
/-- The powers of ten lie in the cells of the variable with this number. -/
def PowIs (g : Nat) (w : World) : Prop := ∀ i, i < 20 → w.cell? ⟨g, i, none⟩ = some (.int .u64 ((10 ^ i : Nat) : Int))
theorem PowIs.alloc {g : Nat} {w : World} (h : PowIs g w) (o : Obj) : PowIs g (w.alloc o) := fun i hi => by
  have := h i hi
  have hne : g ≠ w.heap.size := fun e => by
    simp_all[World.cell?]
  unfold World.cell? at this ⊢
  unfold World.alloc<;>simp_all[Array.getElem?_push]
set_option maxHeartbeats 2000000 in
set_option maxRecDepth 100000 in
/-- internal/strconv.numDigits, at a d that is not 0: THE NUMBER OF d's DECIMAL DIGITS. The world is as it was. -/
theorem AnyC.internal_strconv_numDigits (L : LaysM.n284 P ρ) (u : Nat) (h1 : 1 ≤ u) (h2 : u < 18446744073709551616) (w : World)
    (htab : PowIs (ρ.g 17) w) :
    Calls P (ρ.f 284) #[.int .u64 u] w fun e w' => e = .returned (.int .i64 (Lib.nDigits u)) ∧ w' = w := by
  have mixed := L.mixed
  have t53 := L.t53; have a53 := L.a53; have z53 := L.z53; have v53 := L.v53
  have t3 := L.t3; have a3 := L.a3; have z3 := L.z3; have v3 := L.v3
  have t212 := L.t212; have a212 := L.a212; have z212 := L.z212; have v212 := L.v212
  have t0 := L.t0; have a0 := L.a0; have z0 := L.z0; have v0 := L.v0
  have t4 := L.t4; have a4 := L.a4; have z4 := L.z4; have v4 := L.v4
  have e129 : ∀ args w, (callFunc (ρ.f 129) args).run P w = .ok (.enter (ρ.f 129) args) w := enters_of L.f129 (by kernel_rfl) rfl
  have e317 : ∀ args w, (callFunc (ρ.f 317) args).run P w = .ok (.enter (ρ.f 317) args) w := enters_of L.f317 (by kernel_rfl) rfl
  have e318 : ∀ args w, (callFunc (ρ.f 318) args).run P w = .ok (.enter (ρ.f 318) args) w := enters_of L.f318 (by kernel_rfl) rfl
  obtain ⟨hnd, h19⟩ := Lib.numDigits_eq u h1 h2
  have hL := Lib.bitLen_le u 64 (Nat.le_refl _) h2
  have hcell : w.cell? ⟨(ρ.g 17), Lib.l10 (Lib.bitLen u), none⟩ = some (.int .u64 ((10 ^ Lib.l10 (Lib.bitLen u) : Nat) : Int)) := by
    exact htab _ (by omega)
  have hto : ((u : Int)).toNat = u := by omega
  -- the two numbers under names (the equations stay: by them the walk writes the names in)
  generalize hq : Lib.l10 (Lib.bitLen u) = q at hnd h19 hcell
  generalize hT : 10 ^ q = T at hnd hcell
  have h20 : q < 20 := by omega
  have Hnd := Lib.hid hnd
  clear hnd htab
  go_enter L.f284, Body.n284_ntmps ρ
  go_wp2_with (first
    | (go_at_fn (ρ.f 129); refine (Any.bits_Len64 { L with } _ _ (by omega) (by omega)).mono ?_; rintro e w' ⟨rfl, rfl⟩)
    | (go_at_fn (ρ.f 317); refine (Any.internal_strconv_log10Pow2 { L with } _ (by grind) _).mono ?_; rintro e w' ⟨rfl, rfl⟩)
    | (go_at_fn (ρ.f 318); refine (Any.internal_strconv_bool2_int { L with } _ _).mono ?_; rintro e w' ⟨rfl, rfl⟩))
  all_goals go_ret
  all_goals (
    refine ⟨?_, rfl⟩
    have hnd := Hnd.out
    congr 2
    split at hnd <;> simp_all <;> omega)


set_option maxHeartbeats 6400000 in
set_option maxRecDepth 100000 in
/-- internal/strconv.FormatInt: "FormatInt returns the string representation of i in the given base": AT BASE 10: i's decimal numeral, for every int64. The world behind the call: the world before it, new blocks behind the heap, draws. -/
theorem AnyC.internal_strconv_FormatInt_10 (L : LaysM.n246 P ρ) (n : Int) (h0 : -9223372036854775808 ≤ n) (h1 : n ≤ 9223372036854775807) (w : World)
    (htab : PowIs (ρ.g 17) w) :
    Calls P (ρ.f 246) #[.int .i64 n, .int .i64 10] w fun e w' => e = .returned (.string ⟨(Lib.itoa n).toArray⟩) ∧ ∃ k os, w' = grow (w.drewN k) os := by
  have mixed := L.mixed
  have t2 := L.t2; have a2 := L.a2; have z2 := L.z2; have v2 := L.v2
  have t3 := L.t3; have a3 := L.a3; have z3 := L.z3; have v3 := L.v3
  have t9 := L.t9; have a9 := L.a9; have z9 := L.z9; have v9 := L.v9
  have t4 := L.t4; have a4 := L.a4; have z4 := L.z4; have v4 := L.v4
  have t171 := L.t171; have a171 := L.a171; have z171 := L.z171; have v171 := L.v171
  have t0 := L.t0; have a0 := L.a0; have z0 := L.z0; have v0 := L.v0
  have t53 := L.t53; have a53 := L.a53; have z53 := L.z53; have v53 := L.v53
  have t37 := L.t37; have a37 := L.a37; have z37 := L.z37; have v37 := L.v37
  have t5 := L.t5; have a5 := L.a5; have z5 := L.z5; have v5 := L.v5
  have t173 := L.t173; have a173 := L.a173; have z173 := L.z173; have v173 := L.v173
  have e283 : ∀ args w, (callFunc (ρ.f 283) args).run P w = .ok (.enter (ρ.f 283) args) w := enters_of L.f283 (by kernel_rfl) rfl
  have e284 : ∀ args w, (callFunc (ρ.f 284) args).run P w = .ok (.enter (ρ.f 284) args) w := enters_of L.f284 (by kernel_rfl) rfl
  have e285 : ∀ args w, (callFunc (ρ.f 285) args).run P w = .ok (.enter (ρ.f 285) args) w := enters_of L.f285 (by kernel_rfl) rfl
  by_cases hs : 0 ≤ n ∧ n < 100
  · -- 0 .. 99: two constants
    obtain ⟨i, rfl⟩ : ∃ i : Nat, n = i := ⟨n.toNat, by omega⟩
    have hi : i < 100 := by omega
    go_enter L.f246, Body.n246_ntmps ρ
    go_wp2_with (go_at_fn (ρ.f 283); refine (Any.internal_strconv_small { L with } i hi _).mono ?_; rintro e w' ⟨rfl, rfl⟩)
    go_ret
    refine ⟨?_, 0, #[], by simp [World.drewN_zero]⟩
    rw [Lib.itoa_nonneg]
    rfl
  · by_cases hneg : n < 0
    · obtain ⟨u, rfl⟩ : ∃ u : Nat, n = -(u : Int) := ⟨n.natAbs, by omega⟩
      have hu1 : 1 ≤ u := by omega
      have hu64 : u < 18446744073709551616 := by omega
      have hnd20 : Lib.nDigits u ≤ 20 := by have := Lib.numDigits_eq u hu1 hu64; split at this <;> omega
      -- 'u := uint64(i); u = -u', for the walk to take
      have hwr : IntKind.u64.wrap (-IntKind.u64.wrap (-(u : Int))) = (u : Int) := by rw [IntKind.wrap_u64, IntKind.wrap_u64]; omega
      have hb3 : Lib.nDigits u ≤ 23 := by omega
      have hal : P.arrayLen (ρ.t 171) = 24 := by simp [Program.arrayLen, L.t171]
      -- 'a[1 : 1+nd]', for the walk to take
      have hsl1 : ∀ W, (Instr.sliceAt (ρ.t 171) (.pointer (some ⟨w.heap.size, 0, none⟩)) (some (.int .i64 1)) (some (.int .i64 (1 + (Lib.nDigits u : Int)))) none).run P W = .ok (.slice (some ⟨w.heap.size, 1, none⟩) (Lib.nDigits u) 23) W := fun W => by
        rw [run_sliceAt_array_lh W (ρ.t 171) ⟨w.heap.size, 0, none⟩ (by grind[Program.elem]) .i64 .i64 1 (1 + (Lib.nDigits u : Int)) (by omega) (by omega) (by grind)]
        go_simp
        omega
      -- formatBase10's contract at the new block's row of zeros
      have hH0 := Lib.holds_zero w (ρ.t 171) (Lib.nDigits u) (by omega)
      have hfmt := Any.internal_strconv_formatBase10 { L with } w.heap.size 1 23 u (Array.replicate (Lib.nDigits u) 0) (w.alloc (.cells Lib.zeros24 (ρ.t 171))) hH0 (by grind[Lib.lt_pow_nDigits]) hu64 (by grind)
      rw [Array.size_replicate] at hfmt
      have HH0 := Lib.hid hH0
      clear hH0 hal
      go_enter L.f246, Body.n246_ntmps ρ
      go_wp2_with (first
        | (go_at_fn (ρ.f 284); refine (AnyC.internal_strconv_numDigits { L with } u hu1 hu64 _ (htab.alloc _)).mono ?_; rintro e w' ⟨rfl, rfl⟩))
      go_at_fn (ρ.f 285)
      refine hfmt.mono ?_
      rintro e w' ⟨rfl, k, v', dk, rfl, hF⟩
      -- 'a[0] = '-'': its cell, in the world behind formatBase10
      have hc0 : ((putRow (fun (b : UInt8) => Value.int .u8 (b.toNat : Int)) (w.alloc (.cells Lib.zeros24 (ρ.t 171))) w.heap.size 1 dk).drewN k).cell? ⟨w.heap.size, 0, none⟩ = some (.int .u8 0) := by
        rw [World.cell?_drewN, cell?_putRow_other _ _ _ _ _ _ (Or.inr (Or.inl (Nat.zero_lt_one))), World.cell?_alloc_new]
        exact Lib.zeros24_at 0 (by omega)
      have hf0 : ((putRow (fun (b : UInt8) => Value.int .u8 (b.toNat : Int)) (w.alloc (.cells Lib.zeros24 (ρ.t 171))) w.heap.size 1 dk).drewN k).frozen? ⟨w.heap.size, 0, none⟩ = false := by
        rw [World.frozen?_drewN, frozen?_putRow]
        exact World.frozen?_alloc_new _ _ _ _
      -- 'a[: 1+nd]', for the walk to take
      have hal : P.arrayLen (ρ.t 171) = 24 := by simp [Program.arrayLen, L.t171]
      have hsl2 : ∀ W, (Instr.sliceAt (ρ.t 171) (.pointer (some ⟨w.heap.size, 0, none⟩)) none (some (.int .i64 (1 + (Lib.nDigits u : Int)))) none).run P W = .ok (.slice (some ⟨w.heap.size, 0, none⟩) (1 + Lib.nDigits u) 24) W := fun W => by
        rw [run_sliceAt_array_h W (ρ.t 171) ⟨w.heap.size, 0, none⟩ (by simp_all[Program.elem]) .i64 (1 + (Lib.nDigits u : Int)) (by omega) (by omega)]
        go_simp
        omega
      clear hal
      -- 'string(a[: 1+nd])', for the walk to take: '-', then the numeral
      have hcv : (convert (ρ.t 37) (ρ.t 9) (.slice (some ⟨w.heap.size, 0, none⟩) (1 + Lib.nDigits u) 24)).run P (((putRow (fun (b : UInt8) => Value.int .u8 (b.toNat : Int)) (w.alloc (.cells Lib.zeros24 (ρ.t 171))) w.heap.size 1 dk).drewN k).setCell ⟨w.heap.size, 0, none⟩ (.int .u8 45)) = .ok (.string ⟨(45 :: Lib.decDigits u).toArray⟩) (((putRow (fun (b : UInt8) => Value.int .u8 (b.toNat : Int)) (w.alloc (.cells Lib.zeros24 (ρ.t 171))) w.heap.size 1 dk).drewN k).setCell ⟨w.heap.size, 0, none⟩ (.int .u8 45)) := by
        have h := run_convert_bytes_back (P := P) (((putRow (fun (b : UInt8) => Value.int .u8 (b.toNat : Int)) (w.alloc (.cells Lib.zeros24 (ρ.t 171))) w.heap.size 1 dk).drewN k).setCell ⟨w.heap.size, 0, none⟩ (.int .u8 45)) (ρ.t 37) (ρ.t 9) (ρ.t 5) ⟨w.heap.size, 0, none⟩ 24 (45 :: Lib.decDigits u) L.t37 L.t5 L.t9 (fun j hj => by
          rw [Lib.add_plain]
          cases j with
          | zero => simp_all[World.cell?_setCell_same]
          | succ i =>
            have hi : i < (Lib.decDigits u).length := by simpa using hj
            rw [World.cell?_setCell_other _ _ _ _ (by simp), List.getElem_cons_succ, Lib.row_is_numeral hF i hi, World.cell?_drewN, show 0 + (i + 1) = 1 + i by omega]
            exact cell?_putRow (fun (b : UInt8) => Value.int .u8 (b.toNat : Int)) _ w.heap.size 1 _ dk HH0.out (by rw [hF.size, Array.size_replicate]) i (by rw [hF.size]<;>simp_all[Lib.decDigits_length]))
        rw [List.length_cons, Lib.decDigits_length, Nat.add_comm] at h
        exact h
      go_wp2
      go_ret
      obtain ⟨os, eo⟩ := Lib.fin_neg w (.cells Lib.zeros24 (ρ.t 171)) dk k (.int .u8 45)
      refine ⟨?_, k, os, eo⟩
      rw [Lib.itoa_neg u hu1]
      rfl
    · obtain ⟨u, rfl⟩ : ∃ u : Nat, n = u := ⟨n.toNat, by omega⟩
      have hu1 : 1 ≤ u := by omega
      have hu64 : u < 18446744073709551616 := by omega
      have hnd20 : Lib.nDigits u ≤ 20 := by have := Lib.numDigits_eq u hu1 hu64; split at this <;> omega
      have hb3 : Lib.nDigits u ≤ 23 := by omega
      have hal : P.arrayLen (ρ.t 171) = 24 := by simp [Program.arrayLen, L.t171]
      -- 'a[1 : 1+nd]', for the walk to take
      have hsl1 : ∀ W, (Instr.sliceAt (ρ.t 171) (.pointer (some ⟨w.heap.size, 0, none⟩)) (some (.int .i64 1)) (some (.int .i64 (1 + (Lib.nDigits u : Int)))) none).run P W = .ok (.slice (some ⟨w.heap.size, 1, none⟩) (Lib.nDigits u) 23) W := fun W => by
        rw [run_sliceAt_array_lh W (ρ.t 171) ⟨w.heap.size, 0, none⟩ (by grind[Program.elem]) .i64 .i64 1 (1 + (Lib.nDigits u : Int)) (by omega) (by omega) (by grind)]
        go_simp
        omega
      -- formatBase10's contract at the new block's row of zeros
      have hH0 := Lib.holds_zero w (ρ.t 171) (Lib.nDigits u) (by omega)
      have hfmt := Any.internal_strconv_formatBase10 { L with } w.heap.size 1 23 u (Array.replicate (Lib.nDigits u) 0) (w.alloc (.cells Lib.zeros24 (ρ.t 171))) hH0 (by grind[Lib.lt_pow_nDigits]) hu64 (by grind)
      rw [Array.size_replicate] at hfmt
      have HH0 := Lib.hid hH0
      clear hH0 hal
      go_enter L.f246, Body.n246_ntmps ρ
      go_wp2_with (first
        | (go_at_fn (ρ.f 284); refine (AnyC.internal_strconv_numDigits { L with } u hu1 hu64 _ (htab.alloc _)).mono ?_; rintro e w' ⟨rfl, rfl⟩))
      go_at_fn (ρ.f 285)
      refine hfmt.mono ?_
      rintro e w' ⟨rfl, k, v', dk, rfl, hF⟩
      -- 'string(a[1 : 1+nd])', for the walk to take: the row reads as the numeral
      have hcv : (convert (ρ.t 37) (ρ.t 9) (.slice (some ⟨w.heap.size, 1, none⟩) (Lib.nDigits u) 23)).run P ((putRow (fun (b : UInt8) => Value.int .u8 (b.toNat : Int)) (w.alloc (.cells Lib.zeros24 (ρ.t 171))) w.heap.size 1 dk).drewN k) = .ok (.string ⟨(Lib.decDigits u).toArray⟩) ((putRow (fun (b : UInt8) => Value.int .u8 (b.toNat : Int)) (w.alloc (.cells Lib.zeros24 (ρ.t 171))) w.heap.size 1 dk).drewN k) := by
        have h := run_convert_bytes_back (P := P) ((putRow (fun (b : UInt8) => Value.int .u8 (b.toNat : Int)) (w.alloc (.cells Lib.zeros24 (ρ.t 171))) w.heap.size 1 dk).drewN k) (ρ.t 37) (ρ.t 9) (ρ.t 5) ⟨w.heap.size, 1, none⟩ 23 (Lib.decDigits u) L.t37 L.t5 L.t9 (fun j hj => by
          rw [Lib.row_is_numeral hF j hj, Lib.add_plain, World.cell?_drewN]
          exact cell?_putRow (fun (b : UInt8) => Value.int .u8 (b.toNat : Int)) _ w.heap.size 1 _ dk HH0.out (by rw [hF.size, Array.size_replicate]) j (by rw [hF.size]<;>simp_all[Lib.decDigits_length]))
        rw [Lib.decDigits_length] at h
        exact h
      go_wp2
      go_ret
      obtain ⟨os, eo⟩ := Lib.fin_pos w (.cells Lib.zeros24 (ρ.t 171)) dk k
      refine ⟨?_, k, os, eo⟩
      rw [Lib.itoa_nonneg]
      rfl

set_option maxRecDepth 100000 in
/-- internal/strconv.Itoa: "Itoa is equivalent to FormatInt(int64(i), 10).": i's decimal numeral, for every int. -/
theorem AnyC.internal_strconv_Itoa (L : LaysM.n243 P ρ) (n : Int) (h0 : -9223372036854775808 ≤ n) (h1 : n ≤ 9223372036854775807) (w : World)
    (htab : PowIs (ρ.g 17) w) :
    Calls P (ρ.f 243) #[.int .i64 n] w fun e w' => e = .returned (.string ⟨(Lib.itoa n).toArray⟩) ∧ ∃ k os, w' = grow (w.drewN k) os := by
  have mixed := L.mixed
  have t3 := L.t3; have a3 := L.a3; have z3 := L.z3; have v3 := L.v3
  have t9 := L.t9; have a9 := L.a9; have z9 := L.z9; have v9 := L.v9
  have t2 := L.t2; have a2 := L.a2; have z2 := L.z2; have v2 := L.v2
  have e246 : ∀ args w, (callFunc (ρ.f 246) args).run P w = .ok (.enter (ρ.f 246) args) w := enters_of L.f246 (by kernel_rfl) rfl
  go_enter L.f243, Body.n243_ntmps ρ
  go_wp2_with (go_at_fn (ρ.f 246); refine (AnyC.internal_strconv_FormatInt_10 { L with } n h0 h1 _ htab).mono ?_; rintro e w' ⟨rfl, k, os, rfl⟩)
  go_ret
  exact ⟨rfl, k, os, rfl⟩

set_option maxRecDepth 100000 in
/-- strconv.Itoa: "Itoa is equivalent to FormatInt(int64(i), 10).": i's DECIMAL NUMERAL ('Lib.itoa': a '-' where i is negative, then the digits), FOR EVERY int. The world behind the call: the world before it, new blocks behind the heap (the library's 'var a [24]byte'), draws. -/
theorem AnyC.strconv_Itoa (L : LaysM.n171 P ρ) (n : Int) (h0 : -9223372036854775808 ≤ n) (h1 : n ≤ 9223372036854775807) (w : World)
    (htab : PowIs (ρ.g 17) w) :
    Calls P (ρ.f 171) #[.int .i64 n] w fun e w' => e = .returned (.string ⟨(Lib.itoa n).toArray⟩) ∧ ∃ k os, w' = grow (w.drewN k) os := by
  have mixed := L.mixed
  have t3 := L.t3; have a3 := L.a3; have z3 := L.z3; have v3 := L.v3
  have t9 := L.t9; have a9 := L.a9; have z9 := L.z9; have v9 := L.v9
  have e243 : ∀ args w, (callFunc (ρ.f 243) args).run P w = .ok (.enter (ρ.f 243) args) w := enters_of L.f243 (by kernel_rfl) rfl
  go_enter L.f171, Body.n171_ntmps ρ
  go_wp2_with (go_at_fn (ρ.f 243); refine (AnyC.internal_strconv_Itoa { L with } n h0 h1 _ htab).mono ?_; rintro e w' ⟨rfl, k, os, rfl⟩)
  go_ret
  exact ⟨rfl, k, os, rfl⟩

end Go.Proofs
