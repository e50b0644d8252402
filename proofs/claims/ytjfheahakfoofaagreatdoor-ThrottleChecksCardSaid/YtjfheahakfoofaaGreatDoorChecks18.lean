/- What is due, and what a tick does. -/
import Derived.Test.YtjfheahakfoofaaGreatDoorChecks17
namespace Go.Proofs.YtjfheahakfoofaaGreatDoor
open Go.Em

/-- A tick does what is due. -/
def DueOk (d : Int × Bool) (o : Ocm) (s : Stt) (t : Int) : Prop :=
  (d.2 = true ∧ d.1 ≤ t ∧ 0 < o.outs.length ∧ o.fates.length = o.outs.length) ∨ ((d.2 = false ∨ (d.2 = true ∧ ¬ d.1 ≤ t)) ∧ o = plainO s)

/-! ### A delay -/
end Go.Proofs.YtjfheahakfoofaaGreatDoor

/- ThrottleDue comes to true. -/
namespace Go.Proofs.YtjfheahakfoofaaGreatDoor
open Go.Em

def tick (t : Int) : Inp := ⟨2, t, ⟨7, [0, 3]⟩, ⟨⟨0, []⟩, 0, [], nulV⟩, 0, false, false, nulV⟩
theorem accOf_bound : ∀ {l : List Slt}, (∀ x, x ∈ l → x.items.length ≤ 4) → (accOf l).length ≤ 4 * l.length
  | [], _ => by simp [accOf]
  | x :: r, h => by
    have h1 := accOf_bound (l := r) fun y hy => h y (List.mem_cons_of_mem _ hy)
    have h2 := h x (by simp)
    simp only [accOf, List.flatMap_cons, List.length_append, List.length_cons] at h1 ⊢
    omega
theorem shortS_acc (s : Stt) : (accOf (shortS s).slots).length ≤ 24 := by
  have h := accOf_bound (l := (s.slots.take 6).map shortL) fun x hx => by
    obtain ⟨y, _, rfl⟩ := List.mem_map.1 hx
    show ((y.items.take 4).map shortM).length ≤ 4
    rw [List.length_map, List.length_take]; omega
  rw [List.length_map, List.length_take] at h
  show (accOf ((s.slots.take 6).map shortL)).length ≤ 24
  omega

/-- A node whose number is one of int's. -/
def isNode9 (c : List X) : Prop := isNode c ∧ ∀ z, c[4]? = some (num z) → z ≤ 9223372036854775807
end Go.Proofs.YtjfheahakfoofaaGreatDoor

/- The arguments of the laws: what reads as data of their types is a node, a state, an input. -/
namespace Go.Proofs.YtjfheahakfoofaaGreatDoor
open Go.Em Go.RowKit
set_option maxRecDepth 100000

theorem Tryz.own : ownKnob Tryz.prog.godebug = none := by kernel_rfl
theorem Tryz.laidOut : laidOutB Tryz.prog = true := by kernel_rfl
theorem Tryz.rowed : mapsRowed Tryz.prog = true := by kernel_rfl
def tys : List TypeId := [3, 4, 9, 22, 23, 24, 26, 27, 28, 30, 31, 32, 34, 35, 37, 39, 40, 41, 43, 45, 47, 56, 78, 98, 100, 103, 144, 146]
theorem tys_ok : dataTys Tryz.prog tys = true := by kernel_rfl
theorem tys_size : tys.all (fun t => decide (t < Tryz.prog.types.size)) = true := by kernel_rfl
theorem tys_lt {t : TypeId} (h : t ∈ tys) : t < Tryz.prog.types.size := of_decide_eq_true (List.all_eq_true.1 tys_size t h)
theorem tys_kids : Kids Tryz.prog (fun t => t ∈ tys ∧ t < Tryz.prog.types.size) := kids_data (kids_rows Tryz.laidOut Tryz.rowed) tys_ok
def fieldsOf (P : Program) (t : TypeId) : Array Field := match P.underlying t with
  | some (.struct fs) => fs
  | _ => #[]
theorem under3 : Tryz.prog.underlying 3 = some (.int .i64) := by kernel_rfl
theorem under4 : Tryz.prog.underlying 4 = some .bool := by kernel_rfl
theorem under9 : Tryz.prog.underlying 9 = some .string := by kernel_rfl
theorem under26 : Tryz.prog.underlying 26 = some (.struct (fieldsOf Tryz.prog 26)) := by kernel_rfl
theorem fields26 : (fieldsOf Tryz.prog 26).toList.map (·.type) = [3, 3, 3, 3, 22, 23, 24] := by kernel_rfl
theorem under30 : Tryz.prog.underlying 30 = some (.struct (fieldsOf Tryz.prog 30)) := by kernel_rfl
theorem fields30 : (fieldsOf Tryz.prog 30).toList.map (·.type) = [28] := by kernel_rfl
theorem under34 : Tryz.prog.underlying 34 = some (.struct (fieldsOf Tryz.prog 34)) := by kernel_rfl
theorem fields34 : (fieldsOf Tryz.prog 34).toList.map (·.type) = [9, 3, 3, 3, 3, 3, 3, 9, 26, 23, 27, 30, 31, 32] := by kernel_rfl
theorem under37 : Tryz.prog.underlying 37 = some (.struct (fieldsOf Tryz.prog 37)) := by kernel_rfl
theorem fields37 : (fieldsOf Tryz.prog 37).toList.map (·.type) = [3, 3, 35] := by kernel_rfl
theorem under39 : Tryz.prog.underlying 39 = some (.struct (fieldsOf Tryz.prog 39)) := by kernel_rfl
theorem fields39 : (fieldsOf Tryz.prog 39).toList.map (·.type) = [3, 32] := by kernel_rfl
theorem under43 : Tryz.prog.underlying 43 = some (.struct (fieldsOf Tryz.prog 43)) := by kernel_rfl
theorem fields43 : (fieldsOf Tryz.prog 43).toList.map (·.type) = [3, 3, 3, 9, 40, 41] := by kernel_rfl
theorem under45 : Tryz.prog.underlying 45 = some (.struct (fieldsOf Tryz.prog 45)) := by kernel_rfl
theorem fields45 : (fieldsOf Tryz.prog 45).toList.map (·.type) = [39, 3, 32, 43] := by kernel_rfl
theorem under47 : Tryz.prog.underlying 47 = some (.struct (fieldsOf Tryz.prog 47)) := by kernel_rfl
theorem fields47 : (fieldsOf Tryz.prog 47).toList.map (·.type) = [3, 3, 39, 45, 3, 4, 4, 43] := by kernel_rfl
theorem under78 : Tryz.prog.underlying 78 = some (.struct (fieldsOf Tryz.prog 78)) := by kernel_rfl
theorem fields78 : (fieldsOf Tryz.prog 78).toList.map (·.type) = [43, 3, 3, 56, 40] := by kernel_rfl
theorem under98 : Tryz.prog.underlying 98 = some (.struct (fieldsOf Tryz.prog 98)) := by kernel_rfl
theorem fields98 : (fieldsOf Tryz.prog 98).toList.map (·.type) = [3, 3, 9, 40, 27] := by kernel_rfl
theorem under100 : Tryz.prog.underlying 100 = some (.struct (fieldsOf Tryz.prog 100)) := by kernel_rfl
theorem fields100 : (fieldsOf Tryz.prog 100).toList.map (·.type) = [9, 98] := by kernel_rfl
theorem under103 : Tryz.prog.underlying 103 = some (.struct (fieldsOf Tryz.prog 103)) := by kernel_rfl
theorem fields103 : (fieldsOf Tryz.prog 103).toList.map (·.type) = [9, 30] := by kernel_rfl
theorem under144 : Tryz.prog.underlying 144 = some (.struct (fieldsOf Tryz.prog 144)) := by kernel_rfl
theorem fields144 : (fieldsOf Tryz.prog 144).toList.map (·.type) = [3, 9, 3, 26, 40] := by kernel_rfl
theorem under146 : Tryz.prog.underlying 146 = some (.struct (fieldsOf Tryz.prog 146)) := by kernel_rfl
theorem fields146 : (fieldsOf Tryz.prog 146).toList.map (·.type) = [9, 43] := by kernel_rfl
theorem under22 : Tryz.prog.underlying 22 = some (.slice 9) := by kernel_rfl
theorem under23 : Tryz.prog.underlying 23 = some (.slice 26) := by kernel_rfl
theorem under24 : Tryz.prog.underlying 24 = some (.slice 144) := by kernel_rfl
theorem under27 : Tryz.prog.underlying 27 = some (.slice 98) := by kernel_rfl
theorem under28 : Tryz.prog.underlying 28 = some (.slice 100) := by kernel_rfl
theorem under31 : Tryz.prog.underlying 31 = some (.slice 103) := by kernel_rfl
theorem under32 : Tryz.prog.underlying 32 = some (.slice 3) := by kernel_rfl
theorem under35 : Tryz.prog.underlying 35 = some (.slice 78) := by kernel_rfl
theorem under40 : Tryz.prog.underlying 40 = some (.slice 43) := by kernel_rfl
theorem under41 : Tryz.prog.underlying 41 = some (.slice 146) := by kernel_rfl
theorem under56 : Tryz.prog.underlying 56 = some (.slice 45) := by kernel_rfl
theorem cells3 : Tryz.prog.cellsOf 3 = 1 := by kernel_rfl
theorem cells9 : Tryz.prog.cellsOf 9 = 1 := by kernel_rfl
theorem cells26 : Tryz.prog.cellsOf 26 = 7 := by kernel_rfl
theorem cells43 : Tryz.prog.cellsOf 43 = 6 := by kernel_rfl
theorem cells45 : Tryz.prog.cellsOf 45 = 10 := by kernel_rfl
theorem cells78 : Tryz.prog.cellsOf 78 = 10 := by kernel_rfl
theorem cells98 : Tryz.prog.cellsOf 98 = 5 := by kernel_rfl
theorem cells100 : Tryz.prog.cellsOf 100 = 6 := by kernel_rfl
theorem cells103 : Tryz.prog.cellsOf 103 = 2 := by kernel_rfl
theorem cells144 : Tryz.prog.cellsOf 144 = 11 := by kernel_rfl
theorem cells146 : Tryz.prog.cellsOf 146 = 7 := by kernel_rfl

variable {n : Nat} {xs : List X}
theorem shape_num (h : Shape Tryz.prog n 3 xs) : ∃ z, xs = [num z] := by
  obtain ⟨v, rfl, _⟩ := shape_int under3 h
  exact ⟨v, rfl⟩
theorem shape_text (h : Shape Tryz.prog n 9 xs) : ∃ s, xs = [strX s] := by
  obtain ⟨v, rfl, _⟩ := shape_string under9 h
  exact ⟨v, rfl⟩
theorem shape_flag (h : Shape Tryz.prog n 4 xs) : ∃ b, xs = [boolX b] := shape_bool under4 h
theorem shape_sl22 (h : Shape Tryz.prog n 22 xs) : ∃ es, xs = [.sl false 1 es] ∧ ∃ m, m < n ∧ ∀ c, c ∈ es → Shape Tryz.prog m 9 c := by
  obtain ⟨es, rfl, _, h⟩ := shape_slice under22 h
  rw [cells9]
  exact ⟨es, rfl, h⟩
theorem shape_sl23 (h : Shape Tryz.prog n 23 xs) : ∃ es, xs = [.sl false 7 es] ∧ ∃ m, m < n ∧ ∀ c, c ∈ es → Shape Tryz.prog m 26 c := by
  obtain ⟨es, rfl, _, h⟩ := shape_slice under23 h
  rw [cells26]
  exact ⟨es, rfl, h⟩
theorem shape_sl24 (h : Shape Tryz.prog n 24 xs) : ∃ es, xs = [.sl false 11 es] ∧ ∃ m, m < n ∧ ∀ c, c ∈ es → Shape Tryz.prog m 144 c := by
  obtain ⟨es, rfl, _, h⟩ := shape_slice under24 h
  rw [cells144]
  exact ⟨es, rfl, h⟩
theorem shape_sl27 (h : Shape Tryz.prog n 27 xs) : ∃ es, xs = [.sl false 5 es] ∧ ∃ m, m < n ∧ ∀ c, c ∈ es → Shape Tryz.prog m 98 c := by
  obtain ⟨es, rfl, _, h⟩ := shape_slice under27 h
  rw [cells98]
  exact ⟨es, rfl, h⟩
theorem shape_sl28 (h : Shape Tryz.prog n 28 xs) : ∃ es, xs = [.sl false 6 es] ∧ ∃ m, m < n ∧ ∀ c, c ∈ es → Shape Tryz.prog m 100 c := by
  obtain ⟨es, rfl, _, h⟩ := shape_slice under28 h
  rw [cells100]
  exact ⟨es, rfl, h⟩
theorem shape_sl31 (h : Shape Tryz.prog n 31 xs) : ∃ es, xs = [.sl false 2 es] ∧ ∃ m, m < n ∧ ∀ c, c ∈ es → Shape Tryz.prog m 103 c := by
  obtain ⟨es, rfl, _, h⟩ := shape_slice under31 h
  rw [cells103]
  exact ⟨es, rfl, h⟩
theorem shape_sl32 (h : Shape Tryz.prog n 32 xs) : ∃ es, xs = [.sl false 1 es] ∧ ∃ m, m < n ∧ ∀ c, c ∈ es → Shape Tryz.prog m 3 c := by
  obtain ⟨es, rfl, _, h⟩ := shape_slice under32 h
  rw [cells3]
  exact ⟨es, rfl, h⟩
theorem shape_sl35 (h : Shape Tryz.prog n 35 xs) : ∃ es, xs = [.sl false 10 es] ∧ ∃ m, m < n ∧ ∀ c, c ∈ es → Shape Tryz.prog m 78 c := by
  obtain ⟨es, rfl, _, h⟩ := shape_slice under35 h
  rw [cells78]
  exact ⟨es, rfl, h⟩
theorem shape_sl40 (h : Shape Tryz.prog n 40 xs) : ∃ es, xs = [.sl false 6 es] ∧ ∃ m, m < n ∧ ∀ c, c ∈ es → Shape Tryz.prog m 43 c := by
  obtain ⟨es, rfl, _, h⟩ := shape_slice under40 h
  rw [cells43]
  exact ⟨es, rfl, h⟩
theorem shape_sl41 (h : Shape Tryz.prog n 41 xs) : ∃ es, xs = [.sl false 7 es] ∧ ∃ m, m < n ∧ ∀ c, c ∈ es → Shape Tryz.prog m 146 c := by
  obtain ⟨es, rfl, _, h⟩ := shape_slice under41 h
  rw [cells146]
  exact ⟨es, rfl, h⟩
theorem shape_sl56 (h : Shape Tryz.prog n 56 xs) : ∃ es, xs = [.sl false 10 es] ∧ ∃ m, m < n ∧ ∀ c, c ∈ es → Shape Tryz.prog m 45 c := by
  obtain ⟨es, rfl, _, h⟩ := shape_slice under56 h
  rw [cells45]
  exact ⟨es, rfl, h⟩
theorem shape_st26 (h : Shape Tryz.prog n 26 xs) : ∃ m, m < n ∧ ∃ x0 x1 x2 x3 x4 x5 x6, xs = x0 ++ (x1 ++ (x2 ++ (x3 ++ (x4 ++ (x5 ++ (x6 ++ [])))))) ∧ Shape Tryz.prog m 3 x0 ∧ Shape Tryz.prog m 3 x1 ∧ Shape Tryz.prog m 3 x2 ∧ Shape Tryz.prog m 3 x3 ∧ Shape Tryz.prog m 22 x4 ∧ Shape Tryz.prog m 23 x5 ∧ Shape Tryz.prog m 24 x6 := by
  obtain ⟨m, hm, hk⟩ := shape_struct under26 h
  rw [fields26] at hk
  obtain ⟨x0, r0, rfl, h0, hk⟩ := hk
  obtain ⟨x1, r1, rfl, h1, hk⟩ := hk
  obtain ⟨x2, r2, rfl, h2, hk⟩ := hk
  obtain ⟨x3, r3, rfl, h3, hk⟩ := hk
  obtain ⟨x4, r4, rfl, h4, hk⟩ := hk
  obtain ⟨x5, r5, rfl, h5, hk⟩ := hk
  obtain ⟨x6, r6, rfl, h6, hk⟩ := hk
  have hk : r6 = [] := hk
  subst hk
  exact ⟨m, hm, x0, x1, x2, x3, x4, x5, x6, rfl, h0, h1, h2, h3, h4, h5, h6⟩
theorem shape_st30 (h : Shape Tryz.prog n 30 xs) : ∃ m, m < n ∧ ∃ x0, xs = x0 ++ [] ∧ Shape Tryz.prog m 28 x0 := by
  obtain ⟨m, hm, hk⟩ := shape_struct under30 h
  rw [fields30] at hk
  obtain ⟨x0, r0, rfl, h0, hk⟩ := hk
  have hk : r0 = [] := hk
  subst hk
  exact ⟨m, hm, x0, rfl, h0⟩
theorem shape_st34 (h : Shape Tryz.prog n 34 xs) : ∃ m, m < n ∧ ∃ x0 x1 x2 x3 x4 x5 x6 x7 x8 x9 x10 x11 x12 x13, xs = x0 ++ (x1 ++ (x2 ++ (x3 ++ (x4 ++ (x5 ++ (x6 ++ (x7 ++ (x8 ++ (x9 ++ (x10 ++ (x11 ++ (x12 ++ (x13 ++ []))))))))))))) ∧ Shape Tryz.prog m 9 x0 ∧ Shape Tryz.prog m 3 x1 ∧ Shape Tryz.prog m 3 x2 ∧ Shape Tryz.prog m 3 x3 ∧ Shape Tryz.prog m 3 x4 ∧ Shape Tryz.prog m 3 x5 ∧ Shape Tryz.prog m 3 x6 ∧ Shape Tryz.prog m 9 x7 ∧ Shape Tryz.prog m 26 x8 ∧ Shape Tryz.prog m 23 x9 ∧ Shape Tryz.prog m 27 x10 ∧ Shape Tryz.prog m 30 x11 ∧ Shape Tryz.prog m 31 x12 ∧ Shape Tryz.prog m 32 x13 := by
  obtain ⟨m, hm, hk⟩ := shape_struct under34 h
  rw [fields34] at hk
  obtain ⟨x0, r0, rfl, h0, hk⟩ := hk
  obtain ⟨x1, r1, rfl, h1, hk⟩ := hk
  obtain ⟨x2, r2, rfl, h2, hk⟩ := hk
  obtain ⟨x3, r3, rfl, h3, hk⟩ := hk
  obtain ⟨x4, r4, rfl, h4, hk⟩ := hk
  obtain ⟨x5, r5, rfl, h5, hk⟩ := hk
  obtain ⟨x6, r6, rfl, h6, hk⟩ := hk
  obtain ⟨x7, r7, rfl, h7, hk⟩ := hk
  obtain ⟨x8, r8, rfl, h8, hk⟩ := hk
  obtain ⟨x9, r9, rfl, h9, hk⟩ := hk
  obtain ⟨x10, r10, rfl, h10, hk⟩ := hk
  obtain ⟨x11, r11, rfl, h11, hk⟩ := hk
  obtain ⟨x12, r12, rfl, h12, hk⟩ := hk
  obtain ⟨x13, r13, rfl, h13, hk⟩ := hk
  have hk : r13 = [] := hk
  subst hk
  exact ⟨m, hm, x0, x1, x2, x3, x4, x5, x6, x7, x8, x9, x10, x11, x12, x13, rfl, h0, h1, h2, h3, h4, h5, h6, h7, h8, h9, h10, h11, h12, h13⟩
theorem shape_st37 (h : Shape Tryz.prog n 37 xs) : ∃ m, m < n ∧ ∃ x0 x1 x2, xs = x0 ++ (x1 ++ (x2 ++ [])) ∧ Shape Tryz.prog m 3 x0 ∧ Shape Tryz.prog m 3 x1 ∧ Shape Tryz.prog m 35 x2 := by
  obtain ⟨m, hm, hk⟩ := shape_struct under37 h
  rw [fields37] at hk
  obtain ⟨x0, r0, rfl, h0, hk⟩ := hk
  obtain ⟨x1, r1, rfl, h1, hk⟩ := hk
  obtain ⟨x2, r2, rfl, h2, hk⟩ := hk
  have hk : r2 = [] := hk
  subst hk
  exact ⟨m, hm, x0, x1, x2, rfl, h0, h1, h2⟩
theorem shape_st39 (h : Shape Tryz.prog n 39 xs) : ∃ m, m < n ∧ ∃ x0 x1, xs = x0 ++ (x1 ++ []) ∧ Shape Tryz.prog m 3 x0 ∧ Shape Tryz.prog m 32 x1 := by
  obtain ⟨m, hm, hk⟩ := shape_struct under39 h
  rw [fields39] at hk
  obtain ⟨x0, r0, rfl, h0, hk⟩ := hk
  obtain ⟨x1, r1, rfl, h1, hk⟩ := hk
  have hk : r1 = [] := hk
  subst hk
  exact ⟨m, hm, x0, x1, rfl, h0, h1⟩
theorem shape_st43 (h : Shape Tryz.prog n 43 xs) : ∃ m, m < n ∧ ∃ x0 x1 x2 x3 x4 x5, xs = x0 ++ (x1 ++ (x2 ++ (x3 ++ (x4 ++ (x5 ++ []))))) ∧ Shape Tryz.prog m 3 x0 ∧ Shape Tryz.prog m 3 x1 ∧ Shape Tryz.prog m 3 x2 ∧ Shape Tryz.prog m 9 x3 ∧ Shape Tryz.prog m 40 x4 ∧ Shape Tryz.prog m 41 x5 := by
  obtain ⟨m, hm, hk⟩ := shape_struct under43 h
  rw [fields43] at hk
  obtain ⟨x0, r0, rfl, h0, hk⟩ := hk
  obtain ⟨x1, r1, rfl, h1, hk⟩ := hk
  obtain ⟨x2, r2, rfl, h2, hk⟩ := hk
  obtain ⟨x3, r3, rfl, h3, hk⟩ := hk
  obtain ⟨x4, r4, rfl, h4, hk⟩ := hk
  obtain ⟨x5, r5, rfl, h5, hk⟩ := hk
  have hk : r5 = [] := hk
  subst hk
  exact ⟨m, hm, x0, x1, x2, x3, x4, x5, rfl, h0, h1, h2, h3, h4, h5⟩
theorem shape_st45 (h : Shape Tryz.prog n 45 xs) : ∃ m, m < n ∧ ∃ x0 x1 x2 x3, xs = x0 ++ (x1 ++ (x2 ++ (x3 ++ []))) ∧ Shape Tryz.prog m 39 x0 ∧ Shape Tryz.prog m 3 x1 ∧ Shape Tryz.prog m 32 x2 ∧ Shape Tryz.prog m 43 x3 := by
  obtain ⟨m, hm, hk⟩ := shape_struct under45 h
  rw [fields45] at hk
  obtain ⟨x0, r0, rfl, h0, hk⟩ := hk
  obtain ⟨x1, r1, rfl, h1, hk⟩ := hk
  obtain ⟨x2, r2, rfl, h2, hk⟩ := hk
  obtain ⟨x3, r3, rfl, h3, hk⟩ := hk
  have hk : r3 = [] := hk
  subst hk
  exact ⟨m, hm, x0, x1, x2, x3, rfl, h0, h1, h2, h3⟩
theorem shape_st47 (h : Shape Tryz.prog n 47 xs) : ∃ m, m < n ∧ ∃ x0 x1 x2 x3 x4 x5 x6 x7, xs = x0 ++ (x1 ++ (x2 ++ (x3 ++ (x4 ++ (x5 ++ (x6 ++ (x7 ++ []))))))) ∧ Shape Tryz.prog m 3 x0 ∧ Shape Tryz.prog m 3 x1 ∧ Shape Tryz.prog m 39 x2 ∧ Shape Tryz.prog m 45 x3 ∧ Shape Tryz.prog m 3 x4 ∧ Shape Tryz.prog m 4 x5 ∧ Shape Tryz.prog m 4 x6 ∧ Shape Tryz.prog m 43 x7 := by
  obtain ⟨m, hm, hk⟩ := shape_struct under47 h
  rw [fields47] at hk
  obtain ⟨x0, r0, rfl, h0, hk⟩ := hk
  obtain ⟨x1, r1, rfl, h1, hk⟩ := hk
  obtain ⟨x2, r2, rfl, h2, hk⟩ := hk
  obtain ⟨x3, r3, rfl, h3, hk⟩ := hk
  obtain ⟨x4, r4, rfl, h4, hk⟩ := hk
  obtain ⟨x5, r5, rfl, h5, hk⟩ := hk
  obtain ⟨x6, r6, rfl, h6, hk⟩ := hk
  obtain ⟨x7, r7, rfl, h7, hk⟩ := hk
  have hk : r7 = [] := hk
  subst hk
  exact ⟨m, hm, x0, x1, x2, x3, x4, x5, x6, x7, rfl, h0, h1, h2, h3, h4, h5, h6, h7⟩
theorem shape_st78 (h : Shape Tryz.prog n 78 xs) : ∃ m, m < n ∧ ∃ x0 x1 x2 x3 x4, xs = x0 ++ (x1 ++ (x2 ++ (x3 ++ (x4 ++ [])))) ∧ Shape Tryz.prog m 43 x0 ∧ Shape Tryz.prog m 3 x1 ∧ Shape Tryz.prog m 3 x2 ∧ Shape Tryz.prog m 56 x3 ∧ Shape Tryz.prog m 40 x4 := by
  obtain ⟨m, hm, hk⟩ := shape_struct under78 h
  rw [fields78] at hk
  obtain ⟨x0, r0, rfl, h0, hk⟩ := hk
  obtain ⟨x1, r1, rfl, h1, hk⟩ := hk
  obtain ⟨x2, r2, rfl, h2, hk⟩ := hk
  obtain ⟨x3, r3, rfl, h3, hk⟩ := hk
  obtain ⟨x4, r4, rfl, h4, hk⟩ := hk
  have hk : r4 = [] := hk
  subst hk
  exact ⟨m, hm, x0, x1, x2, x3, x4, rfl, h0, h1, h2, h3, h4⟩
theorem shape_st98 (h : Shape Tryz.prog n 98 xs) : ∃ m, m < n ∧ ∃ x0 x1 x2 x3 x4, xs = x0 ++ (x1 ++ (x2 ++ (x3 ++ (x4 ++ [])))) ∧ Shape Tryz.prog m 3 x0 ∧ Shape Tryz.prog m 3 x1 ∧ Shape Tryz.prog m 9 x2 ∧ Shape Tryz.prog m 40 x3 ∧ Shape Tryz.prog m 27 x4 := by
  obtain ⟨m, hm, hk⟩ := shape_struct under98 h
  rw [fields98] at hk
  obtain ⟨x0, r0, rfl, h0, hk⟩ := hk
  obtain ⟨x1, r1, rfl, h1, hk⟩ := hk
  obtain ⟨x2, r2, rfl, h2, hk⟩ := hk
  obtain ⟨x3, r3, rfl, h3, hk⟩ := hk
  obtain ⟨x4, r4, rfl, h4, hk⟩ := hk
  have hk : r4 = [] := hk
  subst hk
  exact ⟨m, hm, x0, x1, x2, x3, x4, rfl, h0, h1, h2, h3, h4⟩
theorem shape_st100 (h : Shape Tryz.prog n 100 xs) : ∃ m, m < n ∧ ∃ x0 x1, xs = x0 ++ (x1 ++ []) ∧ Shape Tryz.prog m 9 x0 ∧ Shape Tryz.prog m 98 x1 := by
  obtain ⟨m, hm, hk⟩ := shape_struct under100 h
  rw [fields100] at hk
  obtain ⟨x0, r0, rfl, h0, hk⟩ := hk
  obtain ⟨x1, r1, rfl, h1, hk⟩ := hk
  have hk : r1 = [] := hk
  subst hk
  exact ⟨m, hm, x0, x1, rfl, h0, h1⟩
theorem shape_st103 (h : Shape Tryz.prog n 103 xs) : ∃ m, m < n ∧ ∃ x0 x1, xs = x0 ++ (x1 ++ []) ∧ Shape Tryz.prog m 9 x0 ∧ Shape Tryz.prog m 30 x1 := by
  obtain ⟨m, hm, hk⟩ := shape_struct under103 h
  rw [fields103] at hk
  obtain ⟨x0, r0, rfl, h0, hk⟩ := hk
  obtain ⟨x1, r1, rfl, h1, hk⟩ := hk
  have hk : r1 = [] := hk
  subst hk
  exact ⟨m, hm, x0, x1, rfl, h0, h1⟩
theorem shape_st144 (h : Shape Tryz.prog n 144 xs) : ∃ m, m < n ∧ ∃ x0 x1 x2 x3 x4, xs = x0 ++ (x1 ++ (x2 ++ (x3 ++ (x4 ++ [])))) ∧ Shape Tryz.prog m 3 x0 ∧ Shape Tryz.prog m 9 x1 ∧ Shape Tryz.prog m 3 x2 ∧ Shape Tryz.prog m 26 x3 ∧ Shape Tryz.prog m 40 x4 := by
  obtain ⟨m, hm, hk⟩ := shape_struct under144 h
  rw [fields144] at hk
  obtain ⟨x0, r0, rfl, h0, hk⟩ := hk
  obtain ⟨x1, r1, rfl, h1, hk⟩ := hk
  obtain ⟨x2, r2, rfl, h2, hk⟩ := hk
  obtain ⟨x3, r3, rfl, h3, hk⟩ := hk
  obtain ⟨x4, r4, rfl, h4, hk⟩ := hk
  have hk : r4 = [] := hk
  subst hk
  exact ⟨m, hm, x0, x1, x2, x3, x4, rfl, h0, h1, h2, h3, h4⟩
theorem shape_st146 (h : Shape Tryz.prog n 146 xs) : ∃ m, m < n ∧ ∃ x0 x1, xs = x0 ++ (x1 ++ []) ∧ Shape Tryz.prog m 9 x0 ∧ Shape Tryz.prog m 43 x1 := by
  obtain ⟨m, hm, hk⟩ := shape_struct under146 h
  rw [fields146] at hk
  obtain ⟨x0, r0, rfl, h0, hk⟩ := hk
  obtain ⟨x1, r1, rfl, h1, hk⟩ := hk
  have hk : r1 = [] := hk
  subst hk
  exact ⟨m, hm, x0, x1, rfl, h0, h1⟩

theorem shape_val : ∀ (n : Nat) (xs : List X), Shape Tryz.prog n 43 xs → ∃ v : Val, xs = v.cells := by
  intro n
  induction n using Nat.strongRecOn with
  | _ n ih =>
    intro xs h
    obtain ⟨m, hm, x0, x1, x2, x3, x4, x5, rfl, h0, h1, h2, h3, h4, h5⟩ := shape_st43 h
    obtain ⟨k, rfl⟩ := shape_num h0
    obtain ⟨i, rfl⟩ := shape_num h1
    obtain ⟨s, rfl⟩ := shape_num h2
    obtain ⟨t, rfl⟩ := shape_text h3
    obtain ⟨es, rfl, m1, hm1, he⟩ := shape_sl40 h4
    obtain ⟨fs, rfl, m2, hm2, hf⟩ := shape_sl41 h5
    obtain ⟨l, rfl⟩ := list_of Val.cells fun c hc => ih m1 (by omega) c (he c hc)
    obtain ⟨f, rfl⟩ := list_of (fun p : ByteArray × Val => strX p.1 :: p.2.cells) (es := fs) fun c hc => by
      obtain ⟨m3, hm3, y0, y1, rfl, g0, g1⟩ := shape_st146 (hf c hc)
      obtain ⟨nm, rfl⟩ := shape_text g0
      obtain ⟨v, rfl⟩ := ih m3 (by omega) y1 g1
      exact ⟨(nm, v), by simp⟩
    exact ⟨.mk k i s t l f, by rw [Val.cells, cellsL_eq, cellsF_eq]; rfl⟩
theorem shape_vals (h : Shape Tryz.prog n 40 xs) : ∃ l : List Val, xs = [.sl false 6 (cellsL l)] := by
  obtain ⟨es, rfl, m, _, he⟩ := shape_sl40 h
  obtain ⟨l, rfl⟩ := list_of Val.cells fun c hc => shape_val m c (he c hc)
  exact ⟨l, by rw [cellsL_eq]⟩
theorem shape_isVals {es : List (List X)} {m : Nat} (h : ∀ c, c ∈ es → Shape Tryz.prog m 43 c) : ∀ c, c ∈ es → isVal c := fun c hc => shape_val m c (h c hc)
theorem shape_ints (h : Shape Tryz.prog n 32 xs) : ∃ l : List Int, xs = [.sl false 1 (intsC l)] := by
  obtain ⟨es, rfl, m, _, he⟩ := shape_sl32 h
  obtain ⟨l, rfl⟩ := list_of (fun z : Int => [num z]) fun c hc => shape_num (he c hc)
  exact ⟨l, rfl⟩
theorem shape_stp (h : Shape Tryz.prog n 39 xs) : ∃ s : Stp, xs = s.cells := by
  obtain ⟨m, hm, x0, x1, rfl, h0, h1⟩ := shape_st39 h
  obtain ⟨e, rfl⟩ := shape_num h0
  obtain ⟨p, rfl⟩ := shape_ints h1
  exact ⟨⟨e, p⟩, rfl⟩
theorem shape_msg (h : Shape Tryz.prog n 45 xs) : ∃ s : Msg, xs = s.cells := by
  obtain ⟨m, hm, x0, x1, x2, x3, rfl, h0, h1, h2, h3⟩ := shape_st45 h
  obtain ⟨s, rfl⟩ := shape_stp h0
  obtain ⟨k, rfl⟩ := shape_num h1
  obtain ⟨p, rfl⟩ := shape_ints h2
  obtain ⟨v, rfl⟩ := shape_val _ _ h3
  exact ⟨⟨s, k, p, v⟩, by simp [Msg.cells, Stp.cells]⟩
theorem shape_msgs (h : Shape Tryz.prog n 56 xs) : ∃ l : List Msg, xs = [.sl false 10 (msgsC l)] := by
  obtain ⟨es, rfl, m, _, he⟩ := shape_sl56 h
  obtain ⟨l, rfl⟩ := list_of Msg.cells fun c hc => shape_msg (he c hc)
  exact ⟨l, rfl⟩
theorem shape_slt (h : Shape Tryz.prog n 78 xs) : ∃ s : Slt, xs = s.cells := by
  obtain ⟨m, hm, x0, x1, x2, x3, x4, rfl, h0, h1, h2, h3, h4⟩ := shape_st78 h
  obtain ⟨⟨k, i, s, t, l, f⟩, rfl⟩ := shape_val _ _ h0
  obtain ⟨a, rfl⟩ := shape_num h1
  obtain ⟨b, rfl⟩ := shape_num h2
  obtain ⟨ms, rfl⟩ := shape_msgs h3
  obtain ⟨vs, rfl⟩ := shape_vals h4
  exact ⟨⟨.mk k i s t l f, a, b, ms, vs⟩, rfl⟩
theorem shape_stt (h : Shape Tryz.prog n 37 xs) : ∃ s : Stt, xs = s.cells := by
  obtain ⟨m, hm, x0, x1, x2, rfl, h0, h1, h2⟩ := shape_st37 h
  obtain ⟨a, rfl⟩ := shape_num h0
  obtain ⟨b, rfl⟩ := shape_num h1
  obtain ⟨es, rfl, m', _, he⟩ := shape_sl35 h2
  obtain ⟨l, rfl⟩ := list_of Slt.cells fun c hc => shape_slt (he c hc)
  exact ⟨⟨a, b, l⟩, rfl⟩
theorem shape_inp (h : Shape Tryz.prog n 47 xs) : ∃ i : Inp, xs = i.cells := by
  obtain ⟨m, hm, x0, x1, x2, x3, x4, x5, x6, x7, rfl, h0, h1, h2, h3, h4, h5, h6, h7⟩ := shape_st47 h
  obtain ⟨a, rfl⟩ := shape_num h0
  obtain ⟨b, rfl⟩ := shape_num h1
  obtain ⟨s, rfl⟩ := shape_stp h2
  obtain ⟨g, rfl⟩ := shape_msg h3
  obtain ⟨x, rfl⟩ := shape_num h4
  obtain ⟨b1, rfl⟩ := shape_flag h5
  obtain ⟨b2, rfl⟩ := shape_flag h6
  obtain ⟨v, rfl⟩ := shape_val _ _ h7
  exact ⟨⟨a, b, s, g, x, b1, b2, v⟩, by simp [Inp.cells, Msg.cells, Stp.cells]⟩
theorem shape_exp : ∀ (k : Nat) {n : Nat} {xs : List X}, Shape Tryz.prog n 98 xs → isExp k xs
  | 0, n, xs, h => by
    obtain ⟨m, hm, x0, x1, x2, x3, x4, rfl, h0, h1, h2, h3, h4⟩ := shape_st98 h
    obtain ⟨o, rfl⟩ := shape_num h0
    obtain ⟨i, rfl⟩ := shape_num h1
    obtain ⟨t, rfl⟩ := shape_text h2
    obtain ⟨vs, rfl, m1, _, hv⟩ := shape_sl40 h3
    obtain ⟨es, rfl, m2, _, he⟩ := shape_sl27 h4
    exact ⟨o, i, t, vs, es, rfl, shape_isVals hv⟩
  | k + 1, n, xs, h => by
    obtain ⟨m, hm, x0, x1, x2, x3, x4, rfl, h0, h1, h2, h3, h4⟩ := shape_st98 h
    obtain ⟨o, rfl⟩ := shape_num h0
    obtain ⟨i, rfl⟩ := shape_num h1
    obtain ⟨t, rfl⟩ := shape_text h2
    obtain ⟨vs, rfl, m1, _, hv⟩ := shape_sl40 h3
    obtain ⟨es, rfl, m2, _, he⟩ := shape_sl27 h4
    exact ⟨o, i, t, vs, es, rfl, shape_isVals hv, fun x hx => shape_exp k (he x hx)⟩
theorem shape_typ : ∀ (k : Nat) {n : Nat} {xs : List X}, Shape Tryz.prog n 26 xs → isTyp k xs
  | 0, n, xs, h => by
    obtain ⟨m, hm, x0, x1, x2, x3, x4, x5, x6, rfl, h0, h1, h2, h3, h4, h5, h6⟩ := shape_st26 h
    obtain ⟨a, rfl⟩ := shape_num h0
    obtain ⟨b, rfl⟩ := shape_num h1
    obtain ⟨c, rfl⟩ := shape_num h2
    obtain ⟨d, rfl⟩ := shape_num h3
    obtain ⟨w, rfl, m1, _, hw⟩ := shape_sl22 h4
    obtain ⟨e, rfl, m2, _, he⟩ := shape_sl23 h5
    obtain ⟨f, rfl, m3, _, hf⟩ := shape_sl24 h6
    exact ⟨a, b, c, d, w, e, f, rfl, fun x hx => shape_text (hw x hx)⟩
  | k + 1, n, xs, h => by
    obtain ⟨m, hm, x0, x1, x2, x3, x4, x5, x6, rfl, h0, h1, h2, h3, h4, h5, h6⟩ := shape_st26 h
    obtain ⟨a, rfl⟩ := shape_num h0
    obtain ⟨b, rfl⟩ := shape_num h1
    obtain ⟨c, rfl⟩ := shape_num h2
    obtain ⟨d, rfl⟩ := shape_num h3
    obtain ⟨w, rfl, m1, _, hw⟩ := shape_sl22 h4
    obtain ⟨e, rfl, m2, _, he⟩ := shape_sl23 h5
    obtain ⟨f, rfl, m3, _, hf⟩ := shape_sl24 h6
    refine ⟨a, b, c, d, w, e, f, rfl, fun x hx => shape_text (hw x hx), fun x hx => shape_typ k (he x hx), fun x hx => ?_⟩
    obtain ⟨m4, _, y0, y1, y2, T, y4, rfl, g0, g1, g2, g3, g4⟩ := shape_st144 (hf x hx)
    obtain ⟨p, rfl⟩ := shape_num g0
    obtain ⟨t, rfl⟩ := shape_text g1
    obtain ⟨y, rfl⟩ := shape_num g2
    obtain ⟨de, rfl, m5, _, hd⟩ := shape_sl40 g4
    exact ⟨p, t, y, T, de, by simp, shape_typ k g3, shape_isVals hd⟩
theorem shape_rule (h : Shape Tryz.prog n 100 xs) : isRule xs := by
  obtain ⟨m, hm, x0, x1, rfl, h0, h1⟩ := shape_st100 h
  obtain ⟨t, rfl⟩ := shape_text h0
  exact ⟨t, x1, by simp, shape_exp 3 h1⟩
theorem shape_rules (h : Shape Tryz.prog n 30 xs) : ∃ es, xs = [.sl false 6 es] ∧ ∀ x, x ∈ es → isRule x := by
  obtain ⟨m, hm, x0, rfl, h0⟩ := shape_st30 h
  obtain ⟨es, rfl, m1, _, he⟩ := shape_sl28 h0
  exact ⟨es, rfl, fun x hx => shape_rule (he x hx)⟩
theorem shape_call (h : Shape Tryz.prog n 103 xs) : isCall xs := by
  obtain ⟨m, hm, x0, x1, rfl, h0, h1⟩ := shape_st103 h
  obtain ⟨t, rfl⟩ := shape_text h0
  obtain ⟨es, rfl, he⟩ := shape_rules h1
  exact ⟨t, es, rfl, he⟩
theorem shape_node (h : Shape Tryz.prog n 34 xs) : isNode xs := by
  obtain ⟨m, hm, x0, x1, x2, x3, x4, x5, x6, x7, T, x9, x10, x11, x12, x13, rfl, h0, h1, h2, h3, h4, h5, h6, h7, h8, h9, h10, h11, h12, h13⟩ := shape_st34 h
  obtain ⟨name, rfl⟩ := shape_text h0
  obtain ⟨k1, rfl⟩ := shape_num h1
  obtain ⟨k2, rfl⟩ := shape_num h2
  obtain ⟨k3, rfl⟩ := shape_num h3
  obtain ⟨k4, rfl⟩ := shape_num h4
  obtain ⟨k5, rfl⟩ := shape_num h5
  obtain ⟨k6, rfl⟩ := shape_num h6
  obtain ⟨text, rfl⟩ := shape_text h7
  obtain ⟨ty, rfl, _, _, hty⟩ := shape_sl23 h9
  obtain ⟨ex, rfl, _, _, hex⟩ := shape_sl27 h10
  obtain ⟨ru, rfl, hru⟩ := shape_rules h11
  obtain ⟨ca, rfl, _, _, hca⟩ := shape_sl31 h12
  obtain ⟨ne, rfl, _, _, hne⟩ := shape_sl32 h13
  exact ⟨name, k1, k2, k3, k4, k5, k6, text, T, ty, ex, ru, ca, ne, by simp, shape_typ 3 h8, fun x hx => shape_typ 3 (hty x hx), fun x hx => shape_exp 3 (hex x hx), hru, fun x hx => shape_call (hca x hx)⟩
end Go.Proofs.YtjfheahakfoofaaGreatDoor

/- ThrottleDelays comes to true. -/
namespace Go.Proofs.YtjfheahakfoofaaGreatDoor
open Go.Em

theorem delayed_items {s : Stt} (hd : delayedS s = true) : ∀ x, x ∈ s.slots → x.items ≠ [] := fun x hx e => by
  simp only [delayedS, Bool.and_eq_true, Bool.not_eq_true'] at hd
  have := List.all_eq_true.1 hd.2.2 x hx
  obtain ⟨⟨k, i, s, tx, vl, fl⟩, n2, c, ms, vs⟩ := x
  dsimp only at e
  subst e
  simp [badD, msgsC] at this
theorem delF_ok {n : Nod} {s : Stt} (hs : s.small) (hacc : (accOf s.slots).length ≤ 3000) {b : Stp} (hb : b.p.length ≤ 100) (now : Int) : (delF n s b now).ok := by
  have h1 := goL_le now s.slots
  have hok : ∀ m, m ∈ goL now s.slots → m.ok := fun m hm => accOf_ok hs m (goL_mem hm)
  refine Ocm.ok_of ⟨?_, fun x hx => (hs.slot x (List.mem_filter.1 hx).1).1⟩ ⟨?_, outsF_ok hb hok (Nat.le_refl _)⟩ ⟨?_, fatesF_ok hb hok (Nat.le_refl _)⟩ (nilP _)
  · have := hs.slots
    have h2 : (stayL now s.slots).length ≤ s.slots.length := List.length_filter_le _ _
    show (stayL now s.slots).length ≤ 60000
    omega
  · show (outsF b (goL now s.slots) (goL now s.slots).length).length ≤ 60000
    simp [outsF]; omega
  · show (fatesF n.name b (goL now s.slots) (goL now s.slots).length).length ≤ 60000
    simp [fatesF]; omega

set_option maxRecDepth 100000 in
theorem delay_both (n : Nod) (hk : n.kind = 8) (s : Stt) (hs : s.small) (hne : ∀ x, x ∈ s.slots → x.items ≠ []) (hacc : (accOf s.slots).length ≤ 3000) (i : Inp) (hi : i.ok) : StepBoth n s i := by
  by_cases h1 : i.kind = 1
  · exact dmsg_step n hk s hs hne i hi h1
  have k8 : (n.kind == 8) = true := by simpa using hk
  by_cases h2 : i.kind = 2
  · refine ⟨delF n s i.st (nowF i), delF_ok hs hacc hi.st _, .inr (.inl ⟨h2, rfl⟩), fun N hN => ?_, fun N hN => mdel_clk N (by omega) n hk s hs hne hacc i hi h2⟩
    obtain ⟨M, rfl⟩ : ∃ M, N = M + 1 := ⟨N - 1, by omega⟩
    have hcl := clone_state_pure M s hs.ok (by omega)
    obtain ⟨ci, hci, e1, e2, e3⟩ := cin_of i
    have h := delay_clk M (by omega) n s hs hacc ci i.st hi.st e2 e3
    rw [e1] at h
    rw [h2] at hci
    rw [hci]
    change Gam.pureD (callF tab ext M) 30 [.agg n.cells, .agg s.cells, .agg (ci.cells 2)] = some (.agg (delF n s i.st (nowF i)).cells) at h
    generalize delF n s i.st (nowF i) = oc at h ⊢
    exact pure_of [(8, .p (.agg s.cells)), (11, .b true), (15, .p (.agg oc.cells))] [] (pf3 hcl k8 h) (x := .agg oc.cells) (bx := []) (by kernel_rfl) rfl
  · refine ⟨plainO s, plainO_ok hs.ok, .inr (.inr ⟨h1, h2, rfl⟩), fun N hN => ?_, fun N hN => ?_⟩
    · obtain ⟨M, rfl⟩ : ∃ M, N = M + 3 := ⟨N - 3, by omega⟩
      have hcl := clone_state_pure (M + 2) s hs.ok (by omega)
      have hnow := clamp_pure M i.time 0 17592186044416
      generalize clampF i.time 0 17592186044416 = now at hnow
      have k1 : (i.kind == 1) = false := by simp [h1]
      have k2 : (i.kind == 2) = false := by simp [h2]
      obtain ⟨kd, tm, ⟨se, sp⟩, ⟨⟨e, p⟩, ms, o, ⟨a1, a2, a3, a4, a5, a6⟩⟩, x, b1, b2, ⟨c1, c2, c3, c4, c5, c6⟩⟩ := i
      dsimp only at k1 k2 hnow
      have h30 : Gam.pureD (callF tab ext (M + 2)) 30 [.agg n.cells, .agg s.cells, .agg (inX se kd tm (intsC sp) e (intsC p) ms (intsC o) a1 a2 a3 a4 (cellsL a5) (cellsF a6) x b1 b2 c1 c2 c3 c4 (cellsL c5) (cellsF c6))] = some (.agg (plainO s).cells) :=
        pure_of [(15, .p (num now)), (19, .b false), (46, .b false)] [] (pf3 hnow k1 k2) (x := .agg [num s.n, num s.t, .sl false 10 (sltsC s.slots), .sl true 11 [], .sl true 11 [], .sl true 6 [], .sl true 10 []]) (bx := []) (by kernel_rfl) rfl
      generalize plainO s = oc at h30 ⊢
      exact pure_of [(8, .p (.agg s.cells)), (11, .b true), (15, .p (.agg oc.cells))] [] (pf3 hcl k8 h30) (x := .agg oc.cells) (bx := []) (by kernel_rfl) rfl
    · obtain ⟨M, rfl⟩ : ∃ M, N = M + 1 := ⟨N - 1, by omega⟩
      have hnow : (if 0 < (if 17592186044416 < i.time then 17592186044416 else i.time) then (if 17592186044416 < i.time then 17592186044416 else i.time) else 0) = nowF i := by
        unfold nowF clampF maxTime
        rw [minI_comm]; rfl
      have k1 : (i.kind == 1) = false := by simp [h1]
      have k2 : (i.kind == 2) = false := by simp [h2]
      generalize nowF i = now at hnow
      obtain ⟨kd, tm, ⟨se, sp⟩, ⟨⟨e, p⟩, ms, o, ⟨a1, a2, a3, a4, a5, a6⟩⟩, x, b1, b2, ⟨c1, c2, c3, c4, c5, c6⟩⟩ := i
      dsimp only at k1 k2 hnow
      exact pure_of [(15, .i now), (19, .b false), (51, .b false), (99, .b false), (109, .b false)] [] (pf5 hnow k1 k2 k1 k2) (x := .agg [num s.n, num s.t, .sl false 10 (sltsC s.slots), .sl true 11 [], .sl true 11 [], .sl true 6 [], .sl true 10 []]) (bx := []) (by kernel_rfl) rfl

end Go.Proofs.YtjfheahakfoofaaGreatDoor

/- Masses of messages. -/
namespace Go.Proofs.YtjfheahakfoofaaGreatDoor
open Go.Em

def sumM : List Msg → Int
  | [] => 0
  | m :: r => m.mass + sumM r
theorem sumM_append : ∀ l m : List Msg, sumM (l ++ m) = sumM l + sumM m
  | [], m => by simp [sumM]
  | x :: r, m => by simp only [List.cons_append, sumM, sumM_append r m]; omega
/-- A mass as layer 31 bounds it. -/
def lightM (m : Msg) : Prop := 0 ≤ m.mass ∧ m.mass ≤ 1099511627776
def i8H (l : List (List X)) (n j : Nat) : St := ⟨[(0, .sl false 10 l), (1, .fn 78 []), (7, nat n), (8, nat j)], []⟩
def msH (l : List (List X)) (n j : Nat) (s : Int) : St := ⟨[(3, num s), (13, .sl false 10 l), (14, nat n), (15, nat j)], []⟩
def msN (l : List (List X)) (n j : Nat) (s : Int) (x : List X) : St := ⟨[(3, num s), (13, .sl false 10 l), (14, nat n), (15, nat (j + 1))], [.var x]⟩
end Go.Proofs.YtjfheahakfoofaaGreatDoor

/- What a step keeps: numbers and masses of messages. -/
namespace Go.Proofs.YtjfheahakfoofaaGreatDoor
open Go.Em

theorem accOf_set {ss : List Slt} {i : Nat} (h : i < ss.length) (x : Slt) : accOf (ss.set i x) = accOf (ss.take i) ++ x.items ++ accOf (ss.drop (i + 1)) := by
  rw [List.set_eq_take_append_cons_drop, if_pos h]
  simp [accOf]
theorem accOf_at {ss : List Slt} {i : Nat} (h : i < ss.length) : accOf ss = accOf (ss.take i) ++ ss[i].items ++ accOf (ss.drop (i + 1)) := by
  have := accOf_set h ss[i]
  rw [List.set_getElem_self] at this
  exact this
/-- A list of messages that is another one with one more, in some place. -/
def OneMore (m : Msg) (l l' : List Msg) : Prop := ∃ a b, l = a ++ b ∧ l' = a ++ [m] ++ b
theorem OneMore.length {m : Msg} {l l' : List Msg} (h : OneMore m l l') : l'.length = l.length + 1 := by
  obtain ⟨a, b, rfl, rfl⟩ := h
  simp; omega
theorem OneMore.sum {m : Msg} {l l' : List Msg} (h : OneMore m l l') : sumM l' = sumM l + m.mass := by
  obtain ⟨a, b, rfl, rfl⟩ := h
  simp only [sumM_append, sumM]; omega
theorem OneMore.mem {m : Msg} {l l' : List Msg} (h : OneMore m l l') : ∀ x, x ∈ l' → x = m ∨ x ∈ l := by
  obtain ⟨a, b, rfl, rfl⟩ := h
  intro x hx
  simp only [List.mem_append, List.mem_singleton] at hx ⊢
  rcases hx with (hx | hx) | hx
  · exact .inr (.inl hx)
  · exact .inl hx
  · exact .inr (.inr hx)
theorem gainS_one {b : Bool} {i : Nat} {key : Val} {t : Int} {m : Msg} {ss : List Slt} (hb : b = true → i < ss.length) : OneMore m (accOf ss) (accOf (gainS b i key t m ss)) := by
  unfold gainS putS
  cases b with
  | true =>
    have h := hb rfl
    rw [if_pos rfl, if_pos rfl, accOf_set h]
    have e : ss.getD i dSlt = ss[i] := by rw [List.getD_eq_getElem?_getD, List.getElem?_eq_getElem h]; rfl
    rw [e]
    refine ⟨accOf (ss.take i) ++ ss[i].items, accOf (ss.drop (i + 1)), accOf_at h, ?_⟩
    show accOf (ss.take i) ++ (ss[i].items ++ [m]) ++ accOf (ss.drop (i + 1)) = _
    simp
  | false =>
    rw [if_neg (by simp), if_neg (by simp)]
    refine ⟨accOf (ss.take i), accOf (ss.drop i), ?_, ?_⟩
    · unfold accOf; rw [← List.flatMap_append, List.take_append_drop]
    · simp [accOf]
theorem sum_out {b : Stp} {ms : List Msg} {k : Nat} (hk : k ≤ ms.length) : sumM ((outsF b ms k).map (·.m)) = sumM (ms.take k) := by
  induction k with
  | zero => simp [outsF, sumM]
  | succ k ih =>
    have hk' : k < ms.length := by omega
    have e1 : outsF b ms (k + 1) = outsF b ms k ++ [outM b (ms.getD k dM) k] := by simp [outsF, List.range_succ]
    rw [e1, List.map_append, sumM_append, ih (by omega), List.take_succ_eq_append_getElem hk', sumM_append]
    have e2 : ms.getD k dM = ms[k] := by rw [List.getD_eq_getElem?_getD, List.getElem?_eq_getElem hk']; rfl
    rw [e2]
    simp [sumM, outM, moveF]
theorem sum_split (now : Int) : ∀ ss : List Slt, sumM (accOf ss) = sumM (goL now ss) + sumM (accOf (stayL now ss))
  | [] => rfl
  | x :: r => by
    have ih := sum_split now r
    have e1 : accOf (x :: r) = x.items ++ accOf r := by simp [accOf]
    rw [e1, sumM_append, ih]
    unfold goL stayL
    rw [List.filter_cons, List.filter_cons]
    by_cases h : x.t ≤ now
    · rw [if_pos (decide_eq_true h), if_neg (by simpa using h)]
      have e2 : accOf (x :: r.filter fun x => decide (x.t ≤ now)) = x.items ++ accOf (r.filter fun x => decide (x.t ≤ now)) := by simp [accOf]
      rw [e2, sumM_append]; omega
    · rw [if_neg (by simpa using h), if_pos (by simpa using h)]
      have e2 : accOf (x :: r.filter fun x => !decide (x.t ≤ now)) = x.items ++ accOf (r.filter fun x => !decide (x.t ≤ now)) := by simp [accOf]
      rw [e2, sumM_append]; omega
end Go.Proofs.YtjfheahakfoofaaGreatDoor

/- The balance's two loops. -/
namespace Go.Proofs.YtjfheahakfoofaaGreatDoor
open Go.Em

def b1H (o : Ocm) (s : Int) (j : Nat) : St := ⟨[(7, .ptr 0 0 0), (8, num s), (9, nat j)], [.var o.cells]⟩
def b2H (o : Ocm) (s : Int) (j : Nat) : St := ⟨[(7, .ptr 0 0 0), (8, num s), (10, nat j)], [.var o.cells]⟩
end Go.Proofs.YtjfheahakfoofaaGreatDoor

/- Masses of cut messages; the state behind a release of a throttle. -/
namespace Go.Proofs.YtjfheahakfoofaaGreatDoor
open Go.Em

theorem light_short (m : Msg) : lightM (shortM m) := by
  show 0 ≤ cutM2 (cutM1 m.mass) ∧ cutM2 (cutM1 m.mass) ≤ 1099511627776
  unfold cutM2 cutM1
  constructor <;> (split <;> split <;> omega)
theorem light_shortS (s : Stt) : ∀ m, m ∈ accOf (shortS s).slots → lightM m := fun m hm => by
  obtain ⟨x, hx, hm⟩ := List.mem_flatMap.1 hm
  obtain ⟨y, _, rfl⟩ := List.mem_map.1 hx
  obtain ⟨z, _, rfl⟩ := List.mem_map.1 hm
  exact light_short z
theorem acc_rest {s : Stt} (ht : Thr s) (k : Nat) (hk : k ≤ (accOf s.slots).length) : accOf (restF s k).slots = (accOf s.slots).drop k := by
  cases ht with
  | none a b => simp [restF, accOf]
  | one a b items vals h =>
    have e : (accOf [(⟨nulV, 0, 0, items, vals⟩ : Slt)]) = items := by simp [accOf]
    dsimp only at hk ⊢
    rw [e] at hk ⊢
    unfold restF
    dsimp only
    split
    · simp [accOf]
    · rename_i hlt
      simp only [accOf, List.flatMap_nil]
      rw [List.drop_eq_nil_of_le]
      omega
end Go.Proofs.YtjfheahakfoofaaGreatDoor

/- What a step of a throttle or a delay keeps. -/
namespace Go.Proofs.YtjfheahakfoofaaGreatDoor
open Go.Em

/-- What comes in with an input. -/
def inM (i : Inp) : Int := if i.kind = 1 then i.m.mass else 0
/-- Masses are kept, and there are not many. -/
structure BalOk (o : Ocm) (s : Stt) (i : Inp) : Prop where
  outs : o.outs.length ≤ 24
  letters : o.letters.length ≤ 1
  held : (accOf o.s.slots).length ≤ 25
  light : ∀ m, m ∈ accOf o.s.slots → lightM m
  lightO : ∀ m, m ∈ o.outs.map (·.m) → lightM m
  lightL : ∀ m, m ∈ o.letters → lightM m
  sum : sumM (accOf o.s.slots) + sumM (o.outs.map (·.m)) + sumM o.letters = sumM (accOf s.slots) + inM i
theorem bal_plain {s : Stt} {i : Inp} (h1 : i.kind ≠ 1) (hl : (accOf s.slots).length ≤ 24) (hm : ∀ m, m ∈ accOf s.slots → lightM m) : BalOk (plainO s) s i :=
  ⟨by simp [plainO], by simp [plainO], by show (accOf s.slots).length ≤ 25; omega, hm, fun m h => by simp [plainO] at h, fun m h => by simp [plainO] at h, by simp [plainO, sumM, inM, h1]⟩
theorem bal_rej {n : Nod} {s : Stt} {i : Inp} (h1 : i.kind = 1) (hl : (accOf s.slots).length ≤ 24) (hm : ∀ m, m ∈ accOf s.slots → lightM m) (hi : lightM i.m) : BalOk (rejF n s i.m) s i :=
  ⟨by simp [rejF], by simp [rejF], by show (accOf s.slots).length ≤ 25; omega, hm, fun m h => by simp [rejF] at h, fun m h => by simp [rejF] at h; rw [h]; exact hi, by simp [rejF, sumM, inM, h1]⟩
theorem bal_more {s s' : Stt} {i : Inp} (h1 : i.kind = 1) (hl : (accOf s.slots).length ≤ 24) (hm : ∀ m, m ∈ accOf s.slots → lightM m) (hi : lightM i.m) (h : OneMore i.m (accOf s.slots) (accOf s'.slots)) : BalOk (plainO s') s i :=
  ⟨by simp [plainO], by simp [plainO], by show (accOf s'.slots).length ≤ 25; rw [h.length]; omega, fun m hmm => by rcases h.mem m hmm with rfl | h2
                                                                                                                   · exact hi
                                                                                                                   · exact hm m h2, fun m h => by simp [plainO] at h, fun m h => by simp [plainO] at h, by simp [plainO, sumM, inM, h1, h.sum]⟩
end Go.Proofs.YtjfheahakfoofaaGreatDoor

/- What a release keeps. -/
namespace Go.Proofs.YtjfheahakfoofaaGreatDoor
open Go.Em

theorem out_light {b : Stp} {ms : List Msg} {k : Nat} (hk : k ≤ ms.length) (hm : ∀ m, m ∈ ms → lightM m) : ∀ m, m ∈ (outsF b ms k).map (·.m) → lightM m := fun m h => by
  obtain ⟨x, hx, rfl⟩ := List.mem_map.1 h
  obtain ⟨i, hi, rfl⟩ := List.mem_map.1 hx
  exact hm (ms.getD i dM) (getD_mem (by have := List.mem_range.1 hi; omega))
theorem stay_sub {now : Int} {ss : List Slt} {m : Msg} (h : m ∈ accOf (stayL now ss)) : m ∈ accOf ss := by
  obtain ⟨x, hx, hm⟩ := List.mem_flatMap.1 h
  exact List.mem_flatMap.2 ⟨x, (List.mem_filter.1 hx).1, hm⟩
theorem stay_le (now : Int) : ∀ ss : List Slt, (accOf (stayL now ss)).length ≤ (accOf ss).length
  | [] => Nat.le_refl _
  | x :: r => by
    have := stay_le now r
    unfold stayL at this ⊢
    rw [List.filter_cons]
    split
    · simp only [accOf, List.flatMap_cons, List.length_append] at this ⊢; omega
    · simp only [accOf, List.flatMap_cons, List.length_append] at this ⊢; omega
theorem bal_del {n : Nod} {s : Stt} {i : Inp} (b : Stp) (now : Int) (h1 : i.kind = 2) (hl : (accOf s.slots).length ≤ 24) (hm : ∀ m, m ∈ accOf s.slots → lightM m) : BalOk (delF n s b now) s i := by
  have hg := goL_le now s.slots
  have hs := stay_le now s.slots
  have hsp := sum_split now s.slots
  refine ⟨?_, by simp [delF], ?_, fun m h => hm m (stay_sub h), out_light (Nat.le_refl _) fun m h => hm m (goL_mem h), fun m h => by simp [delF] at h, ?_⟩
  · show (outsF b (goL now s.slots) (goL now s.slots).length).length ≤ 24
    simp [outsF]; omega
  · show (accOf (stayL now s.slots)).length ≤ 25
    omega
  · have e : sumM ((outsF b (goL now s.slots) (goL now s.slots).length).map (·.m)) = sumM (goL now s.slots) := by rw [sum_out (Nat.le_refl _), List.take_length]
    show sumM (accOf (stayL now s.slots)) + sumM ((outsF b (goL now s.slots) (goL now s.slots).length).map (·.m)) + sumM [] = _
    rw [e, hsp]
    simp [sumM, inM, h1]; omega
end Go.Proofs.YtjfheahakfoofaaGreatDoor

/- What a throttle's step keeps, and a delay's. -/
namespace Go.Proofs.YtjfheahakfoofaaGreatDoor
open Go.Em

theorem addF_more {s : Stt} (ht : Thr s) (m : Msg) : OneMore m (accOf s.slots) (accOf (addF s m).slots) := by
  cases ht with
  | none a b => exact ⟨[], [], by simp [accOf], by simp [addF, accOf]⟩
  | one a b items vals h => exact ⟨items, [], by simp [accOf], by simp [addF, accOf]⟩
theorem bal_thr {n : Nod} {s : Stt} {i : Inp} (ht : Thr s) (hl : (accOf s.slots).length ≤ 24) (hm : ∀ m, m ∈ accOf s.slots → lightM m) (hi : lightM i.m) : BalOk (thrF n s i) s i := by
  unfold thrF
  by_cases h1 : i.kind = 1
  · rw [if_pos h1]
    unfold arrF
    split
    · refine ⟨by simp, by simp, by show (accOf s.slots).length ≤ 25; omega, hm, fun m h => ?_, fun m h => by simp at h, ?_⟩
      · simp at h; rw [h]; exact hi
      · show sumM (accOf s.slots) + sumM [i.m] + sumM [] = _
        simp [sumM, inM, h1]
    · split
      · exact bal_more h1 hl hm hi (addF_more ht i.m)
      · exact bal_rej h1 hl hm hi
  · rw [if_neg h1]
    by_cases h2 : i.kind = 2
    · rw [if_pos h2]
      unfold clkF
      dsimp only
      have hle : relN (accOf s.slots) (mostF n s (nowF i)) ≤ (accOf s.slots).length := Nat.min_le_left _ _
      generalize relN (accOf s.slots) (mostF n s (nowF i)) = k at hle ⊢
      split
      · exact bal_plain h1 hl hm
      · have hthr : Thr (leftF (perF n.time) s (nowF i) (Int.ofNat k)) := by
          cases ht with
          | none a b => exact .none _ _
          | one a b items vals h => exact .one _ _ items vals h
        have hacc := acc_rest hthr k hle
        have hsl : (leftF (perF n.time) s (nowF i) (Int.ofNat k)).slots = s.slots := rfl
        rw [hsl] at hacc
        refine ⟨?_, by simp, ?_, fun m h => ?_, out_light hle hm, fun m h => by simp at h, ?_⟩
        · show (outsF i.st (accOf s.slots) k).length ≤ 24
          simp [outsF]; omega
        · show (accOf (restF _ k).slots).length ≤ 25
          rw [hacc, List.length_drop]; omega
        · change m ∈ accOf (restF _ k).slots at h
          rw [hacc] at h
          exact hm m (List.mem_of_mem_drop h)
        · show sumM (accOf (restF _ k).slots) + sumM ((outsF i.st (accOf s.slots) k).map (·.m)) + sumM [] = _
          rw [hacc, sum_out hle]
          have : sumM (accOf s.slots) = sumM ((accOf s.slots).take k) + sumM ((accOf s.slots).drop k) := by rw [← sumM_append, List.take_append_drop]
          rw [this]
          simp [sumM, inM, h1]; omega
    · rw [if_neg h2]
      exact bal_plain h1 hl hm
theorem bal_delay {n : Nod} {s : Stt} {i : Inp} {o : Ocm} (hq : DelQ n s i o) (hl : (accOf s.slots).length ≤ 24) (hm : ∀ m, m ∈ accOf s.slots → lightM m) (hi : lightM i.m) : BalOk o s i := by
  rcases hq with ⟨h1, rfl | ⟨j, b, t, ⟨hb, _⟩, rfl⟩⟩ | ⟨h2, rfl⟩ | ⟨h1, _, rfl⟩
  · exact bal_rej h1 hl hm hi
  · exact bal_more h1 hl hm hi (gainS_one hb)
  · exact bal_del _ _ h2 hl hm
  · exact bal_plain h1 hl hm
end Go.Proofs.YtjfheahakfoofaaGreatDoor

/- States behind a step of a throttle pass the check. -/
namespace Go.Proofs.YtjfheahakfoofaaGreatDoor
open Go.Em

theorem chkN_iff {x y : Int} : chkN x y = 0 ↔ (-999999999999999 ≤ x ∧ x ≤ 999999999999999) ∧ 0 ≤ y ∧ y ≤ 17592186044416 := by
  unfold chkN
  simp only [decide_eq_true_eq]
  split
  · constructor
    · intro h; cases h
    · intro h; omega
  · split
    · constructor
      · intro h; cases h
      · intro h; omega
    · split
      · constructor
        · intro h; cases h
        · intro h; omega
      · split
        · constructor
          · intro h; cases h
          · intro h; omega
        · constructor
          · intro _; omega
          · intro _; rfl
theorem nullV_nul : nullV nulV = true := by
  simp [nullV, nulV, cellsL, cellsF]
/-- A state of a throttle, as the check asks. -/
def RightG (s : Stt) : Prop := 0 ≤ s.n ∧ (s.slots = [] ∨ ∃ items, items ≠ [] ∧ s.slots = [⟨nulV, 0, 0, items, []⟩])
theorem rightS_iff {s : Stt} : rightS s = true ↔ RightG s := by
  obtain ⟨a, b, ss⟩ := s
  constructor
  · intro h
    have hT := thr_of h
    simp only [rightS, Bool.and_eq_true, Bool.not_eq_true'] at h
    obtain ⟨h1, _, h3⟩ := h
    refine ⟨by have := of_decide_eq_false h1; dsimp only; omega, ?_⟩
    cases hT with
    | none => exact .inl rfl
    | one _ _ items vals hne =>
      right
      refine ⟨items, hne, ?_⟩
      simp only [List.all_cons, List.all_nil, Bool.and_true, badT, Bool.not_or, Bool.and_eq_true, Bool.not_not, Bool.not_eq_true', decide_eq_false_iff_not] at h3
      have hn := cellsL_length vals
      have : vals = [] := by
        apply List.eq_nil_of_length_eq_zero
        have := h3.2.2.2.2
        simp only [Int.ofNat_eq_natCast] at this
        omega
      rw [this]
  · intro ⟨h1, h2⟩
    dsimp only at h1 h2
    have h1' : decide (a < 0) = false := decide_eq_false (by omega)
    rcases h2 with rfl | ⟨items, hne, rfl⟩
    · show (!(decide (a < 0)) && _) = true
      rw [h1']; rfl
    · have hm : ((Int.ofNat (msgsC items).length) == 0) = false := by
        have := msgsC_length items
        have : items.length ≠ 0 := fun h => hne (List.eq_nil_of_length_eq_zero h)
        rw [beq_eq_false_iff_ne]; simp only [Int.ofNat_eq_natCast]; omega
      show (!(decide (a < 0)) && (_ && ([(⟨nulV, 0, 0, items, []⟩ : Slt)].all fun x => !badT x))) = true
      rw [h1']
      simp only [List.all_cons, List.all_nil, badT, hm, nullV_nul]
      rfl
theorem cmpS_ent {a b : Stp} (h : a.e ≠ b.e) : cmpS a b ≠ 0 := fun h0 => h (ordI_zero (orL_zero h0 (ordI a.e b.e) (by simp)))
theorem dist_sub {l l' : List Msg} (h : DistM l) (hs : List.Sublist l' l) : DistM l' := ⟨fun m hm => h.1 m (hs.subset hm), h.2.sublist hs⟩
theorem dist_more {m : Msg} {l l' : List Msg} (h : DistM l) (ho : OneMore m l l') (hm : chkM m = 0) (he : ∀ o, o ∈ l → o.st.e ≠ m.st.e) : DistM l' := by
  obtain ⟨a, b, rfl, rfl⟩ := ho
  obtain ⟨h1, h2⟩ := h
  rw [List.pairwise_append] at h2
  obtain ⟨h3, h4, h5⟩ := h2
  refine ⟨fun x hx => ?_, ?_⟩
  · simp only [List.mem_append, List.mem_singleton] at hx
    rcases hx with (hx | hx) | hx
    · exact h1 x (by simp [hx])
    · rw [hx]; exact hm
    · exact h1 x (by simp [hx])
  · rw [List.append_assoc, List.pairwise_append]
    refine ⟨h3, ?_, fun x hx y hy => ?_⟩
    · rw [List.singleton_append, List.pairwise_cons]
      exact ⟨fun y hy => cmpS_ent fun e => he y (by simp [hy]) e.symm, h4⟩
    · rcases List.mem_append.1 hy with hy | hy
      · rw [List.mem_singleton.1 hy]; exact cmpS_ent (he x (by simp [hx]))
      · exact h5 x hx y hy
theorem stG_num {s : Stt} (h : StG s) {a b : Int} (hn : chkN a b = 0) : StG ⟨a, b, s.slots⟩ := ⟨hn, h.key, h.ord, h.items⟩
theorem stG_one {a b : Int} (hn : chkN a b = 0) {items : List Msg} (hd : DistM items) : StG ⟨a, b, [⟨nulV, 0, 0, items, []⟩]⟩ :=
  ⟨hn, fun x hx => by rw [List.mem_singleton.1 hx]; exact ⟨.inr nullV_nul, show chkN 0 0 = 0 by decide⟩, by simp [OrdK], by simpa [accOf] using hd⟩
theorem stG_nil {a b : Int} (hn : chkN a b = 0) : StG ⟨a, b, []⟩ := ⟨hn, fun x hx => (by cases hx), .nil, ⟨fun x hx => (by cases hx), .nil⟩⟩
theorem winF_range {p : Nat} {a : Int} (h0 : 0 ≤ a) (h1 : a ≤ 17592186044416) : 0 ≤ winF p a ∧ winF p a ≤ a := by
  obtain ⟨k, rfl⟩ := Int.eq_ofNat_of_zero_le h0
  unfold winF
  rw [if_neg (by omega)]
  have hm : (k : Int).tmod (Int.ofNat (p + 1)) = ((k % (p + 1) : Nat) : Int) := rfl
  rw [hm]
  have := Nat.mod_le k (p + 1)
  rw [wrap_self (by omega) (by omega)]
  omega
theorem left_num {p : Nat} {s : Stt} {a k : Int} (h : chkN s.n s.t = 0) (h0 : 0 ≤ s.n) (ha : 0 ≤ a) (ha' : a ≤ 17592186044416) (hk : 0 ≤ k) (hk' : k ≤ 1000) :
    0 ≤ (leftF p s a k).n ∧ ((leftF p s a k).n ≤ 999999999999999 → chkN (leftF p s a k).n (leftF p s a k).t = 0) := by
  obtain ⟨hw1, hw2⟩ := winF_range (p := p) ha ha'
  rw [chkN_iff] at h
  have hc : 0 ≤ cntF p s.n s.t a ∧ cntF p s.n s.t a ≤ 999999999999999 := by
    unfold cntF numF; split
    · omega
    · split <;> omega
  show 0 ≤ IntKind.i64.wrap (cntF p s.n s.t a + k) ∧ (IntKind.i64.wrap (cntF p s.n s.t a + k) ≤ _ → chkN (IntKind.i64.wrap (cntF p s.n s.t a + k)) (maxI s.t (winF p a)) = 0)
  rw [wrap_self (by omega) (by omega), chkN_iff]
  refine ⟨by omega, fun hle => ⟨by omega, ?_⟩⟩
  unfold maxI
  split <;> omega

/-- What the check asks of a throttle's state. -/
def GoodT (s : Stt) : Prop := s.n > 999999999999999 ∨ (RightG s ∧ StG s)
theorem add_good {s : Stt} (hR : RightG s) (hG : StG s) {m : Msg} (hm : chkM m = 0) (he : ∀ o, o ∈ accOf s.slots → o.st.e ≠ m.st.e) : GoodT (addF s m) := by
  right
  obtain ⟨a, b, ss⟩ := s
  obtain ⟨h0, h⟩ := hR
  have hn := hG.num
  have hd := hG.items
  dsimp only at h0 h hn hd he
  rcases h with rfl | ⟨items, hne, rfl⟩
  · exact ⟨⟨h0, .inr ⟨[m], by simp, rfl⟩⟩, stG_one hn (dist_more hd ⟨[], [], rfl, rfl⟩ hm he)⟩
  · have e : accOf [(⟨nulV, 0, 0, items, []⟩ : Slt)] = items := by simp [accOf]
    rw [e] at hd he
    exact ⟨⟨h0, .inr ⟨items ++ [m], by simp, rfl⟩⟩, stG_one hn (dist_more hd ⟨items, [], by simp, by simp⟩ hm he)⟩
theorem thr_keeps {n : Nod} {s : Stt} {i : Inp} (hR : RightG s) (hG : StG s) (hl : (accOf s.slots).length ≤ 24) (hm : chkM i.m = 0) (he : ∀ o, o ∈ accOf s.slots → o.st.e ≠ i.m.st.e) : GoodT (thrF n s i).s := by
  obtain ⟨hn0, hn1⟩ := nowF_range i
  unfold thrF
  by_cases h1 : i.kind = 1
  · rw [if_pos h1]
    unfold arrF
    split
    · obtain ⟨h3, h4⟩ := left_num (p := perF n.time) (k := 1) hG.num hR.1 hn0 hn1 (by omega) (by omega)
      by_cases hbig : (leftF (perF n.time) s (nowF i) 1).n > 999999999999999
      · exact .inl hbig
      · exact .inr ⟨⟨h3, hR.2⟩, stG_num hG (h4 (by omega))⟩
    · split
      · exact add_good hR hG hm he
      · exact .inr ⟨hR, hG⟩
  · rw [if_neg h1]
    by_cases h2 : i.kind = 2
    · rw [if_pos h2]
      unfold clkF
      dsimp only
      have hle : relN (accOf s.slots) (mostF n s (nowF i)) ≤ (accOf s.slots).length := Nat.min_le_left _ _
      generalize relN (accOf s.slots) (mostF n s (nowF i)) = k at hle ⊢
      split
      · exact .inr ⟨hR, hG⟩
      · obtain ⟨h3, h4⟩ := left_num (p := perF n.time) (k := Int.ofNat k) hG.num hR.1 hn0 hn1 (by simp only [Int.ofNat_eq_natCast]; omega) (by simp only [Int.ofNat_eq_natCast]; omega)
        show GoodT (restF (leftF (perF n.time) s (nowF i) (Int.ofNat k)) k)
        have hs : (leftF (perF n.time) s (nowF i) (Int.ofNat k)).slots = s.slots := rfl
        have hd := hG.items
        generalize leftF (perF n.time) s (nowF i) (Int.ofNat k) = s' at h3 h4 hs ⊢
        obtain ⟨a, b, ss⟩ := s'
        dsimp only at hs h3 h4
        subst hs
        unfold restF
        rcases hR.2 with h | ⟨items, hne, h⟩
        · rw [h]
          dsimp only
          by_cases hbig : a > 999999999999999
          · exact .inl hbig
          · exact .inr ⟨⟨h3, .inl rfl⟩, stG_nil (h4 (by omega))⟩
        · rw [h] at hd ⊢
          have e : accOf [(⟨nulV, 0, 0, items, []⟩ : Slt)] = items := by simp [accOf]
          rw [e] at hd
          dsimp only
          split
          · rename_i hlt
            by_cases hbig : a > 999999999999999
            · exact .inl hbig
            · refine .inr ⟨⟨h3, .inr ⟨items.drop k, fun h0 => ?_, rfl⟩⟩, stG_one (h4 (by omega)) (dist_sub hd (List.drop_sublist _ _))⟩
              have := congrArg List.length h0
              rw [List.length_drop] at this
              simp only [List.length_nil] at this
              omega
          · by_cases hbig : a > 999999999999999
            · exact .inl hbig
            · exact .inr ⟨⟨h3, .inl rfl⟩, stG_nil (h4 (by omega))⟩
    · rw [if_neg h2]
      exact .inr ⟨hR, hG⟩
end Go.Proofs.YtjfheahakfoofaaGreatDoor

/- The key of a delay's slot passes its own check. -/
namespace Go.Proofs.YtjfheahakfoofaaGreatDoor
open Go.Em

theorem key_null {d : Int} : nullV (keyV d) = false := by
  simp [nullV, keyV]
theorem key_uses (N : Nat) (d : Int) : Gam.pureD (callF tab ext (N + 1)) 102 [.agg (keyV d).cells] = some (boolX true) := by
  have h : ((⟨#[]⟩ : ByteArray).toList == (⟨#[]⟩ : ByteArray).toList) = true := by simp
  exact pure_of [] [] pf0 (x := boolX true) (bx := []) (by kernel_rfl) rfl
theorem key_rule (N : Nat) (d : Int) (h0 : 0 < d) (h1 : d ≤ 17592186044416) : Gam.pureD (callF tab ext (N + 2)) 122 [.agg (keyV d).cells] = some (num 0) := by
  have hb : Gam.pureD (callF tab ext (N + 1)) 121 [num d, num (-999999999999999), num 999999999999999] = some (num 0) :=
    pure_of [(9, .b false), (13, .b false)] [] (pf2 (decide_eq_false (show ¬ d < -999999999999999 by omega)) (decide_eq_false (show ¬ 999999999999999 < d by omega))) (x := num 0) (bx := []) (by kernel_rfl) rfl
  exact pure_of [(5, .p (num 0))] [] (pf1 hb) (x := num 0) (bx := []) (by kernel_rfl) rfl
theorem key_round (N : Nat) (hN : 60012 ≤ N) (d : Int) (h0 : 0 < d) (h1 : d ≤ 17592186044416) : callF tab ext N .yl [.yl 0, num 1, .agg (keyV d).cells] (goC 0) = some (boolX true, goC 1) := by
  obtain ⟨M, rfl⟩ : ∃ M, N = M + 3 := ⟨N - 3, by omega⟩
  have hz := null_at (keyV d) (M + 2) (by omega)
  rw [key_null] at hz
  exact yield_of [(23, .p (boolX false)), (35, .p (boolX true)), (42, .p (num 0))] (pf3 hz (key_uses (M + 1) d) (key_rule M d h0 h1)) (by kernel_rfl)
set_option maxRecDepth 100000 in
theorem key_visit (N : Nat) (hN : 60030 ≤ N) (d : Int) (h0 : 0 < d) (h1 : d ≤ 17592186044416) : callF tab ext N (.fn 136) [.agg (keyV d).cells, num 1, .yl 0] (goC 0) = some (boolX true, goC 1) := by
  obtain ⟨M, rfl⟩ : ∃ M, N = M + 5 := ⟨N - 5, by omega⟩
  have hp := parts_pure (M + 4) (keyV d) (keyV_ok d) (by omega)
  have hps : partsV (keyV d) = [] := rfl
  rw [hps] at hp
  have hl : run (callF tab ext (M + 4)) 4 (M + 4) (.loop (loopAt 136 0)) (viH' [] 1 0 0 1 (keyV d).cells) = some (.exit 0, viE [] 1 0 0 1) := by
    simp only [run]
    rw [iter_canon (vi_canon' ..) (vi_canon ..)]
    kernel_rfl
  exact callF_of [(12, .r (boolX true) (goC 1)), (15, .p (.sl false 6 []))] [(.exit 0, viE [] 1 0 0 1)] (pf3 (key_round (M + 4) (by omega) d h0 h1) hp hl) (by kernel_rfl)
theorem key_check (N : Nat) (hN : 60035 ≤ N) (d : Int) (h0 : 0 < d) (h1 : d ≤ 17592186044416) : Gam.pureD (callF tab ext N) 65 [.agg (keyV d).cells] = some (num 0) := by
  obtain ⟨M, rfl⟩ : ∃ M, N = M + 3 := ⟨N - 3, by omega⟩
  have h5 : callF tab ext (M + 2) (.fn 135) [.yl 0, .dp (keyV d).cells] (goC 0) = some (.tup [], goC 1) :=
    callF_of [(5, .r (boolX true) (goC 1))] [] (pf1 (key_visit (M + 1) (by omega) d h0 h1)) (by kernel_rfl)
  have hrf : run (callF tab ext (M + 2)) 0 (M + 2) (.rf (.t 10) [11, 12] [2, 3, 4] (rfAt 65).1 (rfAt 65).2) (rfSt (keyV d).cells) = some (.norm, rfFin (keyV d).cells 0 1) :=
    rf_of (g := 135) (caps := [.dp (keyV d).cells]) (y := .tup []) (outb := goC 1)
      (q := (.tup [], [.var (keyV d).cells, .var [num 0], .var rulesX, .var [nat 1], recC .ready none], [4, 1, 2, 3])) h5 (by kernel_rfl) (by kernel_rfl) (by kernel_rfl)
  have hpre : Gam.pureD (callF tab ext (M + 2)) 101 [.agg (keyV d).cells] = some (.fn 135 [.dp (keyV d).cells]) :=
    pure_of [] [] pf0 (x := .fn 135 [.dp (keyV d).cells]) (bx := []) (by kernel_rfl) rfl
  have hrul : Gam.pureD (callF tab ext (M + 2)) 100 [] = some (.agg rulesX) :=
    pure_of [] [] pf0 (x := .agg rulesX) (bx := []) (by kernel_rfl) rfl
  exact pure_of [(8, .p (.agg rulesX)), (10, .p (.fn 135 [.dp (keyV d).cells]))] [(.norm, rfFin (keyV d).cells 0 1)] (pf3 hrul hpre hrf) (x := num 0) (bx := []) (by kernel_rfl) rfl
theorem key_good {d : Int} (h0 : 0 < d) (h1 : d ≤ 17592186044416) : chkV (keyV d) = 0 := by
  have h := chkV_at (keyV_ok d) 200000 (by have := keyV_ok d; unfold Val.ok at this; omega)
  rw [key_check 200000 (by omega) d h0 h1] at h
  simp only [num, Option.some.injEq, X.v.injEq, Value.int.injEq, true_and] at h
  exact h.symm
end Go.Proofs.YtjfheahakfoofaaGreatDoor

/- States behind a step of a delay pass the check. -/
namespace Go.Proofs.YtjfheahakfoofaaGreatDoor
open Go.Em

/-- A state of a delay, as the check asks. -/
def DelG (s : Stt) : Prop := s.n = 0 ∧ s.t = 0 ∧ ∀ x, x ∈ s.slots → badD x = false
theorem delayedS_iff {s : Stt} : delayedS s = true ↔ DelG s := by
  unfold delayedS DelG
  simp only [Bool.and_eq_true, Bool.not_not, beq_iff_eq, List.all_eq_true, Bool.not_eq_true']
theorem badD_iff {x : Slt} : badD x = false ↔ x.items ≠ [] ∧ (∃ i s t l f, x.key = .mk 2 i s t l f ∧ 1 ≤ i ∧ i = x.t) ∧ x.n = 0 ∧ x.vals = [] := by
  obtain ⟨⟨k, i, s, t, l, f⟩, n, d, ms, vs⟩ := x
  have hm := msgsC_length ms
  have hv := cellsL_length vs
  have e1 : (Int.ofNat (msgsC ms).length == 0) = false ↔ ms ≠ [] := by
    rw [beq_eq_false_iff_ne]
    simp only [Int.ofNat_eq_natCast]
    constructor
    · intro h e; subst e; rw [List.length_nil] at hm; omega
    · intro h e
      have : ms.length ≠ 0 := fun h0 => h (List.eq_nil_of_length_eq_zero h0)
      omega
  have e2 : decide (0 < Int.ofNat (cellsL vs).length) = false ↔ vs = [] := by
    rw [decide_eq_false_iff_not]
    simp only [Int.ofNat_eq_natCast]
    constructor
    · intro h; exact List.eq_nil_of_length_eq_zero (by omega)
    · intro h; subst h; rw [List.length_nil] at hv; omega
  simp only [badD, Bool.or_eq_false_iff, Bool.not_eq_false', e1, e2, beq_iff_eq, decide_eq_false_iff_not]
  constructor
  · intro ⟨h1, h2, h3, h4, h5, h6⟩
    exact ⟨h1, ⟨i, s, t, l, f, by rw [h2], by omega, h4⟩, h5, h6⟩
  · intro ⟨h1, ⟨i', s', t', l', f', h2, h3, h4⟩, h5, h6⟩
    cases h2
    exact ⟨h1, rfl, by omega, h4, h5, h6⟩
theorem ordK_put {ss : List Slt} {x : Slt} {i : Nat} (h : OrdK ss) (hi : i ≤ ss.length) (hs : Spot ss x.key i) (hn : ∀ h : i < ss.length, ¬ cmpV ss[i].key x.key = 0) : OrdK (ss.take i ++ [x] ++ ss.drop i) := by
  have hg : ∀ (j : Nat) (hj : j < ss.length), ss.getD j dSlt = ss[j] := fun j hj => by rw [List.getD_eq_getElem?_getD, List.getElem?_eq_getElem hj]; rfl
  have hp := List.pairwise_iff_getElem.1 h
  have hb : ∀ y, y ∈ ss.take i → cmpV x.key y.key = 1 := fun y hy => by
    obtain ⟨j, hj, rfl⟩ := List.mem_iff_getElem.1 hy
    rw [List.length_take] at hj
    rw [List.getElem_take]
    have hl := cmpV_lt (hs.before (by omega))
    rw [hg _ (by omega)] at hl
    by_cases e : j = i - 1
    · subst e; exact hl
    · exact cmpV_gt hl (hp j (i - 1) (by omega) (by omega) (by omega))
  have ha : ∀ y, y ∈ ss.drop i → cmpV y.key x.key = 1 := fun y hy => by
    obtain ⟨j, hj, rfl⟩ := List.mem_iff_getElem.1 hy
    rw [List.length_drop] at hj
    rw [List.getElem_drop]
    have hil : i < ss.length := by omega
    have h1 := hs.behind hil
    rw [hg _ hil] at h1
    have h2 := hn hil
    have h3 : cmpV ss[i].key x.key = 1 := by
      rcases cmpV_rng ss[i].key x.key with h | h | h <;> omega
    by_cases e : j = 0
    · subst e; exact h3
    · exact cmpV_gt (hp i (i + j) (by omega) (by omega) (by omega)) h3
  unfold OrdK at h ⊢
  rw [List.append_assoc, List.pairwise_append]
  refine ⟨h.sublist (List.take_sublist _ _), ?_, fun y hy z hz => ?_⟩
  · rw [List.singleton_append, List.pairwise_cons]
    exact ⟨ha, h.sublist (List.drop_sublist _ _)⟩
  · rcases List.mem_append.1 hz with hz | hz
    · rw [List.mem_singleton.1 hz]; exact hb y hy
    · exact cmpV_gt (ha z hz) (hb y hy)
theorem ordK_set {ss : List Slt} {x : Slt} {i : Nat} (h : OrdK ss) (hi : i < ss.length) (hk : x.key = ss[i].key) : OrdK (ss.set i x) := by
  have hp := List.pairwise_iff_getElem.1 h
  refine List.pairwise_iff_getElem.2 fun a b ha hb hab => ?_
  rw [List.length_set] at ha hb
  have key : ∀ (j : Nat) (hj : j < ss.length), ((ss.set i x)[j]'(by rw [List.length_set]; exact hj)).key = ss[j].key := fun j hj => by
    rw [List.getElem_set]
    split
    · rename_i e; subst e; exact hk
    · rfl
  rw [key a ha, key b hb]
  exact hp a b ha hb hab
theorem accOf_sub {ss tt : List Slt} (h : List.Sublist tt ss) : List.Sublist (accOf tt) (accOf ss) := by
  induction h with
  | slnil => exact .slnil
  | cons x _ ih => exact ih.trans (by simp only [accOf, List.flatMap_cons]; exact List.sublist_append_right _ _)
  | cons_cons x _ ih => simp only [accOf, List.flatMap_cons]; exact List.Sublist.append_left ih _

theorem gain_good {s : Stt} (hD : DelG s) (hG : StG s) {m : Msg} (hm : chkM m = 0) (he : ∀ o, o ∈ accOf s.slots → o.st.e ≠ m.st.e) {j : Nat} {b : Bool} {t : Int} (hb : b = true → j < s.slots.length) (hj : j ≤ s.slots.length)
    (hsp : b = false → Spot s.slots (keyV t) j ∧ ∀ h : j < s.slots.length, ¬ cmpV s.slots[j].key (keyV t) = 0) (ht0 : 0 < t) (ht1 : t ≤ 17592186044416) : DelG ⟨s.n, s.t, gainS b j (keyV t) t m s.slots⟩ ∧ StG ⟨s.n, s.t, gainS b j (keyV t) t m s.slots⟩ := by
  have hone := gainS_one (b := b) (i := j) (key := keyV t) (t := t) (m := m) (ss := s.slots) hb
  have hitems := dist_more hG.items hone hm he
  obtain ⟨hD1, hD2, hD3⟩ := hD
  cases b with
  | false =>
    have eg : gainS false j (keyV t) t m s.slots = s.slots.take j ++ [⟨keyV t, 0, t, [m], []⟩] ++ s.slots.drop j := rfl
    have hmem : ∀ x, x ∈ gainS false j (keyV t) t m s.slots → x = ⟨keyV t, 0, t, [m], []⟩ ∨ x ∈ s.slots := fun x hx => by
      rw [eg] at hx
      simp only [List.mem_append, List.mem_singleton] at hx
      rcases hx with (hx | hx) | hx
      · exact .inr (List.mem_of_mem_take hx)
      · exact .inl hx
      · exact .inr (List.mem_of_mem_drop hx)
    refine ⟨⟨hD1, hD2, fun x hx => ?_⟩, hG.num, fun x hx => ?_, ?_, hitems⟩
    · rcases hmem x hx with rfl | hx
      · exact badD_iff.2 ⟨by simp, ⟨t, 0, ⟨#[]⟩, [], [], rfl, by omega, rfl⟩, rfl, rfl⟩
      · exact hD3 x hx
    · rcases hmem x hx with rfl | hx
      · exact ⟨.inl (key_good ht0 ht1), chkN_iff.2 (by dsimp only; omega)⟩
      · exact hG.key x hx
    · show OrdK (gainS false j (keyV t) t m s.slots)
      rw [eg]
      exact ordK_put (x := ⟨keyV t, 0, t, [m], []⟩) hG.ord hj (hsp rfl).1 (hsp rfl).2
  | true =>
    have hlt := hb rfl
    have hgd : s.slots.getD j dSlt = s.slots[j] := by rw [List.getD_eq_getElem?_getD, List.getElem?_eq_getElem hlt]; rfl
    have eg : gainS true j (keyV t) t m s.slots = s.slots.set j { s.slots[j] with items := s.slots[j].items ++ [m] } := by
      unfold gainS putS
      rw [if_pos rfl, if_pos rfl, hgd]
    have hmem : ∀ x, x ∈ gainS true j (keyV t) t m s.slots → x = { s.slots[j] with items := s.slots[j].items ++ [m] } ∨ x ∈ s.slots := fun x hx => by
      rw [eg] at hx
      exact (List.mem_or_eq_of_mem_set hx).symm
    have hjm : s.slots[j] ∈ s.slots := List.getElem_mem hlt
    refine ⟨⟨hD1, hD2, fun x hx => ?_⟩, hG.num, fun x hx => ?_, ?_, hitems⟩
    · rcases hmem x hx with rfl | hx
      · obtain ⟨h1, h2, h3, h4⟩ := badD_iff.1 (hD3 _ hjm)
        exact badD_iff.2 ⟨by simp, h2, h3, h4⟩
      · exact hD3 x hx
    · rcases hmem x hx with rfl | hx
      · have := hG.key s.slots[j] hjm
        exact this
      · exact hG.key x hx
    · show OrdK (gainS true j (keyV t) t m s.slots)
      rw [eg]
      exact ordK_set hG.ord hlt rfl
theorem del_keeps {n : Nod} {s : Stt} {i : Inp} {o : Ocm} (hq : DelQ n s i o) (hD : DelG s) (hG : StG s) (hm : chkM i.m = 0) (he : ∀ o, o ∈ accOf s.slots → o.st.e ≠ i.m.st.e) : DelG o.s ∧ StG o.s := by
  rcases hq with ⟨_, rfl | ⟨j, b, t, ⟨hb, hj, hsp, ht0, ht1⟩, rfl⟩⟩ | ⟨_, rfl⟩ | ⟨_, _, rfl⟩
  · exact ⟨hD, hG⟩
  · exact gain_good hD hG hm he hb hj hsp ht0 ht1
  · have hsub : List.Sublist (stayL (nowF i) s.slots) s.slots := List.filter_sublist
    exact ⟨⟨hD.1, hD.2.1, fun x hx => hD.2.2 x (hsub.subset hx)⟩, hG.num, fun x hx => hG.key x (hsub.subset hx), hG.ord.sublist hsub, dist_sub hG.items (accOf_sub hsub)⟩
  · exact ⟨hD, hG⟩
end Go.Proofs.YtjfheahakfoofaaGreatDoor

/- The state behind a step is small. -/
namespace Go.Proofs.YtjfheahakfoofaaGreatDoor
open Go.Em

/-- Sizes as layer 31 makes them, with room. -/
structure Stt.tiny (s : Stt) : Prop where
  slots : s.slots.length ≤ 50
  slot : ∀ x, x ∈ s.slots → x.ok ∧ x.items.length ≤ 50 ∧ x.vals.length ≤ 50
theorem Stt.tiny.small {s : Stt} (h : s.tiny) : s.small := ⟨by have := h.slots; omega, fun x hx => by
  obtain ⟨h1, h2, h3⟩ := h.slot x hx
  exact ⟨h1, by omega, by omega⟩⟩
theorem tiny_gain {s : Stt} (h : s.tiny) {m : Msg} (hm : m.ok) {b : Bool} {i : Nat} {key : Val} (hk : key.ok) {t : Int} (hb : b = true → i < s.slots.length) : (Stt.mk s.n s.t (gainS b i key t m s.slots)).small := by
  refine ⟨?_, fun y hy => ?_⟩
  · have := h.slots
    have := putS_length (b := b) (i := i) (x := if b then { s.slots.getD i dSlt with items := (s.slots.getD i dSlt).items ++ [m] } else ⟨key, 0, t, [m], []⟩) (ss := s.slots)
    show (gainS b i key t m s.slots).length ≤ 100
    unfold gainS
    omega
  · rcases putS_mem hy with rfl | h'
    · cases b with
      | true =>
        rw [if_pos rfl]
        have hi := hb rfl
        have e : s.slots.getD i dSlt = s.slots[i] := by rw [List.getD_eq_getElem?_getD, List.getElem?_eq_getElem hi]; rfl
        rw [e]
        obtain ⟨h1, h2, h3⟩ := h.slot _ (List.getElem_mem hi)
        refine ⟨⟨h1.key, ?_, fun z hz => ?_, h1.vals, h1.val⟩, ?_, by dsimp only; omega⟩
        · show (s.slots[i].items ++ [m]).length ≤ 60000
          simp; omega
        · rcases List.mem_append.1 hz with hz | hz
          · exact h1.item z hz
          · rw [List.mem_singleton.1 hz]; exact hm
        · show (s.slots[i].items ++ [m]).length ≤ 100
          simp; omega
      | false =>
        rw [if_neg (by simp)]
        exact ⟨⟨hk, by simp, fun z hz => by rw [List.mem_singleton.1 hz]; exact hm, by simp, fun z hz => by cases hz⟩, by simp, by simp⟩
    · exact (h.small.slot y h')
end Go.Proofs.YtjfheahakfoofaaGreatDoor

/- The states behind a throttle's step and a delay's are small. -/
namespace Go.Proofs.YtjfheahakfoofaaGreatDoor
open Go.Em

theorem small_del {n : Nod} {s : Stt} {i : Inp} {o : Ocm} (hq : DelQ n s i o) (h : s.tiny) (hm : i.m.ok) : o.s.small := by
  rcases hq with ⟨_, rfl | ⟨j, b, t, ⟨hb, _⟩, rfl⟩⟩ | ⟨_, rfl⟩ | ⟨_, _, rfl⟩
  · exact h.small
  · exact tiny_gain h hm (keyV_ok t) hb
  · refine ⟨?_, fun x hx => h.small.slot x (List.mem_filter.1 hx).1⟩
    have := h.slots
    have h2 : (stayL (nowF i) s.slots).length ≤ s.slots.length := List.length_filter_le _ _
    show (stayL (nowF i) s.slots).length ≤ 100
    omega
  · exact h.small
theorem shortS_tiny (s : Stt) : (shortS s).tiny := by
  have hs := shortS_small s
  refine ⟨?_, fun x hx => ⟨(hs.slot x hx).1, ?_, ?_⟩⟩
  · show ((s.slots.take 6).map shortL).length ≤ 50
    rw [List.length_map, List.length_take]; omega
  · obtain ⟨y, _, rfl⟩ := List.mem_map.1 hx
    show ((y.items.take 4).map shortM).length ≤ 50
    rw [List.length_map, List.length_take]; omega
  · obtain ⟨y, _, rfl⟩ := List.mem_map.1 hx
    show ((y.vals.take 4).map (shortV 3)).length ≤ 50
    rw [List.length_map, List.length_take]; omega
end Go.Proofs.YtjfheahakfoofaaGreatDoor

/- The state behind a throttle's step is small. -/
namespace Go.Proofs.YtjfheahakfoofaaGreatDoor
open Go.Em

theorem small_rest {s : Stt} (h : s.small) (k : Nat) : (restF s k).small := by
  obtain ⟨a, b, ss⟩ := s
  cases ss with
  | nil => exact h
  | cons x r =>
    unfold restF
    dsimp only
    obtain ⟨h1, h2, h3⟩ := h.slot x (by simp)
    split
    · refine ⟨by simp, fun y hy => ?_⟩
      rw [List.mem_singleton.1 hy]
      refine ⟨⟨h1.key, ?_, fun m hm => h1.item m (List.mem_of_mem_drop hm), h1.vals, h1.val⟩, ?_, h3⟩
      · show (x.items.drop k).length ≤ 60000
        rw [List.length_drop]; omega
      · show (x.items.drop k).length ≤ 100
        rw [List.length_drop]; omega
    · exact ⟨by simp, fun y hy => by cases hy⟩
theorem small_left {s : Stt} (h : s.small) (p : Nat) (a k : Int) : (leftF p s a k).small := ⟨h.slots, h.slot⟩
end Go.Proofs.YtjfheahakfoofaaGreatDoor

/- The state behind a throttle's step is small: all cases. -/
namespace Go.Proofs.YtjfheahakfoofaaGreatDoor
open Go.Em

theorem small_add {s : Stt} (h : s.tiny) {m : Msg} (hm : m.ok) : (addF s m).small := by
  obtain ⟨a, b, ss⟩ := s
  cases ss with
  | nil =>
    refine ⟨by simp [addF], fun y hy => ?_⟩
    rw [List.mem_singleton.1 hy]
    exact ⟨⟨by unfold Val.ok nulV; simp [Val.size, sizeL, sizeF], by simp, fun z hz => by rw [List.mem_singleton.1 hz]; exact hm, by simp, fun z hz => by cases hz⟩, by simp, by simp⟩
  | cons x r =>
    obtain ⟨h1, h2, h3⟩ := h.slot x (by simp)
    refine ⟨by simp [addF], fun y hy => ?_⟩
    rw [List.mem_singleton.1 hy]
    refine ⟨⟨h1.key, ?_, fun z hz => ?_, h1.vals, h1.val⟩, ?_, by dsimp only; omega⟩
    · show (x.items ++ [m]).length ≤ 60000
      simp; omega
    · rcases List.mem_append.1 hz with hz | hz
      · exact h1.item z hz
      · rw [List.mem_singleton.1 hz]; exact hm
    · show (x.items ++ [m]).length ≤ 100
      simp; omega
theorem small_thr {n : Nod} {s : Stt} {i : Inp} (h : s.tiny) (hi : i.ok) : (thrF n s i).s.small := by
  unfold thrF
  split
  · unfold arrF
    split
    · exact small_left h.small _ _ _
    · split
      · exact small_add h hi.m
      · exact h.small
  · split
    · unfold clkF
      dsimp only
      split
      · exact h.small
      · exact small_rest (small_left h.small _ _ _) _
    · exact h.small
end Go.Proofs.YtjfheahakfoofaaGreatDoor

/- ThrottleBalances comes to true: the joining. -/
namespace Go.Proofs.YtjfheahakfoofaaGreatDoor
open Go.Em

end Go.Proofs.YtjfheahakfoofaaGreatDoor
