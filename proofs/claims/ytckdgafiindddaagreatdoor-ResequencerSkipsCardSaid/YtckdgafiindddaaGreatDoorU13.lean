/- Nodes, cut to their sizes. -/
import Derived.Laws.Bits64
import Derived.Test.YtckdgafiindddaaGreatDoorU12
set_option linter.all false
namespace Go.Proofs.YtckdgafiindddaaGreatDoor
open Go.Em
set_option maxRecDepth 100000

/-- A node: its numbers and texts; what the rest holds stays as it is. -/
structure Nod where
  name : ByteArray
  kind : Int
  schema : Int
  result : Int
  number : Int
  time : Int
  limit : Int
  text : ByteArray
  ty : Int × Int × Int × Int
  words : List (List X)
  elem : List (List X)
  fields : List (List X)
  types : List (List X)
  exprs : List (List X)
  calls : List (List X)
  rules : List (List X)
  next : List (List X)
def Nod.cells (n : Nod) : List X := [strX n.name, num n.kind, num n.schema, num n.result, num n.number, num n.time, num n.limit, strX n.text, num n.ty.1, num n.ty.2.1, num n.ty.2.2.1, num n.ty.2.2.2, .sl false 1 n.words, .sl false 7 n.elem, .sl false 11 n.fields, .sl false 7 n.types, .sl false 5 n.exprs, .sl false 6 n.rules, .sl false 2 n.calls, .sl false 1 n.next]
def isNode (c : List X) : Prop := ∃ (name : ByteArray) (k1 k2 k3 k4 k5 k6 : Int) (text : ByteArray) (T : List X) (ty ex ru ca ne : List (List X)), c = [strX name, num k1, num k2, num k3, num k4, num k5, num k6, strX text] ++ (T ++ [.sl false 7 ty, .sl false 5 ex, .sl false 6 ru, .sl false 2 ca, .sl false 1 ne]) ∧ isTyp 3 T ∧ (∀ x, x ∈ ty → isTyp 3 x) ∧ (∀ x, x ∈ ex → isExp 3 x) ∧ (∀ x, x ∈ ru → isRule x) ∧ ∀ x, x ∈ ca → isCall x
end Go.Proofs.YtckdgafiindddaaGreatDoor

/- The arguments of the laws: what reads as data of their types is a node, a state, an input. -/
namespace Go.Proofs.YtckdgafiindddaaGreatDoor
open Go.Em Go.RowKit
set_option maxRecDepth 100000

theorem Tryz.own : ownKnob Tryz.prog.godebug = none := by kernel_rfl
theorem Tryz.laidOut : laidOutB Tryz.prog = true := by kernel_rfl
theorem Tryz.rowed : mapsRowed Tryz.prog = true := by kernel_rfl
def tys : List TypeId := [3, 4, 9, 25, 27, 24, 30, 31, 32, 34, 35, 36, 38, 39, 40, 42, 49, 50, 51, 53, 55, 68, 83, 81, 95, 383, 385, 381]
theorem tys_ok : dataTys Tryz.prog tys = true := by kernel_rfl
theorem tys_size : tys.all (fun t => decide (t < Tryz.prog.types.size)) = true := by kernel_rfl
theorem tys_lt {t : TypeId} (h : t ∈ tys) : t < Tryz.prog.types.size := of_decide_eq_true (List.all_eq_true.1 tys_size t h)
theorem tys_kids : Kids Tryz.prog (fun t => t ∈ tys ∧ t < Tryz.prog.types.size) := kids_data (kids_rows Tryz.laidOut Tryz.rowed) tys_ok
def fieldsOf (P : Program) (t : TypeId) : Array Field := match P.underlying t with
  | some (.struct fs) => fs
  | _ => #[]
theorem under3 : Tryz.prog.underlying 3 = some (.int .i64) := by kernel_rfl
theorem under4 : Tryz.prog.underlying 4 = some .bool := by kernel_rfl
theorem under9 : Tryz.prog.underlying 9 = some .string := by kernel_rfl
theorem under27 : Tryz.prog.underlying 27 = some (.struct (fieldsOf Tryz.prog 27)) := by kernel_rfl
theorem fields27 : (fieldsOf Tryz.prog 27).toList.map (·.type) = [3, 3, 25] := by kernel_rfl
theorem under34 : Tryz.prog.underlying 34 = some (.struct (fieldsOf Tryz.prog 34)) := by kernel_rfl
theorem fields34 : (fieldsOf Tryz.prog 34).toList.map (·.type) = [3, 3, 3, 3, 30, 31, 32] := by kernel_rfl
theorem under38 : Tryz.prog.underlying 38 = some (.struct (fieldsOf Tryz.prog 38)) := by kernel_rfl
theorem fields38 : (fieldsOf Tryz.prog 38).toList.map (·.type) = [36] := by kernel_rfl
theorem under42 : Tryz.prog.underlying 42 = some (.struct (fieldsOf Tryz.prog 42)) := by kernel_rfl
theorem fields42 : (fieldsOf Tryz.prog 42).toList.map (·.type) = [9, 3, 3, 3, 3, 3, 3, 9, 34, 31, 35, 38, 39, 40] := by kernel_rfl
theorem under49 : Tryz.prog.underlying 49 = some (.struct (fieldsOf Tryz.prog 49)) := by kernel_rfl
theorem fields49 : (fieldsOf Tryz.prog 49).toList.map (·.type) = [3, 40] := by kernel_rfl
theorem under53 : Tryz.prog.underlying 53 = some (.struct (fieldsOf Tryz.prog 53)) := by kernel_rfl
theorem fields53 : (fieldsOf Tryz.prog 53).toList.map (·.type) = [3, 3, 3, 9, 50, 51] := by kernel_rfl
theorem under55 : Tryz.prog.underlying 55 = some (.struct (fieldsOf Tryz.prog 55)) := by kernel_rfl
theorem fields55 : (fieldsOf Tryz.prog 55).toList.map (·.type) = [49, 3, 40, 53] := by kernel_rfl
theorem under68 : Tryz.prog.underlying 68 = some (.struct (fieldsOf Tryz.prog 68)) := by kernel_rfl
theorem fields68 : (fieldsOf Tryz.prog 68).toList.map (·.type) = [3, 3, 49, 55, 3, 4, 4, 53] := by kernel_rfl
theorem under83 : Tryz.prog.underlying 83 = some (.struct (fieldsOf Tryz.prog 83)) := by kernel_rfl
theorem fields83 : (fieldsOf Tryz.prog 83).toList.map (·.type) = [53, 3, 3, 24, 50] := by kernel_rfl
theorem under81 : Tryz.prog.underlying 81 = some (.struct (fieldsOf Tryz.prog 81)) := by kernel_rfl
theorem fields81 : (fieldsOf Tryz.prog 81).toList.map (·.type) = [3, 3, 9, 50, 35] := by kernel_rfl
theorem under95 : Tryz.prog.underlying 95 = some (.struct (fieldsOf Tryz.prog 95)) := by kernel_rfl
theorem fields95 : (fieldsOf Tryz.prog 95).toList.map (·.type) = [9, 53] := by kernel_rfl
theorem under383 : Tryz.prog.underlying 383 = some (.struct (fieldsOf Tryz.prog 383)) := by kernel_rfl
theorem fields383 : (fieldsOf Tryz.prog 383).toList.map (·.type) = [9, 81] := by kernel_rfl
theorem under385 : Tryz.prog.underlying 385 = some (.struct (fieldsOf Tryz.prog 385)) := by kernel_rfl
theorem fields385 : (fieldsOf Tryz.prog 385).toList.map (·.type) = [9, 38] := by kernel_rfl
theorem under381 : Tryz.prog.underlying 381 = some (.struct (fieldsOf Tryz.prog 381)) := by kernel_rfl
theorem fields381 : (fieldsOf Tryz.prog 381).toList.map (·.type) = [3, 9, 3, 34, 50] := by kernel_rfl
theorem under25 : Tryz.prog.underlying 25 = some (.slice 83) := by kernel_rfl
theorem under24 : Tryz.prog.underlying 24 = some (.slice 55) := by kernel_rfl
theorem under30 : Tryz.prog.underlying 30 = some (.slice 9) := by kernel_rfl
theorem under31 : Tryz.prog.underlying 31 = some (.slice 34) := by kernel_rfl
theorem under32 : Tryz.prog.underlying 32 = some (.slice 381) := by kernel_rfl
theorem under35 : Tryz.prog.underlying 35 = some (.slice 81) := by kernel_rfl
theorem under36 : Tryz.prog.underlying 36 = some (.slice 383) := by kernel_rfl
theorem under39 : Tryz.prog.underlying 39 = some (.slice 385) := by kernel_rfl
theorem under40 : Tryz.prog.underlying 40 = some (.slice 3) := by kernel_rfl
theorem under50 : Tryz.prog.underlying 50 = some (.slice 53) := by kernel_rfl
theorem under51 : Tryz.prog.underlying 51 = some (.slice 95) := by kernel_rfl
theorem cells3 : Tryz.prog.cellsOf 3 = 1 := by kernel_rfl
theorem cells9 : Tryz.prog.cellsOf 9 = 1 := by kernel_rfl
theorem cells34 : Tryz.prog.cellsOf 34 = 7 := by kernel_rfl
theorem cells53 : Tryz.prog.cellsOf 53 = 6 := by kernel_rfl
theorem cells55 : Tryz.prog.cellsOf 55 = 10 := by kernel_rfl
theorem cells83 : Tryz.prog.cellsOf 83 = 10 := by kernel_rfl
theorem cells81 : Tryz.prog.cellsOf 81 = 5 := by kernel_rfl
theorem cells95 : Tryz.prog.cellsOf 95 = 7 := by kernel_rfl
theorem cells383 : Tryz.prog.cellsOf 383 = 6 := by kernel_rfl
theorem cells385 : Tryz.prog.cellsOf 385 = 2 := by kernel_rfl
theorem cells381 : Tryz.prog.cellsOf 381 = 11 := by kernel_rfl

variable {n : Nat} {xs : List X}
theorem shape_num (h : Shape Tryz.prog n 3 xs) : ∃ z, xs = [num z] := by
  obtain ⟨v, rfl, _⟩ := shape_int under3 h
  exact ⟨v, rfl⟩
theorem shape_text (h : Shape Tryz.prog n 9 xs) : ∃ s, xs = [strX s] := by
  obtain ⟨v, rfl, _⟩ := shape_string under9 h
  exact ⟨v, rfl⟩
theorem shape_flag (h : Shape Tryz.prog n 4 xs) : ∃ b, xs = [boolX b] := shape_bool under4 h
theorem shape_sl25 (h : Shape Tryz.prog n 25 xs) : ∃ es, xs = [.sl false 10 es] ∧ ∃ m, m < n ∧ ∀ c, c ∈ es → Shape Tryz.prog m 83 c := by
  obtain ⟨es, rfl, _, h⟩ := shape_slice under25 h<;>simp_all[cells83]
theorem shape_sl24 (h : Shape Tryz.prog n 24 xs) : ∃ es, xs = [.sl false 10 es] ∧ ∃ m, m < n ∧ ∀ c, c ∈ es → Shape Tryz.prog m 55 c := by
  obtain ⟨es, rfl, _, h⟩ := shape_slice under24 h<;>simp_all[cells55]
theorem shape_sl30 (h : Shape Tryz.prog n 30 xs) : ∃ es, xs = [.sl false 1 es] ∧ ∃ m, m < n ∧ ∀ c, c ∈ es → Shape Tryz.prog m 9 c := by
  obtain ⟨es, rfl, _, h⟩ := shape_slice under30 h<;>simp_all[cells9]
theorem shape_sl31 (h : Shape Tryz.prog n 31 xs) : ∃ es, xs = [.sl false 7 es] ∧ ∃ m, m < n ∧ ∀ c, c ∈ es → Shape Tryz.prog m 34 c := by
  obtain ⟨es, rfl, _, h⟩ := shape_slice under31 h<;>simp_all[cells34]
theorem shape_sl32 (h : Shape Tryz.prog n 32 xs) : ∃ es, xs = [.sl false 11 es] ∧ ∃ m, m < n ∧ ∀ c, c ∈ es → Shape Tryz.prog m 381 c := by
  obtain ⟨es, rfl, _, h⟩ := shape_slice under32 h<;>simp_all[cells381]
theorem shape_sl35 (h : Shape Tryz.prog n 35 xs) : ∃ es, xs = [.sl false 5 es] ∧ ∃ m, m < n ∧ ∀ c, c ∈ es → Shape Tryz.prog m 81 c := by
  obtain ⟨es, rfl, _, h⟩ := shape_slice under35 h<;>simp_all[cells81]
theorem shape_sl36 (h : Shape Tryz.prog n 36 xs) : ∃ es, xs = [.sl false 6 es] ∧ ∃ m, m < n ∧ ∀ c, c ∈ es → Shape Tryz.prog m 383 c := by
  obtain ⟨es, rfl, _, h⟩ := shape_slice under36 h<;>simp_all[cells383]
theorem shape_sl39 (h : Shape Tryz.prog n 39 xs) : ∃ es, xs = [.sl false 2 es] ∧ ∃ m, m < n ∧ ∀ c, c ∈ es → Shape Tryz.prog m 385 c := by
  obtain ⟨es, rfl, _, h⟩ := shape_slice under39 h<;>simp_all[cells385]
theorem shape_sl40 (h : Shape Tryz.prog n 40 xs) : ∃ es, xs = [.sl false 1 es] ∧ ∃ m, m < n ∧ ∀ c, c ∈ es → Shape Tryz.prog m 3 c := by
  obtain ⟨es, rfl, _, h⟩ := shape_slice under40 h<;>simp_all[cells3]
theorem shape_sl50 (h : Shape Tryz.prog n 50 xs) : ∃ es, xs = [.sl false 6 es] ∧ ∃ m, m < n ∧ ∀ c, c ∈ es → Shape Tryz.prog m 53 c := by
  obtain ⟨es, rfl, _, h⟩ := shape_slice under50 h<;>simp_all[cells53]
theorem shape_sl51 (h : Shape Tryz.prog n 51 xs) : ∃ es, xs = [.sl false 7 es] ∧ ∃ m, m < n ∧ ∀ c, c ∈ es → Shape Tryz.prog m 95 c := by
  obtain ⟨es, rfl, _, h⟩ := shape_slice under51 h<;>simp_all[cells95]
theorem shape_st27 (h : Shape Tryz.prog n 27 xs) : ∃ m, m < n ∧ ∃ x0 x1 x2, xs = x0 ++ (x1 ++ (x2 ++ [])) ∧ Shape Tryz.prog m 3 x0 ∧ Shape Tryz.prog m 3 x1 ∧ Shape Tryz.prog m 25 x2 := by
  obtain ⟨m, hm, hk⟩ := shape_struct under27 h
  rw [fields27] at hk
  obtain ⟨x0, r0, rfl, h0, hk⟩ := hk
  obtain ⟨x1, r1, rfl, h1, hk⟩ := hk
  obtain ⟨x2, r2, rfl, h2, hk⟩ := hk
  have hk : r2 = [] := hk
  grind
theorem shape_st34 (h : Shape Tryz.prog n 34 xs) : ∃ m, m < n ∧ ∃ x0 x1 x2 x3 x4 x5 x6, xs = x0 ++ (x1 ++ (x2 ++ (x3 ++ (x4 ++ (x5 ++ (x6 ++ [])))))) ∧ Shape Tryz.prog m 3 x0 ∧ Shape Tryz.prog m 3 x1 ∧ Shape Tryz.prog m 3 x2 ∧ Shape Tryz.prog m 3 x3 ∧ Shape Tryz.prog m 30 x4 ∧ Shape Tryz.prog m 31 x5 ∧ Shape Tryz.prog m 32 x6 := by
  obtain ⟨m, hm, hk⟩ := shape_struct under34 h
  rw [fields34] at hk
  obtain ⟨x0, r0, rfl, h0, hk⟩ := hk
  obtain ⟨x1, r1, rfl, h1, hk⟩ := hk
  obtain ⟨x2, r2, rfl, h2, hk⟩ := hk
  obtain ⟨x3, r3, rfl, h3, hk⟩ := hk
  obtain ⟨x4, r4, rfl, h4, hk⟩ := hk
  obtain ⟨x5, r5, rfl, h5, hk⟩ := hk
  obtain ⟨x6, r6, rfl, h6, hk⟩ := hk
  have hk : r6 = [] := hk
  grind
theorem shape_st38 (h : Shape Tryz.prog n 38 xs) : ∃ m, m < n ∧ ∃ x0, xs = x0 ++ [] ∧ Shape Tryz.prog m 36 x0 := by
  obtain ⟨m, hm, hk⟩ := shape_struct under38 h
  rw [fields38] at hk
  obtain ⟨x0, r0, rfl, h0, hk⟩ := hk
  have hk : r0 = [] := hk
  grind
theorem shape_st42 (h : Shape Tryz.prog n 42 xs) : ∃ m, m < n ∧ ∃ x0 x1 x2 x3 x4 x5 x6 x7 x8 x9 x10 x11 x12 x13, xs = x0 ++ (x1 ++ (x2 ++ (x3 ++ (x4 ++ (x5 ++ (x6 ++ (x7 ++ (x8 ++ (x9 ++ (x10 ++ (x11 ++ (x12 ++ (x13 ++ []))))))))))))) ∧ Shape Tryz.prog m 9 x0 ∧ Shape Tryz.prog m 3 x1 ∧ Shape Tryz.prog m 3 x2 ∧ Shape Tryz.prog m 3 x3 ∧ Shape Tryz.prog m 3 x4 ∧ Shape Tryz.prog m 3 x5 ∧ Shape Tryz.prog m 3 x6 ∧ Shape Tryz.prog m 9 x7 ∧ Shape Tryz.prog m 34 x8 ∧ Shape Tryz.prog m 31 x9 ∧ Shape Tryz.prog m 35 x10 ∧ Shape Tryz.prog m 38 x11 ∧ Shape Tryz.prog m 39 x12 ∧ Shape Tryz.prog m 40 x13 := by
  obtain ⟨m, hm, hk⟩ := shape_struct under42 h
  rw [fields42] at hk
  obtain ⟨x0, r0, rfl, h0, hk⟩ := hk
  obtain ⟨x1, r1, rfl, h1, hk⟩ := hk
  obtain ⟨x2, r2, rfl, h2, hk⟩ := hk
  obtain ⟨x3, r3, rfl, h3, hk⟩ := hk
  obtain ⟨x4, r4, rfl, h4, hk⟩ := hk
  obtain ⟨x5, r5, rfl, h5, hk⟩ := hk
  obtain ⟨x6, r6, rfl, h6, hk⟩ := hk
  obtain ⟨x7, r7, rfl, h7, hk⟩ := hk
  obtain ⟨x8, r8, rfl, h8, hk⟩ := hk
  obtain ⟨x9, r9, rfl, h9, hk⟩ := hk
  obtain ⟨x10, r10, rfl, h10, hk⟩ := hk
  obtain ⟨x11, r11, rfl, h11, hk⟩ := hk
  obtain ⟨x12, r12, rfl, h12, hk⟩ := hk
  obtain ⟨x13, r13, rfl, h13, hk⟩ := hk
  have hk : r13 = [] := hk
  grind
theorem shape_st49 (h : Shape Tryz.prog n 49 xs) : ∃ m, m < n ∧ ∃ x0 x1, xs = x0 ++ (x1 ++ []) ∧ Shape Tryz.prog m 3 x0 ∧ Shape Tryz.prog m 40 x1 := by
  obtain ⟨m, hm, hk⟩ := shape_struct under49 h
  rw [fields49] at hk
  obtain ⟨x0, r0, rfl, h0, hk⟩ := hk
  obtain ⟨x1, r1, rfl, h1, hk⟩ := hk
  have hk : r1 = [] := hk
  grind
theorem shape_st53 (h : Shape Tryz.prog n 53 xs) : ∃ m, m < n ∧ ∃ x0 x1 x2 x3 x4 x5, xs = x0 ++ (x1 ++ (x2 ++ (x3 ++ (x4 ++ (x5 ++ []))))) ∧ Shape Tryz.prog m 3 x0 ∧ Shape Tryz.prog m 3 x1 ∧ Shape Tryz.prog m 3 x2 ∧ Shape Tryz.prog m 9 x3 ∧ Shape Tryz.prog m 50 x4 ∧ Shape Tryz.prog m 51 x5 := by
  obtain ⟨m, hm, hk⟩ := shape_struct under53 h
  rw [fields53] at hk
  obtain ⟨x0, r0, rfl, h0, hk⟩ := hk
  obtain ⟨x1, r1, rfl, h1, hk⟩ := hk
  obtain ⟨x2, r2, rfl, h2, hk⟩ := hk
  obtain ⟨x3, r3, rfl, h3, hk⟩ := hk
  obtain ⟨x4, r4, rfl, h4, hk⟩ := hk
  obtain ⟨x5, r5, rfl, h5, hk⟩ := hk
  have hk : r5 = [] := hk
  grind
theorem shape_st55 (h : Shape Tryz.prog n 55 xs) : ∃ m, m < n ∧ ∃ x0 x1 x2 x3, xs = x0 ++ (x1 ++ (x2 ++ (x3 ++ []))) ∧ Shape Tryz.prog m 49 x0 ∧ Shape Tryz.prog m 3 x1 ∧ Shape Tryz.prog m 40 x2 ∧ Shape Tryz.prog m 53 x3 := by
  obtain ⟨m, hm, hk⟩ := shape_struct under55 h
  rw [fields55] at hk
  obtain ⟨x0, r0, rfl, h0, hk⟩ := hk
  obtain ⟨x1, r1, rfl, h1, hk⟩ := hk
  obtain ⟨x2, r2, rfl, h2, hk⟩ := hk
  obtain ⟨x3, r3, rfl, h3, hk⟩ := hk
  have hk : r3 = [] := hk
  grind
theorem shape_st68 (h : Shape Tryz.prog n 68 xs) : ∃ m, m < n ∧ ∃ x0 x1 x2 x3 x4 x5 x6 x7, xs = x0 ++ (x1 ++ (x2 ++ (x3 ++ (x4 ++ (x5 ++ (x6 ++ (x7 ++ []))))))) ∧ Shape Tryz.prog m 3 x0 ∧ Shape Tryz.prog m 3 x1 ∧ Shape Tryz.prog m 49 x2 ∧ Shape Tryz.prog m 55 x3 ∧ Shape Tryz.prog m 3 x4 ∧ Shape Tryz.prog m 4 x5 ∧ Shape Tryz.prog m 4 x6 ∧ Shape Tryz.prog m 53 x7 := by
  obtain ⟨m, hm, hk⟩ := shape_struct under68 h
  rw [fields68] at hk
  obtain ⟨x0, r0, rfl, h0, hk⟩ := hk
  obtain ⟨x1, r1, rfl, h1, hk⟩ := hk
  obtain ⟨x2, r2, rfl, h2, hk⟩ := hk
  obtain ⟨x3, r3, rfl, h3, hk⟩ := hk
  obtain ⟨x4, r4, rfl, h4, hk⟩ := hk
  obtain ⟨x5, r5, rfl, h5, hk⟩ := hk
  obtain ⟨x6, r6, rfl, h6, hk⟩ := hk
  obtain ⟨x7, r7, rfl, h7, hk⟩ := hk
  have hk : r7 = [] := hk
  grind
theorem shape_st83 (h : Shape Tryz.prog n 83 xs) : ∃ m, m < n ∧ ∃ x0 x1 x2 x3 x4, xs = x0 ++ (x1 ++ (x2 ++ (x3 ++ (x4 ++ [])))) ∧ Shape Tryz.prog m 53 x0 ∧ Shape Tryz.prog m 3 x1 ∧ Shape Tryz.prog m 3 x2 ∧ Shape Tryz.prog m 24 x3 ∧ Shape Tryz.prog m 50 x4 := by
  obtain ⟨m, hm, hk⟩ := shape_struct under83 h
  rw [fields83] at hk
  obtain ⟨x0, r0, rfl, h0, hk⟩ := hk
  obtain ⟨x1, r1, rfl, h1, hk⟩ := hk
  obtain ⟨x2, r2, rfl, h2, hk⟩ := hk
  obtain ⟨x3, r3, rfl, h3, hk⟩ := hk
  obtain ⟨x4, r4, rfl, h4, hk⟩ := hk
  have hk : r4 = [] := hk
  grind
theorem shape_st81 (h : Shape Tryz.prog n 81 xs) : ∃ m, m < n ∧ ∃ x0 x1 x2 x3 x4, xs = x0 ++ (x1 ++ (x2 ++ (x3 ++ (x4 ++ [])))) ∧ Shape Tryz.prog m 3 x0 ∧ Shape Tryz.prog m 3 x1 ∧ Shape Tryz.prog m 9 x2 ∧ Shape Tryz.prog m 50 x3 ∧ Shape Tryz.prog m 35 x4 := by
  obtain ⟨m, hm, hk⟩ := shape_struct under81 h
  rw [fields81] at hk
  obtain ⟨x0, r0, rfl, h0, hk⟩ := hk
  obtain ⟨x1, r1, rfl, h1, hk⟩ := hk
  obtain ⟨x2, r2, rfl, h2, hk⟩ := hk
  obtain ⟨x3, r3, rfl, h3, hk⟩ := hk
  obtain ⟨x4, r4, rfl, h4, hk⟩ := hk
  have hk : r4 = [] := hk
  grind
theorem shape_st95 (h : Shape Tryz.prog n 95 xs) : ∃ m, m < n ∧ ∃ x0 x1, xs = x0 ++ (x1 ++ []) ∧ Shape Tryz.prog m 9 x0 ∧ Shape Tryz.prog m 53 x1 := by
  obtain ⟨m, hm, hk⟩ := shape_struct under95 h
  rw [fields95] at hk
  obtain ⟨x0, r0, rfl, h0, hk⟩ := hk
  obtain ⟨x1, r1, rfl, h1, hk⟩ := hk
  have hk : r1 = [] := hk
  grind
theorem shape_st383 (h : Shape Tryz.prog n 383 xs) : ∃ m, m < n ∧ ∃ x0 x1, xs = x0 ++ (x1 ++ []) ∧ Shape Tryz.prog m 9 x0 ∧ Shape Tryz.prog m 81 x1 := by
  obtain ⟨m, hm, hk⟩ := shape_struct under383 h
  rw [fields383] at hk
  obtain ⟨x0, r0, rfl, h0, hk⟩ := hk
  obtain ⟨x1, r1, rfl, h1, hk⟩ := hk
  have hk : r1 = [] := hk
  grind
theorem shape_st385 (h : Shape Tryz.prog n 385 xs) : ∃ m, m < n ∧ ∃ x0 x1, xs = x0 ++ (x1 ++ []) ∧ Shape Tryz.prog m 9 x0 ∧ Shape Tryz.prog m 38 x1 := by
  obtain ⟨m, hm, hk⟩ := shape_struct under385 h
  rw [fields385] at hk
  obtain ⟨x0, r0, rfl, h0, hk⟩ := hk
  obtain ⟨x1, r1, rfl, h1, hk⟩ := hk
  have hk : r1 = [] := hk
  grind
theorem shape_st381 (h : Shape Tryz.prog n 381 xs) : ∃ m, m < n ∧ ∃ x0 x1 x2 x3 x4, xs = x0 ++ (x1 ++ (x2 ++ (x3 ++ (x4 ++ [])))) ∧ Shape Tryz.prog m 3 x0 ∧ Shape Tryz.prog m 9 x1 ∧ Shape Tryz.prog m 3 x2 ∧ Shape Tryz.prog m 34 x3 ∧ Shape Tryz.prog m 50 x4 := by
  obtain ⟨m, hm, hk⟩ := shape_struct under381 h
  rw [fields381] at hk
  obtain ⟨x0, r0, rfl, h0, hk⟩ := hk
  obtain ⟨x1, r1, rfl, h1, hk⟩ := hk
  obtain ⟨x2, r2, rfl, h2, hk⟩ := hk
  obtain ⟨x3, r3, rfl, h3, hk⟩ := hk
  obtain ⟨x4, r4, rfl, h4, hk⟩ := hk
  have hk : r4 = [] := hk
  grind

theorem shape_val : ∀ (n : Nat) (xs : List X), Shape Tryz.prog n 53 xs → ∃ v : Val, xs = v.cells := by
  intro n
  induction n using Nat.strongRecOn with
  | _ n ih =>
    intro xs h
    obtain ⟨m, hm, x0, x1, x2, x3, x4, x5, rfl, h0, h1, h2, h3, h4, h5⟩ := shape_st53 h
    obtain ⟨k, rfl⟩ := shape_num h0
    obtain ⟨i, rfl⟩ := shape_num h1
    obtain ⟨s, rfl⟩ := shape_num h2
    obtain ⟨t, rfl⟩ := shape_text h3
    obtain ⟨es, rfl, m1, hm1, he⟩ := shape_sl50 h4
    obtain ⟨fs, rfl, m2, hm2, hf⟩ := shape_sl51 h5
    obtain ⟨l, rfl⟩ := list_of Val.cells fun c hc => ih m1 (by omega) c (he c hc)
    obtain ⟨f, rfl⟩ := list_of (fun p : ByteArray × Val => strX p.1 :: p.2.cells) (es := fs) fun c hc => by
      obtain ⟨m3, hm3, y0, y1, rfl, g0, g1⟩ := shape_st95 (hf c hc)
      obtain ⟨nm, rfl⟩ := shape_text g0
      obtain ⟨v, rfl⟩ := ih m3 (by omega) y1 g1
      exact ⟨(nm, v), by simp⟩
    exact ⟨.mk k i s t l f, by grind[Val.cells,cellsL_eq,cellsF_eq]⟩
theorem shape_vals (h : Shape Tryz.prog n 50 xs) : ∃ l : List Val, xs = [.sl false 6 (cellsL l)] := by
  obtain ⟨es, rfl, m, _, he⟩ := shape_sl50 h
  obtain ⟨l, rfl⟩ := list_of Val.cells fun c hc => shape_val m c (he c hc)
  exact ⟨l, by rw [cellsL_eq]⟩
theorem shape_isVals {es : List (List X)} {m : Nat} (h : ∀ c, c ∈ es → Shape Tryz.prog m 53 c) : ∀ c, c ∈ es → isVal c := fun c hc => shape_val m c (h c hc)
theorem shape_ints (h : Shape Tryz.prog n 40 xs) : ∃ l : List Int, xs = [.sl false 1 (intsC l)] := by
  obtain ⟨es, rfl, m, _, he⟩ := shape_sl40 h
  obtain ⟨l, rfl⟩ := list_of (fun z : Int => [num z]) fun c hc => shape_num (he c hc)
  exact ⟨l, rfl⟩
theorem shape_stp (h : Shape Tryz.prog n 49 xs) : ∃ s : Stp, xs = s.cells := by
  obtain ⟨m, hm, x0, x1, rfl, h0, h1⟩ := shape_st49 h
  obtain ⟨e, rfl⟩ := shape_num h0
  obtain ⟨p, rfl⟩ := shape_ints h1
  exact ⟨⟨e, p⟩, rfl⟩
theorem shape_msg (h : Shape Tryz.prog n 55 xs) : ∃ s : Msg, xs = s.cells := by
  obtain ⟨m, hm, x0, x1, x2, x3, rfl, h0, h1, h2, h3⟩ := shape_st55 h
  obtain ⟨s, rfl⟩ := shape_stp h0
  obtain ⟨k, rfl⟩ := shape_num h1
  obtain ⟨p, rfl⟩ := shape_ints h2
  obtain ⟨v, rfl⟩ := shape_val _ _ h3
  exact ⟨⟨s, k, p, v⟩, by grind[Msg.cells,Stp.cells]⟩
theorem shape_msgs (h : Shape Tryz.prog n 24 xs) : ∃ l : List Msg, xs = [.sl false 10 (msgsC l)] := by
  obtain ⟨es, rfl, m, _, he⟩ := shape_sl24 h
  obtain ⟨l, rfl⟩ := list_of Msg.cells fun c hc => shape_msg (he c hc)
  exact ⟨l, rfl⟩
theorem shape_slt (h : Shape Tryz.prog n 83 xs) : ∃ s : Slt, xs = s.cells := by
  obtain ⟨m, hm, x0, x1, x2, x3, x4, rfl, h0, h1, h2, h3, h4⟩ := shape_st83 h
  obtain ⟨⟨k, i, s, t, l, f⟩, rfl⟩ := shape_val _ _ h0
  obtain ⟨a, rfl⟩ := shape_num h1
  obtain ⟨b, rfl⟩ := shape_num h2
  obtain ⟨ms, rfl⟩ := shape_msgs h3
  obtain ⟨vs, rfl⟩ := shape_vals h4
  exact ⟨⟨.mk k i s t l f, a, b, ms, vs⟩, rfl⟩
theorem shape_stt (h : Shape Tryz.prog n 27 xs) : ∃ s : Stt, xs = s.cells := by
  obtain ⟨m, hm, x0, x1, x2, rfl, h0, h1, h2⟩ := shape_st27 h
  obtain ⟨a, rfl⟩ := shape_num h0
  obtain ⟨b, rfl⟩ := shape_num h1
  obtain ⟨es, rfl, m', _, he⟩ := shape_sl25 h2
  obtain ⟨l, rfl⟩ := list_of Slt.cells fun c hc => shape_slt (he c hc)
  exact ⟨⟨a, b, l⟩, rfl⟩
theorem shape_inp (h : Shape Tryz.prog n 68 xs) : ∃ i : Inp, xs = i.cells := by
  obtain ⟨m, hm, x0, x1, x2, x3, x4, x5, x6, x7, rfl, h0, h1, h2, h3, h4, h5, h6, h7⟩ := shape_st68 h
  obtain ⟨a, rfl⟩ := shape_num h0
  obtain ⟨b, rfl⟩ := shape_num h1
  obtain ⟨s, rfl⟩ := shape_stp h2
  obtain ⟨g, rfl⟩ := shape_msg h3
  obtain ⟨x, rfl⟩ := shape_num h4
  obtain ⟨b1, rfl⟩ := shape_flag h5
  obtain ⟨b2, rfl⟩ := shape_flag h6
  obtain ⟨v, rfl⟩ := shape_val _ _ h7
  exact ⟨⟨a, b, s, g, x, b1, b2, v⟩, by simp [Inp.cells, Msg.cells, Stp.cells]⟩
theorem shape_exp : ∀ (k : Nat) {n : Nat} {xs : List X}, Shape Tryz.prog n 81 xs → isExp k xs
  | 0, n, xs, h => by
    obtain ⟨m, hm, x0, x1, x2, x3, x4, rfl, h0, h1, h2, h3, h4⟩ := shape_st81 h
    obtain ⟨o, rfl⟩ := shape_num h0
    obtain ⟨i, rfl⟩ := shape_num h1
    obtain ⟨t, rfl⟩ := shape_text h2
    obtain ⟨vs, rfl, m1, _, hv⟩ := shape_sl50 h3
    obtain ⟨es, rfl, m2, _, he⟩ := shape_sl35 h4
    exact ⟨o, i, t, vs, es, rfl, shape_isVals hv⟩
  | k + 1, n, xs, h => by
    obtain ⟨m, hm, x0, x1, x2, x3, x4, rfl, h0, h1, h2, h3, h4⟩ := shape_st81 h
    obtain ⟨o, rfl⟩ := shape_num h0
    obtain ⟨i, rfl⟩ := shape_num h1
    obtain ⟨t, rfl⟩ := shape_text h2
    obtain ⟨vs, rfl, m1, _, hv⟩ := shape_sl50 h3
    obtain ⟨es, rfl, m2, _, he⟩ := shape_sl35 h4
    exact ⟨o, i, t, vs, es, rfl, shape_isVals hv, fun x hx => shape_exp k (he x hx)⟩
theorem shape_typ : ∀ (k : Nat) {n : Nat} {xs : List X}, Shape Tryz.prog n 34 xs → isTyp k xs
  | 0, n, xs, h => by
    obtain ⟨m, hm, x0, x1, x2, x3, x4, x5, x6, rfl, h0, h1, h2, h3, h4, h5, h6⟩ := shape_st34 h
    obtain ⟨a, rfl⟩ := shape_num h0
    obtain ⟨b, rfl⟩ := shape_num h1
    obtain ⟨c, rfl⟩ := shape_num h2
    obtain ⟨d, rfl⟩ := shape_num h3
    obtain ⟨w, rfl, m1, _, hw⟩ := shape_sl30 h4
    obtain ⟨e, rfl, m2, _, he⟩ := shape_sl31 h5
    obtain ⟨f, rfl, m3, _, hf⟩ := shape_sl32 h6
    exact ⟨a, b, c, d, w, e, f, rfl, fun x hx => shape_text (hw x hx)⟩
  | k + 1, n, xs, h => by
    obtain ⟨m, hm, x0, x1, x2, x3, x4, x5, x6, rfl, h0, h1, h2, h3, h4, h5, h6⟩ := shape_st34 h
    obtain ⟨a, rfl⟩ := shape_num h0
    obtain ⟨b, rfl⟩ := shape_num h1
    obtain ⟨c, rfl⟩ := shape_num h2
    obtain ⟨d, rfl⟩ := shape_num h3
    obtain ⟨w, rfl, m1, _, hw⟩ := shape_sl30 h4
    obtain ⟨e, rfl, m2, _, he⟩ := shape_sl31 h5
    obtain ⟨f, rfl, m3, _, hf⟩ := shape_sl32 h6
    refine ⟨a, b, c, d, w, e, f, rfl, fun x hx => shape_text (hw x hx), fun x hx => shape_typ k (he x hx), fun x hx => ?_⟩
    obtain ⟨m4, _, y0, y1, y2, T, y4, rfl, g0, g1, g2, g3, g4⟩ := shape_st381 (hf x hx)
    obtain ⟨p, rfl⟩ := shape_num g0
    obtain ⟨t, rfl⟩ := shape_text g1
    obtain ⟨y, rfl⟩ := shape_num g2
    obtain ⟨de, rfl, m5, _, hd⟩ := shape_sl50 g4
    exact ⟨p, t, y, T, de, by simp, shape_typ k g3, shape_isVals hd⟩
theorem shape_rule (h : Shape Tryz.prog n 383 xs) : isRule xs := by
  obtain ⟨m, hm, x0, x1, rfl, h0, h1⟩ := shape_st383 h
  obtain ⟨t, rfl⟩ := shape_text h0
  exact ⟨t, x1, by simp, shape_exp 3 h1⟩
theorem shape_rules (h : Shape Tryz.prog n 38 xs) : ∃ es, xs = [.sl false 6 es] ∧ ∀ x, x ∈ es → isRule x := by
  obtain ⟨m, hm, x0, rfl, h0⟩ := shape_st38 h
  obtain ⟨es, rfl, m1, _, he⟩ := shape_sl36 h0
  exact ⟨es, rfl, fun x hx => shape_rule (he x hx)⟩
theorem shape_call (h : Shape Tryz.prog n 385 xs) : isCall xs := by
  obtain ⟨m, hm, x0, x1, rfl, h0, h1⟩ := shape_st385 h
  obtain ⟨t, rfl⟩ := shape_text h0
  obtain ⟨es, rfl, he⟩ := shape_rules h1
  exact ⟨t, es, rfl, he⟩
theorem shape_node (h : Shape Tryz.prog n 42 xs) : isNode xs := by
  obtain ⟨m, hm, x0, x1, x2, x3, x4, x5, x6, x7, T, x9, x10, x11, x12, x13, rfl, h0, h1, h2, h3, h4, h5, h6, h7, h8, h9, h10, h11, h12, h13⟩ := shape_st42 h
  obtain ⟨name, rfl⟩ := shape_text h0
  obtain ⟨k1, rfl⟩ := shape_num h1
  obtain ⟨k2, rfl⟩ := shape_num h2
  obtain ⟨k3, rfl⟩ := shape_num h3
  obtain ⟨k4, rfl⟩ := shape_num h4
  obtain ⟨k5, rfl⟩ := shape_num h5
  obtain ⟨k6, rfl⟩ := shape_num h6
  obtain ⟨text, rfl⟩ := shape_text h7
  obtain ⟨ty, rfl, _, _, hty⟩ := shape_sl31 h9
  obtain ⟨ex, rfl, _, _, hex⟩ := shape_sl35 h10
  obtain ⟨ru, rfl, hru⟩ := shape_rules h11
  obtain ⟨ca, rfl, _, _, hca⟩ := shape_sl39 h12
  obtain ⟨ne, rfl, _, _, hne⟩ := shape_sl40 h13
  exact ⟨name, k1, k2, k3, k4, k5, k6, text, T, ty, ex, ru, ca, ne, by simp, shape_typ 3 h8, fun x hx => shape_typ 3 (hty x hx), fun x hx => shape_exp 3 (hex x hx), hru, fun x hx => shape_call (hca x hx)⟩
theorem shape_node_num (h : Shape Tryz.prog n 42 xs) : ∀ z, xs[4]? = some (num z) → z ≤ 9223372036854775807 := by
  obtain ⟨m, hm, x0, x1, x2, x3, x4, x5, x6, x7, T, x9, x10, x11, x12, x13, rfl, h0, h1, h2, h3, h4, h5, h6, h7, h8, h9, h10, h11, h12, h13⟩ := shape_st42 h
  obtain ⟨name, rfl⟩ := shape_text h0
  obtain ⟨k1, rfl⟩ := shape_num h1
  obtain ⟨k2, rfl⟩ := shape_num h2
  obtain ⟨k3, rfl⟩ := shape_num h3
  obtain ⟨k4, rfl, hw⟩ := shape_int under3 h4
  intro z hz
  have e : some (num k4) = some (num z) := hz
  simp only [num, Option.some.injEq, X.v.injEq, Value.int.injEq, true_and] at e
  subst e
  simp only [Lit.wf, Bool.and_eq_true, decide_eq_true_eq] at hw
  exact hw.2
end Go.Proofs.YtckdgafiindddaaGreatDoor

/- The keys of the last messages that were accepted, in slots: the plain law of DedupRuns and DedupWindows. -/
namespace Go.Proofs.YtckdgafiindddaaGreatDoor
open Go.Em

def kv (k : Int) : Val := .mk 2 k 0 ⟨#[]⟩ [] []
end Go.Proofs.YtckdgafiindddaaGreatDoor

/- The search for a key among the slots. -/
namespace Go.Proofs.YtckdgafiindddaaGreatDoor
open Go.Em
set_option maxRecDepth 100000
def dSlt : Slt := ⟨.mk 0 0 0 ⟨#[]⟩ [] [], 0, 0, [], []⟩

theorem cmp116 (N : Nat) (hN : 180020 ≤ N) (x : Slt) (key : Val) (hx : x.key.ok) : Gam.pureD (callF tab ext N) 95 [.agg x.cells, .agg key.cells] = some (num (cmpV x.key key)) := by
  obtain ⟨M, rfl⟩ : ∃ M, N = M + 1 := ⟨N - 1, by omega⟩
  have h := cmp_val 60000 M x.key key hx (by omega) (by unfold Val.ok at hx; omega)
  obtain ⟨⟨k, i, s, tx, vl, fl⟩, n2, c, ms, vs⟩ := x
  obtain ⟨k', i', s', tx', vl', fl'⟩ := key
  dsimp only at h ⊢
  generalize cmpV (.mk k i s tx vl fl) (.mk k' i' s' tx' vl' fl') = r at h
  exact pure_of [(8, .p (num r))] [] (pf1 h) (x := num r) (bx := []) (by kernel_rfl) rfl

theorem half_nat {s : Nat} (h : s < 4294967296) : IntKind.i64.wrap (Int.ofNat (s / 2)) = Int.ofNat (s / 2) := by
  grind[IntKind.wrap_i64]
theorem u64_nat {s : Nat} (h : s < 4294967296) : IntKind.u64.wrap (Int.ofNat s) = Int.ofNat s := by
  grind[IntKind.wrap_u64]
theorem shr_nat {s : Nat} : (Int.ofNat s).fdiv (2 ^ min (Int.toNat 1) IntKind.u64.bits) = Int.ofNat (s / 2) := by
  have e : (2 : Int) ^ min (Int.toNat 1) IntKind.u64.bits = 2 := by decide
  grind
theorem add_nat {a b : Nat} (h : a < 4294967296) (h' : b < 4294967296) : IntKind.i64.wrap (Int.ofNat a + Int.ofNat b) = Int.ofNat (a + b) := by
  grind[IntKind.wrap_i64]

/-- Where a search ends. -/
inductive Srch (ss : List Slt) (key : Val) : Nat → Nat → Nat → Prop
  | stop (lo : Nat) : Srch ss key lo lo lo
  | lt {lo hi r : Nat} (h : lo < hi) (hc : cmpV (ss.getD ((lo + hi) / 2) dSlt).key key < 0) (hr : Srch ss key ((lo + hi) / 2 + 1) hi r) : Srch ss key lo hi r
  | ge {lo hi r : Nat} (h : lo < hi) (hc : ¬ cmpV (ss.getD ((lo + hi) / 2) dSlt).key key < 0) (hr : Srch ss key lo ((lo + hi) / 2) r) : Srch ss key lo hi r
theorem srch_ex (ss : List Slt) (key : Val) : ∀ (d lo hi : Nat), lo ≤ hi → hi - lo ≤ d → ∃ r, lo ≤ r ∧ r ≤ hi ∧ Srch ss key lo hi r
  | 0, lo, hi, h, hd => by
    obtain rfl : lo = hi := by omega
    exact ⟨lo, Nat.le_refl _, Nat.le_refl _, .stop lo⟩
  | d + 1, lo, hi, h, hd => by
    by_cases hlt : lo < hi
    · by_cases hc : cmpV (ss.getD ((lo + hi) / 2) dSlt).key key < 0
      · obtain ⟨r, h1, h2, h3⟩ := srch_ex ss key d ((lo + hi) / 2 + 1) hi (by omega) (by omega)
        exact ⟨r, by omega, h2, .lt hlt hc h3⟩
      · obtain ⟨r, h1, h2, h3⟩ := srch_ex ss key d lo ((lo + hi) / 2) (by omega) (by omega)
        exact ⟨r, h1, by omega, .ge hlt hc h3⟩
    · obtain rfl : lo = hi := by omega
      exact ⟨lo, Nat.le_refl _, Nat.le_refl _, .stop lo⟩

/-- Where a key stands among slots: what is before it is less, what is at its place is not. -/
structure Spot (ss : List Slt) (key : Val) (i : Nat) : Prop where
  before : 0 < i → cmpV (ss.getD (i - 1) dSlt).key key < 0
  behind : i < ss.length → ¬ cmpV (ss.getD i dSlt).key key < 0
theorem srch_spot {ss : List Slt} {key : Val} {lo hi r : Nat} (h : Srch ss key lo hi r) (h1 : 0 < lo → cmpV (ss.getD (lo - 1) dSlt).key key < 0) (h2 : hi < ss.length → ¬ cmpV (ss.getD hi dSlt).key key < 0) : Spot ss key r := by
  induction h with
  | stop lo => exact ⟨h1, h2⟩
  | lt _ hc _ ih => exact ih (fun _ => by simpa using hc) h2
  | ge _ hc _ ih => exact ih h1 (fun _ => hc)

section
variable (l : List (List X)) (k i s : Int) (tx : ByteArray) (vl fl : List (List X)) (n lo hi : Nat)
def keyC : List X := [num k, num i, num s, strX tx, .sl false 6 vl, .sl false 7 fl]
def seH : St := ⟨[(0, .sl false 10 l), (2, .fn 95 []), (4, .ptr 0 0 0), (8, nat n), (9, nat lo), (10, nat hi)], [.var (keyC k i s tx vl fl)]⟩
def seE : St := ⟨[(0, .sl false 10 l), (2, .fn 95 []), (4, .ptr 0 0 0), (8, nat n), (9, nat lo), (10, nat hi), (17, boolX false)], [.var (keyC k i s tx vl fl)]⟩
theorem se_canon : canon 0 (seH l k i s tx vl fl n lo hi) = some (seH l k i s tx vl fl n lo hi) := by kernel_rfl
theorem se_end (h : ¬ lo < hi) (M : Nat) : run (callF tab ext M) 0 M (loopAt 94 0) (seH l k i s tx vl fl n lo hi) = some (.exit 0, seE l k i s tx vl fl n lo hi) :=
  run_of [(17, .b false)] [] (pf1 (nlt_nat h)) (lo' := []) (by kernel_rfl)
theorem se_step (x : Slt) (r : Int) (hlt : lo < hi) (hh : hi < 4294967) (hg : l[(lo + hi) / 2]? = some x.cells) (M : Nat) (hc : Gam.pureD (callF tab ext M) 95 [.agg x.cells, .agg (keyC k i s tx vl fl)] = some (num r)) :
    (r < 0 → run (callF tab ext M) 0 M (loopAt 94 0) (seH l k i s tx vl fl n lo hi) = some (.norm, seH l k i s tx vl fl n ((lo + hi) / 2 + 1) hi)) ∧
    (¬ r < 0 → run (callF tab ext M) 0 M (loopAt 94 0) (seH l k i s tx vl fl n lo hi) = some (.norm, seH l k i s tx vl fl n lo ((lo + hi) / 2))) := by
  have h1 := lt_nat hlt
  have h2 := add_nat (a := lo) (b := hi) (by omega) (by omega)
  have h3 := u64_nat (s := lo + hi) (by omega)
  have h4 := shr_nat (s := lo + hi)
  have h5 := half_nat (s := lo + hi) (by omega)
  have h6 := next_nat (j := (lo + hi) / 2) (by omega)
  obtain ⟨⟨k', i', s', tx', vl', fl'⟩, n2, c, ms, vs⟩ := x
  constructor
  · intro hr
    have h7 : decide (r < 0) = true := decide_eq_true hr
    exact run_of [(17, .b true), (20, .i (Int.ofNat (lo + hi))), (21, .i (Int.ofNat (lo + hi))), (22, .i (Int.ofNat ((lo + hi) / 2))), (23, .i (Int.ofNat ((lo + hi) / 2))), (27, .e (slotC k' i' s' tx' (cellsL vl') (cellsF fl') n2 c (msgsC ms) (cellsL vs))), (30, .p (num r)), (31, .b true), (33, .i (Int.ofNat ((lo + hi) / 2 + 1)))] []
      (pf9 h1 h2 h3 h4 h5 hg hc h7 h6) (lo' := []) (by kernel_rfl)
  · intro hr
    have h7 : decide (r < 0) = false := decide_eq_false hr
    exact run_of [(17, .b true), (20, .i (Int.ofNat (lo + hi))), (21, .i (Int.ofNat (lo + hi))), (22, .i (Int.ofNat ((lo + hi) / 2))), (23, .i (Int.ofNat ((lo + hi) / 2))), (27, .e (slotC k' i' s' tx' (cellsL vl') (cellsF fl') n2 c (msgsC ms) (cellsL vs))), (30, .p (num r)), (31, .b false)] []
      (pf8 h1 h2 h3 h4 h5 hg hc h7) (lo' := []) (by kernel_rfl)
end

/-- The search: an index, and whether the key is there. -/
theorem find_ex2 (s : Stt) (hs : s.small) (key : Val) : ∃ (i : Nat) (b : Bool), i ≤ s.slots.length ∧ (b = true → ∃ h : i < s.slots.length, cmpV s.slots[i].key key = 0) ∧ (b = false → Spot s.slots key i ∧ ∀ h : i < s.slots.length, ¬ cmpV s.slots[i].key key = 0) ∧ ∀ N, 190040 ≤ N → Gam.pureD (callF tab ext N) 55 [.agg s.cells, .agg key.cells] = some (.tup [nat i, boolX b]) := by
  obtain ⟨a, b0, ss⟩ := s
  have hl : ss.length ≤ 100 := hs.slots
  have hx : ∀ x, x ∈ ss → x.ok := fun x h => (hs.slot x h).1
  have hlen := sltsC_length ss
  obtain ⟨r, _, hr, hS⟩ := srch_ex ss key ss.length 0 ss.length (by omega) (by omega)
  have hSp := srch_spot hS (fun h => absurd h (by omega)) (fun h => absurd h (by omega))
  have hcmp : ∀ (j : Nat) (hj : j < ss.length) (N : Nat), 180020 ≤ N → Gam.pureD (callF tab ext N) 95 [.agg ss[j].cells, .agg key.cells] = some (num (cmpV ss[j].key key)) := fun j hj N hN => cmp116 N hN _ _ (hx _ (List.getElem_mem hj)).key
  have hgd : ∀ (j : Nat) (hj : j < ss.length), ss.getD j dSlt = ss[j] := fun j hj => by rw [List.getD_eq_getElem?_getD, List.getElem?_eq_getElem hj]; rfl
  obtain ⟨k, i, s, tx, vl, fl⟩ := key
  have hloop : ∀ M, 190000 ≤ M → ∀ τ, canon 0 τ = some (seH (sltsC ss) k i s tx (cellsL vl) (cellsF fl) (sltsC ss).length 0 (sltsC ss).length) → run (callF tab ext M) 0 M (.loop (loopAt 94 0)) τ = some (.exit 0, seE (sltsC ss) k i s tx (cellsL vl) (cellsF fl) (sltsC ss).length r r) := fun M hM τ hτ => by
    refine loop_dec (α := Nat × Nat) (σ := fun a => seH (sltsC ss) k i s tx (cellsL vl) (cellsF fl) (sltsC ss).length a.1 a.2) (I := fun a => a.2 ≤ ss.length ∧ Srch ss (.mk k i s tx vl fl) a.1 a.2 r) (μ := fun a => a.2 - a.1) (fun a ha => ?_) (by simp) (a := (0, (sltsC ss).length)) ⟨by dsimp only; omega, by rw [hlen]; exact hS⟩ hτ (by dsimp only; omega)
    obtain ⟨lo, hi⟩ := a
    obtain ⟨ha1, ha2⟩ := ha
    dsimp only at ha1 ha2 ⊢
    cases ha2 with
    | stop =>
      right
      exact se_end _ _ _ _ _ _ _ _ _ _ (Nat.lt_irrefl _) M
    | lt h hc hr' =>
      left
      have hh : (lo + hi) / 2 < ss.length := by omega
      rw [hgd _ hh] at hc
      have := (se_step (sltsC ss) k i s tx (cellsL vl) (cellsF fl) (sltsC ss).length lo hi ss[(lo + hi) / 2] _ h (by omega) (sltsC_get hh) M (hcmp _ hh M (by omega))).1 hc
      exact ⟨_, ((lo + hi) / 2 + 1, hi), this, se_canon .., ⟨ha1, hr'⟩, by dsimp only; omega⟩
    | ge h hc hr' =>
      left
      have hh : (lo + hi) / 2 < ss.length := by omega
      rw [hgd _ hh] at hc
      have := (se_step (sltsC ss) k i s tx (cellsL vl) (cellsF fl) (sltsC ss).length lo hi ss[(lo + hi) / 2] _ h (by omega) (sltsC_get hh) M (hcmp _ hh M (by omega))).2 hc
      exact ⟨_, (lo, (lo + hi) / 2), this, se_canon .., ⟨by dsimp only; omega, hr'⟩, by dsimp only; omega⟩
  by_cases hlt : r < ss.length
  · refine ⟨r, cmpV ss[r].key (.mk k i s tx vl fl) == 0, hr, fun h => ⟨hlt, eq_of_beq h⟩, fun h => ⟨hSp, fun _ hz => by rw [hz] at h; cases h⟩, fun N hN => ?_⟩
    obtain ⟨M, rfl⟩ : ∃ M, N = M + 2 := ⟨N - 2, by omega⟩
    have hc := hcmp r hlt M (by omega)
    have hg := sltsC_get hlt
    generalize cmpV ss[r].key (.mk k i s tx vl fl) = z at hc ⊢
    generalize ss[r] = x at hc hg
    have hl0 := hloop M (by omega) ⟨[(0, .sl false 10 (sltsC ss)), (2, .fn 95 []), (4, .ptr 0 0 0), (8, nat (sltsC ss).length), (9, num 0), (10, nat (sltsC ss).length)], [.var (keyC k i s tx (cellsL vl) (cellsF fl))]⟩ (by kernel_rfl)
    have h1 : decide (Int.ofNat r < Int.ofNat (sltsC ss).length) = true := lt_nat (by omega)
    have h115 : Gam.pureD (callF tab ext (M + 1)) 94 [.sl false 10 (sltsC ss), .agg (Val.mk k i s tx vl fl).cells, .fn 95 []] = some (.tup [nat r, boolX (z == 0)]) := by
      obtain ⟨⟨k', i', s', tx', vl', fl'⟩, n2, c, ms, vs⟩ := x
      cases h2 : (z == 0) with
      | true => exact pure_of [(38, .b true), (43, .e (slotC k' i' s' tx' (cellsL vl') (cellsF fl') n2 c (msgsC ms) (cellsL vs))), (46, .p (num z)), (47, .b true)] [(.exit 0, seE (sltsC ss) k i s tx (cellsL vl) (cellsF fl) (sltsC ss).length r r)] (pf5 hl0 h1 hg hc h2) (x := .tup [nat r, boolX true]) (bx := []) (by kernel_rfl) rfl
      | false => exact pure_of [(38, .b true), (43, .e (slotC k' i' s' tx' (cellsL vl') (cellsF fl') n2 c (msgsC ms) (cellsL vs))), (46, .p (num z)), (47, .b false)] [(.exit 0, seE (sltsC ss) k i s tx (cellsL vl) (cellsF fl) (sltsC ss).length r r)] (pf5 hl0 h1 hg hc h2) (x := .tup [nat r, boolX false]) (bx := []) (by kernel_rfl) rfl
    exact pure_of [(9, .p (.tup [nat r, boolX (z == 0)]))] [] (pf1 h115) (x := .tup [nat r, boolX (z == 0)]) (bx := []) (by kernel_rfl) rfl
  · refine ⟨r, false, hr, fun h => (by cases h), fun _ => ⟨hSp, fun h => absurd h hlt⟩, fun N hN => ?_⟩
    obtain ⟨M, rfl⟩ : ∃ M, N = M + 2 := ⟨N - 2, by omega⟩
    have hl0 := hloop M (by omega) ⟨[(0, .sl false 10 (sltsC ss)), (2, .fn 95 []), (4, .ptr 0 0 0), (8, nat (sltsC ss).length), (9, num 0), (10, nat (sltsC ss).length)], [.var (keyC k i s tx (cellsL vl) (cellsF fl))]⟩ (by kernel_rfl)
    have h1 : decide (Int.ofNat r < Int.ofNat (sltsC ss).length) = false := nlt_nat (by omega)
    have h115 : Gam.pureD (callF tab ext (M + 1)) 94 [.sl false 10 (sltsC ss), .agg (Val.mk k i s tx vl fl).cells, .fn 95 []] = some (.tup [nat r, boolX false]) :=
      pure_of [(38, .b false)] [(.exit 0, seE (sltsC ss) k i s tx (cellsL vl) (cellsF fl) (sltsC ss).length r r)] (pf2 hl0 h1) (x := .tup [nat r, boolX false]) (bx := []) (by kernel_rfl) rfl
    exact pure_of [(9, .p (.tup [nat r, boolX false]))] [] (pf1 h115) (x := .tup [nat r, boolX false]) (bx := []) (by kernel_rfl) rfl
end Go.Proofs.YtckdgafiindddaaGreatDoor

/- A slot is put into a state, at any index. -/
namespace Go.Proofs.YtckdgafiindddaaGreatDoor
open Go.Em
set_option maxRecDepth 100000

theorem rowOf_get {bx : List Bx} {i sz n : Nat} {es : List (List X)} (h : bx[i]? = some (.row sz es)) (hn : n = es.length) : rowOf bx i 0 n = some (sz, es) := by
  subst hn
  simp [rowOf, h]

theorem ins_call (N : Nat) (rows : List (List X)) (n i : Nat) (x : List X) (hn : n = rows.length) (hi : i ≤ n) (hl : n ≤ 2000000) :
    callF tab ext (N + 1) (.fn 91) [.bs 0 0 n, nat i, .sl true 10 [x]] [.row 10 rows] = some (.bs 1 0 (n + 1), [.dead, .row 10 (rows.take i ++ [x] ++ rows.drop i)]) := by
  have e : callF tab ext (N + 1) (.fn 91) [.bs 0 0 n, nat i, .sl true 10 [x]] [.row 10 rows] = insExt 10 [.bs 0 0 n, nat i, .sl true 10 [x]] [.row 10 rows] := rfl
  rw [e]
  show (if 10 = 10 ∧ 10 = 10 ∧ n = rows.length ∧ n ≤ 2000000 ∧ 0 ≤ Int.ofNat i ∧ (Int.ofNat i).toNat ≤ n then some (X.bs 1 0 (n + 1), [Bx.dead, Bx.row 10 (rows.take (Int.ofNat i).toNat ++ [x] ++ rows.drop (Int.ofNat i).toNat)]) else none) = _
  rw [if_pos ⟨rfl, rfl, hn, hl, Int.natCast_nonneg i, hi⟩]
  rfl
theorem small_int {k : Nat} (h : k < 1024) : decide (Int.ofNat k ≥ 1024) = false := decide_eq_false (by simp only [Int.ofNat_eq_natCast]; omega)
/-- The slots with one more, or with one in the place of another. -/
def putS (b : Bool) (i : Nat) (x : Slt) (ss : List Slt) : List Slt := if b then ss.set i x else ss.take i ++ [x] ++ ss.drop i

theorem put_at (s : Stt) (hs : s.small) (x : Slt) (hx : x.ok) (i : Nat) (b : Bool) (hi : i ≤ s.slots.length) (hb : b = true → i < s.slots.length) (hf : ∀ N, 190040 ≤ N → Gam.pureD (callF tab ext N) 55 [.agg s.cells, .agg x.key.cells] = some (.tup [nat i, boolX b])) (N : Nat) (hN : 190050 ≤ N) :
    Gam.pureD (callF tab ext N) 52 [.agg s.cells, .agg x.cells] = some (.tup [.agg (Stt.mk s.n s.t (putS b i x s.slots)).cells, num 0]) := by
  obtain ⟨M, rfl⟩ : ∃ M, N = M + 2 := ⟨N - 2, by omega⟩
  have hf := hf (M + 1) (by omega)
  have hst := clone_state (M + 1) s hs.ok (by omega)
  have hcl := clone_slot_pure (M + 1) x hx (by omega)
  have hl := hs.slots
  have hn := sltsC_length s.slots
  obtain ⟨a, c, ss⟩ := s
  dsimp only at hi hb hf hst hl hn ⊢
  unfold putS
  cases b with
  | true =>
    rw [if_pos rfl]
    have hi' := hb rfl
    have hg := sltsC_get hi'
    have e1 : sltsC (ss.set i x) = (sltsC ss).set (0 + i) x.cells := by simp [sltsC, List.map_set]
    have hlt : i < (sltsC ss).length := by omega
    obtain ⟨⟨k, j, z, tx, vl, fl⟩, n2, t2, ms, vs⟩ := x
    have h0 : rowOf [Bx.row 10 ((sltsC ss).set (0 + i) (slotC k j z tx (cellsL vl) (cellsF fl) n2 t2 (msgsC ms) (cellsL vs)))] 0 0 (sltsC ss).length = some (10, (sltsC ss).set (0 + i) (slotC k j z tx (cellsL vl) (cellsF fl) n2 t2 (msgsC ms) (cellsL vs))) := rowOf_get rfl (by simp)
    have hd : (X.tup [.agg [num a, num c, .bs 0 0 (sltsC ss).length], num 0]).data [Bx.row 10 ((sltsC ss).set (0 + i) (slotC k j z tx (cellsL vl) (cellsF fl) n2 t2 (msgsC ms) (cellsL vs)))] false = some (.tup [.agg (Stt.mk a c (ss.set i ⟨.mk k j z tx vl fl, n2, t2, ms, vs⟩)).cells, num 0]) := by
      simp only [X.data, dataL, num, h0, Option.map_some, Stt.cells, e1]; rfl
    generalize hgo : ss[i] = o at hg
    obtain ⟨⟨k', j', z', tx', vl', fl'⟩, n2', t2', ms', vs'⟩ := o
    exact pure_of [(13, .p (.tup [nat i, boolX true])), (26, .o (.agg [num a, num c, .bs 0 0 (sltsC ss).length]) [.row 10 (sltsC ss)]), (32, .p (.agg (slotC k j z tx (cellsL vl) (cellsF fl) n2 t2 (msgsC ms) (cellsL vs)))), (33, .at), (1000033, .st (slotC k' j' z' tx' (cellsL vl') (cellsF fl') n2' t2' (msgsC ms') (cellsL vs')))] []
      (pf5 hf hst hcl hlt (show (sltsC ss)[0 + i]? = some (slotC k' j' z' tx' (cellsL vl') (cellsF fl') n2' t2' (msgsC ms') (cellsL vs')) by rw [Nat.zero_add]; exact hg)) (x := .tup [.agg [num a, num c, .bs 0 0 (sltsC ss).length], num 0]) (bx := [.row 10 ((sltsC ss).set (0 + i) (slotC k j z tx (cellsL vl) (cellsF fl) n2 t2 (msgsC ms) (cellsL vs)))]) (by kernel_rfl) hd
  | false =>
    rw [if_neg (by simp)]
    have e1 : sltsC (ss.take i ++ [x] ++ ss.drop i) = (sltsC ss).take i ++ [x.cells] ++ (sltsC ss).drop i := by simp [sltsC, List.map_take, List.map_drop]
    have h22 : decide (Int.ofNat (sltsC ss).length ≥ 1024) = false := small_int (by omega)
    have hins := ins_call M (sltsC ss) (sltsC ss).length i x.cells rfl (by omega) (by omega)
    obtain ⟨⟨k, j, z, tx, vl, fl⟩, n2, t2, ms, vs⟩ := x
    have h0 : rowOf [Bx.row 10 ((sltsC ss).take i ++ [slotC k j z tx (cellsL vl) (cellsF fl) n2 t2 (msgsC ms) (cellsL vs)] ++ (sltsC ss).drop i)] 0 0 ((sltsC ss).length + 1) = some (10, (sltsC ss).take i ++ [slotC k j z tx (cellsL vl) (cellsF fl) n2 t2 (msgsC ms) (cellsL vs)] ++ (sltsC ss).drop i) := rowOf_get rfl (by simp; omega)
    have hd : (X.tup [.agg [num a, num c, .bs 0 0 ((sltsC ss).length + 1)], num 0]).data [Bx.row 10 ((sltsC ss).take i ++ [slotC k j z tx (cellsL vl) (cellsF fl) n2 t2 (msgsC ms) (cellsL vs)] ++ (sltsC ss).drop i)] false = some (.tup [.agg (Stt.mk a c (ss.take i ++ [⟨.mk k j z tx vl fl, n2, t2, ms, vs⟩] ++ ss.drop i)).cells, num 0]) := by
      simp only [X.data, dataL, num, h0, Option.map_some, Stt.cells, e1]; rfl
    exact pure_of [(13, .p (.tup [nat i, boolX false])), (22, .b false), (26, .o (.agg [num a, num c, .bs 0 0 (sltsC ss).length]) [.row 10 (sltsC ss)]), (38, .p (.agg (slotC k j z tx (cellsL vl) (cellsF fl) n2 t2 (msgsC ms) (cellsL vs)))), (40, .r (.bs 1 0 ((sltsC ss).length + 1)) [.dead, .row 10 ((sltsC ss).take i ++ [slotC k j z tx (cellsL vl) (cellsF fl) n2 t2 (msgsC ms) (cellsL vs)] ++ (sltsC ss).drop i)])] []
      (pf5 hf h22 hst hcl hins) (x := .tup [.agg [num a, num c, .bs 0 0 ((sltsC ss).length + 1)], num 0]) (bx := [.row 10 ((sltsC ss).take i ++ [slotC k j z tx (cellsL vl) (cellsF fl) n2 t2 (msgsC ms) (cellsL vs)] ++ (sltsC ss).drop i)]) (by kernel_rfl) hd
end Go.Proofs.YtckdgafiindddaaGreatDoor

/- The oldest slot, and its index. -/
namespace Go.Proofs.YtckdgafiindddaaGreatDoor
open Go.Em
set_option maxRecDepth 100000

theorem ordI_lt {a b : Int} : ordI a b < 0 ↔ a < b := by
  unfold ordI
  split
  · rename_i h; exact ⟨fun _ => h, fun _ => by decide⟩
  · split
    · rename_i h h2; exact ⟨fun h3 => absurd h3 (by decide), fun h3 => absurd h3 h⟩
    · rename_i h h2; exact ⟨fun h3 => absurd h3 (by decide), fun h3 => absurd h3 h⟩
/-! ### slices.IndexFunc -/
end Go.Proofs.YtckdgafiindddaaGreatDoor

/- dedup.accept: the key is put, and the oldest slots are dropped. -/
namespace Go.Proofs.YtckdgafiindddaaGreatDoor
open Go.Em
set_option maxRecDepth 100000

section
variable (nd : Nod) (nn ti : Int)
end

end Go.Proofs.YtckdgafiindddaaGreatDoor

/- DedupRuns, DedupWindows: the node, the input, and the key that the expression gives. -/
namespace Go.Proofs.YtckdgafiindddaaGreatDoor
open Go.Em
set_option maxRecDepth 100000

end Go.Proofs.YtckdgafiindddaaGreatDoor

/- DedupRuns, DedupWindows: what a dedup's Step says of a message whose key is there, and of one that is taken. -/
namespace Go.Proofs.YtckdgafiindddaaGreatDoor
open Go.Em
set_option maxRecDepth 100000

end Go.Proofs.YtckdgafiindddaaGreatDoor

/- slots.Get. -/
namespace Go.Proofs.YtckdgafiindddaaGreatDoor
open Go.Em
set_option maxRecDepth 100000

end Go.Proofs.YtckdgafiindddaaGreatDoor

/- DedupRuns, DedupWindows: one step of a dedup over keys. -/
namespace Go.Proofs.YtckdgafiindddaaGreatDoor
open Go.Em
set_option maxRecDepth 100000

theorem ordI_self (a : Int) : ordI a a = 0 := by unfold ordI; rw [if_neg (Int.lt_irrefl _), if_neg (Int.lt_irrefl _)]
theorem cmpB_nil : cmpB ⟨#[]⟩ ⟨#[]⟩ = 0 := by decide
theorem cmp_kv (a k : Int) : cmpV (kv a) (kv k) = ordI a k := by
  unfold kv cmpV
  simp only [orL, ordI_self, cmpB_nil, cmpVL, cmpVF, if_true]
  split
  · rename_i h; exact h.symm
  · rfl
theorem kv_ok (k : Int) : (kv k).ok := by unfold Val.ok kv; simp [Val.size, sizeL, sizeF]
end Go.Proofs.YtckdgafiindddaaGreatDoor
