import Derived.Laws.AppendOwn
import Derived.Test.YtejenmhcebfnlaaGreatDoorU15
set_option linter.all false
/- slices.Clone at structs. -/
namespace Go.Proofs.YtejenmhcebfnlaaGreatDoor
open Go.Em Go.RowKit Go.Lib

noncomputable def tab1 : FuncId → Option Fun := fun f => if f == 64 then trFun Tryz.prog gl ⟨look [(3, [2]), (2, [2]), (1, [0, 4]), (0, [0])], look [], [7], [], [], []⟩ f else if f == 65 then trFun Tryz.prog gl ⟨look [(3, [2]), (2, [2]), (1, [0, 4]), (0, [0])], look [], [7], [], [], []⟩ f else if f == 47 then trFun Tryz.prog gl ⟨look [(3, [2]), (2, [2]), (1, [0, 4]), (0, [0])], look [], [7], [], [], []⟩ f else none
theorem tabOk1 : TabOk Tryz.prog gl tab1 := by
  intro f fd h
  unfold tab1 at h
  split at h
  · exact ⟨_, h⟩
  · split at h
    · exact ⟨_, h⟩
    · split at h
      · exact ⟨_, h⟩
      · cases h
theorem machine1 (n : Nat) : GamOk Tryz.prog (RCode Tryz.prog gl) (callF tab1 ext0 n) := callF_ok tabOk1 (fun _ _ h => by cases h) n
section
theorem clI64 : (Tryz.prog.info? 55).map (fun i => (i.zero.map (·.cells.size), i.size, i.bytes)) = some (some 10, 10, 152) := by kernel_rfl
theorem clU64 : Tryz.prog.underlying 31 = some (.slice 55) := by kernel_rfl
set_option maxHeartbeats 1000000 in
theorem clN64 (n c : Nat) (w : World) : Calls Tryz.prog 64 #[.slice none n c] w fun e w' => e = .returned (.slice none 0 0) ∧ w' = w := by
  have mixed : Tryz.prog.follows .mixedOrders = true := by kernel_rfl
  have q : ∀ (w : World) (a : Option Addr) (n c n' c' : Nat), (binOp .eql 31 (.slice a n c) (.slice none n' c')).run Tryz.prog w = .ok (.bool a.isNone) w := fun w a n c n' c' => Lib.run_eql_slice_nil w _ _ a n c n' c' clU64
  go_enter Tryz.func64, Tryz.ntmps64
  go_wp2
  go_ret
  exact ⟨rfl, rfl⟩
set_option maxHeartbeats 2000000 in
set_option maxRecDepth 100000 in
theorem clZ64 (a : Addr) (c : Nat) (w : World) : Calls Tryz.prog 64 #[.slice (some a) 0 c] w fun e w' => ∃ v', e = .returned v' ∧ w'.ownsRow w.heap.size 55 10 v' 0 [] ∧ Below w.heap.size w w' := by
  have mixed : Tryz.prog.follows .mixedOrders = true := by kernel_rfl
  obtain ⟨i0, hi, hzz⟩ := Option.map_eq_some_iff.1 clI64
  simp only [Prod.mk.injEq] at hzz
  obtain ⟨hz0, hz1, hz2⟩ := hzz
  obtain ⟨z, hz, hzs⟩ := Option.map_eq_some_iff.1 hz0
  have q : ∀ (w : World) (a : Option Addr) (n c n' c' : Nat), (binOp .eql 31 (.slice a n c) (.slice none n' c')).run Tryz.prog w = .ok (.bool a.isNone) w := fun w a n c n' c' => Lib.run_eql_slice_nil w _ _ a n c n' c' clU64
  have u : ∀ w, Sem.run Tryz.prog (underlying 31) w = .ok (TypeDesc.slice 55) w := run_underlying clU64
  go_enter Tryz.func64, Tryz.ntmps64
  go_wp2_with (at_builtin; refine wpList_append_own _ rfl _ _ 31 rfl w.heap.size 55 i0 z 10 152 clU64 hi hz hz1 hz2 hzs (by decide) _ _ _ rfl (World.ownsRow_made w #[] 0 (Nat.le_refl _) (Nat.zero_le _) rfl) a 0 c [] rfl rfl (by intro j u hj; simp at hj) (by intro u hu; cases hu) (by unfold maxLen; omega) (by omega) (by simp) ?_)
  intro v' w1 hown hgrow hnil
  go_wp2
  go_ret
  refine ⟨v', rfl, by simpa using hown, ?_⟩
  exact ((Below.refl _ w).alloc (Nat.le_refl _) _).grown hgrow (by simp) (by intro k hk; simp [Value.ownBlock] at hk; omega)
theorem clM64 (e : List X) (r : List (List X)) (t : Bool) (N : Nat) (h : (e :: r).length ≤ 1000000) : callF tab1 ext0 (N + 1) (.fn 64) [.sl t 10 (e :: r)] [] = some (.bs 0 0 (e :: r).length, [.row 10 (e :: r)]) := by
  have := callF_of (T := tab1) (ext := ext0) (N := N) (f := 64) (args := [.sl t 10 (e :: r)]) (inb := []) (r := some (.bs 0 0 (0 + (e :: r).length), [.row 10 ([] ++ (e :: r))])) [(7, .fresh)] [] (pf1 (a := (e :: r).isEmpty = false ∧ roomOk (0 + (e :: r).length) 152 = true) ⟨rfl, by rw [Nat.zero_add]; exact roomC h (by decide)⟩) (by kernel_rfl)
  rw [Nat.zero_add, List.nil_append] at this
  exact this
theorem cl_sem64 (t : Bool) (es : List (List X)) (h : es.length ≤ 1000000) : FSem Tryz.prog (RCode Tryz.prog gl) 64 [.sl t 10 es] [] (.bs 0 0 es.length) [.row 10 es] := by
  cases es with
  | cons e r => exact ((machine1 1).fn _ _ _ _ _ (clM64 e r t 0 h)).2
  | nil =>
    intro K C w cargs hI ha
    have hs : cargs.size = 1 := ha.1
    have r0 := ha.2 0 _ cargs[0] rfl (Array.getElem?_eq_getElem (by omega))
    have hca : cargs = #[cargs[0]] := by
      refine Array.ext (by simp [hs]) fun i h1 h2 => ?_
      match i, h1, h2 with
      | 0, _, _ => rfl
      | i + 1, h1, _ => omega
    rw [hca]
    generalize cargs[0] = v at r0
    have key : Calls Tryz.prog 64 #[v] w fun e w' => ∃ v', e = .returned v' ∧ w'.ownsRow w.heap.size 55 10 v' 0 [] ∧ Below w.heap.size w w' := by
      generalize hx : X.sl t 10 [] = x at r0
      cases r0 <;> try cases hx
      case slNil ob =>
        cases ob with
        | none =>
          refine (clN64 0 0 w).mono ?_
          rintro e w' ⟨rfl, rfl⟩
          exact ⟨_, rfl, World.ownsRow_nil _ _ _ _, Below.refl _ _⟩
        | some a => exact clZ64 a 0 w
      case sl => exact clZ64 _ _ w
    exact fsem_none (inb := []) (args := []) hI key
end

section
theorem clI65 : (Tryz.prog.info? 53).map (fun i => (i.zero.map (·.cells.size), i.size, i.bytes)) = some (some 6, 6, 88) := by kernel_rfl
theorem clU65 : Tryz.prog.underlying 50 = some (.slice 53) := by kernel_rfl
set_option maxHeartbeats 1000000 in
theorem clN65 (n c : Nat) (w : World) : Calls Tryz.prog 65 #[.slice none n c] w fun e w' => e = .returned (.slice none 0 0) ∧ w' = w := by
  have mixed : Tryz.prog.follows .mixedOrders = true := by kernel_rfl
  have q : ∀ (w : World) (a : Option Addr) (n c n' c' : Nat), (binOp .eql 50 (.slice a n c) (.slice none n' c')).run Tryz.prog w = .ok (.bool a.isNone) w := fun w a n c n' c' => Lib.run_eql_slice_nil w _ _ a n c n' c' clU65
  go_enter Tryz.func65, Tryz.ntmps65
  go_wp2
  go_ret
  exact ⟨rfl, rfl⟩
set_option maxHeartbeats 2000000 in
set_option maxRecDepth 100000 in
theorem clZ65 (a : Addr) (c : Nat) (w : World) : Calls Tryz.prog 65 #[.slice (some a) 0 c] w fun e w' => ∃ v', e = .returned v' ∧ w'.ownsRow w.heap.size 53 6 v' 0 [] ∧ Below w.heap.size w w' := by
  have mixed : Tryz.prog.follows .mixedOrders = true := by kernel_rfl
  obtain ⟨i0, hi, hzz⟩ := Option.map_eq_some_iff.1 clI65
  simp only [Prod.mk.injEq] at hzz
  obtain ⟨hz0, hz1, hz2⟩ := hzz
  obtain ⟨z, hz, hzs⟩ := Option.map_eq_some_iff.1 hz0
  have q : ∀ (w : World) (a : Option Addr) (n c n' c' : Nat), (binOp .eql 50 (.slice a n c) (.slice none n' c')).run Tryz.prog w = .ok (.bool a.isNone) w := fun w a n c n' c' => Lib.run_eql_slice_nil w _ _ a n c n' c' clU65
  have u : ∀ w, Sem.run Tryz.prog (underlying 50) w = .ok (TypeDesc.slice 53) w := run_underlying clU65
  go_enter Tryz.func65, Tryz.ntmps65
  go_wp2_with (at_builtin; refine wpList_append_own _ rfl _ _ 50 rfl w.heap.size 53 i0 z 6 88 clU65 hi hz hz1 hz2 hzs (by decide) _ _ _ rfl (World.ownsRow_made w #[] 0 (Nat.le_refl _) (Nat.zero_le _) rfl) a 0 c [] rfl rfl (by intro j u hj; simp at hj) (by intro u hu; cases hu) (by unfold maxLen; omega) (by omega) (by simp) ?_)
  intro v' w1 hown hgrow hnil
  go_wp2
  go_ret
  refine ⟨v', rfl, by simpa using hown, ?_⟩
  exact ((Below.refl _ w).alloc (Nat.le_refl _) _).grown hgrow (by simp) (by intro k hk; simp [Value.ownBlock] at hk; omega)
theorem clM65 (e : List X) (r : List (List X)) (t : Bool) (N : Nat) (h : (e :: r).length ≤ 1000000) : callF tab1 ext0 (N + 1) (.fn 65) [.sl t 6 (e :: r)] [] = some (.bs 0 0 (e :: r).length, [.row 6 (e :: r)]) := by
  have := callF_of (T := tab1) (ext := ext0) (N := N) (f := 65) (args := [.sl t 6 (e :: r)]) (inb := []) (r := some (.bs 0 0 (0 + (e :: r).length), [.row 6 ([] ++ (e :: r))])) [(7, .fresh)] [] (pf1 (a := (e :: r).isEmpty = false ∧ roomOk (0 + (e :: r).length) 88 = true) ⟨rfl, by rw [Nat.zero_add]; exact roomC h (by decide)⟩) (by kernel_rfl)
  rw [Nat.zero_add, List.nil_append] at this
  exact this
theorem cl_sem65 (t : Bool) (es : List (List X)) (h : es.length ≤ 1000000) : FSem Tryz.prog (RCode Tryz.prog gl) 65 [.sl t 6 es] [] (.bs 0 0 es.length) [.row 6 es] := by
  cases es with
  | cons e r => exact ((machine1 1).fn _ _ _ _ _ (clM65 e r t 0 h)).2
  | nil =>
    intro K C w cargs hI ha
    have hs : cargs.size = 1 := ha.1
    have r0 := ha.2 0 _ cargs[0] rfl (Array.getElem?_eq_getElem (by omega))
    have hca : cargs = #[cargs[0]] := by
      refine Array.ext (by simp [hs]) fun i h1 h2 => ?_
      match i, h1, h2 with
      | 0, _, _ => rfl
      | i + 1, h1, _ => omega
    rw [hca]
    generalize cargs[0] = v at r0
    have key : Calls Tryz.prog 65 #[v] w fun e w' => ∃ v', e = .returned v' ∧ w'.ownsRow w.heap.size 53 6 v' 0 [] ∧ Below w.heap.size w w' := by
      generalize hx : X.sl t 6 [] = x at r0
      cases r0 <;> try cases hx
      case slNil ob =>
        cases ob with
        | none =>
          refine (clN65 0 0 w).mono ?_
          rintro e w' ⟨rfl, rfl⟩
          exact ⟨_, rfl, World.ownsRow_nil _ _ _ _, Below.refl _ _⟩
        | some a => exact clZ65 a 0 w
      case sl => exact clZ65 _ _ w
    exact fsem_none (inb := []) (args := []) hI key
end

section
theorem clI47 : (Tryz.prog.info? 70).map (fun i => (i.zero.map (·.cells.size), i.size, i.bytes)) = some (some 5, 5, 80) := by kernel_rfl
theorem clU47 : Tryz.prog.underlying 40 = some (.slice 70) := by kernel_rfl
set_option maxHeartbeats 1000000 in
theorem clN47 (n c : Nat) (w : World) : Calls Tryz.prog 47 #[.slice none n c] w fun e w' => e = .returned (.slice none 0 0) ∧ w' = w := by
  have mixed : Tryz.prog.follows .mixedOrders = true := by kernel_rfl
  have q : ∀ (w : World) (a : Option Addr) (n c n' c' : Nat), (binOp .eql 40 (.slice a n c) (.slice none n' c')).run Tryz.prog w = .ok (.bool a.isNone) w := fun w a n c n' c' => Lib.run_eql_slice_nil w _ _ a n c n' c' clU47
  go_enter Tryz.func47, Tryz.ntmps47
  go_wp2
  go_ret
  exact ⟨rfl, rfl⟩
set_option maxHeartbeats 2000000 in
set_option maxRecDepth 100000 in
theorem clZ47 (a : Addr) (c : Nat) (w : World) : Calls Tryz.prog 47 #[.slice (some a) 0 c] w fun e w' => ∃ v', e = .returned v' ∧ w'.ownsRow w.heap.size 70 5 v' 0 [] ∧ Below w.heap.size w w' := by
  have mixed : Tryz.prog.follows .mixedOrders = true := by kernel_rfl
  obtain ⟨i0, hi, hzz⟩ := Option.map_eq_some_iff.1 clI47
  simp only [Prod.mk.injEq] at hzz
  obtain ⟨hz0, hz1, hz2⟩ := hzz
  obtain ⟨z, hz, hzs⟩ := Option.map_eq_some_iff.1 hz0
  have q : ∀ (w : World) (a : Option Addr) (n c n' c' : Nat), (binOp .eql 40 (.slice a n c) (.slice none n' c')).run Tryz.prog w = .ok (.bool a.isNone) w := fun w a n c n' c' => Lib.run_eql_slice_nil w _ _ a n c n' c' clU47
  have u : ∀ w, Sem.run Tryz.prog (underlying 40) w = .ok (TypeDesc.slice 70) w := run_underlying clU47
  go_enter Tryz.func47, Tryz.ntmps47
  go_wp2_with (at_builtin; refine wpList_append_own _ rfl _ _ 40 rfl w.heap.size 70 i0 z 5 80 clU47 hi hz hz1 hz2 hzs (by decide) _ _ _ rfl (World.ownsRow_made w #[] 0 (Nat.le_refl _) (Nat.zero_le _) rfl) a 0 c [] rfl rfl (by intro j u hj; simp at hj) (by intro u hu; cases hu) (by unfold maxLen; omega) (by omega) (by simp) ?_)
  intro v' w1 hown hgrow hnil
  go_wp2
  go_ret
  refine ⟨v', rfl, by simpa using hown, ?_⟩
  exact ((Below.refl _ w).alloc (Nat.le_refl _) _).grown hgrow (by simp) (by intro k hk; simp [Value.ownBlock] at hk; omega)
theorem clM47 (e : List X) (r : List (List X)) (t : Bool) (N : Nat) (h : (e :: r).length ≤ 1000000) : callF tab1 ext0 (N + 1) (.fn 47) [.sl t 5 (e :: r)] [] = some (.bs 0 0 (e :: r).length, [.row 5 (e :: r)]) := by
  have := callF_of (T := tab1) (ext := ext0) (N := N) (f := 47) (args := [.sl t 5 (e :: r)]) (inb := []) (r := some (.bs 0 0 (0 + (e :: r).length), [.row 5 ([] ++ (e :: r))])) [(7, .fresh)] [] (pf1 (a := (e :: r).isEmpty = false ∧ roomOk (0 + (e :: r).length) 80 = true) ⟨rfl, by rw [Nat.zero_add]; exact roomC h (by decide)⟩) (by kernel_rfl)
  rw [Nat.zero_add, List.nil_append] at this
  exact this
theorem cl_sem47 (t : Bool) (es : List (List X)) (h : es.length ≤ 1000000) : FSem Tryz.prog (RCode Tryz.prog gl) 47 [.sl t 5 es] [] (.bs 0 0 es.length) [.row 5 es] := by
  cases es with
  | cons e r => exact ((machine1 1).fn _ _ _ _ _ (clM47 e r t 0 h)).2
  | nil =>
    intro K C w cargs hI ha
    have hs : cargs.size = 1 := ha.1
    have r0 := ha.2 0 _ cargs[0] rfl (Array.getElem?_eq_getElem (by omega))
    have hca : cargs = #[cargs[0]] := by
      refine Array.ext (by simp [hs]) fun i h1 h2 => ?_
      match i, h1, h2 with
      | 0, _, _ => rfl
      | i + 1, h1, _ => omega
    rw [hca]
    generalize cargs[0] = v at r0
    have key : Calls Tryz.prog 47 #[v] w fun e w' => ∃ v', e = .returned v' ∧ w'.ownsRow w.heap.size 70 5 v' 0 [] ∧ Below w.heap.size w w' := by
      generalize hx : X.sl t 5 [] = x at r0
      cases r0 <;> try cases hx
      case slNil ob =>
        cases ob with
        | none =>
          refine (clN47 0 0 w).mono ?_
          rintro e w' ⟨rfl, rfl⟩
          exact ⟨_, rfl, World.ownsRow_nil _ _ _ _, Below.refl _ _⟩
        | some a => exact clZ47 a 0 w
      case sl => exact clZ47 _ _ w
    exact fsem_none (inb := []) (args := []) hI key
end

end Go.Proofs.YtejenmhcebfnlaaGreatDoor
