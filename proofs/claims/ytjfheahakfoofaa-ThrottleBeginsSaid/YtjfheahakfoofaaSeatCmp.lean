/- The abstract machine with this table is sound for the program. -/
import Derived.Test.YtjfheahakfoofaaSeatTab
import Derived.Test.YtjfheahakfoofaaEmData
import Derived.WalkKit
namespace Go.Proofs.Ytjfheahakfoofaa
open Go.RowKit

set_option maxHeartbeats 1000000 in
theorem compare_calls (a b : ByteArray) (w : World) :
    Calls Try.prog 67 #[.string a, .string b] w fun e w' => e = .returned (.int .i64 (Lib.compareBytes a.data.toList b.data.toList)) ∧ w' = w := by
  go_enter Try.func67, Try.ntmps67
  go_wp2
  rw [run_callFunc_extern Try.func69 (by kernel_rfl) (by kernel_rfl) (by kernel_rfl) (e := Extern.BytealgCompare.compare) (by kernel_rfl), Lib.run_compareString]
  simp only [Result.andThen]
  rw [Oper.upon_value]
  go_wp2
  go_ret
  exact ⟨rfl, rfl⟩

open Go.Em

theorem tabOk : TabOk Try.prog tab := by
  intro f fd h
  unfold tab at h
  split at h
  · exact ⟨_, h⟩
  · cases h

theorem extOk : ExtOk Try.prog ext := by
  intro f g hg args inb res outb h
  unfold ext at hg
  split at hg
  · rename_i hf
    have hf' : f = 67 := by simpa using hf
    subst hf'
    simp only [Option.some.injEq] at hg
    subst hg
    unfold compareExt at h
    split at h
    · rename_i a b
      simp only [Option.some.injEq, Prod.mk.injEq] at h
      obtain ⟨rfl, rfl⟩ := h
      refine ⟨fnOk Try.func67 (fun e => absurd e (of_decide_eq_false (by kernel_rfl))) (fun e => by simpa [e] using (show Try.f67.body.isSome = true by kernel_rfl)), fsem_pure rfl fun cargs w K C ha => ?_⟩
      have h2 : cargs = #[.string a, .string b] := by
        have hs : cargs.size = 2 := ha.1
        have r0 := rep_v (ha.2 0 _ cargs[0] rfl (Array.getElem?_eq_getElem (by omega)))
        have r1 := rep_v (ha.2 1 _ cargs[1] rfl (Array.getElem?_eq_getElem (by omega)))
        refine Array.ext (by simp [hs]) fun i h1 h2 => ?_
        match i, h1, h2 with
        | 0, _, _ => simpa using r0
        | 1, _, _ => simpa using r1
        | i + 2, h1, _ => omega
      rw [h2]
      exact compare_calls a b w
    · cases h
  · cases hg

theorem machine (n : Nat) : GamOk Try.prog (RCode Try.prog) (callF tab ext n) := callF_ok tabOk extOk n

end Go.Proofs.Ytjfheahakfoofaa
