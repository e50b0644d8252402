/- The abstract machine: a contract on data, in the kit's words. -/
import Derived.Test.YtjfheahakfoofaaEmAll
import Derived.Test.YtjfheahakfoofaaEmAsk
import Derived.Below
namespace Go.Em
open Go.RowKit
variable {P : Program} {R : CodeRel} {w w' : World}

theorem below_of_frame (h : FrameOk nowhere w w') : Below w.heap.size w w' := by
  refine ⟨h.os, h.tape, h.output, h.size, fun k hk => ?_⟩
  rcases h.block k hk with ⟨h1, _, _⟩ | h1 | ⟨cs, cs', el, fr, h1, h2, h3, h4⟩
  · exact (h1 0).elim
  · exact h1.symm
  · have : cs = cs' := Array.ext_getElem? fun i => h4 i id
    rw [h1, h2, this]

/-- A contract on data: what comes back is a value that bears no address. -/
theorem calls_of_data {f : FuncId} {args : List X} {u : Value} {outb : List Bx} {cargs : Array Value} {K : Kn} (h : FSem P R f args [] (.v u) outb) (hK : ∀ (b o : Nat) (v : Value), K b o = some v → w.cell? ⟨b, o, none⟩ = some v) (ha : ArgsRep K [] args cargs) :
    Calls P f cargs w fun e w' => e = .returned u ∧ Below w.heap.size w w' := by
  have hI : Inv P R K [] [] w := ⟨hK, rfl, fun b o ho => (owns_nil ho).elim, fun i j c d A B b o _ hc => by simp at hc, fun i B c hB => by simp at hB⟩
  refine (h K [] w cargs hI ha).mono ?_
  rintro e w' ⟨v, K', E, rfl, hp⟩
  have := rep_v hp.res
  subst this
  exact ⟨rfl, below_of_frame (hp.frame.mono fun b o _ ho => (owns_nil ho).elim)⟩

theorem owns_same {K : Kn} {C : List CB} {inb : List Bx} (hI : Inv P R K C inb w) : Inv P R K (C ++ []) inb w := by rw [List.append_nil]; exact hI

/-- A function that gives back a value of one word, and leaves the world as it is. -/
theorem fsem_pure {f : FuncId} {args : List X} {inb : List Bx} {u : Value} (hu : okV u = true) (h : ∀ (cargs : Array Value) (w : World) (K : Kn) (C : List CB), ArgsRep K C args cargs → Calls P f cargs w fun e w' => e = .returned u ∧ w' = w) : FSem P R f args inb (.v u) inb := by
  intro K C w cargs hI ha
  refine (h cargs w K C ha).mono ?_
  rintro e w' ⟨rfl, rfl⟩
  exact ⟨u, K, [], rfl, owns_same hI, .v hu, KLe.refl _, fun b o v e => .inl e, fun b o ho => .inl (by rw [List.append_nil] at ho; exact ho), .refl _ _, fun i B hB hl => ⟨B, hB, hl⟩⟩

end Go.Em
