/- The abstract machine: a contract of the kit whose result is an empty row in memory of its own. -/
import Derived.Test.YtbfnfldmnombgaaGreatDoorEmQ9
namespace Go.Em
open Go.RowKit
variable {P : Program} {R : CodeRel} {w w' : World}

/-- What comes back is an empty row of the call's own. -/
theorem fsem_none {f : FuncId} {args : List X} {inb : List Bx} {el : TypeId} {k : Nat} {cargs : Array Value} {K : Kn} {C : List CB} (hI : Inv P R K C inb w)
    (h : Calls P f cargs w fun e w' => ∃ v', e = .returned v' ∧ w'.ownsRow w.heap.size el k v' 0 [] ∧ Below w.heap.size w w') : Calls P f cargs w (Post P R K C inb w (.bs inb.length 0 0) (inb ++ [.row k []])) := by
  refine h.mono ?_
  rintro e w' ⟨v', rfl, ⟨hlen, hrow⟩, hB⟩
  have hf := frame_of_below hB
  have hI' := hI.still hf
  have hsz := hI.size
  have key : ∀ c : CB, BoxOk P R K (C ++ [c]) w' (.row k []) c → (∀ b o, c.owns b o → w.heap.size ≤ b) → Rep K (C ++ [c]) (.bs inb.length 0 0) v' → Post P R K C inb w (.bs inb.length 0 0) (inb ++ [.row k []]) (.returned v') w' := by
    intro c hbox hown hres
    refine ⟨v', K, [c], rfl, hI'.push hbox (fun b o ho => ?_) (fun b o ho ho' => ?_), hres, KLe.refl _, fun b o v e => .inl e, fun b o ho => ?_, hf.mono (fun b o _ hs => hs.elim), fun i B hB hl => ⟨B, ?_, hl⟩⟩
    · cases hk : K b o with
      | none => rfl
      | some u => have := hI.known_lt hk; have := hown b o ho; omega
    · have := hI.owns_lt ho'; have := hown b o ho; omega
    · rcases owns_push (by simpa using hsz) ho with ho | ho
      · exact .inl ho
      · exact .inr (hown b o ho)
    · rw [List.getElem?_append_left (List.getElem?_eq_some_iff.1 hB).1]; exact hB
  have hlast : ∀ c : CB, (C ++ [c])[inb.length]? = some c := fun c => by rw [← hsz]; simp
  rcases hrow with ⟨rfl, hn⟩ | ⟨g, cap, cur, rfl, hg, hc, hncap, hmax, hsize, htake⟩
  · exact key .ghost rfl (fun b o ho => ho.elim) (.bsNil (hlast _))
  · refine key (.at g 0 (cap * k) k) ⟨rfl, by simp, fun e he => by simp at he, cur, el, hc, by omega, fun i j x hx => by simp [at2] at hx⟩ (fun b o ho => by rw [ho.1]; exact hg) ?_
    have := @Rep.bs K (C ++ [.at g 0 (cap * k) k]) inb.length 0 0 g 0 (cap * k) k cap (hlast _) (by simp) hncap
    simpa using this
end Go.Em
