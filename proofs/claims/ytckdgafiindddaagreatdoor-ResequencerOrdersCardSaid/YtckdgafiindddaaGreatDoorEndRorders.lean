/- ResequencerOrders: the row, and its tied card. Conditions: none. -/
import Derived.Test.YtckdgafiindddaaGreatDoorCards
import Derived.Test.YtckdgafiindddaaGreatDoorTie
import Derived.Test.YtckdgafiindddaaGreatDoorU26
import Derived.Test.YtckdgafiindddaaGreatDoorU27
set_option linter.all false
namespace Go.Proofs.YtckdgafiindddaaGreatDoor
open Go.ChangeShapes Go.WideShapes Go.ChangeAt Go.RowKit Go.Em

theorem params_resequencerorders : Tryz.f3.params.toList = [22, 5, 5] := by kernel_rfl
theorem par_resequencerorders {t : TypeId} (h : t ∈ ([22, 5, 5] : List TypeId)) : t ∈ tysR := by
  simp only [List.mem_cons, List.not_mem_nil, or_false] at h
  rcases h with rfl | rfl | rfl
  · decide
  · decide
  · decide

def zIe : Value := .int .i64 0
def zTe : Value := .string ⟨#[]⟩
def zSe : Value := .slice none 0 0
/-- All zero. -/
def zeroArgs : Array Value := #[zSe, .int .u8 0, .int .u8 0]

set_option maxRecDepth 100000 in
theorem resequencerorders_lifted (os : Os) (started : os.Started) (H : Type) (enc : TypeId × Value → H) :
    ReturnsInHanded {} Tryz.checked os 3 .any (fun w args => (Rows.resequencerOrdersSpec.pre enc Tryz.prog Tryz.f3 Rows.resequencerOrdersRow.domain false w args ∧ laidMetH Tryz.prog laidZ w) ∧ sizedMet enc Tryz.prog Tryz.f3 (OpenSpec.ofChange Rows.resequencerOrdersSpec) false w args)
      (Rows.resequencerOrdersSpec.post enc Tryz.prog Tryz.f3 false true false false) := by
  refine returnsInHanded_of_change_and (C := Tryz.checked) (X := fun w _ => laidMetH Tryz.prog laidZ w) (fun _ _ _ hh h => h.of_heap hh) Tryz.own started (by kernel_rfl) Tryz.func3
    (ChangeSpec.witness_shaped (enc := enc) (C := Tryz.checked) (os := os) (X := fun w _ => laidMetH Tryz.prog laidZ w) false (World.laidAll Tryz.prog os laidZ) zeroArgs 12 (World.laidAll_os _ _ _)
      (World.shaped_of_ZipB (by kernel_rfl) (by kernel_rfl)) (by kernel_rfl) (by kernel_rfl) (by kernel_rfl)
      (by rw [MakeChecks.laidMetH_plain _ _ _ (by kernel_rfl)]; exact laidMet_laidAll _ (by kernel_rfl) (by kernel_rfl))) ?_
  intro W base args ds gs before hval hW _ _ hL _
  refine lifted_true (P := Tryz.prog) (Γ := callF tab ext) machine tysR_kids (kids_some tysR_ok) (kids_full tysR_ok) (fun t ht => ?_) (tb := 4) rfl under4 rfl (fun ds hds => ?_) (fun xss hlen hsh => ?_) W (globOk hL) base args ds gs before hval hW
  · rw [params_resequencerorders] at ht
    exact ⟨par_resequencerorders ht, tysR_lt (par_resequencerorders ht)⟩
  · match ds, hds with
    | [_, _, _], _ => rfl
  · match xss, hlen with
    | [x0, x1, x2], _ =>
      obtain ⟨_, h0⟩ := hsh 0 22 x0 rfl rfl
      obtain ⟨_, h1⟩ := hsh 1 5 x1 rfl rfl
      obtain ⟨_, h2⟩ := hsh 2 5 x2 rfl rfl
      obtain ⟨l, hl, rfl⟩ := shape_arvs h0
      obtain ⟨w, hw, rfl⟩ := shape_u8 h1
      obtain ⟨v, hv, rfl⟩ := shape_u8 h2
      refine ⟨202101, [], ?_⟩
      have : argsX Tryz.prog Tryz.f3.params.toList [[.sl false 4 (arvC l)], [u8 w], [u8 v]] = [.sl false 4 (arvC l), u8 w, u8 v] := by
        kernel_rfl
      rw [this]
      exact rorders_all l hl w v hw

set_option maxRecDepth 100000
theorem resequencerorders_a1 : (Rows.resequencerOrdersRow.inPlace == Tryz.prog.inPlace 3) = true := by kernel_rfl
theorem resequencerorders_a2 : (Rows.resequencerOrdersRow.unfollowed == Tryz.prog.unfollowed 3) = true := by kernel_rfl
theorem resequencerorders_a3 : (Rows.resequencerOrdersRow.recurses == Tryz.prog.recurses 3) = true := by kernel_rfl
theorem resequencerorders_a4 : (Rows.resequencerOrdersRow.named == Tryz.prog.varsNamed 3) = true := by kernel_rfl
theorem resequencerorders_b1 : (Rows.resequencerOrdersRow.wf (OpenSpec.ofChange Rows.resequencerOrdersSpec) && Tryz.f3.params.all (Tryz.prog.readableRec ·) && namedTie Tryz.prog Rows.resequencerOrdersRow.named Rows.resequencerOrdersSpec.vars && (Rows.resequencerOrdersRow.stops == []) && (Rows.resequencerOrdersRow.knobs == [])) = true := by kernel_rfl
theorem resequencerorders_b2 : ((Rows.resequencerOrdersRow.maps == (Tryz.f3.params.toList ++ Rows.resequencerOrdersSpec.plain.varTypes Tryz.prog).any (Tryz.prog.mapsRec ·)) && (Rows.resequencerOrdersRow.ifaces == (Tryz.f3.params.toList ++ Rows.resequencerOrdersSpec.plain.varTypes Tryz.prog).any (Tryz.prog.ifacesRec ·)) && (Rows.resequencerOrdersRow.mapsOut == Tryz.prog.mapsAmong Tryz.f3.resultTypes.toList) &&
      (Rows.resequencerOrdersRow.loops == (Tryz.f3.params.toList ++ Rows.resequencerOrdersSpec.plain.varTypes Tryz.prog).any (Tryz.prog.loopsFrom ·)) && (Rows.resequencerOrdersRow.wideKeys == (Tryz.f3.params.toList ++ Rows.resequencerOrdersSpec.plain.varTypes Tryz.prog ++ Tryz.f3.resultTypes.toList).any (Tryz.prog.wideKeysFrom ·))) = true := by kernel_rfl
theorem resequencerorders_b3 : (Rows.resequencerOrdersSpec.vars.all (Tryz.prog.varReadable ·) && Tryz.f3.resultTypes.all (fun t => Tryz.prog.readableRec t && decide (t < Tryz.prog.types.size)) && (Rows.resequencerOrdersRow.ifacesOut == Tryz.f3.resultTypes.toList.any (Tryz.prog.ifacesRec ·)) && (Rows.resequencerOrdersRow.loopsOut == Tryz.f3.resultTypes.toList.any (Tryz.prog.loopsFrom ·)) && Rows.resequencerOrdersRow.shortTexts.isNone) = true := by kernel_rfl
theorem resequencerorders_b4 : ((Rows.resequencerOrdersRow.kinds == (if Rows.resequencerOrdersRow.domain.isEmpty then [] else Tryz.f3.params.toList.map fun t => match Tryz.prog.underlying t with | some (.int k) => some k | _ => none)) && (Rows.resequencerOrdersRow.pinned == Rows.resequencerOrdersRow.pinnedBy) &&
      (Rows.resequencerOrdersRow.veiled == (Tryz.f3.params.toList ++ Rows.resequencerOrdersSpec.plain.varTypes Tryz.prog ++ Tryz.f3.resultTypes.toList).any (Tryz.prog.veiledRec ·)) && Rows.resequencerOrdersRow.veiledFits Tryz.prog Tryz.f3.params.toList (Tryz.f3.params.toList ++ Rows.resequencerOrdersSpec.plain.varTypes Tryz.prog ++ Tryz.f3.resultTypes.toList)) = true := by kernel_rfl
theorem resequencerorders_named : Tryz.prog.funcNamed "manifold/manifoldlaw34.ResequencerOrders" = some 3 := by kernel_rfl
theorem resequencerorders_ids : decide (Tryz.f3.isInstance Tryz.prog Rows.resequencerOrdersRow.origin Rows.resequencerOrdersRow.targs) = true := by kernel_rfl
theorem resequencerorders_wrap : Tryz.f3.isWrapper Tryz.prog Rows.resequencerOrdersRow.wrapper Rows.resequencerOrdersRow.mainSum := by unfold Func.isWrapper; rw [if_neg (by decide +kernel)]; exact ⟨rfl, rfl⟩
theorem resequencerorders_joined : joinedFacts Tryz.prog 3 Tryz.f3 Rows.resequencerOrdersSpec Rows.resequencerOrdersRow = true :=
  joined_of Tryz.laidOut Tryz.rowed jf_stops jf_heard jf_enter resequencerorders_a1 resequencerorders_a2 resequencerorders_a3 resequencerorders_a4 resequencerorders_b1 resequencerorders_b2 resequencerorders_b3
    (by rw [jf_plain]; rfl) (by rw [jf_lifted]; rfl) jf_make resequencerorders_b4
theorem resequencerorders_holds : Rows.ResequencerOrdersSaid :=
  OpenClaim.holds_of_wide 3 Tryz.f3 rfl rfl rfl rfl rfl rfl rfl ⟨rfl, rfl, rfl, rfl, rfl⟩ rfl rfl rfl rfl rfl resequencerorders_named Tryz.func3 resequencerorders_joined
    (of_decide_eq_true resequencerorders_ids) resequencerorders_wrap
    (fun os started H enc _ => resequencerorders_lifted os started H enc)
theorem resequencerorders_text : Rows.resequencerOrdersRow.wfByText (OpenSpec.ofChange Rows.resequencerOrdersSpec) = true := by kernel_rfl
theorem resequencerorders_goes : false = Rows.resequencerOrdersRow.goesBy Tryz.prog := by kernel_rfl
theorem resequencerorders_stand : ((([22, 5, 5] : List TypeId).all fun u => !Tryz.prog.wantsStandIn u) = true) ∧ Tryz.f3.params = #[22, 5, 5] := ⟨by kernel_rfl, by kernel_rfl⟩
theorem resequencerorders_card : Rows.ResequencerOrdersCardSaid :=
  Claim7.holds_tied_plain_at .later [] [.data, .data, .data, .data, .sentinel, .sentinel, .pinned] true (true, "5137f3551b1c4a9c79fdd57f10f0ba5c9da7cb1eacc1cb82495b3c1407e76844") true resequencerorders_holds (fun _ h => by cases h) resequencerorders_text (fun _ h => by cases h) resequencerOrders_row_tie rfl ⟨rfl, rfl⟩ jf_main rfl
    (fun f fn hf hfn => by
      obtain rfl : f = 3 := Option.some.inj (resequencerorders_named.symm.trans hf) |>.symm
      obtain rfl : fn = Tryz.f3 := (Option.some.inj (Tryz.func3.symm.trans hfn)).symm
      refine ⟨jf_looks, fun j t ht => ?_⟩
      rw [resequencerorders_stand.2] at ht
      have hm : t ∈ ([22, 5, 5] : List TypeId) := by simpa using Array.mem_of_getElem? ht
      exact (show Tryz.prog.wantsStandIn t = false by simpa using List.all_eq_true.1 resequencerorders_stand.1 t hm))
    resequencerorders_goes
end Go.Proofs.YtckdgafiindddaaGreatDoor
