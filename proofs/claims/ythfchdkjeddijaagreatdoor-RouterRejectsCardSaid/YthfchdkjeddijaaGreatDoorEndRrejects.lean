/- RouterRejects: the row, and its tied card. Conditions: none. -/
import Derived.Test.YthfchdkjeddijaaGreatDoorCards
import Derived.Test.YthfchdkjeddijaaGreatDoorTie
import Derived.OpenShut
import Derived.SevenTiedAt
import Derived.Stop.Joined
import Derived.Test.YthfchdkjeddijaaGreatDoorK15
import Derived.Test.YthfchdkjeddijaaGreatDoorK16
import Derived.Test.YthfchdkjeddijaaGreatDoorK29
namespace Go.Proofs.YthfchdkjeddijaaGreatDoor
open Go.ChangeShapes Go.WideShapes Go.ChangeAt Go.RowKit Go.Em

theorem params_routerrejects : Tryz.f12.params.toList = [45, 25, 56] := by kernel_rfl
theorem par_routerrejects {t : TypeId} (h : t ∈ ([45, 25, 56] : List TypeId)) : t ∈ tys := by
  simp only [List.mem_cons, List.not_mem_nil, or_false] at h
  rcases h with rfl | rfl | rfl
  · decide
  · decide
  · decide

def zI : Value := .int .i64 0
def zT : Value := .string ⟨#[]⟩
def zS : Value := .slice none 0 0
/-- All zero. -/
def zeroArgs : Array Value := #[.agg #[zT, zI, zI, zI, zI, zI, zI, zT, zI, zI, zI, zI, zS, zS, zS, zS, zS, zS, zS, zS], .agg #[zI, zI, zS], .agg #[zI, zI, zI, zS, zI, zS, zI, zS, zI, zI, zI, zT, zS, zS, zI, .bool false, .bool false, zI, zI, zI, zT, zS, zS]]

set_option maxRecDepth 100000 in
theorem routerrejects_lifted (os : Os) (started : os.Started) (H : Type) (enc : TypeId × Value → H) :
    ReturnsInHanded {} Tryz.checked os 12 .any (fun w args => (Rows.routerRejectsSpec.pre enc Tryz.prog Tryz.f12 Rows.routerRejectsRow.domain false w args ∧ laidMetH Tryz.prog laidZ w) ∧ sizedMet enc Tryz.prog Tryz.f12 (OpenSpec.ofChange Rows.routerRejectsSpec) false w args)
      (Rows.routerRejectsSpec.post enc Tryz.prog Tryz.f12 false true false false) := by
  refine returnsInHanded_of_change_and (C := Tryz.checked) (X := fun w _ => laidMetH Tryz.prog laidZ w) (fun _ _ _ hh h => h.of_heap hh) Tryz.own started (by kernel_rfl) Tryz.func12
    (ChangeSpec.witness_shaped (enc := enc) (C := Tryz.checked) (os := os) (X := fun w _ => laidMetH Tryz.prog laidZ w) false (World.laidAll Tryz.prog os laidZ) zeroArgs 12 (World.laidAll_os _ _ _)
      (World.shaped_of_ZipB (by kernel_rfl) (by kernel_rfl)) (by kernel_rfl) (by kernel_rfl) (by kernel_rfl)
      (by rw [MakeChecks.laidMetH_plain _ _ _ (by kernel_rfl)]; exact laidMet_laidAll _ (by kernel_rfl) (by kernel_rfl))) ?_
  intro W base args ds gs before hval hW _ _ hL _
  refine lifted_true (P := Tryz.prog) (Γ := callF tab ext) machine tys_kids (kids_some tys_ok) (kids_full tys_ok) (fun t ht => ?_) (tb := 4) rfl under4 rfl (fun ds hds => ?_) (fun xss hlen hsh => ?_) W (globOk hL) base args ds gs before hval hW
  · rw [params_routerrejects] at ht
    exact ⟨par_routerrejects ht, tys_lt (par_routerrejects ht)⟩
  · match ds, hds with
    | [_, _, _], _ => rfl
  · match xss, hlen with
    | [x0, x1, x2], _ =>
      obtain ⟨_, h0⟩ := hsh 0 45 x0 rfl rfl
      obtain ⟨_, h1⟩ := hsh 1 25 x1 rfl rfl
      obtain ⟨_, h2⟩ := hsh 2 56 x2 rfl rfl
      have hn := shape_node h0
      obtain ⟨s, rfl⟩ := shape_stt h1
      obtain ⟨i, rfl⟩ := shape_inp h2
      refine ⟨201000, [], ?_⟩
      have : argsX Tryz.prog Tryz.f12.params.toList [x0, s.cells, i.cells] = [.agg x0, .agg s.cells, .agg i.cells] := by
        kernel_rfl
      rw [this]
      exact rrejects_all x0 hn s i

set_option maxRecDepth 100000
theorem routerrejects_a1 : (Rows.routerRejectsRow.inPlace == Tryz.prog.inPlace 12) = true := by kernel_rfl
theorem routerrejects_a2 : (Rows.routerRejectsRow.unfollowed == Tryz.prog.unfollowed 12) = true := by kernel_rfl
theorem routerrejects_a3 : (Rows.routerRejectsRow.recurses == Tryz.prog.recurses 12) = true := by kernel_rfl
theorem routerrejects_a4 : (Rows.routerRejectsRow.named == Tryz.prog.varsNamed 12) = true := by kernel_rfl
theorem routerrejects_b1 : (Rows.routerRejectsRow.wf (OpenSpec.ofChange Rows.routerRejectsSpec) && Tryz.f12.params.all (Tryz.prog.readableRec ·) && namedTie Tryz.prog Rows.routerRejectsRow.named Rows.routerRejectsSpec.vars && (Rows.routerRejectsRow.stops == []) && (Rows.routerRejectsRow.knobs == [])) = true := by kernel_rfl
theorem routerrejects_b2 : ((Rows.routerRejectsRow.maps == (Tryz.f12.params.toList ++ Rows.routerRejectsSpec.plain.varTypes Tryz.prog).any (Tryz.prog.mapsRec ·)) && (Rows.routerRejectsRow.ifaces == (Tryz.f12.params.toList ++ Rows.routerRejectsSpec.plain.varTypes Tryz.prog).any (Tryz.prog.ifacesRec ·)) && (Rows.routerRejectsRow.mapsOut == Tryz.prog.mapsAmong Tryz.f12.resultTypes.toList) &&
      (Rows.routerRejectsRow.loops == (Tryz.f12.params.toList ++ Rows.routerRejectsSpec.plain.varTypes Tryz.prog).any (Tryz.prog.loopsFrom ·)) && (Rows.routerRejectsRow.wideKeys == (Tryz.f12.params.toList ++ Rows.routerRejectsSpec.plain.varTypes Tryz.prog ++ Tryz.f12.resultTypes.toList).any (Tryz.prog.wideKeysFrom ·))) = true := by kernel_rfl
theorem routerrejects_b3 : (Rows.routerRejectsSpec.vars.all (Tryz.prog.varReadable ·) && Tryz.f12.resultTypes.all (fun t => Tryz.prog.readableRec t && decide (t < Tryz.prog.types.size)) && (Rows.routerRejectsRow.ifacesOut == Tryz.f12.resultTypes.toList.any (Tryz.prog.ifacesRec ·)) && (Rows.routerRejectsRow.loopsOut == Tryz.f12.resultTypes.toList.any (Tryz.prog.loopsFrom ·)) && Rows.routerRejectsRow.shortTexts.isNone) = true := by kernel_rfl
theorem routerrejects_b4 : ((Rows.routerRejectsRow.kinds == (if Rows.routerRejectsRow.domain.isEmpty then [] else Tryz.f12.params.toList.map fun t => match Tryz.prog.underlying t with | some (.int k) => some k | _ => none)) && (Rows.routerRejectsRow.pinned == Rows.routerRejectsRow.pinnedBy) &&
      (Rows.routerRejectsRow.veiled == (Tryz.f12.params.toList ++ Rows.routerRejectsSpec.plain.varTypes Tryz.prog ++ Tryz.f12.resultTypes.toList).any (Tryz.prog.veiledRec ·)) && Rows.routerRejectsRow.veiledFits Tryz.prog Tryz.f12.params.toList (Tryz.f12.params.toList ++ Rows.routerRejectsSpec.plain.varTypes Tryz.prog ++ Tryz.f12.resultTypes.toList)) = true := by kernel_rfl
theorem routerrejects_named : Tryz.prog.funcNamed "manifold/manifoldlaw31.RouterRejects" = some 12 := by kernel_rfl
theorem routerrejects_ids : decide (Tryz.f12.isInstance Tryz.prog Rows.routerRejectsRow.origin Rows.routerRejectsRow.targs) = true := by kernel_rfl
theorem routerrejects_wrap : Tryz.f12.isWrapper Tryz.prog Rows.routerRejectsRow.wrapper Rows.routerRejectsRow.mainSum := by unfold Func.isWrapper; rw [if_neg (by decide +kernel)]; exact ⟨rfl, rfl⟩
theorem routerrejects_joined : joinedFacts Tryz.prog 12 Tryz.f12 Rows.routerRejectsSpec Rows.routerRejectsRow = true :=
  joined_of Tryz.laidOut Tryz.rowed jf_stops jf_heard jf_enter routerrejects_a1 routerrejects_a2 routerrejects_a3 routerrejects_a4 routerrejects_b1 routerrejects_b2 routerrejects_b3
    (by rw [jf_plain]; rfl) (by rw [jf_lifted]; rfl) jf_make routerrejects_b4
theorem routerrejects_holds : Rows.RouterRejectsSaid :=
  OpenClaim.holds_of_wide 12 Tryz.f12 rfl rfl rfl rfl rfl rfl rfl ⟨rfl, rfl, rfl, rfl, rfl⟩ rfl rfl rfl rfl rfl routerrejects_named Tryz.func12 routerrejects_joined
    (of_decide_eq_true routerrejects_ids) routerrejects_wrap
    (fun os started H enc _ => routerrejects_lifted os started H enc)
theorem routerrejects_text : Rows.routerRejectsRow.wfByText (OpenSpec.ofChange Rows.routerRejectsSpec) = true := by kernel_rfl
theorem routerrejects_goes : false = Rows.routerRejectsRow.goesBy Tryz.prog := by kernel_rfl
theorem routerrejects_stand : ((([45, 25, 56] : List TypeId).all fun u => !Tryz.prog.wantsStandIn u) = true) ∧ Tryz.f12.params = #[45, 25, 56] := ⟨by kernel_rfl, by kernel_rfl⟩
theorem routerrejects_card : Rows.RouterRejectsCardSaid :=
  Claim7.holds_tied_plain_at .later [] [.data, .data, .data, .data, .sentinel, .sentinel, .pinned] true (true, "fda8d723c99205a616a719e840104a1e214bfa621fcce8c0bc2210fee27a5a68") true routerrejects_holds (fun _ h => by cases h) routerrejects_text (fun _ h => by cases h) routerRejects_row_tie rfl ⟨rfl, rfl⟩ jf_main rfl
    (fun f fn hf hfn => by
      obtain rfl : f = 12 := Option.some.inj (routerrejects_named.symm.trans hf) |>.symm
      obtain rfl : fn = Tryz.f12 := (Option.some.inj (Tryz.func12.symm.trans hfn)).symm
      refine ⟨jf_looks, fun j t ht => ?_⟩
      rw [routerrejects_stand.2] at ht
      have hm : t ∈ ([45, 25, 56] : List TypeId) := by simpa using Array.mem_of_getElem? ht
      exact (show Tryz.prog.wantsStandIn t = false by simpa using List.all_eq_true.1 routerrejects_stand.1 t hm))
    routerrejects_goes
end Go.Proofs.YthfchdkjeddijaaGreatDoor
