/- RouterChecks: the row, and its tied card. Conditions: none. -/
import Derived.Test.YthfchdkjeddijaaGreatDoorCards
import Derived.Test.YthfchdkjeddijaaGreatDoorTie
import Derived.OpenShut
import Derived.SevenTiedAt
import Derived.Stop.Joined
import Derived.Test.YthfchdkjeddijaaGreatDoorK15
import Derived.Test.YthfchdkjeddijaaGreatDoorK16
import Derived.Test.YthfchdkjeddijaaGreatDoorK20
namespace Go.Proofs.YthfchdkjeddijaaGreatDoor
open Go.ChangeShapes Go.WideShapes Go.ChangeAt Go.RowKit Go.Em

theorem params_routerchecks : Tryz.f10.params.toList = [45, 25] := by kernel_rfl
theorem par_routerchecks {t : TypeId} (h : t ∈ ([45, 25] : List TypeId)) : t ∈ tys := by
  simp only [List.mem_cons, List.not_mem_nil, or_false] at h
  rcases h with rfl | rfl
  · decide
  · decide

def zI : Value := .int .i64 0
def zT : Value := .string ⟨#[]⟩
def zS : Value := .slice none 0 0
/-- All zero. -/
def zeroArgs : Array Value := #[.agg #[zT, zI, zI, zI, zI, zI, zI, zT, zI, zI, zI, zI, zS, zS, zS, zS, zS, zS, zS, zS], .agg #[zI, zI, zS]]

set_option maxRecDepth 100000 in
theorem routerchecks_lifted (os : Os) (started : os.Started) (H : Type) (enc : TypeId × Value → H) :
    ReturnsInHanded {} Tryz.checked os 10 .any (fun w args => (Rows.routerChecksSpec.pre enc Tryz.prog Tryz.f10 Rows.routerChecksRow.domain false w args ∧ laidMetH Tryz.prog laidZ w) ∧ sizedMet enc Tryz.prog Tryz.f10 (OpenSpec.ofChange Rows.routerChecksSpec) false w args)
      (Rows.routerChecksSpec.post enc Tryz.prog Tryz.f10 false true false false) := by
  refine returnsInHanded_of_change_and (C := Tryz.checked) (X := fun w _ => laidMetH Tryz.prog laidZ w) (fun _ _ _ hh h => h.of_heap hh) Tryz.own started (by kernel_rfl) Tryz.func10
    (ChangeSpec.witness_shaped (enc := enc) (C := Tryz.checked) (os := os) (X := fun w _ => laidMetH Tryz.prog laidZ w) false (World.laidAll Tryz.prog os laidZ) zeroArgs 12 (World.laidAll_os _ _ _)
      (World.shaped_of_ZipB (by kernel_rfl) (by kernel_rfl)) (by kernel_rfl) (by kernel_rfl) (by kernel_rfl)
      (by rw [MakeChecks.laidMetH_plain _ _ _ (by kernel_rfl)]; exact laidMet_laidAll _ (by kernel_rfl) (by kernel_rfl))) ?_
  intro W base args ds gs before hval hW _ _ hL _
  refine lifted_true (P := Tryz.prog) (Γ := callF tab ext) machine tys_kids (kids_some tys_ok) (kids_full tys_ok) (fun t ht => ?_) (tb := 4) rfl under4 rfl (fun ds hds => ?_) (fun xss hlen hsh => ?_) W (globOk hL) base args ds gs before hval hW
  · rw [params_routerchecks] at ht
    exact ⟨par_routerchecks ht, tys_lt (par_routerchecks ht)⟩
  · match ds, hds with
    | [_, _], _ => rfl
  · match xss, hlen with
    | [x0, x1], _ =>
      obtain ⟨_, h0⟩ := hsh 0 45 x0 rfl rfl
      obtain ⟨_, h1⟩ := hsh 1 25 x1 rfl rfl
      have hn := shape_node h0
      obtain ⟨s, rfl⟩ := shape_stt h1
      refine ⟨190301, [], ?_⟩
      have : argsX Tryz.prog Tryz.f10.params.toList [x0, s.cells] = [.agg x0, .agg s.cells] := by
        kernel_rfl
      rw [this]
      exact rchecks_all x0 hn s

set_option maxRecDepth 100000
theorem routerchecks_a1 : (Rows.routerChecksRow.inPlace == Tryz.prog.inPlace 10) = true := by kernel_rfl
theorem routerchecks_a2 : (Rows.routerChecksRow.unfollowed == Tryz.prog.unfollowed 10) = true := by kernel_rfl
theorem routerchecks_a3 : (Rows.routerChecksRow.recurses == Tryz.prog.recurses 10) = true := by kernel_rfl
theorem routerchecks_a4 : (Rows.routerChecksRow.named == Tryz.prog.varsNamed 10) = true := by kernel_rfl
theorem routerchecks_b1 : (Rows.routerChecksRow.wf (OpenSpec.ofChange Rows.routerChecksSpec) && Tryz.f10.params.all (Tryz.prog.readableRec ·) && namedTie Tryz.prog Rows.routerChecksRow.named Rows.routerChecksSpec.vars && (Rows.routerChecksRow.stops == []) && (Rows.routerChecksRow.knobs == [])) = true := by kernel_rfl
theorem routerchecks_b2 : ((Rows.routerChecksRow.maps == (Tryz.f10.params.toList ++ Rows.routerChecksSpec.plain.varTypes Tryz.prog).any (Tryz.prog.mapsRec ·)) && (Rows.routerChecksRow.ifaces == (Tryz.f10.params.toList ++ Rows.routerChecksSpec.plain.varTypes Tryz.prog).any (Tryz.prog.ifacesRec ·)) && (Rows.routerChecksRow.mapsOut == Tryz.prog.mapsAmong Tryz.f10.resultTypes.toList) &&
      (Rows.routerChecksRow.loops == (Tryz.f10.params.toList ++ Rows.routerChecksSpec.plain.varTypes Tryz.prog).any (Tryz.prog.loopsFrom ·)) && (Rows.routerChecksRow.wideKeys == (Tryz.f10.params.toList ++ Rows.routerChecksSpec.plain.varTypes Tryz.prog ++ Tryz.f10.resultTypes.toList).any (Tryz.prog.wideKeysFrom ·))) = true := by kernel_rfl
theorem routerchecks_b3 : (Rows.routerChecksSpec.vars.all (Tryz.prog.varReadable ·) && Tryz.f10.resultTypes.all (fun t => Tryz.prog.readableRec t && decide (t < Tryz.prog.types.size)) && (Rows.routerChecksRow.ifacesOut == Tryz.f10.resultTypes.toList.any (Tryz.prog.ifacesRec ·)) && (Rows.routerChecksRow.loopsOut == Tryz.f10.resultTypes.toList.any (Tryz.prog.loopsFrom ·)) && Rows.routerChecksRow.shortTexts.isNone) = true := by kernel_rfl
theorem routerchecks_b4 : ((Rows.routerChecksRow.kinds == (if Rows.routerChecksRow.domain.isEmpty then [] else Tryz.f10.params.toList.map fun t => match Tryz.prog.underlying t with | some (.int k) => some k | _ => none)) && (Rows.routerChecksRow.pinned == Rows.routerChecksRow.pinnedBy) &&
      (Rows.routerChecksRow.veiled == (Tryz.f10.params.toList ++ Rows.routerChecksSpec.plain.varTypes Tryz.prog ++ Tryz.f10.resultTypes.toList).any (Tryz.prog.veiledRec ·)) && Rows.routerChecksRow.veiledFits Tryz.prog Tryz.f10.params.toList (Tryz.f10.params.toList ++ Rows.routerChecksSpec.plain.varTypes Tryz.prog ++ Tryz.f10.resultTypes.toList)) = true := by kernel_rfl
theorem routerchecks_named : Tryz.prog.funcNamed "manifold/manifoldlaw31.RouterChecks" = some 10 := by kernel_rfl
theorem routerchecks_ids : decide (Tryz.f10.isInstance Tryz.prog Rows.routerChecksRow.origin Rows.routerChecksRow.targs) = true := by kernel_rfl
theorem routerchecks_wrap : Tryz.f10.isWrapper Tryz.prog Rows.routerChecksRow.wrapper Rows.routerChecksRow.mainSum := by unfold Func.isWrapper; rw [if_neg (by decide +kernel)]; exact ⟨rfl, rfl⟩
theorem routerchecks_joined : joinedFacts Tryz.prog 10 Tryz.f10 Rows.routerChecksSpec Rows.routerChecksRow = true :=
  joined_of Tryz.laidOut Tryz.rowed jf_stops jf_heard jf_enter routerchecks_a1 routerchecks_a2 routerchecks_a3 routerchecks_a4 routerchecks_b1 routerchecks_b2 routerchecks_b3
    (by rw [jf_plain]; rfl) (by rw [jf_lifted]; rfl) jf_make routerchecks_b4
theorem routerchecks_holds : Rows.RouterChecksSaid :=
  OpenClaim.holds_of_wide 10 Tryz.f10 rfl rfl rfl rfl rfl rfl rfl ⟨rfl, rfl, rfl, rfl, rfl⟩ rfl rfl rfl rfl rfl routerchecks_named Tryz.func10 routerchecks_joined
    (of_decide_eq_true routerchecks_ids) routerchecks_wrap
    (fun os started H enc _ => routerchecks_lifted os started H enc)
theorem routerchecks_text : Rows.routerChecksRow.wfByText (OpenSpec.ofChange Rows.routerChecksSpec) = true := by kernel_rfl
theorem routerchecks_goes : false = Rows.routerChecksRow.goesBy Tryz.prog := by kernel_rfl
theorem routerchecks_stand : ((([45, 25] : List TypeId).all fun u => !Tryz.prog.wantsStandIn u) = true) ∧ Tryz.f10.params = #[45, 25] := ⟨by kernel_rfl, by kernel_rfl⟩
theorem routerchecks_card : Rows.RouterChecksCardSaid :=
  Claim7.holds_tied_plain_at .later [] [.data, .data, .data, .data, .sentinel, .sentinel, .pinned] true (true, "fda8d723c99205a616a719e840104a1e214bfa621fcce8c0bc2210fee27a5a68") true routerchecks_holds (fun _ h => by cases h) routerchecks_text (fun _ h => by cases h) routerChecks_row_tie rfl ⟨rfl, rfl⟩ jf_main rfl
    (fun f fn hf hfn => by
      obtain rfl : f = 10 := Option.some.inj (routerchecks_named.symm.trans hf) |>.symm
      obtain rfl : fn = Tryz.f10 := (Option.some.inj (Tryz.func10.symm.trans hfn)).symm
      refine ⟨jf_looks, fun j t ht => ?_⟩
      rw [routerchecks_stand.2] at ht
      have hm : t ∈ ([45, 25] : List TypeId) := by simpa using Array.mem_of_getElem? ht
      exact (show Tryz.prog.wantsStandIn t = false by simpa using List.all_eq_true.1 routerchecks_stand.1 t hm))
    routerchecks_goes
end Go.Proofs.YthfchdkjeddijaaGreatDoor
