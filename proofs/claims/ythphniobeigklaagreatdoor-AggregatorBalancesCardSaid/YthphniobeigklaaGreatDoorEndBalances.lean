/- AggregatorBalances: the row, and its tied card. Conditions: none. -/
import Derived.Test.YthphniobeigklaaGreatDoorCards
import Derived.Test.YthphniobeigklaaGreatDoorTie
import Derived.Test.YthphniobeigklaaGreatDoorA18
import Derived.Test.YthphniobeigklaaGreatDoorA19
set_option linter.all false
namespace Go.Proofs.YthphniobeigklaaGreatDoor
open Go.ChangeShapes Go.WideShapes Go.ChangeAt Go.RowKit Go.Em Go.Proofs.YthphniobeigklaaGreatDoor.Ag

theorem params_aggregatorbalances : Tryz.f7.params.toList = [38, 22] := by kernel_rfl
theorem par_aggregatorbalances {t : TypeId} (h : t ∈ ([38, 22] : List TypeId)) : t ∈ tysA := by
  simp only [List.mem_cons, List.not_mem_nil, or_false] at h
  rcases h with rfl | rfl
  · decide
  · decide

theorem pure_out {Γ : Gam} {f : FuncId} {args : List X} {b : Bool} (h : Gam.pureD Γ f args = some (.v (.bool b))) : ∃ bx, Γ (.fn f) args [] = some (.v (.bool b), bx) := by
  unfold Gam.pureD at h
  split at h
  · rename_i x bx e
    refine ⟨bx, ?_⟩
    rw [e]
    cases x <;> simp only [X.data, Option.map_eq_some_iff, Option.some.injEq, X.v.injEq, reduceCtorEq, and_false, exists_false] at h
    rw [h]
  · cases h
def zIe : Value := .int .i64 0
def zTe : Value := .string ⟨#[]⟩
def zSe : Value := .slice none 0 0
/-- All zero. -/
def zeroArgs : Array Value := #[.agg #[.int .u8 0, .int .u8 0, .int .u8 0, .int .u8 0, .int .u8 0], zSe]

set_option maxRecDepth 100000 in
theorem aggregatorbalances_lifted (os : Os) (started : os.Started) (H : Type) (enc : TypeId × Value → H) :
    ReturnsInHanded {} Tryz.checked os 7 .any (fun w args => (Rows.aggregatorBalancesSpec.pre enc Tryz.prog Tryz.f7 Rows.aggregatorBalancesRow.domain false w args ∧ laidMetH Tryz.prog laidZ w) ∧ sizedMet enc Tryz.prog Tryz.f7 (OpenSpec.ofChange Rows.aggregatorBalancesSpec) false w args)
      (Rows.aggregatorBalancesSpec.post enc Tryz.prog Tryz.f7 false true false false) := by
  refine returnsInHanded_of_change_and (C := Tryz.checked) (X := fun w _ => laidMetH Tryz.prog laidZ w) (fun _ _ _ hh h => h.of_heap hh) Tryz.own started (by kernel_rfl) Tryz.func7
    (ChangeSpec.witness_shaped (enc := enc) (C := Tryz.checked) (os := os) (X := fun w _ => laidMetH Tryz.prog laidZ w) false (World.laidAll Tryz.prog os laidZ) zeroArgs 12 (World.laidAll_os _ _ _)
      (World.shaped_of_ZipB (by kernel_rfl) (by kernel_rfl)) (by kernel_rfl) (by kernel_rfl) (by kernel_rfl)
      (by rw [MakeChecks.laidMetH_plain _ _ _ (by kernel_rfl)]; exact laidMet_laidAll _ (by kernel_rfl) (by kernel_rfl))) ?_
  intro W base args ds gs before hval hW _ _ hL _
  refine lifted_true (P := Tryz.prog) (Γ := callF tab ext) machine tysA_kids (kids_some tysA_ok) (kids_full tysA_ok) (fun t ht => ?_) (tb := 4) rfl underA4 rfl (fun ds hds => ?_) (fun xss hlen hsh => ?_) W (globOk hL) base args ds gs before hval hW
  · rw [params_aggregatorbalances] at ht
    exact ⟨par_aggregatorbalances ht, tysA_lt (par_aggregatorbalances ht)⟩
  · match ds, hds with
    | [_, _], _ => rfl
  · match xss, hlen with
    | [x0, x1], _ =>
      obtain ⟨_, h0⟩ := hsh 0 38 x0 rfl rfl
      obtain ⟨_, h1⟩ := hsh 1 22 x1 rfl rfl
      obtain ⟨a, b, c, d, e, ha, hb, hc, hd, he, rfl⟩ := shape_sk h0
      obtain ⟨l, hl, rfl⟩ := shape_evs h1
      obtain ⟨bx, hbx⟩ := pure_out (balances_all a b c d e hb l 194001 (by omega))
      refine ⟨194001, bx, ?_⟩
      have : argsX Tryz.prog Tryz.f7.params.toList [[u8X a, u8X b, u8X c, u8X d, u8X e], [.sl false 4 (evC l)]] = [skX a b c d e, .sl false 4 (evC l)] := by
        kernel_rfl
      rw [this]
      exact hbx

set_option maxRecDepth 100000
theorem aggregatorbalances_a1 : (Rows.aggregatorBalancesRow.inPlace == Tryz.prog.inPlace 7) = true := by kernel_rfl
theorem aggregatorbalances_a2 : (Rows.aggregatorBalancesRow.unfollowed == Tryz.prog.unfollowed 7) = true := by kernel_rfl
theorem aggregatorbalances_a3 : (Rows.aggregatorBalancesRow.recurses == Tryz.prog.recurses 7) = true := by kernel_rfl
theorem aggregatorbalances_a4 : (Rows.aggregatorBalancesRow.named == Tryz.prog.varsNamed 7) = true := by kernel_rfl
theorem aggregatorbalances_b1 : (Rows.aggregatorBalancesRow.wf (OpenSpec.ofChange Rows.aggregatorBalancesSpec) && Tryz.f7.params.all (Tryz.prog.readableRec ·) && namedTie Tryz.prog Rows.aggregatorBalancesRow.named Rows.aggregatorBalancesSpec.vars && (Rows.aggregatorBalancesRow.stops == []) && (Rows.aggregatorBalancesRow.knobs == [])) = true := by kernel_rfl
theorem aggregatorbalances_b2 : ((Rows.aggregatorBalancesRow.maps == (Tryz.f7.params.toList ++ Rows.aggregatorBalancesSpec.plain.varTypes Tryz.prog).any (Tryz.prog.mapsRec ·)) && (Rows.aggregatorBalancesRow.ifaces == (Tryz.f7.params.toList ++ Rows.aggregatorBalancesSpec.plain.varTypes Tryz.prog).any (Tryz.prog.ifacesRec ·)) && (Rows.aggregatorBalancesRow.mapsOut == Tryz.prog.mapsAmong Tryz.f7.resultTypes.toList) &&
      (Rows.aggregatorBalancesRow.loops == (Tryz.f7.params.toList ++ Rows.aggregatorBalancesSpec.plain.varTypes Tryz.prog).any (Tryz.prog.loopsFrom ·)) && (Rows.aggregatorBalancesRow.wideKeys == (Tryz.f7.params.toList ++ Rows.aggregatorBalancesSpec.plain.varTypes Tryz.prog ++ Tryz.f7.resultTypes.toList).any (Tryz.prog.wideKeysFrom ·))) = true := by kernel_rfl
theorem aggregatorbalances_b3 : (Rows.aggregatorBalancesSpec.vars.all (Tryz.prog.varReadable ·) && Tryz.f7.resultTypes.all (fun t => Tryz.prog.readableRec t && decide (t < Tryz.prog.types.size)) && (Rows.aggregatorBalancesRow.ifacesOut == Tryz.f7.resultTypes.toList.any (Tryz.prog.ifacesRec ·)) && (Rows.aggregatorBalancesRow.loopsOut == Tryz.f7.resultTypes.toList.any (Tryz.prog.loopsFrom ·)) && Rows.aggregatorBalancesRow.shortTexts.isNone) = true := by kernel_rfl
theorem aggregatorbalances_b4 : ((Rows.aggregatorBalancesRow.kinds == (if Rows.aggregatorBalancesRow.domain.isEmpty then [] else Tryz.f7.params.toList.map fun t => match Tryz.prog.underlying t with | some (.int k) => some k | _ => none)) && (Rows.aggregatorBalancesRow.pinned == Rows.aggregatorBalancesRow.pinnedBy) &&
      (Rows.aggregatorBalancesRow.veiled == (Tryz.f7.params.toList ++ Rows.aggregatorBalancesSpec.plain.varTypes Tryz.prog ++ Tryz.f7.resultTypes.toList).any (Tryz.prog.veiledRec ·)) && Rows.aggregatorBalancesRow.veiledFits Tryz.prog Tryz.f7.params.toList (Tryz.f7.params.toList ++ Rows.aggregatorBalancesSpec.plain.varTypes Tryz.prog ++ Tryz.f7.resultTypes.toList)) = true := by kernel_rfl
theorem aggregatorbalances_named : Tryz.prog.funcNamed "manifold/manifoldlaw33.AggregatorBalances" = some 7 := by kernel_rfl
theorem aggregatorbalances_ids : decide (Tryz.f7.isInstance Tryz.prog Rows.aggregatorBalancesRow.origin Rows.aggregatorBalancesRow.targs) = true := by kernel_rfl
theorem aggregatorbalances_wrap : Tryz.f7.isWrapper Tryz.prog Rows.aggregatorBalancesRow.wrapper Rows.aggregatorBalancesRow.mainSum := by unfold Func.isWrapper; rw [if_neg (by decide +kernel)]; exact ⟨rfl, rfl⟩
theorem aggregatorbalances_joined : joinedFacts Tryz.prog 7 Tryz.f7 Rows.aggregatorBalancesSpec Rows.aggregatorBalancesRow = true :=
  joined_of Tryz.laidOut Tryz.rowed jf_stops jf_heard jf_enter aggregatorbalances_a1 aggregatorbalances_a2 aggregatorbalances_a3 aggregatorbalances_a4 aggregatorbalances_b1 aggregatorbalances_b2 aggregatorbalances_b3
    (by rw [jf_plain]; rfl) (by rw [jf_lifted]; rfl) jf_make aggregatorbalances_b4
theorem aggregatorbalances_holds : Rows.AggregatorBalancesSaid :=
  OpenClaim.holds_of_wide 7 Tryz.f7 rfl rfl rfl rfl rfl rfl rfl ⟨rfl, rfl, rfl, rfl, rfl⟩ rfl rfl rfl rfl rfl aggregatorbalances_named Tryz.func7 aggregatorbalances_joined
    (of_decide_eq_true aggregatorbalances_ids) aggregatorbalances_wrap
    (fun os started H enc _ => aggregatorbalances_lifted os started H enc)
theorem aggregatorbalances_text : Rows.aggregatorBalancesRow.wfByText (OpenSpec.ofChange Rows.aggregatorBalancesSpec) = true := by kernel_rfl
theorem aggregatorbalances_goes : false = Rows.aggregatorBalancesRow.goesBy Tryz.prog := by kernel_rfl
theorem aggregatorbalances_stand : ((([38, 22] : List TypeId).all fun u => !Tryz.prog.wantsStandIn u) = true) ∧ Tryz.f7.params = #[38, 22] := ⟨by kernel_rfl, by kernel_rfl⟩
theorem aggregatorbalances_card : Rows.AggregatorBalancesCardSaid :=
  Claim7.holds_tied_plain_at .later [] [.data, .data, .data, .data, .sentinel, .sentinel, .pinned] true (true, "e15099fc63cc0bc118a020bcfff1e703ab89f15ffb4a8b79179d5edd75f9483d") true aggregatorbalances_holds (fun _ h => by cases h) aggregatorbalances_text (fun _ h => by cases h) aggregatorBalances_row_tie rfl ⟨rfl, rfl⟩ jf_main rfl
    (fun f fn hf hfn => by
      obtain rfl : f = 7 := Option.some.inj (aggregatorbalances_named.symm.trans hf) |>.symm
      obtain rfl : fn = Tryz.f7 := (Option.some.inj (Tryz.func7.symm.trans hfn)).symm
      refine ⟨jf_looks, fun j t ht => ?_⟩
      rw [aggregatorbalances_stand.2] at ht
      have hm : t ∈ ([38, 22] : List TypeId) := by simpa using Array.mem_of_getElem? ht
      exact (show Tryz.prog.wantsStandIn t = false by simpa using List.all_eq_true.1 aggregatorbalances_stand.1 t hm))
    aggregatorbalances_goes
end Go.Proofs.YthphniobeigklaaGreatDoor
