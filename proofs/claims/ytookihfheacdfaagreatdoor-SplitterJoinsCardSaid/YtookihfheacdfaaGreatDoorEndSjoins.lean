/- SplitterJoins: the row, and its tied card. Conditions: none. -/
import Derived.Test.YtookihfheacdfaaGreatDoorCards
import Derived.Test.YtookihfheacdfaaGreatDoorTie
import Derived.OpenShut
import Derived.SevenTiedAt
import Derived.Stop.Joined
import Derived.Test.YtookihfheacdfaaGreatDoorR10
import Derived.Test.YtookihfheacdfaaGreatDoorR15
import Derived.Test.YtookihfheacdfaaGreatDoorR16
namespace Go.Proofs.YtookihfheacdfaaGreatDoor
open Go.ChangeShapes Go.WideShapes Go.ChangeAt Go.RowKit Go.Em
theorem params_splitterjoins:Tryz.f4.params.toList=[22,22]:=by kernel_rfl
theorem par_splitterjoins {t:TypeId}(h:t∈([22,22]:List TypeId)):t∈tys:=by
 simp only [List.mem_cons,List.not_mem_nil,or_false] at h
 rcases h with rfl|rfl
 ·decide
 ·decide
def zrM:Value:=.slice none 0 0
def zeroArgs:Array Value:=#[zrM,zrM]
set_option maxRecDepth 100000 in
theorem splitterjoins_lifted (os:Os)(started:os.Started)(H:Type)(enc:TypeId×Value→H):
  ReturnsInHanded {} Tryz.checked os 4 .any (fun w args=>(Rows.splitterJoinsSpec.pre enc Tryz.prog Tryz.f4 Rows.splitterJoinsRow.domain false w args∧laidMetH Tryz.prog laidZ w)∧sizedMet enc Tryz.prog Tryz.f4 (OpenSpec.ofChange Rows.splitterJoinsSpec) false w args)
   (Rows.splitterJoinsSpec.post enc Tryz.prog Tryz.f4 false true false false):=by
 refine returnsInHanded_of_change_and (C:=Tryz.checked) (X:=fun w _=>laidMetH Tryz.prog laidZ w) (fun _ _ _ hh h=>h.of_heap hh) Tryz.own started (by kernel_rfl) Tryz.func4
  (ChangeSpec.witness_shaped (enc:=enc) (C:=Tryz.checked) (os:=os) (X:=fun w _=>laidMetH Tryz.prog laidZ w) false (World.laidAll Tryz.prog os laidZ) zeroArgs 12 (World.laidAll_os _ _ _)
   (World.shaped_of_ZipB (by kernel_rfl) (by kernel_rfl)) (by kernel_rfl) (by kernel_rfl) (by kernel_rfl)
   (by rw [MakeChecks.laidMetH_plain _ _ _ (by kernel_rfl)];exact laidMet_laidAll _ (by kernel_rfl) (by kernel_rfl))) ?_
 intro W base args ds gs before hval hW _ _ hL _
 refine lifted_true (P:=Tryz.prog) (Γ:=callF tab ext) machine tys_kids (kids_some tys_ok) (kids_full tys_ok) (fun t ht=>?_) (tb:=4) rfl under4 rfl (fun ds hds=>?_) (fun xss hlen hsh=>?_) W (globOk hL) base args ds gs before hval hW
 ·rw [params_splitterjoins] at ht
  exact ⟨par_splitterjoins ht,tys_lt (par_splitterjoins ht)⟩
 ·match ds,hds with
  |[_,_],_=>rfl
 ·match xss,hlen with
  |[x0,x1],_=>
   obtain ⟨_,h0⟩:=hsh 0 22 x0 rfl rfl
   obtain ⟨l0,rfl⟩:=shape_ints h0
   obtain ⟨_,h1⟩:=hsh 1 22 x1 rfl rfl
   obtain ⟨l1,rfl⟩:=shape_ints h1
   refine ⟨191001,[],?_⟩
   have:argsX Tryz.prog Tryz.f4.params.toList [[.sl false 1 (intsC l0)],[.sl false 1 (intsC l1)]]=[.sl false 1 (intsC l0),.sl false 1 (intsC l1)]:=by
    kernel_rfl
   rw [this]
   exact sjoins_all l0 l1
set_option maxRecDepth 100000
theorem splitterjoins_a1:(Rows.splitterJoinsRow.inPlace==Tryz.prog.inPlace 4)=true:=by kernel_rfl
theorem splitterjoins_a2:(Rows.splitterJoinsRow.unfollowed==Tryz.prog.unfollowed 4)=true:=by kernel_rfl
theorem splitterjoins_a3:(Rows.splitterJoinsRow.recurses==Tryz.prog.recurses 4)=true:=by kernel_rfl
theorem splitterjoins_a4:(Rows.splitterJoinsRow.named==Tryz.prog.varsNamed 4)=true:=by kernel_rfl
theorem splitterjoins_b1:(Rows.splitterJoinsRow.wf (OpenSpec.ofChange Rows.splitterJoinsSpec)&&Tryz.f4.params.all (Tryz.prog.readableRec ·)&&namedTie Tryz.prog Rows.splitterJoinsRow.named Rows.splitterJoinsSpec.vars&&(Rows.splitterJoinsRow.stops==[])&&(Rows.splitterJoinsRow.knobs==[]))=true:=by kernel_rfl
theorem splitterjoins_b2:((Rows.splitterJoinsRow.maps==(Tryz.f4.params.toList++Rows.splitterJoinsSpec.plain.varTypes Tryz.prog).any (Tryz.prog.mapsRec ·))&&(Rows.splitterJoinsRow.ifaces==(Tryz.f4.params.toList++Rows.splitterJoinsSpec.plain.varTypes Tryz.prog).any (Tryz.prog.ifacesRec ·))&&(Rows.splitterJoinsRow.mapsOut==Tryz.prog.mapsAmong Tryz.f4.resultTypes.toList)&&
   (Rows.splitterJoinsRow.loops==(Tryz.f4.params.toList++Rows.splitterJoinsSpec.plain.varTypes Tryz.prog).any (Tryz.prog.loopsFrom ·))&&(Rows.splitterJoinsRow.wideKeys==(Tryz.f4.params.toList++Rows.splitterJoinsSpec.plain.varTypes Tryz.prog++Tryz.f4.resultTypes.toList).any (Tryz.prog.wideKeysFrom ·)))=true:=by kernel_rfl
theorem splitterjoins_b3:(Rows.splitterJoinsSpec.vars.all (Tryz.prog.varReadable ·)&&Tryz.f4.resultTypes.all (fun t=>Tryz.prog.readableRec t&&decide (t<Tryz.prog.types.size))&&(Rows.splitterJoinsRow.ifacesOut==Tryz.f4.resultTypes.toList.any (Tryz.prog.ifacesRec ·))&&(Rows.splitterJoinsRow.loopsOut==Tryz.f4.resultTypes.toList.any (Tryz.prog.loopsFrom ·))&&Rows.splitterJoinsRow.shortTexts.isNone)=true:=by kernel_rfl
theorem splitterjoins_b4:((Rows.splitterJoinsRow.kinds==(if Rows.splitterJoinsRow.domain.isEmpty then [] else Tryz.f4.params.toList.map fun t=>match Tryz.prog.underlying t with|some (.int k)=>some k|_=>none))&&(Rows.splitterJoinsRow.pinned==Rows.splitterJoinsRow.pinnedBy)&&
   (Rows.splitterJoinsRow.veiled==(Tryz.f4.params.toList++Rows.splitterJoinsSpec.plain.varTypes Tryz.prog++Tryz.f4.resultTypes.toList).any (Tryz.prog.veiledRec ·))&&Rows.splitterJoinsRow.veiledFits Tryz.prog Tryz.f4.params.toList (Tryz.f4.params.toList++Rows.splitterJoinsSpec.plain.varTypes Tryz.prog++Tryz.f4.resultTypes.toList))=true:=by kernel_rfl
theorem splitterjoins_named:Tryz.prog.funcNamed "manifold/manifoldlaw32.SplitterJoins"=some 4:=by kernel_rfl
theorem splitterjoins_ids:decide (Tryz.f4.isInstance Tryz.prog Rows.splitterJoinsRow.origin Rows.splitterJoinsRow.targs)=true:=by kernel_rfl
theorem splitterjoins_wrap:Tryz.f4.isWrapper Tryz.prog Rows.splitterJoinsRow.wrapper Rows.splitterJoinsRow.mainSum:=by unfold Func.isWrapper;rw [if_neg (by decide+kernel)];exact ⟨rfl,rfl⟩
theorem splitterjoins_joined:joinedFacts Tryz.prog 4 Tryz.f4 Rows.splitterJoinsSpec Rows.splitterJoinsRow=true:=
 joined_of Tryz.laidOut Tryz.rowed jf_stops jf_heard jf_enter splitterjoins_a1 splitterjoins_a2 splitterjoins_a3 splitterjoins_a4 splitterjoins_b1 splitterjoins_b2 splitterjoins_b3
  (by rw [jf_plain];rfl) (by rw [jf_lifted];rfl) jf_make splitterjoins_b4
theorem splitterjoins_holds:Rows.SplitterJoinsSaid:=
 OpenClaim.holds_of_wide 4 Tryz.f4 rfl rfl rfl rfl rfl rfl rfl ⟨rfl,rfl,rfl,rfl,rfl⟩ rfl rfl rfl rfl rfl splitterjoins_named Tryz.func4 splitterjoins_joined
  (of_decide_eq_true splitterjoins_ids) splitterjoins_wrap
  (fun os started H enc _=>splitterjoins_lifted os started H enc)
theorem splitterjoins_text:Rows.splitterJoinsRow.wfByText (OpenSpec.ofChange Rows.splitterJoinsSpec)=true:=by kernel_rfl
theorem splitterjoins_goes:false=Rows.splitterJoinsRow.goesBy Tryz.prog:=by kernel_rfl
theorem splitterjoins_stand:((([22,22]:List TypeId).all fun u=>!Tryz.prog.wantsStandIn u)=true)∧Tryz.f4.params=#[22,22]:=⟨by kernel_rfl,by kernel_rfl⟩
theorem splitterjoins_card:Rows.SplitterJoinsCardSaid:=
 Claim7.holds_tied_plain_at .later [] [.data,.data,.data,.data,.sentinel,.sentinel,.pinned] true (true,"180cc68ebc3174b5169776faf403ed299143615812953b19adfa9f7ea65fc2db") true splitterjoins_holds (fun _ h=>by cases h) splitterjoins_text (fun _ h=>by cases h) splitterJoins_row_tie rfl ⟨rfl,rfl⟩ jf_main rfl
  (fun f fn hf hfn=>by
   obtain rfl:f=4:=Option.some.inj (splitterjoins_named.symm.trans hf) |>.symm
   obtain rfl:fn=Tryz.f4:=(Option.some.inj (Tryz.func4.symm.trans hfn)).symm
   refine ⟨jf_looks,fun j t ht=>?_⟩
   rw [splitterjoins_stand.2] at ht
   have hm:t∈([22,22]:List TypeId):=by simpa using Array.mem_of_getElem? ht
   exact (show Tryz.prog.wantsStandIn t=false by simpa using List.all_eq_true.1 splitterjoins_stand.1 t hm))
  splitterjoins_goes
end Go.Proofs.YtookihfheacdfaaGreatDoor
