/- RouterChooses: the row, and its tied card. Conditions: none. -/
import Derived.Test.YtjbndifenhihhaaGreatDoorCards
import Derived.Test.YtjbndifenhihhaaGreatDoorTie
import Derived.OpenShut
import Derived.SevenTiedAt
import Derived.Stop.Joined
import Derived.Test.YtjbndifenhihhaaGreatDoorP17
import Derived.Test.YtjbndifenhihhaaGreatDoorP33
import Derived.Test.YtjbndifenhihhaaGreatDoorP35
namespace Go.Proofs.YtjbndifenhihhaaGreatDoor
open Go.ChangeShapes Go.WideShapes Go.ChangeAt Go.RowKit Go.Em
theorem qB:Tryz.f6.params.toList=[34,37,47]:=by kernel_rfl
theorem mG {t:TypeId}(h:t∈([34,37,47]:List TypeId)):t∈tys:=by
 simp only [List.mem_cons,List.not_mem_nil,or_false] at h
 rcases h with rfl|rfl|rfl
 ·decide
 ·decide
 ·decide
def zI:Value:=.int .i64 0
def zT:Value:=.string ⟨#[]⟩
def zS:Value:=.slice none 0 0
def DR:Array Value:=#[.agg #[zT,zI,zI,zI,zI,zI,zI,zT,zI,zI,zI,zI,zS,zS,zS,zS,zS,zS,zS,zS],.agg #[zI,zI,zS],.agg #[zI,zI,zI,zS,zI,zS,zI,zS,zI,zI,zI,zT,zS,zS,zI,.bool false,.bool false,zI,zI,zI,zT,zS,zS]]
set_option maxRecDepth 100000 in
theorem qx (os:Os)(started:os.Started)(H:Type)(enc:TypeId×Value→H):
  ReturnsInHanded {} Tryz.checked os 6 .any (fun w args=>(Rows.routerChoosesSpec.pre enc Tryz.prog Tryz.f6 Rows.routerChoosesRow.domain false w args∧laidMetH Tryz.prog Ba w)∧sizedMet enc Tryz.prog Tryz.f6 (OpenSpec.ofChange Rows.routerChoosesSpec) false w args)
   (Rows.routerChoosesSpec.post enc Tryz.prog Tryz.f6 false true false false):=by
 refine returnsInHanded_of_change_and (C:=Tryz.checked) (X:=fun w _=>laidMetH Tryz.prog Ba w) (fun _ _ _ hh h=>h.of_heap hh) Tryz.own started (by kernel_rfl) Tryz.func6
  (ChangeSpec.witness_shaped (enc:=enc) (C:=Tryz.checked) (os:=os) (X:=fun w _=>laidMetH Tryz.prog Ba w) false (World.laidAll Tryz.prog os Ba) DR 12 (World.laidAll_os _ _ _)
   (World.shaped_of_ZipB (by kernel_rfl) (by kernel_rfl)) (by kernel_rfl) (by kernel_rfl) (by kernel_rfl)
   (by rw [MakeChecks.laidMetH_plain _ _ _ (by kernel_rfl)];exact laidMet_laidAll _ (by kernel_rfl) (by kernel_rfl))) ?_
 intro W base args ds gs before hval hW _ _ hL _
 refine zu (P:=Tryz.prog) (Γ:=callF tab ext) machine Nq (Iu Gu) (Iw Gu) (fun t ht=>?_) (tb:=4) rfl TB rfl (fun ds hds=>?_) (fun xss hlen hsh=>?_) W (zbr hL) base args ds gs before hval hW
 ·rw [qB] at ht
  exact ⟨mG ht,za6 (mG ht)⟩
 ·match ds,hds with
  |[_,_,_],_=>rfl
 ·match xss,hlen with
  |[x0,x1,x2],_=>
   obtain ⟨_,h0⟩:=hsh 0 34 x0 rfl rfl
   obtain ⟨_,h1⟩:=hsh 1 37 x1 rfl rfl
   obtain ⟨_,h2⟩:=hsh 2 47 x2 rfl rfl
   have hn:=BQ h0
   obtain ⟨s,rfl⟩:=GX h1
   obtain ⟨i,rfl⟩:=G6 h2
   obtain ⟨n,hc⟩:=Hy x0 hn s i
   refine ⟨n,[],?_⟩
   have:AL Tryz.prog Tryz.f6.params.toList [x0,s.cells,i.cells]=[.agg x0,.agg s.cells,.agg i.cells]:=by
    kernel_rfl
   rw [this]
   exact hc
set_option maxRecDepth 100000
theorem xI:(Rows.routerChoosesRow.inPlace==Tryz.prog.inPlace 6)=true:=by kernel_rfl
theorem xH:(Rows.routerChoosesRow.unfollowed==Tryz.prog.unfollowed 6)=true:=by kernel_rfl
theorem xG:(Rows.routerChoosesRow.recurses==Tryz.prog.recurses 6)=true:=by kernel_rfl
theorem xE:(Rows.routerChoosesRow.named==Tryz.prog.varsNamed 6)=true:=by kernel_rfl
theorem xC:(Rows.routerChoosesRow.wf (OpenSpec.ofChange Rows.routerChoosesSpec)&&Tryz.f6.params.all (Tryz.prog.readableRec ·)&&namedTie Tryz.prog Rows.routerChoosesRow.named Rows.routerChoosesSpec.vars&&(Rows.routerChoosesRow.stops==[])&&(Rows.routerChoosesRow.knobs==[]))=true:=by kernel_rfl
theorem xB:((Rows.routerChoosesRow.maps==(Tryz.f6.params.toList++Rows.routerChoosesSpec.plain.varTypes Tryz.prog).any (Tryz.prog.mapsRec ·))&&(Rows.routerChoosesRow.ifaces==(Tryz.f6.params.toList++Rows.routerChoosesSpec.plain.varTypes Tryz.prog).any (Tryz.prog.ifacesRec ·))&&(Rows.routerChoosesRow.mapsOut==Tryz.prog.mapsAmong Tryz.f6.resultTypes.toList)&&
   (Rows.routerChoosesRow.loops==(Tryz.f6.params.toList++Rows.routerChoosesSpec.plain.varTypes Tryz.prog).any (Tryz.prog.loopsFrom ·))&&(Rows.routerChoosesRow.wideKeys==(Tryz.f6.params.toList++Rows.routerChoosesSpec.plain.varTypes Tryz.prog++Tryz.f6.resultTypes.toList).any (Tryz.prog.wideKeysFrom ·)))=true:=by kernel_rfl
theorem xA:(Rows.routerChoosesSpec.vars.all (Tryz.prog.varReadable ·)&&Tryz.f6.resultTypes.all (fun t=>Tryz.prog.readableRec t&&decide (t<Tryz.prog.types.size))&&(Rows.routerChoosesRow.ifacesOut==Tryz.f6.resultTypes.toList.any (Tryz.prog.ifacesRec ·))&&(Rows.routerChoosesRow.loopsOut==Tryz.f6.resultTypes.toList.any (Tryz.prog.loopsFrom ·))&&Rows.routerChoosesRow.shortTexts.isNone)=true:=by kernel_rfl
theorem xw:((Rows.routerChoosesRow.kinds==(if Rows.routerChoosesRow.domain.isEmpty then [] else Tryz.f6.params.toList.map fun t=>match Tryz.prog.underlying t with|some (.int k)=>some k|_=>none))&&(Rows.routerChoosesRow.pinned==Rows.routerChoosesRow.pinnedBy)&&
   (Rows.routerChoosesRow.veiled==(Tryz.f6.params.toList++Rows.routerChoosesSpec.plain.varTypes Tryz.prog++Tryz.f6.resultTypes.toList).any (Tryz.prog.veiledRec ·))&&Rows.routerChoosesRow.veiledFits Tryz.prog Tryz.f6.params.toList (Tryz.f6.params.toList++Rows.routerChoosesSpec.plain.varTypes Tryz.prog++Tryz.f6.resultTypes.toList))=true:=by kernel_rfl
theorem jV:Tryz.prog.funcNamed "manifold/manifoldlaw31.RouterChooses"=some 6:=by kernel_rfl
theorem uS:decide (Tryz.f6.isInstance Tryz.prog Rows.routerChoosesRow.origin Rows.routerChoosesRow.targs)=true:=by kernel_rfl
theorem sG:Tryz.f6.isWrapper Tryz.prog Rows.routerChoosesRow.wrapper Rows.routerChoosesRow.mainSum:=by unfold Func.isWrapper;rw [if_neg (by decide+kernel)];exact ⟨rfl,rfl⟩
theorem qy:joinedFacts Tryz.prog 6 Tryz.f6 Rows.routerChoosesSpec Rows.routerChoosesRow=true:=
 Iz Tryz.laidOut Tryz.rowed Oq Ov Ox xI xH xG xE xC xB xA
  (by rw [Ot];rfl) (by rw [IB];rfl) Vx xw
theorem qU:Rows.RouterChoosesSaid:=
 OpenClaim.holds_of_wide 6 Tryz.f6 rfl rfl rfl rfl rfl rfl rfl ⟨rfl,rfl,rfl,rfl,rfl⟩ rfl rfl rfl rfl rfl jV Tryz.func6 qy
  (of_decide_eq_true uS) sG
  (fun os started H enc _=>qx os started H enc)
theorem sH:Rows.routerChoosesRow.wfByText (OpenSpec.ofChange Rows.routerChoosesSpec)=true:=by kernel_rfl
theorem sJ:false=Rows.routerChoosesRow.goesBy Tryz.prog:=by kernel_rfl
theorem jU:((([34,37,47]:List TypeId).all fun u=>!Tryz.prog.wantsStandIn u)=true)∧Tryz.f6.params=#[34,37,47]:=⟨by kernel_rfl,by kernel_rfl⟩
theorem routerchooses_card:Rows.RouterChoosesCardSaid:=
 Claim7.holds_tied_plain_at .later [] [.data,.data,.data,.data,.sentinel,.sentinel,.pinned] true (true,"d55d1976533ba272207557dd33c6f4875155e8b8270e105401bbeec58c252d02") true qU (fun _ h=>by cases h) sH (fun _ h=>by cases h) routerChooses_row_tie rfl ⟨rfl,rfl⟩ Vy rfl
  (fun f fn hf hfn=>by
   obtain rfl:f=6:=Option.some.inj (jV.symm.trans hf) |>.symm
   obtain rfl:fn=Tryz.f6:=(Option.some.inj (Tryz.func6.symm.trans hfn)).symm
   refine ⟨Ou,fun j t ht=>?_⟩
   rw [jU.2] at ht
   have hm:t∈([34,37,47]:List TypeId):=by simpa using Array.mem_of_getElem? ht
   exact (show Tryz.prog.wantsStandIn t=false by simpa using List.all_eq_true.1 jU.1 t hm))
  sJ
end Go.Proofs.YtjbndifenhihhaaGreatDoor
