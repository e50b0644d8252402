/-.-/
import Derived.Test.YtkeefpkcepodeaaGreatDoorCards
import Derived.Test.YtkeefpkcepodeaaGreatDoorTie
import Derived.Test.YtkeefpkcepodeaaGreatDoorU48
import Derived.Test.YtkeefpkcepodeaaGreatDoorU56
set_option linter.all false
namespace Go.Proofs.YtkeefpkcepodeaaGreatDoor
open Go.ChangeShapes Go.WideShapes Go.ChangeAt Go.RowKit Go.Em
theorem vK:Tryz.f7.params.toList=[34,49,44]:=by kernel_rfl
theorem oQ {t:TypeId}(h:t∈([34,49,44]:List TypeId)):t∈tys:=by
 simp only [qal,List.not_mem_nil,or_false] at h;rcases h with rfl|rfl|rfl;·decide
 ·decide
 decide
def zIe:Value:=.int .i64 0
def zTe:Value:=.string ⟨#[]⟩
def zSe:Value:=.slice none 0 0
def kV:Array Value:=#[.agg #[zTe,zIe,zIe,zIe,zIe,zIe,zIe,zTe,zIe,zIe,zIe,zIe,zSe,zSe,zSe,zSe,zSe,zSe,zSe,zSe],.agg #[zIe,zIe,zSe],.agg #[zIe,zIe,zIe,zSe,zIe,zSe,zIe,zSe,zIe,zIe,zIe,zTe,zSe,zSe,zIe,.bool false,.bool false,zIe,zIe,zIe,zTe,zSe,zSe]]
set_option maxRecDepth 100000 in
theorem vw (os:Os)(started:os.Started)(H:Type)(enc:TypeId×Value->H):
  ReturnsInHanded {} Tryz.checked os 7 .any (fun w args=>(Rows.splitterStepsSpec.pre enc Tryz.prog Tryz.f7 Rows.splitterStepsRow.domain false w args/\laidMetH Tryz.prog mW w)/\sizedMet enc Tryz.prog Tryz.f7 (OpenSpec.ofChange Rows.splitterStepsSpec) false w args)
   (Rows.splitterStepsSpec.post enc Tryz.prog Tryz.f7 false true false false):=by
 refine returnsInHanded_of_change_and (C:=Tryz.checked) (X:=fun w _=>laidMetH Tryz.prog mW w) (fun _ _ _ O h=>h.of_heap O) Tryz.own started (by kernel_rfl) Tryz.func7
  (ChangeSpec.witness_shaped (enc:=enc) (C:=Tryz.checked) (os:=os) (X:=fun w _=>laidMetH Tryz.prog mW w) false (World.laidAll Tryz.prog os mW) kV 12 (World.laidAll_os _ _ _)
   (World.shaped_of_ZipB (by kernel_rfl) (by kernel_rfl)) (by kernel_rfl) (by kernel_rfl) (by kernel_rfl)
   (by rw [MakeChecks.laidMetH_plain _ _ _ (by kernel_rfl)];exact laidMet_laidAll _ (by kernel_rfl) (by kernel_rfl))) ?_
 intro W j args q B a m M _ _ L _;refine lZ (P:=Tryz.prog) (Γ:=callF tab ext) machine xY (tN rD) (tV rD) (fun t y=>?_) (tb:=4) rfl Iq rfl (fun q u=>?_) (fun A l f=>?_) W (Ox L) j args q B a m M;·rw [vK] at y;exact ⟨oQ y,MR (oQ y)⟩
 ·match q,u with
  |[_,_,_],_=>rfl
 match A,l with
 |[x0,x1,x2],_=>
  obtain ⟨_,E⟩:=f 0 34 x0 rfl rfl;obtain ⟨_,F⟩:=f 1 49 x1 rfl rfl;obtain ⟨_,J⟩:=f 2 44 x2 rfl rfl;have Q:=oK E;obtain ⟨s,rfl⟩:=Nq F;obtain ⟨i,rfl⟩:=sD J;obtain ⟨n,N⟩:=ssteps_all x0 Q s i;refine ⟨n,[],?_⟩;have:Dy Tryz.prog Tryz.f7.params.toList [x0,s.cells,i.cells]=[.agg x0,.agg s.cells,.agg i.cells]:=by kernel_rfl
  rw [this];exact N
set_option maxRecDepth 100000
theorem Dc:(Rows.splitterStepsRow.inPlace==Tryz.prog.inPlace 7)=true:=by kernel_rfl
theorem C9:(Rows.splitterStepsRow.unfollowed==Tryz.prog.unfollowed 7)=true:=by kernel_rfl
theorem CZ:(Rows.splitterStepsRow.recurses==Tryz.prog.recurses 7)=true:=by kernel_rfl
theorem CY:(Rows.splitterStepsRow.named==Tryz.prog.varsNamed 7)=true:=by kernel_rfl
theorem CX:(Rows.splitterStepsRow.wf (OpenSpec.ofChange Rows.splitterStepsSpec)&&Tryz.f7.params.all (Tryz.prog.readableRec ·)&&namedTie Tryz.prog Rows.splitterStepsRow.named Rows.splitterStepsSpec.vars&&(Rows.splitterStepsRow.stops==[])&&(Rows.splitterStepsRow.knobs==[]))=true:=by kernel_rfl
theorem CW:((Rows.splitterStepsRow.maps==(Tryz.f7.params.toList++Rows.splitterStepsSpec.plain.varTypes Tryz.prog).any (Tryz.prog.mapsRec ·))&&(Rows.splitterStepsRow.ifaces==(Tryz.f7.params.toList++Rows.splitterStepsSpec.plain.varTypes Tryz.prog).any (Tryz.prog.ifacesRec ·))&&(Rows.splitterStepsRow.mapsOut==Tryz.prog.mapsAmong Tryz.f7.resultTypes.toList)&&
   (Rows.splitterStepsRow.loops==(Tryz.f7.params.toList++Rows.splitterStepsSpec.plain.varTypes Tryz.prog).any (Tryz.prog.loopsFrom ·))&&(Rows.splitterStepsRow.wideKeys==(Tryz.f7.params.toList++Rows.splitterStepsSpec.plain.varTypes Tryz.prog++Tryz.f7.resultTypes.toList).any (Tryz.prog.wideKeysFrom ·)))=true:=by kernel_rfl
theorem CV:(Rows.splitterStepsSpec.vars.all (Tryz.prog.varReadable ·)&&Tryz.f7.resultTypes.all (fun t=>Tryz.prog.readableRec t&&decide (t<Tryz.prog.types.size))&&(Rows.splitterStepsRow.ifacesOut==Tryz.f7.resultTypes.toList.any (Tryz.prog.ifacesRec ·))&&(Rows.splitterStepsRow.loopsOut==Tryz.f7.resultTypes.toList.any (Tryz.prog.loopsFrom ·))&&Rows.splitterStepsRow.shortTexts.isNone)=true:=by kernel_rfl
theorem CU:((Rows.splitterStepsRow.kinds==(if Rows.splitterStepsRow.domain.isEmpty then [] else Tryz.f7.params.toList.map fun t=>match Tryz.prog.underlying t with|some (.int k)=>some k|_=>none))&&(Rows.splitterStepsRow.pinned==Rows.splitterStepsRow.pinnedBy)&&
   (Rows.splitterStepsRow.veiled==(Tryz.f7.params.toList++Rows.splitterStepsSpec.plain.varTypes Tryz.prog++Tryz.f7.resultTypes.toList).any (Tryz.prog.veiledRec ·))&&Rows.splitterStepsRow.veiledFits Tryz.prog Tryz.f7.params.toList (Tryz.f7.params.toList++Rows.splitterStepsSpec.plain.varTypes Tryz.prog++Tryz.f7.resultTypes.toList))=true:=by kernel_rfl
theorem lG:Tryz.prog.funcNamed "manifold/manifoldlaw32.SplitterSteps"=some 7:=by kernel_rfl
theorem Aa:decide (Tryz.f7.isInstance Tryz.prog Rows.splitterStepsRow.origin Rows.splitterStepsRow.targs)=true:=by kernel_rfl
theorem yh:Tryz.f7.isWrapper Tryz.prog Rows.splitterStepsRow.wrapper Rows.splitterStepsRow.mainSum:=by unfold Func.isWrapper;rw [if_neg (by decide+kernel)];exact ⟨rfl,rfl⟩
theorem vC:joinedFacts Tryz.prog 7 Tryz.f7 Rows.splitterStepsSpec Rows.splitterStepsRow=true:=
 tY Tryz.laidOut Tryz.rowed y7 zf zh Dc C9 CZ CY CX CW CV
  (by rw [y8];rfl) (by rw [tZ];rfl) FH CU
theorem wu:Rows.SplitterStepsSaid:=
 OpenClaim.holds_of_wide 7 Tryz.f7 rfl rfl rfl rfl rfl rfl rfl ⟨rfl,rfl,rfl,rfl,rfl⟩ rfl rfl rfl rfl rfl lG Tryz.func7 vC
  (of_decide_eq_true Aa) yh
  (fun h a H f _=>vw h a H f)
theorem yj:Rows.splitterStepsRow.wfByText (OpenSpec.ofChange Rows.splitterStepsSpec)=true:=by kernel_rfl
theorem yt:false=Rows.splitterStepsRow.goesBy Tryz.prog:=by kernel_rfl
theorem lF:((([34,49,44]:List TypeId).all fun u=>!Tryz.prog.wantsStandIn u)=true)/\Tryz.f7.params=#[34,49,44]:=⟨by kernel_rfl,by kernel_rfl⟩
theorem splittersteps_card:Rows.SplitterStepsCardSaid:=
 Claim7.holds_tied_plain_at .later [] [.data,.data,.data,.data,.sentinel,.sentinel,.pinned] true (true,"cbfbdc4360f13d412791799acfbcc3614734168f19f275bebb885638edaa5ae9") true wu (fun _ h=>by cases h) yj (fun _ h=>by cases h) splitterSteps_row_tie rfl ⟨rfl,rfl⟩ FI rfl
  (fun f fn hf hfn=>by
   obtain rfl:f=7:=Option.some.inj (lG.symm.trans hf) |>.symm;obtain rfl:fn=Tryz.f7:=(Option.some.inj (Tryz.func7.symm.trans hfn)).symm;refine ⟨y9,fun j t ht=>?_⟩;rw [lF.2] at ht;have hm:t∈([34,49,44]:List TypeId):=by simpa using Array.mem_of_getElem? ht
   exact (show Tryz.prog.wantsStandIn t=false by simpa using qao.1 lF.1 t hm))
  yt
end Go.Proofs.YtkeefpkcepodeaaGreatDoor
