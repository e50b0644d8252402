/-.-/
import Derived.Test.YtcbeoccmflnejaaGreatDoorCards
import Derived.Test.YtcbeoccmflnejaaGreatDoorTie
import Derived.Test.YtcbeoccmflnejaaGreatDoorU38q1
import Derived.Test.YtcbeoccmflnejaaGreatDoorU41
import Derived.Test.YtcbeoccmflnejaaGreatDoorU42
set_option linter.all false
namespace Go.Proofs.YtcbeoccmflnejaaGreatDoor
open Go.ChangeShapes Go.WideShapes Go.ChangeAt Go.RowKit Go.Em
theorem rD:Tryz.f3.params.toList=[34,37,47]:=by kernel_rfl
theorem nV {t:TypeId}(h:t∈([34,37,47]:List TypeId)):t∈tys:=by
 simp only [qal,List.not_mem_nil,or_false] at h;rcases h with rfl|rfl|rfl;·decide
 ·decide
 decide
def zIe:Value:=.int .i64 0
def zTe:Value:=.string ⟨#[]⟩
def zSe:Value:=.slice none 0 0
def oO:Array Value:=#[.agg #[zTe,zIe,zIe,zIe,zIe,zIe,zIe,zTe,zIe,zIe,zIe,zIe,zSe,zSe,zSe,zSe,zSe,zSe,zSe,zSe],.agg #[zIe,zIe,zSe],.agg #[zIe,zIe,zIe,zSe,zIe,zSe,zIe,zSe,zIe,zIe,zIe,zTe,zSe,zSe,zIe,.bool false,.bool false,zIe,zIe,zIe,zTe,zSe,zSe]]
set_option maxRecDepth 100000 in
theorem sG (os:Os)(started:os.Started)(H:Type)(enc:TypeId×Value->H):
  ReturnsInHanded {} Tryz.checked os 3 .any (fun w args=>(Rows.dedupStepsSpec.pre enc Tryz.prog Tryz.f3 Rows.dedupStepsRow.domain false w args/\laidMetH Tryz.prog pY w)/\sizedMet enc Tryz.prog Tryz.f3 (OpenSpec.ofChange Rows.dedupStepsSpec) false w args)
   (Rows.dedupStepsSpec.post enc Tryz.prog Tryz.f3 false true false false):=by
 refine returnsInHanded_of_change_and (C:=Tryz.checked) (X:=fun w _=>laidMetH Tryz.prog pY w) (fun _ _ _ O h=>h.of_heap O) Tryz.own started (by kernel_rfl) Tryz.func3
  (ChangeSpec.witness_shaped (enc:=enc) (C:=Tryz.checked) (os:=os) (X:=fun w _=>laidMetH Tryz.prog pY w) false (World.laidAll Tryz.prog os pY) oO 12 (World.laidAll_os _ _ _)
   (World.shaped_of_ZipB (by kernel_rfl) (by kernel_rfl)) (by kernel_rfl) (by kernel_rfl) (by kernel_rfl)
   (by rw [MakeChecks.laidMetH_plain _ _ _ (by kernel_rfl)];exact laidMet_laidAll _ (by kernel_rfl) (by kernel_rfl))) ?_
 intro W j args q B a m M _ _ L _;refine lifted_true (P:=Tryz.prog) (Γ:=callF tab ext) machine BI (kids_some vW) (kids_full vW) (fun t y=>?_) (tb:=4) rfl JZ rfl (fun q u=>?_) (fun A l f=>?_) W (Sl L) j args q B a m M;·rw [rD] at y;exact ⟨nV y,Pn (nV y)⟩
 ·match q,u with
  |[_,_,_],_=>rfl
 match A,l with
 |[x0,x1,x2],_=>
  obtain ⟨_,E⟩:=f 0 34 x0 rfl rfl;obtain ⟨_,F⟩:=f 1 37 x1 rfl rfl;obtain ⟨_,J⟩:=f 2 47 x2 rfl rfl;have Q:=qR E;obtain ⟨s,rfl⟩:=wB F;obtain ⟨i,rfl⟩:=wF J;obtain ⟨n,N⟩:=dsteps_all x0 Q s i;refine ⟨n,[],?_⟩;have:argsX Tryz.prog Tryz.f3.params.toList [x0,s.cells,i.cells]=[.agg x0,.agg s.cells,.agg i.cells]:=by kernel_rfl
  rw [this];exact N
set_option maxRecDepth 100000
theorem DK:(Rows.dedupStepsRow.inPlace==Tryz.prog.inPlace 3)=true:=by kernel_rfl
theorem DJ:(Rows.dedupStepsRow.unfollowed==Tryz.prog.unfollowed 3)=true:=by kernel_rfl
theorem DI:(Rows.dedupStepsRow.recurses==Tryz.prog.recurses 3)=true:=by kernel_rfl
theorem DF:(Rows.dedupStepsRow.named==Tryz.prog.varsNamed 3)=true:=by kernel_rfl
theorem DC:(Rows.dedupStepsRow.wf (OpenSpec.ofChange Rows.dedupStepsSpec)&&Tryz.f3.params.all (Tryz.prog.readableRec ·)&&namedTie Tryz.prog Rows.dedupStepsRow.named Rows.dedupStepsSpec.vars&&(Rows.dedupStepsRow.stops==[])&&(Rows.dedupStepsRow.knobs==[]))=true:=by kernel_rfl
theorem Dz:((Rows.dedupStepsRow.maps==(Tryz.f3.params.toList++Rows.dedupStepsSpec.plain.varTypes Tryz.prog).any (Tryz.prog.mapsRec ·))&&(Rows.dedupStepsRow.ifaces==(Tryz.f3.params.toList++Rows.dedupStepsSpec.plain.varTypes Tryz.prog).any (Tryz.prog.ifacesRec ·))&&(Rows.dedupStepsRow.mapsOut==Tryz.prog.mapsAmong Tryz.f3.resultTypes.toList)&&
   (Rows.dedupStepsRow.loops==(Tryz.f3.params.toList++Rows.dedupStepsSpec.plain.varTypes Tryz.prog).any (Tryz.prog.loopsFrom ·))&&(Rows.dedupStepsRow.wideKeys==(Tryz.f3.params.toList++Rows.dedupStepsSpec.plain.varTypes Tryz.prog++Tryz.f3.resultTypes.toList).any (Tryz.prog.wideKeysFrom ·)))=true:=by kernel_rfl
theorem Dy:(Rows.dedupStepsSpec.vars.all (Tryz.prog.varReadable ·)&&Tryz.f3.resultTypes.all (fun t=>Tryz.prog.readableRec t&&decide (t<Tryz.prog.types.size))&&(Rows.dedupStepsRow.ifacesOut==Tryz.f3.resultTypes.toList.any (Tryz.prog.ifacesRec ·))&&(Rows.dedupStepsRow.loopsOut==Tryz.f3.resultTypes.toList.any (Tryz.prog.loopsFrom ·))&&Rows.dedupStepsRow.shortTexts.isNone)=true:=by kernel_rfl
theorem Dx:((Rows.dedupStepsRow.kinds==(if Rows.dedupStepsRow.domain.isEmpty then [] else Tryz.f3.params.toList.map fun t=>match Tryz.prog.underlying t with|some (.int k)=>some k|_=>none))&&(Rows.dedupStepsRow.pinned==Rows.dedupStepsRow.pinnedBy)&&
   (Rows.dedupStepsRow.veiled==(Tryz.f3.params.toList++Rows.dedupStepsSpec.plain.varTypes Tryz.prog++Tryz.f3.resultTypes.toList).any (Tryz.prog.veiledRec ·))&&Rows.dedupStepsRow.veiledFits Tryz.prog Tryz.f3.params.toList (Tryz.f3.params.toList++Rows.dedupStepsSpec.plain.varTypes Tryz.prog++Tryz.f3.resultTypes.toList))=true:=by kernel_rfl
theorem lg:Tryz.prog.funcNamed "manifold/manifoldlaw35.DedupSteps"=some 3:=by kernel_rfl
theorem zl:decide (Tryz.f3.isInstance Tryz.prog Rows.dedupStepsRow.origin Rows.dedupStepsRow.targs)=true:=by kernel_rfl
theorem xX:Tryz.f3.isWrapper Tryz.prog Rows.dedupStepsRow.wrapper Rows.dedupStepsRow.mainSum:=by unfold Func.isWrapper;rw [if_neg (by decide+kernel)];exact ⟨rfl,rfl⟩
theorem sH:joinedFacts Tryz.prog 3 Tryz.f3 Rows.dedupStepsSpec Rows.dedupStepsRow=true:=
 xu Tryz.laidOut Tryz.rowed CJ CQ CS DK DJ DI DF DC Dz Dy
  (by rw [CO];rfl) (by rw [xw];rfl) Iu Dx
theorem uO:Rows.DedupStepsSaid:=
 OpenClaim.holds_of_wide 3 Tryz.f3 rfl rfl rfl rfl rfl rfl rfl ⟨rfl,rfl,rfl,rfl,rfl⟩ rfl rfl rfl rfl rfl lg Tryz.func3 sH
  (of_decide_eq_true zl) xX
  (fun h a H f _=>sG h a H f)
theorem xY:Rows.dedupStepsRow.wfByText (OpenSpec.ofChange Rows.dedupStepsSpec)=true:=by kernel_rfl
theorem xZ:false=Rows.dedupStepsRow.goesBy Tryz.prog:=by kernel_rfl
theorem kZ:((([34,37,47]:List TypeId).all fun u=>!Tryz.prog.wantsStandIn u)=true)/\Tryz.f3.params=#[34,37,47]:=⟨by kernel_rfl,by kernel_rfl⟩
theorem dedupsteps_card:Rows.DedupStepsCardSaid:=
 Claim7.holds_tied_plain_at .later [] [.data,.data,.data,.data,.sentinel,.sentinel,.pinned] true (true,"7dec813ea5a7da48e77a1b2854200b391007d9a1ecddbeea581343831613540c") true uO (fun _ h=>by cases h) xY (fun _ h=>by cases h) dedupSteps_row_tie rfl ⟨rfl,rfl⟩ Iw rfl
  (fun f fn hf hfn=>by
   obtain rfl:f=3:=Option.some.inj (lg.symm.trans hf) |>.symm;obtain rfl:fn=Tryz.f3:=(Option.some.inj (Tryz.func3.symm.trans hfn)).symm;refine ⟨CP,fun j t ht=>?_⟩;rw [kZ.2] at ht;have hm:t∈([34,37,47]:List TypeId):=by simpa using Array.mem_of_getElem? ht
   exact (show Tryz.prog.wantsStandIn t=false by simpa using qas.1 kZ.1 t hm))
  xZ
end Go.Proofs.YtcbeoccmflnejaaGreatDoor
