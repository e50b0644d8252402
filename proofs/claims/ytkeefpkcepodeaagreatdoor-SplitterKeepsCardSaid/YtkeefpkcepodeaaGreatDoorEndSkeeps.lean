/-.-/
import Derived.Test.YtkeefpkcepodeaaGreatDoorCards
import Derived.Test.YtkeefpkcepodeaaGreatDoorTie
import Derived.Test.YtkeefpkcepodeaaGreatDoorU48
import Derived.Test.YtkeefpkcepodeaaGreatDoorU49
set_option linter.all false
namespace Go.Proofs.YtkeefpkcepodeaaGreatDoor
open Go.ChangeShapes Go.WideShapes Go.ChangeAt Go.RowKit Go.Em
theorem vM:Tryz.f6.params.toList=[34,49,44]:=by kernel_rfl
theorem oU {t:TypeId}(h:t∈([34,49,44]:List TypeId)):t∈tys:=by
 simp only [qal,List.not_mem_nil,or_false] at h;rcases h with rfl|rfl|rfl;·decide
 ·decide
 decide
def zIe:Value:=.int .i64 0
def zTe:Value:=.string ⟨#[]⟩
def zSe:Value:=.slice none 0 0
def kV:Array Value:=#[.agg #[zTe,zIe,zIe,zIe,zIe,zIe,zIe,zTe,zIe,zIe,zIe,zIe,zSe,zSe,zSe,zSe,zSe,zSe,zSe,zSe],.agg #[zIe,zIe,zSe],.agg #[zIe,zIe,zIe,zSe,zIe,zSe,zIe,zSe,zIe,zIe,zIe,zTe,zSe,zSe,zIe,.bool false,.bool false,zIe,zIe,zIe,zTe,zSe,zSe]]
set_option maxRecDepth 100000 in
theorem vG (os:Os)(started:os.Started)(H:Type)(enc:TypeId×Value->H):
  ReturnsInHanded {} Tryz.checked os 6 .any (fun w args=>(Rows.splitterKeepsSpec.pre enc Tryz.prog Tryz.f6 Rows.splitterKeepsRow.domain false w args/\laidMetH Tryz.prog mW w)/\sizedMet enc Tryz.prog Tryz.f6 (OpenSpec.ofChange Rows.splitterKeepsSpec) false w args)
   (Rows.splitterKeepsSpec.post enc Tryz.prog Tryz.f6 false true false false):=by
 refine returnsInHanded_of_change_and (C:=Tryz.checked) (X:=fun w _=>laidMetH Tryz.prog mW w) (fun _ _ _ O h=>h.of_heap O) Tryz.own started (by kernel_rfl) Tryz.func6
  (ChangeSpec.witness_shaped (enc:=enc) (C:=Tryz.checked) (os:=os) (X:=fun w _=>laidMetH Tryz.prog mW w) false (World.laidAll Tryz.prog os mW) kV 12 (World.laidAll_os _ _ _)
   (World.shaped_of_ZipB (by kernel_rfl) (by kernel_rfl)) (by kernel_rfl) (by kernel_rfl) (by kernel_rfl)
   (by rw [MakeChecks.laidMetH_plain _ _ _ (by kernel_rfl)];exact laidMet_laidAll _ (by kernel_rfl) (by kernel_rfl))) ?_
 intro W j args q B a m M _ _ L _;refine lZ (P:=Tryz.prog) (Γ:=callF tab ext) machine xY (tN rD) (tV rD) (fun t y=>?_) (tb:=4) rfl Iq rfl (fun q u=>?_) (fun A l f=>?_) W (Ox L) j args q B a m M;·rw [vM] at y;exact ⟨oU y,MR (oU y)⟩
 ·match q,u with
  |[_,_,_],_=>rfl
 match A,l with
 |[x0,x1,x2],_=>
  obtain ⟨_,E⟩:=f 0 34 x0 rfl rfl;obtain ⟨_,F⟩:=f 1 49 x1 rfl rfl;obtain ⟨_,J⟩:=f 2 44 x2 rfl rfl;have Q:=oK E;obtain ⟨s,rfl⟩:=Nq F;obtain ⟨i,rfl⟩:=sD J;obtain ⟨n,N⟩:=skeeps_all x0 Q s i;refine ⟨n,[],?_⟩;have:Dy Tryz.prog Tryz.f6.params.toList [x0,s.cells,i.cells]=[.agg x0,.agg s.cells,.agg i.cells]:=by kernel_rfl
  rw [this];exact N
set_option maxRecDepth 100000
theorem Dp:(Rows.splitterKeepsRow.inPlace==Tryz.prog.inPlace 6)=true:=by kernel_rfl
theorem Dn:(Rows.splitterKeepsRow.unfollowed==Tryz.prog.unfollowed 6)=true:=by kernel_rfl
theorem Dl:(Rows.splitterKeepsRow.recurses==Tryz.prog.recurses 6)=true:=by kernel_rfl
theorem Dk:(Rows.splitterKeepsRow.named==Tryz.prog.varsNamed 6)=true:=by kernel_rfl
theorem Dj:(Rows.splitterKeepsRow.wf (OpenSpec.ofChange Rows.splitterKeepsSpec)&&Tryz.f6.params.all (Tryz.prog.readableRec ·)&&namedTie Tryz.prog Rows.splitterKeepsRow.named Rows.splitterKeepsSpec.vars&&(Rows.splitterKeepsRow.stops==[])&&(Rows.splitterKeepsRow.knobs==[]))=true:=by kernel_rfl
theorem Di:((Rows.splitterKeepsRow.maps==(Tryz.f6.params.toList++Rows.splitterKeepsSpec.plain.varTypes Tryz.prog).any (Tryz.prog.mapsRec ·))&&(Rows.splitterKeepsRow.ifaces==(Tryz.f6.params.toList++Rows.splitterKeepsSpec.plain.varTypes Tryz.prog).any (Tryz.prog.ifacesRec ·))&&(Rows.splitterKeepsRow.mapsOut==Tryz.prog.mapsAmong Tryz.f6.resultTypes.toList)&&
   (Rows.splitterKeepsRow.loops==(Tryz.f6.params.toList++Rows.splitterKeepsSpec.plain.varTypes Tryz.prog).any (Tryz.prog.loopsFrom ·))&&(Rows.splitterKeepsRow.wideKeys==(Tryz.f6.params.toList++Rows.splitterKeepsSpec.plain.varTypes Tryz.prog++Tryz.f6.resultTypes.toList).any (Tryz.prog.wideKeysFrom ·)))=true:=by kernel_rfl
theorem Dh:(Rows.splitterKeepsSpec.vars.all (Tryz.prog.varReadable ·)&&Tryz.f6.resultTypes.all (fun t=>Tryz.prog.readableRec t&&decide (t<Tryz.prog.types.size))&&(Rows.splitterKeepsRow.ifacesOut==Tryz.f6.resultTypes.toList.any (Tryz.prog.ifacesRec ·))&&(Rows.splitterKeepsRow.loopsOut==Tryz.f6.resultTypes.toList.any (Tryz.prog.loopsFrom ·))&&Rows.splitterKeepsRow.shortTexts.isNone)=true:=by kernel_rfl
theorem Df:((Rows.splitterKeepsRow.kinds==(if Rows.splitterKeepsRow.domain.isEmpty then [] else Tryz.f6.params.toList.map fun t=>match Tryz.prog.underlying t with|some (.int k)=>some k|_=>none))&&(Rows.splitterKeepsRow.pinned==Rows.splitterKeepsRow.pinnedBy)&&
   (Rows.splitterKeepsRow.veiled==(Tryz.f6.params.toList++Rows.splitterKeepsSpec.plain.varTypes Tryz.prog++Tryz.f6.resultTypes.toList).any (Tryz.prog.veiledRec ·))&&Rows.splitterKeepsRow.veiledFits Tryz.prog Tryz.f6.params.toList (Tryz.f6.params.toList++Rows.splitterKeepsSpec.plain.varTypes Tryz.prog++Tryz.f6.resultTypes.toList))=true:=by kernel_rfl
theorem lI:Tryz.prog.funcNamed "manifold/manifoldlaw32.SplitterKeeps"=some 6:=by kernel_rfl
theorem Ak:decide (Tryz.f6.isInstance Tryz.prog Rows.splitterKeepsRow.origin Rows.splitterKeepsRow.targs)=true:=by kernel_rfl
theorem yw:Tryz.f6.isWrapper Tryz.prog Rows.splitterKeepsRow.wrapper Rows.splitterKeepsRow.mainSum:=by unfold Func.isWrapper;rw [if_neg (by decide+kernel)];exact ⟨rfl,rfl⟩
theorem vH:joinedFacts Tryz.prog 6 Tryz.f6 Rows.splitterKeepsSpec Rows.splitterKeepsRow=true:=
 tY Tryz.laidOut Tryz.rowed y7 zf zh Dp Dn Dl Dk Dj Di Dh
  (by rw [y8];rfl) (by rw [tZ];rfl) FH Df
theorem wE:Rows.SplitterKeepsSaid:=
 OpenClaim.holds_of_wide 6 Tryz.f6 rfl rfl rfl rfl rfl rfl rfl ⟨rfl,rfl,rfl,rfl,rfl⟩ rfl rfl rfl rfl rfl lI Tryz.func6 vH
  (of_decide_eq_true Ak) yw
  (fun h a H f _=>vG h a H f)
theorem yx:Rows.splitterKeepsRow.wfByText (OpenSpec.ofChange Rows.splitterKeepsSpec)=true:=by kernel_rfl
theorem yA:false=Rows.splitterKeepsRow.goesBy Tryz.prog:=by kernel_rfl
theorem lH:((([34,49,44]:List TypeId).all fun u=>!Tryz.prog.wantsStandIn u)=true)/\Tryz.f6.params=#[34,49,44]:=⟨by kernel_rfl,by kernel_rfl⟩
theorem splitterkeeps_card:Rows.SplitterKeepsCardSaid:=
 Claim7.holds_tied_plain_at .later [] [.data,.data,.data,.data,.sentinel,.sentinel,.pinned] true (true,"cbfbdc4360f13d412791799acfbcc3614734168f19f275bebb885638edaa5ae9") true wE (fun _ h=>by cases h) yx (fun _ h=>by cases h) splitterKeeps_row_tie rfl ⟨rfl,rfl⟩ FI rfl
  (fun f fn hf hfn=>by
   obtain rfl:f=6:=Option.some.inj (lI.symm.trans hf) |>.symm;obtain rfl:fn=Tryz.f6:=(Option.some.inj (Tryz.func6.symm.trans hfn)).symm;refine ⟨y9,fun j t ht=>?_⟩;rw [lH.2] at ht;have hm:t∈([34,49,44]:List TypeId):=by simpa using Array.mem_of_getElem? ht
   exact (show Tryz.prog.wantsStandIn t=false by simpa using qao.1 lH.1 t hm))
  yA
end Go.Proofs.YtkeefpkcepodeaaGreatDoor
