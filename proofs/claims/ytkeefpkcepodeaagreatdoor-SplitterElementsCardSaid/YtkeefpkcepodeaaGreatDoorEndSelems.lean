/-.-/
import Derived.Test.YtkeefpkcepodeaaGreatDoorCards
import Derived.Test.YtkeefpkcepodeaaGreatDoorTie
import Derived.Test.YtkeefpkcepodeaaGreatDoorU48
import Derived.Test.YtkeefpkcepodeaaGreatDoorU49
set_option linter.all false
namespace Go.Proofs.YtkeefpkcepodeaaGreatDoor
open Go.ChangeShapes Go.WideShapes Go.ChangeAt Go.RowKit Go.Em
theorem qy:Tryz.f5.params.toList=[34,44]:=by kernel_rfl
theorem kQ {t:TypeId}(h:t∈([34,44]:List TypeId)):t∈tys:=by
 simp only [qal,List.not_mem_nil,or_false] at h;rcases h with rfl|rfl;·decide
 decide
def zIe:Value:=.int .i64 0
def zTe:Value:=.string ⟨#[]⟩
def zSe:Value:=.slice none 0 0
def kV:Array Value:=#[.agg #[zTe,zIe,zIe,zIe,zIe,zIe,zIe,zTe,zIe,zIe,zIe,zIe,zSe,zSe,zSe,zSe,zSe,zSe,zSe,zSe],.agg #[zIe,zIe,zIe,zSe,zIe,zSe,zIe,zSe,zIe,zIe,zIe,zTe,zSe,zSe,zIe,.bool false,.bool false,zIe,zIe,zIe,zTe,zSe,zSe]]
set_option maxRecDepth 100000 in
theorem qj (os:Os)(started:os.Started)(H:Type)(enc:TypeId×Value->H):
  ReturnsInHanded {} Tryz.checked os 5 .any (fun w args=>(Rows.splitterElementsSpec.pre enc Tryz.prog Tryz.f5 Rows.splitterElementsRow.domain false w args/\laidMetH Tryz.prog mW w)/\sizedMet enc Tryz.prog Tryz.f5 (OpenSpec.ofChange Rows.splitterElementsSpec) false w args)
   (Rows.splitterElementsSpec.post enc Tryz.prog Tryz.f5 false true false false):=by
 refine returnsInHanded_of_change_and (C:=Tryz.checked) (X:=fun w _=>laidMetH Tryz.prog mW w) (fun _ _ _ N h=>h.of_heap N) Tryz.own started (by kernel_rfl) Tryz.func5
  (ChangeSpec.witness_shaped (enc:=enc) (C:=Tryz.checked) (os:=os) (X:=fun w _=>laidMetH Tryz.prog mW w) false (World.laidAll Tryz.prog os mW) kV 12 (World.laidAll_os _ _ _)
   (World.shaped_of_ZipB (by kernel_rfl) (by kernel_rfl)) (by kernel_rfl) (by kernel_rfl) (by kernel_rfl)
   (by rw [MakeChecks.laidMetH_plain _ _ _ (by kernel_rfl)];exact laidMet_laidAll _ (by kernel_rfl) (by kernel_rfl))) ?_
 intro W f args q B a m L _ _ J _;refine lZ (P:=Tryz.prog) (Γ:=callF tab ext) machine xY (tN rD) (tV rD) (fun t y=>?_) (tb:=4) rfl Iq rfl (fun q u=>?_) (fun A j l=>?_) W (Ox J) f args q B a m L;·rw [qy] at y;exact ⟨kQ y,MR (kQ y)⟩
 ·match q,u with
  |[_,_],_=>rfl
 match A,j with
 |[x0,x1],_=>
  obtain ⟨_,E⟩:=l 0 34 x0 rfl rfl;obtain ⟨_,F⟩:=l 1 44 x1 rfl rfl;have O:=oK E;obtain ⟨i,rfl⟩:=sD F;obtain ⟨n,M⟩:=selems_all x0 O i;refine ⟨n,[],?_⟩;have:Dy Tryz.prog Tryz.f5.params.toList [x0,i.cells]=[.agg x0,.agg i.cells]:=by kernel_rfl
  rw [this];exact M
set_option maxRecDepth 100000
theorem wM:(Rows.splitterElementsRow.inPlace==Tryz.prog.inPlace 5)=true:=by kernel_rfl
theorem wL:(Rows.splitterElementsRow.unfollowed==Tryz.prog.unfollowed 5)=true:=by kernel_rfl
theorem wK:(Rows.splitterElementsRow.recurses==Tryz.prog.recurses 5)=true:=by kernel_rfl
theorem wJ:(Rows.splitterElementsRow.named==Tryz.prog.varsNamed 5)=true:=by kernel_rfl
theorem wI:(Rows.splitterElementsRow.wf (OpenSpec.ofChange Rows.splitterElementsSpec)&&Tryz.f5.params.all (Tryz.prog.readableRec ·)&&namedTie Tryz.prog Rows.splitterElementsRow.named Rows.splitterElementsSpec.vars&&(Rows.splitterElementsRow.stops==[])&&(Rows.splitterElementsRow.knobs==[]))=true:=by kernel_rfl
theorem wH:((Rows.splitterElementsRow.maps==(Tryz.f5.params.toList++Rows.splitterElementsSpec.plain.varTypes Tryz.prog).any (Tryz.prog.mapsRec ·))&&(Rows.splitterElementsRow.ifaces==(Tryz.f5.params.toList++Rows.splitterElementsSpec.plain.varTypes Tryz.prog).any (Tryz.prog.ifacesRec ·))&&(Rows.splitterElementsRow.mapsOut==Tryz.prog.mapsAmong Tryz.f5.resultTypes.toList)&&
   (Rows.splitterElementsRow.loops==(Tryz.f5.params.toList++Rows.splitterElementsSpec.plain.varTypes Tryz.prog).any (Tryz.prog.loopsFrom ·))&&(Rows.splitterElementsRow.wideKeys==(Tryz.f5.params.toList++Rows.splitterElementsSpec.plain.varTypes Tryz.prog++Tryz.f5.resultTypes.toList).any (Tryz.prog.wideKeysFrom ·)))=true:=by kernel_rfl
theorem wG:(Rows.splitterElementsSpec.vars.all (Tryz.prog.varReadable ·)&&Tryz.f5.resultTypes.all (fun t=>Tryz.prog.readableRec t&&decide (t<Tryz.prog.types.size))&&(Rows.splitterElementsRow.ifacesOut==Tryz.f5.resultTypes.toList.any (Tryz.prog.ifacesRec ·))&&(Rows.splitterElementsRow.loopsOut==Tryz.f5.resultTypes.toList.any (Tryz.prog.loopsFrom ·))&&Rows.splitterElementsRow.shortTexts.isNone)=true:=by kernel_rfl
theorem wF:((Rows.splitterElementsRow.kinds==(if Rows.splitterElementsRow.domain.isEmpty then [] else Tryz.f5.params.toList.map fun t=>match Tryz.prog.underlying t with|some (.int k)=>some k|_=>none))&&(Rows.splitterElementsRow.pinned==Rows.splitterElementsRow.pinnedBy)&&
   (Rows.splitterElementsRow.veiled==(Tryz.f5.params.toList++Rows.splitterElementsSpec.plain.varTypes Tryz.prog++Tryz.f5.resultTypes.toList).any (Tryz.prog.veiledRec ·))&&Rows.splitterElementsRow.veiledFits Tryz.prog Tryz.f5.params.toList (Tryz.f5.params.toList++Rows.splitterElementsSpec.plain.varTypes Tryz.prog++Tryz.f5.resultTypes.toList))=true:=by kernel_rfl
theorem jm:Tryz.prog.funcNamed "manifold/manifoldlaw32.SplitterElements"=some 5:=by kernel_rfl
theorem vI:decide (Tryz.f5.isInstance Tryz.prog Rows.splitterElementsRow.origin Rows.splitterElementsRow.targs)=true:=by kernel_rfl
theorem rH:Tryz.f5.isWrapper Tryz.prog Rows.splitterElementsRow.wrapper Rows.splitterElementsRow.mainSum:=by unfold Func.isWrapper;rw [if_neg (by decide+kernel)];exact ⟨rfl,rfl⟩
theorem ql:joinedFacts Tryz.prog 5 Tryz.f5 Rows.splitterElementsSpec Rows.splitterElementsRow=true:=
 tY Tryz.laidOut Tryz.rowed y7 zf zh wM wL wK wJ wI wH wG
  (by rw [y8];rfl) (by rw [tZ];rfl) FH wF
theorem qV:Rows.SplitterElementsSaid:=
 OpenClaim.holds_of_wide 5 Tryz.f5 rfl rfl rfl rfl rfl rfl rfl ⟨rfl,rfl,rfl,rfl,rfl⟩ rfl rfl rfl rfl rfl jm Tryz.func5 ql
  (of_decide_eq_true vI) rH
  (fun h a H f _=>qj h a H f)
theorem rJ:Rows.splitterElementsRow.wfByText (OpenSpec.ofChange Rows.splitterElementsSpec)=true:=by kernel_rfl
theorem rM:false=Rows.splitterElementsRow.goesBy Tryz.prog:=by kernel_rfl
theorem jl:((([34,44]:List TypeId).all fun u=>!Tryz.prog.wantsStandIn u)=true)/\Tryz.f5.params=#[34,44]:=⟨by kernel_rfl,by kernel_rfl⟩
theorem splitterelements_card:Rows.SplitterElementsCardSaid:=
 Claim7.holds_tied_plain_at .later [] [.data,.data,.data,.data,.sentinel,.sentinel,.pinned] true (true,"cbfbdc4360f13d412791799acfbcc3614734168f19f275bebb885638edaa5ae9") true qV (fun _ h=>by cases h) rJ (fun _ h=>by cases h) splitterElements_row_tie rfl ⟨rfl,rfl⟩ FI rfl
  (fun f fn hf hfn=>by
   obtain rfl:f=5:=Option.some.inj (jm.symm.trans hf) |>.symm;obtain rfl:fn=Tryz.f5:=(Option.some.inj (Tryz.func5.symm.trans hfn)).symm;refine ⟨y9,fun j t ht=>?_⟩;rw [jl.2] at ht;have hm:t∈([34,44]:List TypeId):=by simpa using Array.mem_of_getElem? ht
   exact (show Tryz.prog.wantsStandIn t=false by simpa using qao.1 jl.1 t hm))
  rM
end Go.Proofs.YtkeefpkcepodeaaGreatDoor
