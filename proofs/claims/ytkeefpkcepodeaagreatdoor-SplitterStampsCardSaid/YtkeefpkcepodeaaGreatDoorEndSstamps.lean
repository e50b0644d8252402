/-.-/
import Derived.Test.YtkeefpkcepodeaaGreatDoorCards
import Derived.Test.YtkeefpkcepodeaaGreatDoorTie
import Derived.Test.YtkeefpkcepodeaaGreatDoorU48
import Derived.Test.YtkeefpkcepodeaaGreatDoorU54
set_option linter.all false
namespace Go.Proofs.YtkeefpkcepodeaaGreatDoor
open Go.ChangeShapes Go.WideShapes Go.ChangeAt Go.RowKit Go.Em
theorem sQ:Tryz.f4.params.toList=[34,44]:=by kernel_rfl
theorem nJ {t:TypeId}(h:t∈([34,44]:List TypeId)):t∈tys:=by
 simp only [qal,List.not_mem_nil,or_false] at h;rcases h with rfl|rfl;·decide
 decide
def zIe:Value:=.int .i64 0
def zTe:Value:=.string ⟨#[]⟩
def zSe:Value:=.slice none 0 0
def kV:Array Value:=#[.agg #[zTe,zIe,zIe,zIe,zIe,zIe,zIe,zTe,zIe,zIe,zIe,zIe,zSe,zSe,zSe,zSe,zSe,zSe,zSe,zSe],.agg #[zIe,zIe,zIe,zSe,zIe,zSe,zIe,zSe,zIe,zIe,zIe,zTe,zSe,zSe,zIe,.bool false,.bool false,zIe,zIe,zIe,zTe,zSe,zSe]]
set_option maxRecDepth 100000 in
theorem rF (os:Os)(started:os.Started)(H:Type)(enc:TypeId×Value->H):
  ReturnsInHanded {} Tryz.checked os 4 .any (fun w args=>(Rows.splitterStampsSpec.pre enc Tryz.prog Tryz.f4 Rows.splitterStampsRow.domain false w args/\laidMetH Tryz.prog mW w)/\sizedMet enc Tryz.prog Tryz.f4 (OpenSpec.ofChange Rows.splitterStampsSpec) false w args)
   (Rows.splitterStampsSpec.post enc Tryz.prog Tryz.f4 false true false false):=by
 refine returnsInHanded_of_change_and (C:=Tryz.checked) (X:=fun w _=>laidMetH Tryz.prog mW w) (fun _ _ _ N h=>h.of_heap N) Tryz.own started (by kernel_rfl) Tryz.func4
  (ChangeSpec.witness_shaped (enc:=enc) (C:=Tryz.checked) (os:=os) (X:=fun w _=>laidMetH Tryz.prog mW w) false (World.laidAll Tryz.prog os mW) kV 12 (World.laidAll_os _ _ _)
   (World.shaped_of_ZipB (by kernel_rfl) (by kernel_rfl)) (by kernel_rfl) (by kernel_rfl) (by kernel_rfl)
   (by rw [MakeChecks.laidMetH_plain _ _ _ (by kernel_rfl)];exact laidMet_laidAll _ (by kernel_rfl) (by kernel_rfl))) ?_
 intro W f args q B a m L _ _ J _;refine lZ (P:=Tryz.prog) (Γ:=callF tab ext) machine xY (tN rD) (tV rD) (fun t y=>?_) (tb:=4) rfl Iq rfl (fun q u=>?_) (fun A j l=>?_) W (Ox J) f args q B a m L;·rw [sQ] at y;exact ⟨nJ y,MR (nJ y)⟩
 ·match q,u with
  |[_,_],_=>rfl
 match A,j with
 |[x0,x1],_=>
  obtain ⟨_,E⟩:=l 0 34 x0 rfl rfl;obtain ⟨_,F⟩:=l 1 44 x1 rfl rfl;have O:=oK E;obtain ⟨i,rfl⟩:=sD F;obtain ⟨n,M⟩:=sstamps_all x0 O i;refine ⟨n,[],?_⟩;have:Dy Tryz.prog Tryz.f4.params.toList [x0,i.cells]=[.agg x0,.agg i.cells]:=by kernel_rfl
  rw [this];exact M
set_option maxRecDepth 100000
theorem Aj:(Rows.splitterStampsRow.inPlace==Tryz.prog.inPlace 4)=true:=by kernel_rfl
theorem Ai:(Rows.splitterStampsRow.unfollowed==Tryz.prog.unfollowed 4)=true:=by kernel_rfl
theorem Ah:(Rows.splitterStampsRow.recurses==Tryz.prog.recurses 4)=true:=by kernel_rfl
theorem Ag:(Rows.splitterStampsRow.named==Tryz.prog.varsNamed 4)=true:=by kernel_rfl
theorem Af:(Rows.splitterStampsRow.wf (OpenSpec.ofChange Rows.splitterStampsSpec)&&Tryz.f4.params.all (Tryz.prog.readableRec ·)&&namedTie Tryz.prog Rows.splitterStampsRow.named Rows.splitterStampsSpec.vars&&(Rows.splitterStampsRow.stops==[])&&(Rows.splitterStampsRow.knobs==[]))=true:=by kernel_rfl
theorem Ae:((Rows.splitterStampsRow.maps==(Tryz.f4.params.toList++Rows.splitterStampsSpec.plain.varTypes Tryz.prog).any (Tryz.prog.mapsRec ·))&&(Rows.splitterStampsRow.ifaces==(Tryz.f4.params.toList++Rows.splitterStampsSpec.plain.varTypes Tryz.prog).any (Tryz.prog.ifacesRec ·))&&(Rows.splitterStampsRow.mapsOut==Tryz.prog.mapsAmong Tryz.f4.resultTypes.toList)&&
   (Rows.splitterStampsRow.loops==(Tryz.f4.params.toList++Rows.splitterStampsSpec.plain.varTypes Tryz.prog).any (Tryz.prog.loopsFrom ·))&&(Rows.splitterStampsRow.wideKeys==(Tryz.f4.params.toList++Rows.splitterStampsSpec.plain.varTypes Tryz.prog++Tryz.f4.resultTypes.toList).any (Tryz.prog.wideKeysFrom ·)))=true:=by kernel_rfl
theorem Ad:(Rows.splitterStampsSpec.vars.all (Tryz.prog.varReadable ·)&&Tryz.f4.resultTypes.all (fun t=>Tryz.prog.readableRec t&&decide (t<Tryz.prog.types.size))&&(Rows.splitterStampsRow.ifacesOut==Tryz.f4.resultTypes.toList.any (Tryz.prog.ifacesRec ·))&&(Rows.splitterStampsRow.loopsOut==Tryz.f4.resultTypes.toList.any (Tryz.prog.loopsFrom ·))&&Rows.splitterStampsRow.shortTexts.isNone)=true:=by kernel_rfl
theorem Ac:((Rows.splitterStampsRow.kinds==(if Rows.splitterStampsRow.domain.isEmpty then [] else Tryz.f4.params.toList.map fun t=>match Tryz.prog.underlying t with|some (.int k)=>some k|_=>none))&&(Rows.splitterStampsRow.pinned==Rows.splitterStampsRow.pinnedBy)&&
   (Rows.splitterStampsRow.veiled==(Tryz.f4.params.toList++Rows.splitterStampsSpec.plain.varTypes Tryz.prog++Tryz.f4.resultTypes.toList).any (Tryz.prog.veiledRec ·))&&Rows.splitterStampsRow.veiledFits Tryz.prog Tryz.f4.params.toList (Tryz.f4.params.toList++Rows.splitterStampsSpec.plain.varTypes Tryz.prog++Tryz.f4.resultTypes.toList))=true:=by kernel_rfl
theorem kN:Tryz.prog.funcNamed "manifold/manifoldlaw32.SplitterStamps"=some 4:=by kernel_rfl
theorem yu:decide (Tryz.f4.isInstance Tryz.prog Rows.splitterStampsRow.origin Rows.splitterStampsRow.targs)=true:=by kernel_rfl
theorem wz:Tryz.f4.isWrapper Tryz.prog Rows.splitterStampsRow.wrapper Rows.splitterStampsRow.mainSum:=by unfold Func.isWrapper;rw [if_neg (by decide+kernel)];exact ⟨rfl,rfl⟩
theorem rG:joinedFacts Tryz.prog 4 Tryz.f4 Rows.splitterStampsSpec Rows.splitterStampsRow=true:=
 tY Tryz.laidOut Tryz.rowed y7 zf zh Aj Ai Ah Ag Af Ae Ad
  (by rw [y8];rfl) (by rw [tZ];rfl) FH Ac
theorem vF:Rows.SplitterStampsSaid:=
 OpenClaim.holds_of_wide 4 Tryz.f4 rfl rfl rfl rfl rfl rfl rfl ⟨rfl,rfl,rfl,rfl,rfl⟩ rfl rfl rfl rfl rfl kN Tryz.func4 rG
  (of_decide_eq_true yu) wz
  (fun h a H f _=>rF h a H f)
theorem wB:Rows.splitterStampsRow.wfByText (OpenSpec.ofChange Rows.splitterStampsSpec)=true:=by kernel_rfl
theorem wC:false=Rows.splitterStampsRow.goesBy Tryz.prog:=by kernel_rfl
theorem kM:((([34,44]:List TypeId).all fun u=>!Tryz.prog.wantsStandIn u)=true)/\Tryz.f4.params=#[34,44]:=⟨by kernel_rfl,by kernel_rfl⟩
theorem splitterstamps_card:Rows.SplitterStampsCardSaid:=
 Claim7.holds_tied_plain_at .later [] [.data,.data,.data,.data,.sentinel,.sentinel,.pinned] true (true,"cbfbdc4360f13d412791799acfbcc3614734168f19f275bebb885638edaa5ae9") true vF (fun _ h=>by cases h) wB (fun _ h=>by cases h) splitterStamps_row_tie rfl ⟨rfl,rfl⟩ FI rfl
  (fun f fn hf hfn=>by
   obtain rfl:f=4:=Option.some.inj (kN.symm.trans hf) |>.symm;obtain rfl:fn=Tryz.f4:=(Option.some.inj (Tryz.func4.symm.trans hfn)).symm;refine ⟨y9,fun j t ht=>?_⟩;rw [kM.2] at ht;have hm:t∈([34,44]:List TypeId):=by simpa using Array.mem_of_getElem? ht
   exact (show Tryz.prog.wantsStandIn t=false by simpa using qao.1 kM.1 t hm))
  wC
end Go.Proofs.YtkeefpkcepodeaaGreatDoor
