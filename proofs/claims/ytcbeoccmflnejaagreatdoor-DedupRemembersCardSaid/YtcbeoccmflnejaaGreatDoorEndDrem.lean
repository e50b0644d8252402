/-.-/
import Derived.Test.YtcbeoccmflnejaaGreatDoorCards
import Derived.Test.YtcbeoccmflnejaaGreatDoorTie
import Derived.Test.YtcbeoccmflnejaaGreatDoorU18q3
import Derived.Test.YtcbeoccmflnejaaGreatDoorU41
import Derived.Test.YtcbeoccmflnejaaGreatDoorU43q3
set_option linter.all false
namespace Go.Proofs.YtcbeoccmflnejaaGreatDoor
open Go.ChangeShapes Go.WideShapes Go.ChangeAt Go.RowKit Go.Em
theorem lQ:Tryz.f5.params.toList=[34,37,47]:=by kernel_rfl
theorem jE {t:TypeId}(h:t∈([34,37,47]:List TypeId)):t∈tys:=by
 simp only [qal,List.not_mem_nil,or_false] at h;rcases h with rfl|rfl|rfl;·decide
 ·decide
 decide
def zIe:Value:=.int .i64 0
def zTe:Value:=.string ⟨#[]⟩
def zSe:Value:=.slice none 0 0
def oO:Array Value:=#[.agg #[zTe,zIe,zIe,zIe,zIe,zIe,zIe,zTe,zIe,zIe,zIe,zIe,zSe,zSe,zSe,zSe,zSe,zSe,zSe,zSe],.agg #[zIe,zIe,zSe],.agg #[zIe,zIe,zIe,zSe,zIe,zSe,zIe,zSe,zIe,zIe,zIe,zTe,zSe,zSe,zIe,.bool false,.bool false,zIe,zIe,zIe,zTe,zSe,zSe]]
set_option maxRecDepth 100000 in
theorem mQ (os:Os)(started:os.Started)(H:Type)(enc:TypeId×Value->H):
  ReturnsInHanded {} Tryz.checked os 5 .any (fun w args=>(Rows.dedupRemembersSpec.pre enc Tryz.prog Tryz.f5 Rows.dedupRemembersRow.domain false w args/\laidMetH Tryz.prog pY w)/\sizedMet enc Tryz.prog Tryz.f5 (OpenSpec.ofChange Rows.dedupRemembersSpec) false w args)
   (Rows.dedupRemembersSpec.post enc Tryz.prog Tryz.f5 false true false false):=by
 refine returnsInHanded_of_change_and (C:=Tryz.checked) (X:=fun w _=>laidMetH Tryz.prog pY w) (fun _ _ _ O h=>h.of_heap O) Tryz.own started (by kernel_rfl) Tryz.func5
  (ChangeSpec.witness_shaped (enc:=enc) (C:=Tryz.checked) (os:=os) (X:=fun w _=>laidMetH Tryz.prog pY w) false (World.laidAll Tryz.prog os pY) oO 12 (World.laidAll_os _ _ _)
   (World.shaped_of_ZipB (by kernel_rfl) (by kernel_rfl)) (by kernel_rfl) (by kernel_rfl) (by kernel_rfl)
   (by rw [MakeChecks.laidMetH_plain _ _ _ (by kernel_rfl)];exact laidMet_laidAll _ (by kernel_rfl) (by kernel_rfl))) ?_
 intro W j args q E a m M _ _ L _;refine lifted_true (P:=Tryz.prog) (Γ:=callF tab ext) machine BI (kids_some vW) (kids_full vW) (fun t y=>?_) (tb:=4) rfl JZ rfl (fun q u=>?_) (fun A l f=>?_) W (Sl L) j args q E a m M;·rw [lQ] at y;exact ⟨jE y,Pn (jE y)⟩
 ·match q,u with
  |[_,_,_],_=>rfl
 match A,l with
 |[x0,x1,x2],_=>
  obtain ⟨_,B⟩:=f 0 34 x0 rfl rfl;obtain ⟨_,F⟩:=f 1 37 x1 rfl rfl;obtain ⟨_,J⟩:=f 2 47 x2 rfl rfl;have Q:=qR B;obtain ⟨s,rfl⟩:=wB F;obtain ⟨i,rfl⟩:=wF J;obtain ⟨n,N⟩:=drem_all x0 Q (yY B) s i;refine ⟨n,[],?_⟩;have:argsX Tryz.prog Tryz.f5.params.toList [x0,s.cells,i.cells]=[.agg x0,.agg s.cells,.agg i.cells]:=by kernel_rfl
  rw [this];exact N
set_option maxRecDepth 100000
theorem sW:(Rows.dedupRemembersRow.inPlace==Tryz.prog.inPlace 5)=true:=by kernel_rfl
theorem sV:(Rows.dedupRemembersRow.unfollowed==Tryz.prog.unfollowed 5)=true:=by kernel_rfl
theorem sU:(Rows.dedupRemembersRow.recurses==Tryz.prog.recurses 5)=true:=by kernel_rfl
theorem sQ:(Rows.dedupRemembersRow.named==Tryz.prog.varsNamed 5)=true:=by kernel_rfl
theorem sO:(Rows.dedupRemembersRow.wf (OpenSpec.ofChange Rows.dedupRemembersSpec)&&Tryz.f5.params.all (Tryz.prog.readableRec ·)&&namedTie Tryz.prog Rows.dedupRemembersRow.named Rows.dedupRemembersSpec.vars&&(Rows.dedupRemembersRow.stops==[])&&(Rows.dedupRemembersRow.knobs==[]))=true:=by kernel_rfl
theorem sN:((Rows.dedupRemembersRow.maps==(Tryz.f5.params.toList++Rows.dedupRemembersSpec.plain.varTypes Tryz.prog).any (Tryz.prog.mapsRec ·))&&(Rows.dedupRemembersRow.ifaces==(Tryz.f5.params.toList++Rows.dedupRemembersSpec.plain.varTypes Tryz.prog).any (Tryz.prog.ifacesRec ·))&&(Rows.dedupRemembersRow.mapsOut==Tryz.prog.mapsAmong Tryz.f5.resultTypes.toList)&&
   (Rows.dedupRemembersRow.loops==(Tryz.f5.params.toList++Rows.dedupRemembersSpec.plain.varTypes Tryz.prog).any (Tryz.prog.loopsFrom ·))&&(Rows.dedupRemembersRow.wideKeys==(Tryz.f5.params.toList++Rows.dedupRemembersSpec.plain.varTypes Tryz.prog++Tryz.f5.resultTypes.toList).any (Tryz.prog.wideKeysFrom ·)))=true:=by kernel_rfl
theorem sK:(Rows.dedupRemembersSpec.vars.all (Tryz.prog.varReadable ·)&&Tryz.f5.resultTypes.all (fun t=>Tryz.prog.readableRec t&&decide (t<Tryz.prog.types.size))&&(Rows.dedupRemembersRow.ifacesOut==Tryz.f5.resultTypes.toList.any (Tryz.prog.ifacesRec ·))&&(Rows.dedupRemembersRow.loopsOut==Tryz.f5.resultTypes.toList.any (Tryz.prog.loopsFrom ·))&&Rows.dedupRemembersRow.shortTexts.isNone)=true:=by kernel_rfl
theorem sJ:((Rows.dedupRemembersRow.kinds==(if Rows.dedupRemembersRow.domain.isEmpty then [] else Tryz.f5.params.toList.map fun t=>match Tryz.prog.underlying t with|some (.int k)=>some k|_=>none))&&(Rows.dedupRemembersRow.pinned==Rows.dedupRemembersRow.pinnedBy)&&
   (Rows.dedupRemembersRow.veiled==(Tryz.f5.params.toList++Rows.dedupRemembersSpec.plain.varTypes Tryz.prog++Tryz.f5.resultTypes.toList).any (Tryz.prog.veiledRec ·))&&Rows.dedupRemembersRow.veiledFits Tryz.prog Tryz.f5.params.toList (Tryz.f5.params.toList++Rows.dedupRemembersSpec.plain.varTypes Tryz.prog++Tryz.f5.resultTypes.toList))=true:=by kernel_rfl
theorem iL:Tryz.prog.funcNamed "manifold/manifoldlaw35.DedupRemembers"=some 5:=by kernel_rfl
theorem qA:decide (Tryz.f5.isInstance Tryz.prog Rows.dedupRemembersRow.origin Rows.dedupRemembersRow.targs)=true:=by kernel_rfl
theorem oI:Tryz.f5.isWrapper Tryz.prog Rows.dedupRemembersRow.wrapper Rows.dedupRemembersRow.mainSum:=by unfold Func.isWrapper;rw [if_neg (by decide+kernel)];exact ⟨rfl,rfl⟩
theorem mV:joinedFacts Tryz.prog 5 Tryz.f5 Rows.dedupRemembersSpec Rows.dedupRemembersRow=true:=
 xu Tryz.laidOut Tryz.rowed CJ CQ CS sW sV sU sQ sO sN sK
  (by rw [CO];rfl) (by rw [xw];rfl) Iu sJ
theorem nO:Rows.DedupRemembersSaid:=
 OpenClaim.holds_of_wide 5 Tryz.f5 rfl rfl rfl rfl rfl rfl rfl ⟨rfl,rfl,rfl,rfl,rfl⟩ rfl rfl rfl rfl rfl iL Tryz.func5 mV
  (of_decide_eq_true qA) oI
  (fun h a H f _=>mQ h a H f)
theorem oJ:Rows.dedupRemembersRow.wfByText (OpenSpec.ofChange Rows.dedupRemembersSpec)=true:=by kernel_rfl
theorem oK:false=Rows.dedupRemembersRow.goesBy Tryz.prog:=by kernel_rfl
theorem iK:((([34,37,47]:List TypeId).all fun u=>!Tryz.prog.wantsStandIn u)=true)/\Tryz.f5.params=#[34,37,47]:=⟨by kernel_rfl,by kernel_rfl⟩
theorem dedupremembers_card:Rows.DedupRemembersCardSaid:=
 Claim7.holds_tied_plain_at .later [] [.data,.data,.data,.data,.sentinel,.sentinel,.pinned] true (true,"7dec813ea5a7da48e77a1b2854200b391007d9a1ecddbeea581343831613540c") true nO (fun _ h=>by cases h) oJ (fun _ h=>by cases h) dedupRemembers_row_tie rfl ⟨rfl,rfl⟩ Iw rfl
  (fun f fn hf hfn=>by
   obtain rfl:f=5:=Option.some.inj (iL.symm.trans hf) |>.symm;obtain rfl:fn=Tryz.f5:=(Option.some.inj (Tryz.func5.symm.trans hfn)).symm;refine ⟨CP,fun j t ht=>?_⟩;rw [iK.2] at ht;have hm:t∈([34,37,47]:List TypeId):=by simpa using Array.mem_of_getElem? ht
   exact (show Tryz.prog.wantsStandIn t=false by simpa using qas.1 iK.1 t hm))
  oK
end Go.Proofs.YtcbeoccmflnejaaGreatDoor
