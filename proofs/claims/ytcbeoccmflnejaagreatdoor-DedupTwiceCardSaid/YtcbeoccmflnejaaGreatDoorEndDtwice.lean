/-.-/
import Derived.Test.YtcbeoccmflnejaaGreatDoorCards
import Derived.Test.YtcbeoccmflnejaaGreatDoorTie
import Derived.Test.YtcbeoccmflnejaaGreatDoorU41
import Derived.Test.YtcbeoccmflnejaaGreatDoorU42q2
set_option linter.all false
namespace Go.Proofs.YtcbeoccmflnejaaGreatDoor
open Go.ChangeShapes Go.WideShapes Go.ChangeAt Go.RowKit Go.Em
theorem rC:Tryz.f4.params.toList=[34,37,47]:=by kernel_rfl
theorem nU {t:TypeId}(h:t∈([34,37,47]:List TypeId)):t∈tys:=by
 simp only [qal,List.not_mem_nil,or_false] at h;rcases h with rfl|rfl|rfl;·decide
 ·decide
 decide
def zIe:Value:=.int .i64 0
def zTe:Value:=.string ⟨#[]⟩
def zSe:Value:=.slice none 0 0
def oO:Array Value:=#[.agg #[zTe,zIe,zIe,zIe,zIe,zIe,zIe,zTe,zIe,zIe,zIe,zIe,zSe,zSe,zSe,zSe,zSe,zSe,zSe,zSe],.agg #[zIe,zIe,zSe],.agg #[zIe,zIe,zIe,zSe,zIe,zSe,zIe,zSe,zIe,zIe,zIe,zTe,zSe,zSe,zIe,.bool false,.bool false,zIe,zIe,zIe,zTe,zSe,zSe]]
set_option maxRecDepth 100000 in
theorem su (os:Os)(started:os.Started)(H:Type)(enc:TypeId×Value->H):
  ReturnsInHanded {} Tryz.checked os 4 .any (fun w args=>(Rows.dedupTwiceSpec.pre enc Tryz.prog Tryz.f4 Rows.dedupTwiceRow.domain false w args/\laidMetH Tryz.prog pY w)/\sizedMet enc Tryz.prog Tryz.f4 (OpenSpec.ofChange Rows.dedupTwiceSpec) false w args)
   (Rows.dedupTwiceSpec.post enc Tryz.prog Tryz.f4 false true false false):=by
 refine returnsInHanded_of_change_and (C:=Tryz.checked) (X:=fun w _=>laidMetH Tryz.prog pY w) (fun _ _ _ O h=>h.of_heap O) Tryz.own started (by kernel_rfl) Tryz.func4
  (ChangeSpec.witness_shaped (enc:=enc) (C:=Tryz.checked) (os:=os) (X:=fun w _=>laidMetH Tryz.prog pY w) false (World.laidAll Tryz.prog os pY) oO 12 (World.laidAll_os _ _ _)
   (World.shaped_of_ZipB (by kernel_rfl) (by kernel_rfl)) (by kernel_rfl) (by kernel_rfl) (by kernel_rfl)
   (by rw [MakeChecks.laidMetH_plain _ _ _ (by kernel_rfl)];exact laidMet_laidAll _ (by kernel_rfl) (by kernel_rfl))) ?_
 intro W j args q B a m M _ _ L _;refine lifted_true (P:=Tryz.prog) (Γ:=callF tab ext) machine BI (kids_some vW) (kids_full vW) (fun t y=>?_) (tb:=4) rfl JZ rfl (fun q u=>?_) (fun A l f=>?_) W (Sl L) j args q B a m M;·rw [rC] at y;exact ⟨nU y,Pn (nU y)⟩
 ·match q,u with
  |[_,_,_],_=>rfl
 match A,l with
 |[x0,x1,x2],_=>
  obtain ⟨_,E⟩:=f 0 34 x0 rfl rfl;obtain ⟨_,F⟩:=f 1 37 x1 rfl rfl;obtain ⟨_,J⟩:=f 2 47 x2 rfl rfl;have Q:=qR E;obtain ⟨s,rfl⟩:=wB F;obtain ⟨i,rfl⟩:=wF J;obtain ⟨n,N⟩:=dtwice_all x0 Q s i;refine ⟨n,[],?_⟩;have:argsX Tryz.prog Tryz.f4.params.toList [x0,s.cells,i.cells]=[.agg x0,.agg s.cells,.agg i.cells]:=by kernel_rfl
  rw [this];exact N
set_option maxRecDepth 100000
theorem Dw:(Rows.dedupTwiceRow.inPlace==Tryz.prog.inPlace 4)=true:=by kernel_rfl
theorem Dv:(Rows.dedupTwiceRow.unfollowed==Tryz.prog.unfollowed 4)=true:=by kernel_rfl
theorem Du:(Rows.dedupTwiceRow.recurses==Tryz.prog.recurses 4)=true:=by kernel_rfl
theorem Dt:(Rows.dedupTwiceRow.named==Tryz.prog.varsNamed 4)=true:=by kernel_rfl
theorem Dq:(Rows.dedupTwiceRow.wf (OpenSpec.ofChange Rows.dedupTwiceSpec)&&Tryz.f4.params.all (Tryz.prog.readableRec ·)&&namedTie Tryz.prog Rows.dedupTwiceRow.named Rows.dedupTwiceSpec.vars&&(Rows.dedupTwiceRow.stops==[])&&(Rows.dedupTwiceRow.knobs==[]))=true:=by kernel_rfl
theorem Dp:((Rows.dedupTwiceRow.maps==(Tryz.f4.params.toList++Rows.dedupTwiceSpec.plain.varTypes Tryz.prog).any (Tryz.prog.mapsRec ·))&&(Rows.dedupTwiceRow.ifaces==(Tryz.f4.params.toList++Rows.dedupTwiceSpec.plain.varTypes Tryz.prog).any (Tryz.prog.ifacesRec ·))&&(Rows.dedupTwiceRow.mapsOut==Tryz.prog.mapsAmong Tryz.f4.resultTypes.toList)&&
   (Rows.dedupTwiceRow.loops==(Tryz.f4.params.toList++Rows.dedupTwiceSpec.plain.varTypes Tryz.prog).any (Tryz.prog.loopsFrom ·))&&(Rows.dedupTwiceRow.wideKeys==(Tryz.f4.params.toList++Rows.dedupTwiceSpec.plain.varTypes Tryz.prog++Tryz.f4.resultTypes.toList).any (Tryz.prog.wideKeysFrom ·)))=true:=by kernel_rfl
theorem Dn:(Rows.dedupTwiceSpec.vars.all (Tryz.prog.varReadable ·)&&Tryz.f4.resultTypes.all (fun t=>Tryz.prog.readableRec t&&decide (t<Tryz.prog.types.size))&&(Rows.dedupTwiceRow.ifacesOut==Tryz.f4.resultTypes.toList.any (Tryz.prog.ifacesRec ·))&&(Rows.dedupTwiceRow.loopsOut==Tryz.f4.resultTypes.toList.any (Tryz.prog.loopsFrom ·))&&Rows.dedupTwiceRow.shortTexts.isNone)=true:=by kernel_rfl
theorem Dl:((Rows.dedupTwiceRow.kinds==(if Rows.dedupTwiceRow.domain.isEmpty then [] else Tryz.f4.params.toList.map fun t=>match Tryz.prog.underlying t with|some (.int k)=>some k|_=>none))&&(Rows.dedupTwiceRow.pinned==Rows.dedupTwiceRow.pinnedBy)&&
   (Rows.dedupTwiceRow.veiled==(Tryz.f4.params.toList++Rows.dedupTwiceSpec.plain.varTypes Tryz.prog++Tryz.f4.resultTypes.toList).any (Tryz.prog.veiledRec ·))&&Rows.dedupTwiceRow.veiledFits Tryz.prog Tryz.f4.params.toList (Tryz.f4.params.toList++Rows.dedupTwiceSpec.plain.varTypes Tryz.prog++Tryz.f4.resultTypes.toList))=true:=by kernel_rfl
theorem kY:Tryz.prog.funcNamed "manifold/manifoldlaw35.DedupTwice"=some 4:=by kernel_rfl
theorem zk:decide (Tryz.f4.isInstance Tryz.prog Rows.dedupTwiceRow.origin Rows.dedupTwiceRow.targs)=true:=by kernel_rfl
theorem xR:Tryz.f4.isWrapper Tryz.prog Rows.dedupTwiceRow.wrapper Rows.dedupTwiceRow.mainSum:=by unfold Func.isWrapper;rw [if_neg (by decide+kernel)];exact ⟨rfl,rfl⟩
theorem sD:joinedFacts Tryz.prog 4 Tryz.f4 Rows.dedupTwiceSpec Rows.dedupTwiceRow=true:=
 xu Tryz.laidOut Tryz.rowed CJ CQ CS Dw Dv Du Dt Dq Dp Dn
  (by rw [CO];rfl) (by rw [xw];rfl) Iu Dl
theorem uN:Rows.DedupTwiceSaid:=
 OpenClaim.holds_of_wide 4 Tryz.f4 rfl rfl rfl rfl rfl rfl rfl ⟨rfl,rfl,rfl,rfl,rfl⟩ rfl rfl rfl rfl rfl kY Tryz.func4 sD
  (of_decide_eq_true zk) xR
  (fun h a H f _=>su h a H f)
theorem xU:Rows.dedupTwiceRow.wfByText (OpenSpec.ofChange Rows.dedupTwiceSpec)=true:=by kernel_rfl
theorem xW:false=Rows.dedupTwiceRow.goesBy Tryz.prog:=by kernel_rfl
theorem kX:((([34,37,47]:List TypeId).all fun u=>!Tryz.prog.wantsStandIn u)=true)/\Tryz.f4.params=#[34,37,47]:=⟨by kernel_rfl,by kernel_rfl⟩
theorem deduptwice_card:Rows.DedupTwiceCardSaid:=
 Claim7.holds_tied_plain_at .later [] [.data,.data,.data,.data,.sentinel,.sentinel,.pinned] true (true,"7dec813ea5a7da48e77a1b2854200b391007d9a1ecddbeea581343831613540c") true uN (fun _ h=>by cases h) xU (fun _ h=>by cases h) dedupTwice_row_tie rfl ⟨rfl,rfl⟩ Iw rfl
  (fun f fn hf hfn=>by
   obtain rfl:f=4:=Option.some.inj (kY.symm.trans hf) |>.symm;obtain rfl:fn=Tryz.f4:=(Option.some.inj (Tryz.func4.symm.trans hfn)).symm;refine ⟨CP,fun j t ht=>?_⟩;rw [kX.2] at ht;have hm:t∈([34,37,47]:List TypeId):=by simpa using Array.mem_of_getElem? ht
   exact (show Tryz.prog.wantsStandIn t=false by simpa using qas.1 kX.1 t hm))
  xW
end Go.Proofs.YtcbeoccmflnejaaGreatDoor
