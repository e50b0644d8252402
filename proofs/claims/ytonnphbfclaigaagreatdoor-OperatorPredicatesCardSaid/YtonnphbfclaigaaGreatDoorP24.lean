/-.-/
import Derived.SevenTiedAt
import Derived.Stop.Joined
import GoSem.ClaimGoes
import Derived.Test.YtonnphbfclaigaaGreatDoorP23
set_option linter.all false
namespace Go.Proofs.YtonnphbfclaigaaGreatDoor
open Go.ChangeShapes Go.WideShapes Go.ChangeAt Go.RowKit Go.Em
set_option maxRecDepth 100000
variable {P:Program}
theorem joined_of {f:FuncId}{fn:Func}{s:ChangeSpec}{c:OpenClaim}(p1:laidOutB P=true)(p2:mapsRowed P=true)(p3:((P.stops==[])&&(P.stopKnobs==[]))=true)
  (p4:P.stopsHeard=true) (p5:P.mayEnter=true)
  (a1:(c.inPlace==P.inPlace f)=true) (a2:(c.unfollowed==P.unfollowed f)=true) (a3:(c.recurses==P.recurses f)=true) (a4:(c.named==P.varsNamed f)=true)
  (b1:(c.wf (OpenSpec.ofChange s)&&fn.params.all (P.readableRec ·)&&namedTie P c.named s.vars&&(c.stops==[])&&(c.knobs==[]))=true)
  (b2:((c.maps==(fn.params.toList++s.plain.varTypes P).any (P.mapsRec ·))&&(c.ifaces==(fn.params.toList++s.plain.varTypes P).any (P.ifacesRec ·))&&(c.mapsOut==P.mapsAmong fn.resultTypes.toList)&&
   (c.loops==(fn.params.toList++s.plain.varTypes P).any (P.loopsFrom ·))&&(c.wideKeys==(fn.params.toList++s.plain.varTypes P++fn.resultTypes.toList).any (P.wideKeysFrom ·)))=true)
  (b3:(s.vars.all (P.varReadable ·)&&fn.resultTypes.all (fun t=>P.readableRec t&&decide (t<P.types.size))&&(c.ifacesOut==fn.resultTypes.toList.any (P.ifacesRec ·))&&(c.loopsOut==fn.resultTypes.toList.any (P.loopsFrom ·))&&c.shortTexts.isNone)=true)
  (c1:(c.plainKeys==P.plainKeys)=true) (c2:(c.lifted==P.liftsFinal)=true) (c3:(P.make==some c.make)=true)
  (b4:((c.kinds==(if c.domain.isEmpty then [] else fn.params.toList.map fun t=>match P.underlying t with|some (.int k)=>some k|_=>none))&&(c.pinned==c.pinnedBy)&&
   (c.veiled==(fn.params.toList++s.plain.varTypes P++fn.resultTypes.toList).any (P.veiledRec ·))&&c.veiledFits P fn.params.toList (fn.params.toList++s.plain.varTypes P++fn.resultTypes.toList))=true):
  joinedFacts P f fn s c=true:=by
 simp only [qa4] at p3 b1 b2 b3 b4;obtain ⟨q1,q2⟩:=p3;obtain ⟨⟨⟨⟨r1,r2⟩,r3⟩,r4⟩,r5⟩:=b1;obtain ⟨⟨⟨⟨s1,s2⟩,s3⟩,s4⟩,s5⟩:=b2;obtain ⟨⟨⟨⟨t1,t2⟩,t3⟩,t4⟩,t5⟩:=b3;obtain ⟨⟨⟨u1,u2⟩,u3⟩,u4⟩:=b4;simp only [joinedFacts,qa4];exact ⟨⟨⟨⟨⟨⟨⟨⟨⟨⟨⟨⟨⟨⟨⟨⟨⟨⟨⟨⟨⟨⟨⟨⟨⟨⟨⟨⟨⟨⟨⟨r1,p1⟩,p2⟩,r2⟩,r3⟩,r4⟩,q1⟩,r5⟩,q2⟩,a1⟩,a2⟩,a3⟩,a4⟩,s1⟩,s2⟩,s3⟩,s4⟩,s5⟩,t1⟩,t2⟩,t3⟩,t4⟩,c1⟩,t5⟩,p4⟩,p5⟩,c2⟩,c3⟩,u1⟩,u2⟩,u3⟩,u4⟩
theorem jf_stops:((Tryz.prog.stops==[])&&(Tryz.prog.stopKnobs==[]))=true:=by kernel_rfl
theorem jf_heard:Tryz.prog.stopsHeard=true:=by kernel_rfl
theorem jf_enter:Tryz.prog.mayEnter=true:=by kernel_rfl
theorem jf_looks:true=Tryz.prog.looks []:=by kernel_rfl
theorem jf_main:Tryz.pinned.checked.prog.mainIs=some (true,"a75ad6bf4a49d30b3450983d732040967430057036402e2daa271303e339b221".toList):=by kernel_rfl
theorem jf_plain:Tryz.prog.plainKeys=Rows.operatorPredicatesRow.plainKeys:=by kernel_rfl
theorem jf_lifted:Tryz.prog.liftsFinal=Rows.operatorPredicatesRow.lifted:=by kernel_rfl
theorem jf_make:(Tryz.prog.make==some Rows.operatorPredicatesRow.make)=true:=by kernel_rfl
theorem goes_none (h:P.funcs.any Func.goes=false)(f:FuncId):P.goes f=false:=by
 unfold Program.goes;rw [h,Bool.and_false,Bool.or_false,List.any_eq_false];intro g _ hg;cases e:P.funcs[g]? with
 |none=>rw [e] at hg;simp at hg
 |some fn=>rw [e] at hg;simp only [Option.any_some] at hg;obtain ⟨hlt,he⟩:=qbA.1 e;rw [Array.any_eq_false] at h;exact h g hlt (by rw [he];exact hg)
theorem goesAt_none (h:P.funcs.any Func.goes=false)(st:Start)(fn:String):P.goesAt st fn=false:=by
 unfold Program.goesAt Program.goesFrom;have e:(P.funcNamed fn).any P.goes=false:=by
  cases P.funcNamed fn with
  |none=>rfl
  |some f=>simp only [Option.any_some];exact goes_none h f
 rw [e,Bool.false_or];split;·rfl
 rw [List.any_eq_false];intro g _ hg;rw [goes_none h g] at hg;cases hg
theorem no_goes:Tryz.prog.funcs.any Func.goes=false:=by kernel_rfl
end Go.Proofs.YtonnphbfclaigaaGreatDoor
