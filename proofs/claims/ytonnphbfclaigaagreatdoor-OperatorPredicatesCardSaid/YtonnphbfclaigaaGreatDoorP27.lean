/-.-/
import Derived.Test.YtonnphbfclaigaaGreatDoorRows
import Derived.LaidByTextLater
import Derived.SevenTiedAt
import Derived.LaidSub
import Derived.LaidOnce
set_option linter.all false
namespace Go.Proofs.YtonnphbfclaigaaGreatDoor
open Go
set_option maxRecDepth 100000
def bF:List (String×DataW Unit):=[("math/bits.deBruijn32tab",Rows.laid_math_bits_deBruijn32tab),("math/bits.deBruijn64tab",Rows.laid_math_bits_deBruijn64tab),("internal/strconv.uint64pow10",Rows.laid_internal_strconv_uint64pow10),("unicode/utf8.acceptRanges",Rows.laid_unicode_utf8_acceptRanges),("strconv.ErrRange",Rows.laid_strconv_ErrRange),("strconv.ErrSyntax",Rows.laid_strconv_ErrSyntax)]
theorem bP:Tryz.prog.worded (varsWordLater true)=true:=by kernel_rfl
theorem bM:Tryz.prog.worded (varsWordLater !true)=false:=by kernel_rfl
theorem bK:Tryz.prog.worded rootWordLater=true:=by kernel_rfl
theorem bJ:bF.map (fun x=>Tryz.prog.kindOfLater x.1)=([.data,.data,.data,.data,.sentinel,.sentinel]:List LaidKind).map some:=by kernel_rfl
theorem bI:(Tryz.prog.funcNamed "gosem.cut.vars").isSome=true:=by kernel_rfl
theorem bH:varsNamedLaterB Tryz.prog (varsId Tryz.prog) bF=true:=by kernel_rfl
theorem bG:∀os tape,doorLeaves Tryz.prog 72 8 65 bF os tape=some (bF.filter fun x=>x.2.handleName?.isNone,(funcsListed bF).map (·.2.funcsOut)):=(fun _ _=>by kernel_rfl)
theorem seatTie1:Tryz.prog.laidByTextLater bF [.data,.data,.data,.data,.sentinel,.sentinel] true:=
 Program.laidByTextLater_by_one 72 8 65 bP bM bK bJ bI bH bG
theorem pin_laid_unicode_utf8_first:Tryz.pinned.checked.prog.pinnedFits "unicode/utf8.first"=true:=by kernel_rfl
theorem noOwnUnsafe:Tryz.pinned.checked.prog.headLifts.contains "ownunsafe"=false:=by kernel_rfl
theorem fits1:Tryz.pinned.checked.prog.listedFits [("math/bits.deBruijn32tab",Rows.laid_math_bits_deBruijn32tab),("math/bits.deBruijn64tab",Rows.laid_math_bits_deBruijn64tab),("internal/strconv.uint64pow10",Rows.laid_internal_strconv_uint64pow10),("unicode/utf8.acceptRanges",Rows.laid_unicode_utf8_acceptRanges),("strconv.ErrRange",Rows.laid_strconv_ErrRange),("strconv.ErrSyntax",Rows.laid_strconv_ErrSyntax),("unicode/utf8.first",Rows.laid_unicode_utf8_first)]=true:=by
 unfold Program.listedFits;rw [noOwnUnsafe];kernel_rfl
theorem tie:Tryz.prog.laidByTextLater [("math/bits.deBruijn32tab",Rows.laid_math_bits_deBruijn32tab),("math/bits.deBruijn64tab",Rows.laid_math_bits_deBruijn64tab),("internal/strconv.uint64pow10",Rows.laid_internal_strconv_uint64pow10),("unicode/utf8.acceptRanges",Rows.laid_unicode_utf8_acceptRanges),("strconv.ErrRange",Rows.laid_strconv_ErrRange),("strconv.ErrSyntax",Rows.laid_strconv_ErrSyntax)] [.data,.data,.data,.data,.sentinel,.sentinel] true:=
 Program.laidByTextLater.sub seatTie1 ["math/bits.deBruijn32tab","math/bits.deBruijn64tab","internal/strconv.uint64pow10","unicode/utf8.acceptRanges","strconv.ErrRange","strconv.ErrSyntax"] (by kernel_rfl) (by kernel_rfl)
theorem operatorPredicates_row_tie:Rows.operatorPredicatesRow.laidByTextAt .later Tryz.pinned [.data,.data,.data,.data,.sentinel,.sentinel,.pinned] true:=
 OpenClaim.laidByTextAt_pinned rfl rfl tie rfl rfl rfl rfl (fun y hy _e=>by
  simp only [Rows.operatorPredicatesRow,List.zip_cons_cons,List.zip_nil_right,List.mem_cons,List.mem_nil_iff,or_false] at hy;rcases hy with rfl|rfl|rfl|rfl|rfl|rfl|rfl;·cases _e
  ·cases _e
  ·cases _e
  ·cases _e
  ·cases _e
  ·cases _e
  exact ⟨pin_laid_unicode_utf8_first,by kernel_rfl⟩) fits1
theorem operatorChecks_row_tie:Rows.operatorChecksRow.laidByTextAt .later Tryz.pinned [.data,.data,.data,.data,.sentinel,.sentinel,.pinned] true:=
 OpenClaim.laidByTextAt_pinned rfl rfl tie rfl rfl rfl rfl (fun y hy _e=>by
  simp only [Rows.operatorChecksRow,List.zip_cons_cons,List.zip_nil_right,List.mem_cons,List.mem_nil_iff,or_false] at hy;rcases hy with rfl|rfl|rfl|rfl|rfl|rfl|rfl;·cases _e
  ·cases _e
  ·cases _e
  ·cases _e
  ·cases _e
  ·cases _e
  exact ⟨pin_laid_unicode_utf8_first,by kernel_rfl⟩) fits1
theorem operatorWaits_row_tie:Rows.operatorWaitsRow.laidByTextAt .later Tryz.pinned [.data,.data,.data,.data,.sentinel,.sentinel,.pinned] true:=
 OpenClaim.laidByTextAt_pinned rfl rfl tie rfl rfl rfl rfl (fun y hy _e=>by
  simp only [Rows.operatorWaitsRow,List.zip_cons_cons,List.zip_nil_right,List.mem_cons,List.mem_nil_iff,or_false] at hy;rcases hy with rfl|rfl|rfl|rfl|rfl|rfl|rfl;·cases _e
  ·cases _e
  ·cases _e
  ·cases _e
  ·cases _e
  ·cases _e
  exact ⟨pin_laid_unicode_utf8_first,by kernel_rfl⟩) fits1
theorem operatorNodes_row_tie:Rows.operatorNodesRow.laidByTextAt .later Tryz.pinned [.data,.data,.data,.data,.sentinel,.sentinel,.pinned] true:=
 OpenClaim.laidByTextAt_pinned rfl rfl tie rfl rfl rfl rfl (fun y hy _e=>by
  simp only [Rows.operatorNodesRow,List.zip_cons_cons,List.zip_nil_right,List.mem_cons,List.mem_nil_iff,or_false] at hy;rcases hy with rfl|rfl|rfl|rfl|rfl|rfl|rfl;·cases _e
  ·cases _e
  ·cases _e
  ·cases _e
  ·cases _e
  ·cases _e
  exact ⟨pin_laid_unicode_utf8_first,by kernel_rfl⟩) fits1
theorem operatorEquals_row_tie:Rows.operatorEqualsRow.laidByTextAt .later Tryz.pinned [.data,.data,.data,.data,.sentinel,.sentinel,.pinned] true:=
 OpenClaim.laidByTextAt_pinned rfl rfl tie rfl rfl rfl rfl (fun y hy _e=>by
  simp only [Rows.operatorEqualsRow,List.zip_cons_cons,List.zip_nil_right,List.mem_cons,List.mem_nil_iff,or_false] at hy;rcases hy with rfl|rfl|rfl|rfl|rfl|rfl|rfl;·cases _e
  ·cases _e
  ·cases _e
  ·cases _e
  ·cases _e
  ·cases _e
  exact ⟨pin_laid_unicode_utf8_first,by kernel_rfl⟩) fits1
theorem operatorPredicatesUpto_row_tie:Rows.operatorPredicatesUptoRow.laidByTextAt .later Tryz.pinned [.data,.data,.data,.data,.sentinel,.sentinel,.pinned] true:=
 OpenClaim.laidByTextAt_pinned rfl rfl tie rfl rfl rfl rfl (fun y hy _e=>by
  simp only [Rows.operatorPredicatesUptoRow,List.zip_cons_cons,List.zip_nil_right,List.mem_cons,List.mem_nil_iff,or_false] at hy;rcases hy with rfl|rfl|rfl|rfl|rfl|rfl|rfl;·cases _e
  ·cases _e
  ·cases _e
  ·cases _e
  ·cases _e
  ·cases _e
  exact ⟨pin_laid_unicode_utf8_first,by kernel_rfl⟩) fits1
theorem operatorChecksUpto_row_tie:Rows.operatorChecksUptoRow.laidByTextAt .later Tryz.pinned [.data,.data,.data,.data,.sentinel,.sentinel,.pinned] true:=
 OpenClaim.laidByTextAt_pinned rfl rfl tie rfl rfl rfl rfl (fun y hy _e=>by
  simp only [Rows.operatorChecksUptoRow,List.zip_cons_cons,List.zip_nil_right,List.mem_cons,List.mem_nil_iff,or_false] at hy;rcases hy with rfl|rfl|rfl|rfl|rfl|rfl|rfl;·cases _e
  ·cases _e
  ·cases _e
  ·cases _e
  ·cases _e
  ·cases _e
  exact ⟨pin_laid_unicode_utf8_first,by kernel_rfl⟩) fits1
theorem operatorWaitsUpto_row_tie:Rows.operatorWaitsUptoRow.laidByTextAt .later Tryz.pinned [.data,.data,.data,.data,.sentinel,.sentinel,.pinned] true:=
 OpenClaim.laidByTextAt_pinned rfl rfl tie rfl rfl rfl rfl (fun y hy _e=>by
  simp only [Rows.operatorWaitsUptoRow,List.zip_cons_cons,List.zip_nil_right,List.mem_cons,List.mem_nil_iff,or_false] at hy;rcases hy with rfl|rfl|rfl|rfl|rfl|rfl|rfl;·cases _e
  ·cases _e
  ·cases _e
  ·cases _e
  ·cases _e
  ·cases _e
  exact ⟨pin_laid_unicode_utf8_first,by kernel_rfl⟩) fits1
theorem operatorNodesUpto_row_tie:Rows.operatorNodesUptoRow.laidByTextAt .later Tryz.pinned [.data,.data,.data,.data,.sentinel,.sentinel,.pinned] true:=
 OpenClaim.laidByTextAt_pinned rfl rfl tie rfl rfl rfl rfl (fun y hy _e=>by
  simp only [Rows.operatorNodesUptoRow,List.zip_cons_cons,List.zip_nil_right,List.mem_cons,List.mem_nil_iff,or_false] at hy;rcases hy with rfl|rfl|rfl|rfl|rfl|rfl|rfl;·cases _e
  ·cases _e
  ·cases _e
  ·cases _e
  ·cases _e
  ·cases _e
  exact ⟨pin_laid_unicode_utf8_first,by kernel_rfl⟩) fits1
theorem operatorEqualsUpto_row_tie:Rows.operatorEqualsUptoRow.laidByTextAt .later Tryz.pinned [.data,.data,.data,.data,.sentinel,.sentinel,.pinned] true:=
 OpenClaim.laidByTextAt_pinned rfl rfl tie rfl rfl rfl rfl (fun y hy _e=>by
  simp only [Rows.operatorEqualsUptoRow,List.zip_cons_cons,List.zip_nil_right,List.mem_cons,List.mem_nil_iff,or_false] at hy;rcases hy with rfl|rfl|rfl|rfl|rfl|rfl|rfl;·cases _e
  ·cases _e
  ·cases _e
  ·cases _e
  ·cases _e
  ·cases _e
  exact ⟨pin_laid_unicode_utf8_first,by kernel_rfl⟩) fits1
end Go.Proofs.YtonnphbfclaigaaGreatDoor
