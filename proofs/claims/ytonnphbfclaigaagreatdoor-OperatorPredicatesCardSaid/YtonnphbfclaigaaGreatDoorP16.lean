/-.-/
import Derived.Shelf.Strings.Repeat
import Derived.Shelf.Strconv.AtoiAll
import Derived.Shelf.Unicode.DecodeAny
import Derived.Shelf.Strings.Search2
import Derived.Lib.AppendIntMem
import Derived.Lib.SmallJoins
import Derived.Shelf.Strings.BuilderRune
import Derived.Shelf.Strings.BuilderK
import Derived.Lib.ItoaLen
import Derived.Shelf.Spec.SlicesInsertGrow
import Derived.Test.YtonnphbfclaigaaGreatDoorP15
set_option linter.all false
namespace Go.Proofs
open Go.Shelf
namespace YtonnphbfclaigaaGreatDoor
open Go.RowKit Go.Em
section
variable {P:Program} {R:CodeRel}
theorem fsem_rep {f:FuncId}{args:List X}{inb:List Bx}{y:X}(h:∀(cargs:Array Value) (w:World) (K:Kn) (C:List CB),Inv P R K C inb w->ArgsRep K C args cargs->Calls P f cargs w fun e w'=>∃u,e=.returned u/\(∀K C,Rep K C y u)/\Below w.heap.size w w'):FSem P R f args inb y inb:=by
 intro K C w cargs hI ha;refine (h cargs w K C hI ha).mono ?_
 rintro e w' ⟨u,rfl,hr,hB⟩
 have hf:=frame_of_below hB;exact ⟨u,K,[],rfl,owns_same (hI.still hf),hr _ _,KLe.refl _,fun b o v e=>.inl e,fun b o ho=>.inl (by grind),hf.mono (fun b o _ hs=>hs.elim),fun i B hB hl=>⟨B,hB,hl⟩⟩
theorem one_arg {K:Kn}{C:List CB}{u:Value}{cargs:Array Value}(ha:ArgsRep K C [.v u] cargs):cargs=#[u]:=by
 have hs:cargs.size=1:=ha.1;have r0:=rep_v (ha.2 0 _ cargs[0] rfl (qa7 (by omega)))
 grind
theorem two_args {K:Kn}{C:List CB}{u v:Value}{cargs:Array Value}(ha:ArgsRep K C [.v u,.v v] cargs):cargs=#[u,v]:=by
 have hs:cargs.size=2:=ha.1;have r0:=rep_v (ha.2 0 _ cargs[0] rfl (qa7 (by omega)));have r1:=rep_v (ha.2 1 _ cargs[1] rfl (qa7 (by omega)))
 grind
theorem rep_two {K:Kn}{C:List CB}{x y:X}{u v:Value}(h1:Rep K C x u)(h2:Rep K C y v):Rep K C (.tup [x,y]) (.tuple #[u,v]):=by
 refine .tup rfl fun j a b ha hb=>?_
 grind
end
theorem glob_cell {R:CodeRel}(hR:R.gl=gl){K:Kn}{C:List CB}{bx:List Bx}{w:World}(hI:Inv Tryz.prog R K C bx w){g:Nat}{cs:List X}(hg:gl g=some cs){j:Nat}{x:X}(hj:cs[j]?=some x):∃v,w.cell? ⟨g,j,none⟩=some v/\Rep K [] x v:=by
 have h:=hI.glob g cs (by simp_all);cases h with
 |dp vals hcell hk hr=>have e3:=hI.known _ _ _ (hk j _ hj)<;>grind
theorem pow_of {R:CodeRel}(hR:R.gl=gl){K:Kn}{C:List CB}{bx:List Bx}{w:World}(hI:Inv Tryz.prog R K C bx w):PowIs (Tryz.laysItoa_ren.g 17) w:=by
 rw [show Tryz.laysItoa_ren.g 17=3 by kernel_rfl];intro i hi;obtain ⟨v,h1,h2⟩:=glob_cell hR hI (g:=3) rfl (j:=i) (x:=.v (.int .u64 ((10^i:Nat):Int))) (by grind)
 grind[rep_v]
theorem itoa_sem {R:CodeRel}(hR:R.gl=gl)(z:Int)(h0:-9223372036854775808<=z)(h1:z<=9223372036854775807)(inb:List Bx):FSem Tryz.prog R 123 [.v (.int .i64 z)] inb (.v (.string ⟨(Lib.itoa z).toArray⟩)) inb:=by
 refine fsem_rep fun cargs w K C hI ha=>?_;rw [one_arg ha];refine (AnyC.strconv_Itoa Tryz.laysItoa z h0 h1 w (pow_of hR hI)).mono ?_
 rintro e w' ⟨rfl,k,os,rfl⟩
 exact ⟨_,rfl,fun _ _=>.v rfl,Lib.below_grow _ _ (Nat.le_refl _) _ _⟩
theorem repeat_extra:Builder.Extra Tryz.prog Tryz.laysRep_ren:={
 sizeBuilder:=by kernel_rfl
 liesBuilder:=by kernel_rfl
 t5:=Tryz.laysRep.t5
 a5:=Tryz.laysRep.a5
 z5:=Tryz.laysRep.z5
 v5:=Tryz.laysRep.v5
 infoByte:=by kernel_rfl
 cellsByte:=by kernel_rfl
 sizeByte:=by kernel_rfl
 neB5:=by decide}
theorem repeat_sem {R:CodeRel}(s:qbJ)(c:Int)(h0:0<=c)(h1:c<=1000000)(h2:s.size<=1000000)(inb:List Bx):FSem Tryz.prog R 536 [.v (.string s),.v (.int .i64 c)] inb (.v (.string ⟨(Lib.repeatL s.data.toList c.toNat).toArray⟩)) inb:=by
 refine fsem_rep fun cargs w K C hI ha=>?_;rw [two_args ha];obtain ⟨n,rfl⟩:∃n:Nat,c=n:=⟨c.toNat,by omega⟩;have hn:n<=1000000:=by omega
 have hm:=Nat.mul_le_mul h2 hn;refine (Any.strings_Repeat Tryz.laysRep repeat_extra s n w (by omega) (by omega)).mono ?_
 rintro e w' ⟨rfl,hB⟩
 exact ⟨_,rfl,fun _ _=>.v rfl,hB⟩
theorem tabsD_of {R:CodeRel}(hR:R.gl=gl){K:Kn}{C:List CB}{bx:List Bx}{w:World}(hI:Inv Tryz.prog R K C bx w):Lib.Utf8Tabs (Tryz.laysDec_ren.g 3) (Tryz.laysDec_ren.g 4) w:=by
 have cell:∀(g:Nat) (cs:List X),gl g=some cs->∀(j:Nat) (v:Value),cs[j]?=some (.v v)->w.cell? ⟨g,j,none⟩=some v:=fun g cs hg j v hj=>by grind[glob_cell,rep_v]
 rw [show Tryz.laysDec_ren.g 3=1 by kernel_rfl,show Tryz.laysDec_ren.g 4=2 by kernel_rfl];constructor
 ·intro c hc;have hall:((List.range 256).all fun c=>match (bytesX Go.Pinned.utf8FirstZ)[c]? with
   |some (.v (.int .u8 z))=>z==Lib.firstT c
   |_=>false)=true:=by kernel_rfl
  have h1:=qbo.1 hall c (List.mem_range.2 hc);split at h1;next z hz=>rw [cell 1 _ rfl c _ hz,eq_of_beq h1]
  grind
 intro i hi;have hall:((List.range 16).all fun i=>(match (bytesX ([128,191,160,191,128,159,144,191,128,143]++List.replicate 22 0))[2*i]? with
  |some (.v (.int .u8 z))=>z==Lib.accLo i
  |_=>false)&&(match (bytesX ([128,191,160,191,128,159,144,191,128,143]++List.replicate 22 0))[2*i+1]? with
  |some (.v (.int .u8 z))=>z==Lib.accHi i
  |_=>false))=true:=by kernel_rfl
 have h1:=qbo.1 hall i (List.mem_range.2 hi);rw [qa4] at h1;obtain ⟨h1,h2⟩:=h1;constructor
 ·split at h1;next z hz=>rw [cell 2 _ rfl (2*i) _ hz,eq_of_beq h1]
  grind
 split at h2;next z hz=>rw [cell 2 _ rfl (2*i+1) _ hz,eq_of_beq h2]
 grind
theorem decode_sem {R:CodeRel}(hR:R.gl=gl)(s:qbJ)(inb:List Bx):FSem Tryz.prog R 533 [.v (.string s)] inb (.tup [.v (.int .i32 (decGo s).1),.v (.int .i64 (decGo s).2)]) inb:=by
 refine fsem_rep fun cargs w K C hI ha=>?_;rw [one_arg ha];refine (Any.utf8_DecodeRuneInString Tryz.laysDec s w (tabsD_of hR hI)).mono ?_
 rintro e w' ⟨rfl,hB⟩
 exact ⟨_,rfl,fun _ _=>rep_two (.v rfl) (.v rfl),hB⟩
theorem err_cell {R:CodeRel}(hR:R.gl=gl){K:Kn}{C:List CB}{bx:List Bx}{w:World}(hI:Inv Tryz.prog R K C bx w){g:Nat}(hg:gl g=some [.ifc]):∃v,w.cell? ⟨g,0,none⟩=some v/\(v=.nilIface\/∃te pe,v=.iface te pe):=by obtain ⟨v,h1,h2⟩:=glob_cell hR hI hg (j:=0) (x:=.ifc) rfl;cases h2<;>simp_all
def atoiRes (s:qbJ):X:=match Lib.atoiAll s.data.toList with
 |.ok v=>.tup [.v (.int .i64 v),.v .nilIface]
 |.range=>.tup [.v (.int .i64 (Lib.atoiSat s.data.toList)),.ifc]
 |_=>.tup [.v (.int .i64 0),.ifc]
theorem atoi_sem {R:CodeRel}(hR:R.gl=gl)(s:qbJ)(hs:s.size<=281474976710656)(inb:List Bx):FSem Tryz.prog R 392 [.v (.string s)] inb (atoiRes s) inb:=by
 refine fsem_rep fun cargs w K C hI ha=>?_;rw [one_arg ha];unfold atoiRes;cases h:Lib.atoiAll s.data.toList with
 |ok v=>
  refine (Any.strconv_Atoi_ok Tryz.laysAtoi s (by omega) v h w).mono ?_
  rintro e w' ⟨rfl,hB⟩
  refine ⟨_,rfl,fun _ _=>rep_two (.v rfl) (.v rfl),?_⟩;rcases hB with rfl|⟨t,rfl⟩<;>simp_all[Below.refl,Go.Joins.below_bytesWorld]
 |range=>
  obtain ⟨v,h1,h2⟩:=err_cell hR hI (g:=7) rfl;refine (Any.strconv_Atoi_range Tryz.laysAtoi s hs h v w (by rw [show Tryz.laysAtoi_ren.g 16=7 by kernel_rfl]<;>grind) h2).mono ?_
  rintro e w' ⟨N,rfl,_,_,hB⟩
  exact ⟨_,rfl,fun _ _=>rep_two (.v rfl) .ifc,hB⟩
 |_=>
  obtain ⟨v,h1,h2⟩:=err_cell hR hI (g:=6) rfl;refine (Any.strconv_Atoi_syntax Tryz.laysAtoi s hs h v w (by rw [show Tryz.laysAtoi_ren.g 15=6 by kernel_rfl]<;>grind) h2).mono ?_
  rintro e w' ⟨N,rfl,_,_,hB⟩
  exact ⟨_,rfl,fun _ _=>rep_two (.v rfl) .ifc,hB⟩
theorem index1_sem {R:CodeRel}(s c:qbJ)(b:UInt8)(hc:c.data.toList=[b])(inb:List Bx):FSem Tryz.prog R 517 [.v (.string s),.v (.string c)] inb (.v (.int .i64 (Lib.indexByte s.data.toList b))) inb:=by
 refine fsem_rep fun cargs w K C hI ha=>?_;rw [two_args ha];have hc':c=⟨#[b]⟩:=by
  obtain ⟨d⟩:=c
  congr
  apply Array.toList_inj.1;exact hc
 rw [hc'];refine (Any.stringslite_Index_one Tryz.laysIdx s b w).mono ?_
 rintro e w' ⟨rfl,hw⟩
 exact ⟨_,rfl,fun _ _=>.v rfl,hw▸Below.refl _ _⟩
theorem anyFrom_eq (s:qbJ):∀(f pos:Nat),anyFrom s marks f pos=Mk.seek s f pos
 |0,_=>rfl
 |f+1,pos=>by unfold anyFrom Mk.seek;rw [anyFrom_eq s f];rfl
theorem marks_sem {R:CodeRel}(s:qbJ)(hs:s.size<4294967281)(inb:List Bx):FSem Tryz.prog R 389 [.v (.string s),.v (.string marks)] inb (.v (.int .i64 (if s.size<=8 then anyFrom s marks s.size 0 else Lib.indexAny s.data.toList marks.data.toList))) inb:=by
 refine fsem_rep fun cargs w K C hI ha=>?_;rw [two_args ha];by_cases h8:s.size<=8
 ·rw [if_pos h8,anyFrom_eq];refine (Mk.indexAny_short {Tryz.laysAny with} s w h8).mono ?_
  rintro e w' ⟨rfl,hB⟩
  exact ⟨_,rfl,fun _ _=>.v rfl,hB⟩
 rw [if_neg h8];have hz:(Tryz.prog.info? (Tryz.laysAny_ren.t 116)).map (fun i=>(i.zero,i.size))=some (some (.agg (Array.replicate 256 (.bool false))),256):=by kernel_rfl
 refine (Any.strings_IndexAny_long Tryz.laysAny (zero_of_info hz).1 (zero_of_info hz).2 s marks w (by decide) (by omega) hs (by decide) (fun j b hb=>?_)).mono ?_
 ·have h3:∀b∈[46,91,63],(b:UInt8).toNat<128:=by decide
  exact h3 b (qa5 hb)
 rintro e w' ⟨rfl,hw⟩
 refine ⟨_,rfl,fun _ _=>.v rfl,?_⟩;rw [hw];exact ((Below.refl _ _).alloc (Nat.le_refl _) _).alloc (by simp) _
theorem ints_length:∀{es:qbI} {zs:List Int},intsOf es=some zs->es.length=zs.length/\∀j,j<zs.length->es[j]?=some [.v (.int .i64 (zs.getD j 0))]
 |[],zs,h=>by simp_all[intsOf]
 |e::r,zs,h=>by
  unfold intsOf at h;split at h
  ·grind
  ·rename_i z r' heq;obtain ⟨rfl,rfl⟩:=List.cons.inj heq;split at h;next l hl=>simp at h;subst h;obtain ⟨h1,h2⟩:=ints_length hl<;>grind
   grind
  grind
end YtonnphbfclaigaaGreatDoor
end Go.Proofs
namespace Go.Proofs
open Go.Shelf
namespace YtonnphbfclaigaaGreatDoor
open Go.RowKit Go.Em
theorem wr_extra:Builder.Extra Tryz.prog Tryz.laysWR_ren:={
 sizeBuilder:=by kernel_rfl
 liesBuilder:=by kernel_rfl
 t5:=Tryz.laysWR.t5
 a5:=Tryz.laysWR.a5
 z5:=Tryz.laysWR.z5
 v5:=Tryz.laysWR.v5
 infoByte:=by kernel_rfl
 cellsByte:=by kernel_rfl
 sizeByte:=by kernel_rfl
 neB5:=by decide}
theorem bs_extra:Builder.Extra Tryz.prog Tryz.laysBS_ren:={
 sizeBuilder:=by kernel_rfl
 liesBuilder:=by kernel_rfl
 t5:=Tryz.laysWR.t5
 a5:=Tryz.laysWR.a5
 z5:=Tryz.laysWR.z5
 v5:=Tryz.laysWR.v5
 infoByte:=by kernel_rfl
 cellsByte:=by kernel_rfl
 sizeByte:=by kernel_rfl
 neB5:=by decide}
set_option maxHeartbeats 1000000 in
set_option maxRecDepth 100000 in
theorem isPoint_calls (z:Int)(w:World):Calls Tryz.prog 486 #[.int .i64 z] w fun e w'=>e=.returned (.bool (pointOk z))/\w'=w:=by
 have e:pointOk z=(decide (0<=z)&&decide (z<=1114111)&&(decide (z<55296)||decide (57343<z))):=by unfold pointOk;rw [Bool.eq_iff_iff];simp;omega
 rw [e]
 go_enter Tryz.func486,Tryz.ntmps486
 go_wp2
 all_goals (go_ret;refine ⟨?_,rfl⟩;simp_all<;>omega)
theorem flat_len (zs:List Int):(zs.flatMap Lib.encodeRune).length<=4*zs.length:=by
 induction zs with
 |nil=>grind
 |cons z r ih=>grind[Lib.encodeRuneZ_length,Lib.encodeRune]
theorem byteCells_append (a b:List UInt8):Lib.byteCells (a++b)=Lib.byteCells a++Lib.byteCells b:=by simp [Lib.byteCells]
def ptRes (zs:List Int):Value:=if zs.all pointOk then .tuple #[.string ⟨(zs.flatMap Lib.encodeRune).toArray⟩,.int .i64 0] else .tuple #[.string ⟨#[]⟩,.int .i64 2]
set_option maxHeartbeats 4000000 in
set_option maxRecDepth 100000 in
theorem points_calls (zs:List Int)(hz:zs.length<=1000000)(v:Value)(w:World)(hv:(∃ob,v=.slice ob 0 0/\zs=[])\/∃b o cap,v=.slice (some ⟨b,o,none⟩) zs.length cap/\∀j,j<zs.length->w.cell? ⟨b,o+j,none⟩=some (.int .i64 (zs.getD j 0))):
  Calls Tryz.prog 430 #[v] w fun e w'=>e=.returned (ptRes zs)/\Below w.heap.size w w':=by
 have hstr:∀(l:List UInt8) (wx:World),Lib.IsBuilderF 168 5 w.heap.size w.heap.size (Lib.byteCells l) wx->w.heap.size<=wx.heap.size->Calls Tryz.prog 125 #[.pointer (some ⟨w.heap.size,0,none⟩)] wx fun e w'=>e=.returned (.string ⟨l.toArray⟩)/\Below w.heap.size wx w':=fun l wx h hs=>by refine (Any.Builder_String_any_k Tryz.laysBS bs_extra w.heap.size w.heap.size l wx h hs).mono ?_<;>grind
 have hb0:=Lib.IsBuilderF.of (Lib.fresh_isBuilder 168 5 w);have hB0:Below w.heap.size w (w.alloc (Obj.cells #[Value.pointer none,Value.slice none 0 0] 168)):=(Below.refl _ _).alloc (Nat.le_refl _) _;rcases hv with ⟨ob,rfl,rfl⟩|⟨b,o,cap,rfl,hc⟩
 ·go_enter Tryz.func430,Tryz.ntmps430
  go_wp2
  go_loopg [6,9] 0 (fun g _ s9 wx=>s9=.int .i64 0/\Lib.IsBuilderF 168 5 w.heap.size w.heap.size (Lib.byteCells []) wx/\Below w.heap.size w wx)
  case atStart=>exact ⟨rfl,hb0,hB0⟩
  case round=>
   obtain ⟨rfl,hb,hB⟩:=hrel;have hl:=hstr [] _ hb hB.size;have HL:=Lib.hid hl;clear hl hstr
   go_wp2_with (go_at_call 125;refine HL.out.mono ?_;rintro e w2 ⟨rfl,hB2⟩)
   go_ret2
   exact ⟨rfl,hB.trans hB2⟩
 have hcells:∀wx,Below w.heap.size w wx->∀j,j<zs.length->wx.cell? ⟨b,o+j,none⟩=some (.int .i64 (zs.getD j 0)):=fun wx hB j hj=>by
  have h1:=hc j hj;have hlt:b<w.heap.size:=by
   rcases Nat.lt_or_ge b w.heap.size with h'|h'
   ·grind
   ·grind[World.cell?]
  unfold World.cell? at h1 ⊢;rw [hB.block b hlt]<;>grind
 clear hc
 go_enter Tryz.func430,Tryz.ntmps430
 go_wp2
 go_loopg [6,9] zs.length (fun g _ s9 wx=>∃i:Nat,i+g=zs.length/\s9=.int .i64 i/\Lib.IsBuilderF 168 5 w.heap.size w.heap.size (Lib.byteCells ((zs.take i).flatMap Lib.encodeRune)) wx/\Below w.heap.size w wx/\Aside ((zs.take i).all pointOk=true))
 case atStart=>exact ⟨0,by omega,rfl,hb0,hB0,rfl⟩
 case round=>
  obtain ⟨i,hig,rfl,hb,hB,A⟩:=hrel;cases gk with
  |zero=>
   obtain rfl:i=zs.length:=by omega
   have hiz:¬((zs.length:Int)<(zs.length:Int)):=by omega
   have hl:=hstr ((zs.take zs.length).flatMap Lib.encodeRune) _ hb hB.size;have HL:=Lib.hid hl;clear hcells hl hstr
   go_wp2_with (go_at_call 125;refine HL.out.mono ?_;rintro e w2 ⟨rfl,hB2⟩)
   go_ret2
   have hA:=A.out;rw [List.take_length] at hA;refine ⟨?_,hB.trans hB2⟩;have hr:ptRes zs=.tuple #[.string ⟨(zs.flatMap Lib.encodeRune).toArray⟩,.int .i64 0]:=by unfold ptRes;rw [hA];rfl
   rw [hr];rfl
  |succ g=>
   have hi:i<zs.length:=by omega
   have hiz:(i:Int)<(zs.length:Int):=by omega
   have hcell:=hcells wr hB i hi;clear hcells;have hstep:zs.take (i+1)=zs.take i++[zs.getD i 0]:=by rw [List.take_add_one,qa3 hi,qby,qa3 hi];rfl
   have hmem:zs.getD i 0∈zs:=by rw [qby,qa3 hi];exact qbk hi
   have H1:Aside (zs.take (i+1)=zs.take i++[zs.getD i 0]):=hstep;have H2:Aside (zs.getD i 0∈zs):=hmem;clear hstep hmem;obtain ⟨z,hz'⟩:∃z,zs.getD i 0=z:=⟨_,rfl⟩;rw [hz'] at hcell;have H3:Aside (zs.getD i 0=z):=hz';clear hz';cases hp:pointOk z with
   |false=>
    go_wp2_with (go_at_call 486;refine (isPoint_calls z _).mono ?_;rintro e w' ⟨rfl,hw⟩;rw [hw,hp])
    go_ret2
    have hall:zs.all pointOk=false:=by rw [List.all_eq_false];exact ⟨z,by rw [<-H3.out]<;>grind,by grind⟩
    have hr:ptRes zs=.tuple #[.string ⟨#[]⟩,.int .i64 2]:=by unfold ptRes;rw [hall];rfl
    exact ⟨by rw [hr];rfl,hB⟩
   |true=>
    have hp':=of_decide_eq_true hp;have hwr:IntKind.i32.wrap z=z:=by unfold IntKind.wrap;simp [IntKind.bits,IntKind.signed];omega
    have hlen:(Lib.byteCells ((zs.take i).flatMap Lib.encodeRune)).length+4<=140737488355328:=by have:=flat_len (zs.take i);rw [qaN] at this;simp only [Lib.byteCells,qa9];omega
    have hw:=Any.Builder_WriteRune_k Tryz.laysWR wr_extra w.heap.size w.heap.size _ z (by omega) (by omega) wr hb hlen hB.size;have HW:=Lib.hid hw;clear hlen hw hstr
    go_wp2_with (first
     |(go_at_call 486;refine (isPoint_calls z _).mono ?_;rintro e w' ⟨rfl,hw⟩;rw [hw,hp])
     |(go_at_call 487;refine HW.out.mono ?_;rintro e w2 ⟨rfl,hb2,hB2,_⟩))
    go_roundg g
    case measure=>omega
    case rel=>
     refine ⟨i+1,by omega,rfl,.inr ?_,hB.trans hB2,?_⟩
     ·rw [H1.out,List.flatMap_append,byteCells_append,H3.out];have:Lib.byteCells ([z].flatMap Lib.encodeRune)=Lib.runeCells z:=by rw [List.flatMap_cons,List.flatMap_nil,List.append_nil,Lib.byteCells_encodeRune]
      rw [this];exact hb2
     show _=_;rw [H1.out,List.all_append,A.out,H3.out]<;>grind
theorem points_sem {R:CodeRel}(t:Bool)(es:qbI)(zs:List Int)(h:intsOf es=some zs)(hz:zs.length<=1000000)(inb:List Bx):
  FSem Tryz.prog R 430 [.sl t 1 es] inb (if zs.all pointOk then .tup [.v (.string ⟨(zs.flatMap Lib.encodeRune).toArray⟩),.v (.int .i64 0)] else .tup [.v (.string ⟨#[]⟩),.v (.int .i64 2)]) inb:=by
 refine fsem_rep fun cargs w K C hI ha=>?_;obtain ⟨h1,h2⟩:=ints_length h;have hs:cargs.size=1:=ha.1;have r0:=ha.2 0 _ cargs[0] rfl (qa7 (by omega));have hca:cargs=#[cargs[0]]:=by
  refine Array.ext (by grind) fun i h1 h2=>?_
  match i,h1,h2 with
  |0,_,_=>rfl
  |i+1,h1,_=>omega
 rw [hca];generalize cargs[0]=v at r0;have hv:(∃ob,v=.slice ob 0 0/\zs=[])\/∃b o cap,v=.slice (some ⟨b,o,none⟩) zs.length cap/\∀j,j<zs.length->w.cell? ⟨b,o+j,none⟩=some (.int .i64 (zs.getD j 0)):=by
  generalize hx:X.sl t 1 es=x at r0;cases r0<;>try cases hx
  case slNil ob=>grind
  case sl b o cap vals hcap hcell hr htight hlen hk=>
   refine .inr ⟨b,o,cap,by rw [h1],fun j hj=>?_⟩;have e1:=h2 j hj;have e2:at2 es j 0=some (.v (.int .i64 (zs.getD j 0))):=by simp [at2,e1]
   have e3:=hI.known _ _ _ (hk j 0 _ e2)<;>grind[rep_v]
 refine (points_calls zs hz v w hv).mono ?_
 rintro e w' ⟨rfl,hB⟩
 refine ⟨_,rfl,fun _ _=>?_,hB⟩;unfold ptRes;split;·exact rep_two (.v rfl) (.v rfl)
 exact rep_two (.v rfl) (.v rfl)
end YtonnphbfclaigaaGreatDoor
end Go.Proofs
namespace Go.Proofs
open Go.Shelf
def Tryz.laysWS_ren:Go.Shelf.Ren:=⟨fun|166=>122|240=>172|276=>240|n=>n,fun|70=>165|9=>9|3=>3|75=>170|0=>0|72=>168|37=>166|4=>4|164=>296|80=>175|5=>5|n=>n,fun|n=>n⟩
theorem Tryz.laysWS:Go.Proofs.Lays.n166 Tryz.prog Tryz.laysWS_ren:={
 mixed:=by kernel_rfl
 f166:=Tryz.func122.trans (congrArg some (by kernel_rfl))
 f240:=Tryz.func172.trans (congrArg some (by kernel_rfl))
 f276:=Tryz.func240.trans (congrArg some (by kernel_rfl))
 t0:=Tryz.underlying0
 a0:=Tryz.isAgg0
 z0:=Tryz.sizeOf0
 v0:=Tryz.zeroValue0
 t3:=Tryz.underlying3
 a3:=Tryz.isAgg3
 z3:=Tryz.sizeOf3
 v3:=Tryz.zeroValue3
 t4:=Tryz.underlying4
 a4:=Tryz.isAgg4
 z4:=Tryz.sizeOf4
 v4:=Tryz.zeroValue4
 t9:=Tryz.underlying9
 a9:=Tryz.isAgg9
 z9:=Tryz.sizeOf9
 v9:=Tryz.zeroValue9
 t20:=Tryz.underlying20
 a20:=Tryz.isAgg20
 z20:=Tryz.sizeOf20
 v20:=Tryz.zeroValue20
 t37:=Tryz.underlying166
 a37:=Tryz.isAgg166
 z37:=Tryz.sizeOf166
 v37:=Tryz.zeroValue166
 t70:=Tryz.underlying165
 a70:=Tryz.isAgg165
 z70:=Tryz.sizeOf165
 v70:=Tryz.zeroValue165
 t72:=Tryz.underlying168
 a72:=Tryz.isAgg168
 z72:=Tryz.sizeOf168
 v72:=Tryz.zeroValue168
 t75:=Tryz.underlying170
 a75:=Tryz.isAgg170
 z75:=Tryz.sizeOf170
 v75:=Tryz.zeroValue170
 t164:=Tryz.underlying296
 a164:=Tryz.isAgg296
 z164:=Tryz.sizeOf296
 v164:=Tryz.zeroValue296}
def Tryz.laysWB_ren:Go.Shelf.Ren:=⟨fun|167=>124|240=>172|276=>240|n=>n,fun|70=>165|5=>5|75=>170|0=>0|72=>168|37=>166|4=>4|164=>296|80=>175|9=>9|n=>n,fun|n=>n⟩
theorem Tryz.laysWB:Go.Proofs.Lays.n167 Tryz.prog Tryz.laysWB_ren:={
 mixed:=by kernel_rfl
 f167:=Tryz.func124.trans (congrArg some (by kernel_rfl))
 f240:=Tryz.func172.trans (congrArg some (by kernel_rfl))
 f276:=Tryz.func240.trans (congrArg some (by kernel_rfl))
 t0:=Tryz.underlying0
 a0:=Tryz.isAgg0
 z0:=Tryz.sizeOf0
 v0:=Tryz.zeroValue0
 t4:=Tryz.underlying4
 a4:=Tryz.isAgg4
 z4:=Tryz.sizeOf4
 v4:=Tryz.zeroValue4
 t5:=Tryz.underlying5
 a5:=Tryz.isAgg5
 z5:=Tryz.sizeOf5
 v5:=Tryz.zeroValue5
 t9:=Tryz.underlying9
 a9:=Tryz.isAgg9
 z9:=Tryz.sizeOf9
 v9:=Tryz.zeroValue9
 t20:=Tryz.underlying20
 a20:=Tryz.isAgg20
 z20:=Tryz.sizeOf20
 v20:=Tryz.zeroValue20
 t37:=Tryz.underlying166
 a37:=Tryz.isAgg166
 z37:=Tryz.sizeOf166
 v37:=Tryz.zeroValue166
 t70:=Tryz.underlying165
 a70:=Tryz.isAgg165
 z70:=Tryz.sizeOf165
 v70:=Tryz.zeroValue165
 t72:=Tryz.underlying168
 a72:=Tryz.isAgg168
 z72:=Tryz.sizeOf168
 v72:=Tryz.zeroValue168
 t75:=Tryz.underlying170
 a75:=Tryz.isAgg170
 z75:=Tryz.sizeOf170
 v75:=Tryz.zeroValue170
 t164:=Tryz.underlying296
 a164:=Tryz.isAgg296
 z164:=Tryz.sizeOf296
 v164:=Tryz.zeroValue296}
namespace YtonnphbfclaigaaGreatDoor
open Go.RowKit Go.Em
theorem ws_extra:Builder.Extra Tryz.prog Tryz.laysWS_ren:={
 sizeBuilder:=by kernel_rfl
 liesBuilder:=by kernel_rfl
 t5:=Tryz.laysWR.t5
 a5:=Tryz.laysWR.a5
 z5:=Tryz.laysWR.z5
 v5:=Tryz.laysWR.v5
 infoByte:=by kernel_rfl
 cellsByte:=by kernel_rfl
 sizeByte:=by kernel_rfl
 neB5:=by decide}
theorem wb_extra:Builder.Extra Tryz.prog Tryz.laysWB_ren:={
 sizeBuilder:=by kernel_rfl
 liesBuilder:=by kernel_rfl
 t5:=Tryz.laysWR.t5
 a5:=Tryz.laysWR.a5
 z5:=Tryz.laysWR.z5
 v5:=Tryz.laysWR.v5
 infoByte:=by kernel_rfl
 cellsByte:=by kernel_rfl
 sizeByte:=by kernel_rfl
 neB5:=by decide}
theorem byteCells_len (l:List UInt8):(Lib.byteCells l).length=l.length:=by simp [Lib.byteCells]
theorem byteCells_app (a b:List UInt8):Lib.byteCells (a++b)=Lib.byteCells a++Lib.byteCells b:=by simp [Lib.byteCells]
section
variable (B:Nat)
theorem k_str (l:List UInt8)(wx:World)(h:Lib.IsBuilderF 168 5 B B (Lib.byteCells l) wx)(hs:B<=wx.heap.size):
  Calls Tryz.prog 125 #[.pointer (some ⟨B,0,none⟩)] wx fun e w'=>e=.returned (.string ⟨l.toArray⟩)/\Below B wx w':=by
 refine (Any.Builder_String_any_k Tryz.laysBS bs_extra B B l wx h hs).mono ?_
 rintro e w' ⟨rfl,_,hB,_⟩
 exact ⟨rfl,hB⟩
theorem k_ws (l s:List UInt8)(wx:World)(h:Lib.IsBuilderF 168 5 B B (Lib.byteCells l) wx)(hs:B<=wx.heap.size)(hl:l.length<=1000000)(hl2:s.length<=1000):
  Calls Tryz.prog 122 #[.pointer (some ⟨B,0,none⟩),.string ⟨s.toArray⟩] wx fun e w'=>e=.returned (.tuple #[.int .i64 (ByteArray.mk s.toArray).size,.nilIface])/\Lib.IsBuilderF 168 5 B B (Lib.byteCells (l++s)) w'/\B<=w'.heap.size/\Below B wx w':=by
 have hsz:(ByteArray.mk s.toArray).size=s.length:=by simp [ByteArray.size]
 refine (Any.Builder_WriteString_k Tryz.laysWS ws_extra B B (Lib.byteCells l) ⟨s.toArray⟩ wx h (by rw [byteCells_len,hsz];omega) hs).mono ?_
 rintro e w' ⟨rfl,hb,hB,_⟩
 refine ⟨rfl,.inr ?_,Nat.le_trans hs hB.size,hB⟩;rw [byteCells_app];exact hb
theorem k_wb (l:List UInt8)(wx:World)(h:Lib.IsBuilderF 168 5 B B (Lib.byteCells l) wx)(hs:B<=wx.heap.size)(hl:l.length<=1000000):
  Calls Tryz.prog 124 #[.pointer (some ⟨B,0,none⟩),.int .u8 44] wx fun e w'=>e=.returned .nilIface/\Lib.IsBuilderF 168 5 B B (Lib.byteCells (l++[44])) w'/\B<=w'.heap.size/\Below B wx w':=by
 refine (Any.Builder_WriteByte_k Tryz.laysWB wb_extra B B (Lib.byteCells l) 44 wx h (by rw [byteCells_len];omega) hs).mono ?_
 rintro e w' ⟨rfl,hb,hB,_⟩
 refine ⟨rfl,.inr ?_,Nat.le_trans hs hB.size,hB⟩;rw [byteCells_app];exact hb
end
theorem BuilderAtF_below {T e:TypeId}{B b:Nat}{p:Value}{bs:List Value}{W W':World}(h:Lib.BuilderAtF T e B b p bs W)(hb:Below W.heap.size W W'):Lib.BuilderAtF T e B b p bs W':=by have hlt:=h.lt;obtain ⟨hB,v,hv,hown,hne⟩:=h;exact ⟨hB,v,(hb.block b hlt).trans hv,hown.kept (row:=none) ⟨hb.os,hb.tape,hb.output,hb.size,fun k hk _=>hb.block k hk⟩ (Classical.em _),hne⟩
theorem IsBuilderF_below {T e:TypeId}{B b:Nat}{bs:List Value}{W W':World}(h:Lib.IsBuilderF T e B b bs W)(hb:Below W.heap.size W W'):Lib.IsBuilderF T e B b bs W':=
 h.elim (fun x=>.inl (BuilderAtF_below x hb)) (fun x=>.inr (BuilderAtF_below x hb))
theorem i64_of {z:Int}(h:i64b z=true):I64 z:=by simpa [i64b,I64] using h
theorem itoa_len (z:Int)(h:I64 z):(Lib.itoa z).length<=21:=by
 unfold I64 at h;unfold Lib.itoa;split;·have:=Lib.nDigits_le20 z.natAbs (by omega);rw [qbr,Lib.decDigits_length];omega
 have:=Lib.nDigits_le20 z.toNat (by omega);rw [Lib.decDigits_length];omega
theorem keyZ_snoc (e:Int)(a:List Int)(n:Int):keyZ e (a++[n])=keyZ e a++44::Lib.itoa n:=by simp [keyZ]
theorem keyZ_len (e:Int)(he:I64 e)(a:List Int)(ha:∀n,n∈a->I64 n):(keyZ e a).length<=21+22*a.length:=by
 induction a with
 |nil=>have:=itoa_len e he;simp [keyZ];exact this
 |cons n r ih=>have h1:=ih fun m hm=>ha m (qbG _ hm);have h2:=itoa_len n (ha n qbE);simp only [keyZ,List.flatMap_cons,qaZ,qbr] at h1 ⊢;omega
theorem itoaA_calls (z:Int)(h:I64 z)(w:World)(hp:PowIs 3 w):Calls Tryz.prog 123 #[.int .i64 z] w fun e w'=>e=.returned (.string ⟨(Lib.itoa z).toArray⟩)/\Below w.heap.size w w':=by
 refine (AnyC.strconv_Itoa Tryz.laysItoa z h.1 h.2 w (by rw [show Tryz.laysItoa_ren.g 17=3 by kernel_rfl];exact hp)).mono ?_
 rintro e w' ⟨rfl,k,os,rfl⟩
 exact ⟨rfl,Lib.below_grow _ _ (Nat.le_refl _) _ _⟩
theorem pow_below {w w':World}(hp:PowIs 3 w)(h:Below w.heap.size w w'):PowIs 3 w':=fun i hi=>by
 have h1:=hp i hi;have hlt:3<w.heap.size:=by
  rcases Nat.lt_or_ge 3 w.heap.size with h'|h';·exact h'
  exfalso;unfold World.cell? at h1;rw [Array.getElem?_eq_none (by exact h')] at h1;simp at h1
 rw [h.cell hlt];exact h1
set_option maxHeartbeats 4000000 in
set_option maxRecDepth 100000 in
theorem keyA_calls (e:Int)(he:I64 e)(zs:List Int)(hz0:∀n,n∈zs->I64 n)(hz:zs.length<=1000)(v:Value)(w:World)(hp:PowIs 3 w)(hv:(∃ob,v=.slice ob 0 0/\zs=[])\/∃b o cap,v=.slice (some ⟨b,o,none⟩) zs.length cap/\∀j,j<zs.length->w.cell? ⟨b,o+j,none⟩=some (.int .i64 (zs.getD j 0))):
  Calls Tryz.prog 83 #[.agg #[.int .i64 e,v]] w fun e' w'=>e'=.returned (.string ⟨(keyZ e zs).toArray⟩)/\Below w.heap.size w w':=by
 have hb0:Lib.IsBuilderF 168 5 (w.heap.size+1) (w.heap.size+1) (Lib.byteCells []) ((w.alloc (Obj.cells #[Value.int IntKind.i64 e,v] 27)).alloc (Obj.cells #[Value.pointer none,Value.slice none 0 0] 168)):=by have h:=Lib.IsBuilderF.of (Lib.fresh_isBuilder 168 5 (w.alloc (Obj.cells #[Value.int IntKind.i64 e,v] 27)));have e1:(w.alloc (Obj.cells #[Value.int IntKind.i64 e,v] 27)).heap.size=w.heap.size+1:=Array.size_push ..;rw [e1] at h;exact h
 have hs0:w.heap.size+1<=((w.alloc (Obj.cells #[Value.int IntKind.i64 e,v] 27)).alloc (Obj.cells #[Value.pointer none,Value.slice none 0 0] 168)).heap.size:=by show _<=(Array.push (Array.push w.heap _) _).size;rw [Array.size_push,Array.size_push];omega
 have hB0:Below w.heap.size w ((w.alloc (Obj.cells #[Value.int IntKind.i64 e,v] 27)).alloc (Obj.cells #[Value.pointer none,Value.slice none 0 0] 168)):=((Below.refl _ _).alloc (Nat.le_refl _) _).alloc (by show _<=(Array.push w.heap _).size;rw [Array.size_push];omega) _;have hde:[]++Lib.itoa e=keyZ e []:=by simp [keyZ]
 have hcellS:∀v:Value,World.cell? ((w.alloc (Obj.cells #[Value.int IntKind.i64 e,v] 27)).alloc (Obj.cells #[Value.pointer none,Value.slice none 0 0] 168)) ⟨w.heap.size,1,none⟩=some v:=fun v=>by
  unfold World.cell?;simp only [World.alloc];simp [Array.getElem?_push,Array.size_push]
  try rfl
 have HP:∀wx,Below w.heap.size w wx->PowIs 3 wx:=fun wx h=>pow_below hp h;have hle:=itoa_len e he;have h2:∀w1,Below ((w.alloc (Obj.cells #[Value.int IntKind.i64 e,v] 27)).alloc (Obj.cells #[Value.pointer none,Value.slice none 0 0] 168)).heap.size ((w.alloc (Obj.cells #[Value.int IntKind.i64 e,v] 27)).alloc (Obj.cells #[Value.pointer none,Value.slice none 0 0] 168)) w1->
   Calls Tryz.prog 122 #[.pointer (some ⟨w.heap.size+1,0,none⟩),.string ⟨(Lib.itoa e).toArray⟩] w1 fun e' w'=>e'=.returned (.tuple #[.int .i64 (ByteArray.mk (Lib.itoa e).toArray).size,.nilIface])/\Lib.IsBuilderF 168 5 (w.heap.size+1) (w.heap.size+1) (Lib.byteCells (keyZ e [])) w'/\w.heap.size+1<=w'.heap.size/\Below w.heap.size w w'/\w'.cell? ⟨w.heap.size,1,none⟩=some v:=fun w1 hw1=>by
  have h1:=k_ws (w.heap.size+1) [] (Lib.itoa e) w1 (IsBuilderF_below hb0 hw1) (Nat.le_trans hs0 hw1.size) (by simp) (by omega);rw [hde] at h1;refine h1.mono ?_
  rintro e' w' ⟨rfl,g1,g2,g3⟩
  refine ⟨rfl,g1,g2,(hB0.trans (hw1.mono (Nat.le_trans (Nat.le_succ _) hs0))).trans (g3.mono (Nat.le_succ _)),?_⟩;rw [g3.cell (p:=⟨w.heap.size,1,none⟩) (qbF _),hw1.cell (p:=⟨w.heap.size,1,none⟩) (Nat.lt_of_lt_of_le (qbF _) hs0)];exact hcellS v
 clear hcellS hb0 hle hs0;have HP:=Lib.hid HP;rcases hv with ⟨ob,rfl,rfl⟩|⟨b,o,cap,rfl,hc⟩
 ·have H1:=Lib.hid h2;clear h2
  go_enter Tryz.func83,Tryz.ntmps83
  go_wp2_with (first
   |(go_at_call 123;refine (itoaA_calls e he _ (HP.out _ hB0)).mono ?_;rintro e w' ⟨rfl,hBi⟩)
   |(go_at_call 122;refine (H1.out _ hBi).mono ?_;rintro e w2 ⟨rfl,hb1,hs1,hB2,hc1⟩))
  go_loopg [5,13] 0 (fun g _ s13 wx=>s13=.int .i64 0/\Lib.IsBuilderF 168 5 (w.heap.size+1) (w.heap.size+1) (Lib.byteCells (keyZ e [])) wx/\w.heap.size+1<=wx.heap.size/\Below w.heap.size w wx)
  case atStart=>exact ⟨rfl,hb1,hs1,hB2⟩
  case round=>
   obtain ⟨rfl,hb,hs,hB⟩:=hrel;have HL:=Lib.hid (k_str (w.heap.size+1) _ _ hb hs)
   go_wp2_with (go_at_call 125;refine HL.out.mono ?_;rintro e w2 ⟨rfl,hB2⟩)
   go_ret
   exact ⟨rfl,hB.trans (hB2.mono (Nat.le_succ _))⟩
 have hcells:∀wx,Below w.heap.size w wx->∀j,j<zs.length->wx.cell? ⟨b,o+j,none⟩=some (.int .i64 (zs.getD j 0)):=fun wx hB j hj=>by
  have h1:=hc j hj;have hlt:b<w.heap.size:=by
   rcases Nat.lt_or_ge b w.heap.size with h'|h';·exact h'
   exfalso;unfold World.cell? at h1;rw [Array.getElem?_eq_none (by exact h')] at h1;simp at h1
  rw [hB.cell hlt];exact h1
 clear hc;have H1:=Lib.hid h2;clear h2;have hlb:=keyZ_len e he zs hz0
 go_enter Tryz.func83,Tryz.ntmps83
 go_wp2_with (first
  |(go_at_call 123;refine (itoaA_calls e he _ (HP.out _ hB0)).mono ?_;rintro e w' ⟨rfl,hBi⟩)
  |(go_at_call 122;refine (H1.out _ hBi).mono ?_;rintro e w2 ⟨rfl,hb1,hs1,hB2,hc1⟩))
 go_loopg [5,13] zs.length (fun g _ s13 wx=>∃i:Nat,i+g=zs.length/\s13=.int .i64 i/\Lib.IsBuilderF 168 5 (w.heap.size+1) (w.heap.size+1) (Lib.byteCells (keyZ e (zs.take i))) wx/\w.heap.size+1<=wx.heap.size/\Below w.heap.size w wx)
 case atStart=>exact ⟨0,by omega,rfl,hb1,hs1,hB2⟩
 case round=>
  obtain ⟨i,hig,rfl,hb,hs,hB⟩:=hrel;cases gk with
  |zero=>
   obtain rfl:i=zs.length:=by omega
   have hiz:¬((zs.length:Int)<(zs.length:Int)):=by omega
   have HL:=Lib.hid (k_str (w.heap.size+1) _ _ hb hs);clear hcells
   go_wp2_with (go_at_call 125;refine HL.out.mono ?_;rintro e w2 ⟨rfl,hB2⟩)
   go_ret
   exact ⟨rfl,hB.trans (hB2.mono (Nat.le_succ _))⟩
  |succ g=>
   have hi:i<zs.length:=by omega
   have hiz:(i:Int)<(zs.length:Int):=by omega
   have hcell:=hcells wr hB i hi;clear hcells;have hmem:zs.getD i 0∈zs:=by rw [qby,qa3 hi];exact qbk hi
   have hstep:keyZ e (zs.take (i+1))=(keyZ e (zs.take i)++[44])++Lib.itoa (zs.getD i 0):=by rw [List.take_add_one,qa3 hi,qby,qa3 hi];show keyZ e (zs.take i++[zs[i]])=_;rw [keyZ_snoc];simp
   have hn:=hz0 _ hmem;generalize zs.getD i 0=n at hcell hstep hn;have hl1:=keyZ_len e he (zs.take i) (fun m hm=>hz0 m (List.mem_of_mem_take hm));have hl2:(zs.take i).length<=1000:=by rw [qaN];omega
   have HB:=Lib.hid (k_wb (w.heap.size+1) _ _ hb hs (by omega));have HS:∀wx,Lib.IsBuilderF 168 5 (w.heap.size+1) (w.heap.size+1) (Lib.byteCells (keyZ e (zs.take i)++[44])) wx->w.heap.size+1<=wx.heap.size->_:=fun wx h1 h2=>k_ws (w.heap.size+1) _ (Lib.itoa n) wx h1 h2 (by rw [qaZ];simp;omega) (by have:=itoa_len n hn;omega);have HS':=Lib.hid HS;have hst:=Lib.hid hstep;clear hstep HS
   go_wp2_with (first
    |(go_at_call 124;refine HB.out.mono ?_;rintro e w2 ⟨rfl,hb3,hs3,hB3⟩)
    |(go_at_call 123;refine (itoaA_calls n hn _ (HP.out _ (hB.trans (hB3.mono (Nat.le_succ _))))).mono ?_;rintro e w3 ⟨rfl,hBi⟩)
    |(go_at_call 122;refine (HS'.out _ (IsBuilderF_below hb3 hBi) (Nat.le_trans hs3 hBi.size)).mono ?_;rintro e w4 ⟨rfl,hb4,hs4,hB4⟩))
   go_roundg g
   case measure=>omega
   case rel=>refine ⟨i+1,by omega,rfl,?_,hs4,((hB.trans (hB3.mono (Nat.le_succ _))).trans (hBi.mono (Nat.le_trans (Nat.le_succ _) hs3))).trans (hB4.mono (Nat.le_succ _))⟩;rw [hst.out];exact hb4
theorem keyA_sem {R:CodeRel}(hR:R.gl=gl)(e:Int)(t:Bool)(es:qbI)(zs:List Int)(h:intsOf es=some zs)(he:I64 e)(hz:∀z,z∈zs->I64 z)(hl:zs.length<=1000)(inb:List Bx):
  FSem Tryz.prog R 83 [.agg [.v (.int .i64 e),.sl t 1 es]] inb (.v (.string ⟨(keyZ e zs).toArray⟩)) inb:=by
 refine fsem_rep fun cargs w K C hI ha=>?_;obtain ⟨h1,h2⟩:=ints_length h;have hs:cargs.size=1:=ha.1;have r0:=ha.2 0 _ cargs[0] rfl (qa7 (by omega));have hca:cargs=#[cargs[0]]:=by
  refine Array.ext (by grind) fun i h1 h2=>?_
  match i,h1,h2 with
  |0,_,_=>rfl
  |i+1,h1,_=>omega
 rw [hca];generalize cargs[0]=v0 at r0;have hv0:∃v,v0=.agg #[.int .i64 e,v]/\Rep K C (.sl t 1 es) v:=by
  generalize hx:X.agg [.v (.int .i64 e),.sl t 1 es]=x at r0;cases r0<;>try cases hx
  case agg vs hsz _ hr=>
   have hs2:vs.size=2:=hsz;have a0:=hr 0 _ vs[0] rfl (qa7 (by omega));have a1:=hr 1 _ vs[1] rfl (qa7 (by omega));refine ⟨vs[1],?_,a1⟩;have e0:vs[0]=.int .i64 e:=rep_v a0;have:vs=#[vs[0],vs[1]]:=by
    refine Array.ext (by simp [hs2]) fun i h1 h2=>?_
    match i,h1,h2 with
    |0,_,_=>rfl
    |1,_,_=>rfl
    |i+2,h1,_=>omega
   rw [<-e0];exact congrArg Value.agg this
 obtain ⟨v,rfl,r1⟩:=hv0;have hv:(∃ob,v=.slice ob 0 0/\zs=[])\/∃b o cap,v=.slice (some ⟨b,o,none⟩) zs.length cap/\∀j,j<zs.length->w.cell? ⟨b,o+j,none⟩=some (.int .i64 (zs.getD j 0)):=by
  generalize hx:X.sl t 1 es=x at r1;cases r1<;>try cases hx
  case slNil ob=>
   have:zs=[]:=by
    cases zs with
    |nil=>rfl
    |cons z r=>simp at h1
   subst this;exact .inl ⟨_,rfl,rfl⟩
  case sl b o cap vals hcap hcell hr htight hlen hk=>
   refine .inr ⟨b,o,cap,by rw [h1],fun j hj=>?_⟩;have e1:=h2 j hj;have e2:at2 es j 0=some (.v (.int .i64 (zs.getD j 0))):=by simp [at2,e1]
   have e3:=hI.known _ _ _ (hk j 0 _ e2)
   grind[rep_v]
 refine (keyA_calls e he zs hz hl v w (by have:=pow_of hR hI;rw [show Tryz.laysItoa_ren.g 17=3 by kernel_rfl] at this;exact this) hv).mono ?_
 rintro e' w' ⟨rfl,hB⟩
 exact ⟨_,rfl,fun _ _=>.v rfl,hB⟩
end YtonnphbfclaigaaGreatDoor
end Go.Proofs
namespace Go.Proofs
namespace YtonnphbfclaigaaGreatDoor
def undec (l:List UInt8):Nat:=l.foldl (fun v b=>10*v+(b.toNat-48)) 0
theorem dig_toNat {k:Nat}(h:k<10):(UInt8.ofNat (48+k)).toNat=48+k:=by rw [UInt8.toNat_ofNat'];exact Nat.mod_eq_of_lt (by omega)
theorem undec_decDigits (u:Nat):undec (Lib.decDigits u)=u:=by
 induction u using Nat.strongRecOn with
 |_ u ih=>
  rw [Lib.decDigits];split;next h=>simp only [undec,List.foldl_cons,List.foldl_nil,dig_toNat h];omega
  have h1:=ih (u /10) (by omega);unfold undec at h1 ⊢;rw [List.foldl_append,h1];simp only [List.foldl_cons,List.foldl_nil,dig_toNat (Nat.mod_lt u (by decide:0<10))];omega
theorem decDigits_dig (u:Nat):∀b,b∈Lib.decDigits u->48<=b.toNat/\b.toNat<=57:=by
 induction u using Nat.strongRecOn with
 |_ u ih=>
  rw [Lib.decDigits];split;next h=>intro b hb;simp only [List.mem_singleton] at hb;subst hb;rw [dig_toNat h];omega
  intro b hb;rcases List.mem_append.1 hb with hb|hb;·exact ih (u /10) (by omega) b hb
  simp only [List.mem_singleton] at hb;subst hb;rw [dig_toNat (Nat.mod_lt u (by decide:0<10))];omega
theorem decDigits_inj {a b:Nat}(h:Lib.decDigits a=Lib.decDigits b):a=b:=by rw [<-undec_decDigits a,h,undec_decDigits]
theorem itoa_inj {a b:Int}(h:Lib.itoa a=Lib.itoa b):a=b:=by
 have hd:∀(u:Nat) (l:List UInt8),45::l≠Lib.decDigits u:=fun u l e=>by have:=decDigits_dig u 45 (by rw [<-e];simp);simp at this
 unfold Lib.itoa at h;split at h
 ·split at h;·have:=decDigits_inj (List.cons.inj h).2;omega
  exact absurd h (hd _ _)
 split at h;·exact absurd h.symm (hd _ _)
 have:=decDigits_inj h;omega
theorem itoa_comma (z:Int):∀b,b∈Lib.itoa z->b≠44:=by
 intro b hb;unfold Lib.itoa at hb;have hd:∀u,b∈Lib.decDigits u->b≠44:=fun u h e=>by have:=decDigits_dig u b h;subst e;simp at this
 split at hb
 ·rcases List.mem_cons.1 hb with rfl|hb;·decide
  exact hd _ hb
 exact hd _ hb
theorem comma_split {a a' r r':List UInt8}(ha:∀b,b∈a->b≠44)(ha':∀b,b∈a'->b≠44)(hr:r=[]\/∃t,r=44::t)(hr':r'=[]\/∃t,r'=44::t)(h:a++r=a'++r'):a=a'/\r=r':=by
 induction a generalizing a' with
 |nil=>
  cases a' with
  |nil=>exact ⟨rfl,by simpa using h⟩
  |cons x t=>
   have hx:=ha' x (by simp);rcases hr with rfl|⟨t',rfl⟩;·simp at h
   simp only [List.nil_append,List.cons_append,List.cons.injEq] at h;exact absurd h.1.symm hx
 |cons x t ih=>
  cases a' with
  |nil=>
   have hx:=ha x (by simp);rcases hr' with rfl|⟨t',rfl⟩;·simp at h
   simp only [List.nil_append,List.cons_append,List.cons.injEq] at h;exact absurd h.1 hx
  |cons y t'=>simp only [List.cons_append,List.cons.injEq] at h;obtain ⟨rfl,h⟩:=h;obtain ⟨rfl,rfl⟩:=ih (fun b hb=>ha b (by simp [hb])) (fun b hb=>ha' b (by simp [hb])) h;exact ⟨rfl,rfl⟩
theorem rest_head (zs:List Int):(zs.flatMap fun n=>44::Lib.itoa n)=[]\/∃t,(zs.flatMap fun n=>44::Lib.itoa n)=44::t:=by
 cases zs with
 |nil=>exact .inl rfl
 |cons z r=>exact .inr ⟨_,by rw [List.flatMap_cons,List.cons_append]⟩
theorem rest_inj:∀{a b:List Int},(a.flatMap fun n=>44::Lib.itoa n)=(b.flatMap fun n=>44::Lib.itoa n)->a=b
 |[],[],_=>rfl
 |[],_::_,h=>by simp at h
 |_::_,[],h=>by simp at h
 |x::a,y::b,h=>by rw [List.flatMap_cons,List.flatMap_cons,List.cons_append,List.cons_append] at h;obtain ⟨h1,h2⟩:=comma_split (itoa_comma x) (itoa_comma y) (rest_head a) (rest_head b) (List.cons.inj h).2;rw [itoa_inj h1,rest_inj h2]
theorem keyZ_inj {e e':Int}{a b:List Int}(h:keyZ e a=keyZ e' b):e=e'/\a=b:=by unfold keyZ at h;obtain ⟨h1,h2⟩:=comma_split (itoa_comma e) (itoa_comma e') (rest_head a) (rest_head b) h;exact ⟨itoa_inj h1,rest_inj h2⟩
end YtonnphbfclaigaaGreatDoor
end Go.Proofs
namespace Go.Proofs.YtonnphbfclaigaaGreatDoor.Sy
open Go Go.Em
structure Lin {κ:Type} (lt:κ->κ->Bool):Prop where
 irr:∀a,lt a a=false
 tr:∀a b c,lt a b=true->lt b c=true->lt a c=true
 tot:∀a b,lt a b=false->lt b a=false->a=b
section
variable {α κ:Type} [DecidableEq κ] {f:α->κ} {lt:κ->κ->Bool}
omit [DecidableEq κ] in
omit [DecidableEq κ] in
omit [DecidableEq κ] in
omit [DecidableEq κ] in
end
end Go.Proofs.YtonnphbfclaigaaGreatDoor.Sy
namespace Go.Proofs.YtonnphbfclaigaaGreatDoor.Sy
open Go Go.Em Go.Proofs.YtonnphbfclaigaaGreatDoor
variable {a b:Int}
theorem ordI_lt :ordI a b<0↔a<b:=by unfold ordI;split<;>(try split)<;>omega
theorem ordI_zero :ordI a b=0↔a=b:=by unfold ordI;split<;>(try split)<;>omega
theorem ordI_neg (a b:Int):ordI b a=-ordI a b:=by unfold ordI;split<;>split<;>(try split)<;>omega
theorem lex_neg:∀p q:List Int,lexC ordI q p=-lexC ordI p q
 |[],[]=>rfl
 |[],_::_=>rfl
 |_::_,[]=>rfl
 |a::p,b::q=>by
  simp only [lexC];rw [lex_neg p q,ordI_neg a b];by_cases h:ordI a b=0;·rw [h];simp
  rw [if_neg (by omega),if_neg h]
theorem lex_zero:∀{p q:List Int},lexC ordI p q=0->p=q
 |[],[],_=>rfl
 |[],_::_,h=>by simp [lexC] at h
 |_::_,[],h=>by simp [lexC] at h
 |a::p,b::q,h=>by
  simp only [lexC] at h;by_cases e:ordI a b=0;·rw [if_pos e] at h;rw [ordI_zero.1 e,lex_zero h]
  rw [if_neg e] at h;exact absurd h e
theorem lex_tr:∀{p q r:List Int},lexC ordI p q<0->lexC ordI q r<0->lexC ordI p r<0
 |_,[],[],_,h2=>by simp [lexC] at h2
 |[],[],_::_,h1,_=>by simp [lexC] at h1
 |_::_,[],_::_,h1,_=>by simp [lexC] at h1
 |_,_::_,[],_,h2=>by simp [lexC] at h2
 |[],_::_,_::_,_,_=>by simp [lexC]
 |a::p,b::q,c::r,h1,h2=>by
  simp only [lexC] at h1 h2 ⊢;by_cases e1:ordI a b=0
  ·rw [if_pos e1] at h1;have:=ordI_zero.1 e1;subst this;by_cases e2:ordI a c=0;·rw [if_pos e2] at h2 ⊢;exact lex_tr h1 h2
   rw [if_neg e2] at h2 ⊢;exact h2
  rw [if_neg e1] at h1;by_cases e2:ordI b c=0;·have:=ordI_zero.1 e2;subst this;rw [if_neg e1];exact h1
  rw [if_neg e2] at h2;have:=Int.lt_trans (ordI_lt.1 h1) (ordI_lt.1 h2);have hlt:=ordI_lt.2 this;rw [if_neg (by omega)];exact hlt
def key (m:Msg):Int×List Int:=(m.st.e,m.st.p)
def ltS (a b:Int×List Int):Bool:=decide (cmpS ⟨a.1,a.2⟩ ⟨b.1,b.2⟩<0)
theorem ltS_iff {a b:Int×List Int}:ltS a b=true↔a.1<b.1\/a.1=b.1/\lexC ordI a.2 b.2<0:=by
 unfold ltS;rw [decide_eq_true_iff];unfold cmpS;simp only [orL];by_cases h:ordI a.1 b.1=0
 ·have e:=ordI_zero.1 h;rw [if_pos h];constructor;·intro h2;refine .inr ⟨e,?_⟩;split at h2<;>omega
  rintro (h2|⟨_,h2⟩)
  ·omega
  rw [if_neg (by omega)];exact h2
 have e:¬a.1=b.1:=fun e=>h (ordI_zero.2 e);rw [if_neg h,ordI_lt];constructor;·exact .inl
 rintro (h2|⟨h2,_⟩)
 ·exact h2
 exact absurd h2 e
theorem linS:Lin ltS where
 irr a:=by
  cases h:ltS a a with
  |false=>rfl
  |true=>
   rcases ltS_iff.1 h with h|⟨_,h⟩;·omega
   have:=lex_neg a.2 a.2;omega
 tr a b c h1 h2:=by
  rcases ltS_iff.1 h1 with h1|⟨e1,h1⟩<;>rcases ltS_iff.1 h2 with h2|⟨e2,h2⟩;·exact ltS_iff.2 (.inl (by omega))
  ·exact ltS_iff.2 (.inl (by omega))
  ·exact ltS_iff.2 (.inl (by omega))
  exact ltS_iff.2 (.inr ⟨by omega,lex_tr h1 h2⟩)
 tot a b h1 h2:=by
  have n1:¬(a.1<b.1\/a.1=b.1/\lexC ordI a.2 b.2<0):=fun h=>by rw [ltS_iff.2 h] at h1;cases h1
  have n2:¬(b.1<a.1\/b.1=a.1/\lexC ordI b.2 a.2<0):=fun h=>by rw [ltS_iff.2 h] at h2;cases h2
  have e1:a.1=b.1:=by omega
  have hn:=lex_neg a.2 b.2;have e2:a.2=b.2:=lex_zero (by have m1:¬lexC ordI a.2 b.2<0:=fun h=>n1 (.inr ⟨e1,h⟩);have m2:¬lexC ordI b.2 a.2<0:=fun h=>n2 (.inr ⟨e1.symm,h⟩);omega);exact Prod.ext e1 e2
theorem cmp_lt (a b:Stp):decide (cmpS a b<0)=ltS (a.e,a.p) (b.e,b.p):=rfl
end Go.Proofs.YtonnphbfclaigaaGreatDoor.Sy
namespace Go.Proofs.YtonnphbfclaigaaGreatDoor
open Go.Em
set_option maxRecDepth 100000
section
variable (g:Nat) (l m:qbI) (j:Nat)
end
section
variable (g:Nat) (l m:qbI) (j:Nat)
end
end Go.Proofs.YtonnphbfclaigaaGreatDoor
namespace Go.Proofs.YtonnphbfclaigaaGreatDoor
open Go.Em
set_option maxRecDepth 100000
section
variable (l m:qbI) (j:Nat)
end
end Go.Proofs.YtonnphbfclaigaaGreatDoor
namespace Go.Proofs.YtonnphbfclaigaaGreatDoor
open Go.Em
set_option maxRecDepth 100000
def ocC (n t:Int)(sl ou rq ft lt:qbI):List X:=[num n,num t,.sl false 10 sl,.sl false 11 ou,.sl false 11 rq,.sl false 6 ft,.sl false 10 lt]
section
variable (n t n' t':Int) (sl ou rq ft lt sl' ou' rq' ft' lt':qbI) (j:Nat)
end
theorem vEq_refl (a:Val):vEq a a=true:=by unfold vEq;rw [cmpV_refl];rfl
theorem sEq_refl (a:Stp):sEq a a=true:=by unfold sEq;rw [cmpS_refl];rfl
end Go.Proofs.YtonnphbfclaigaaGreatDoor
namespace Go.Em
variable {b:C}{r:Ex×St}{Γ:Gam}{fu:Nat}{σ:St}
variable {nIn t d o:Nat} {live:List Nat} {f:St->Option (Ex×St)}
theorem MAll.uniq:∀{n:Nat} {σ:St} {r r':Ex×St},MAll nIn t d o live f n σ r->MAll nIn t d o live f n σ r'->r=r'
 |0,_,_,_,h,_=>h.elim
 |n+1,σ,r,r',h,h'=>by
  obtain ⟨σ0,i,m,s,l,es,hc,ht,hb,hbm,hs,h1,h2⟩:=h;obtain ⟨σ0',i',m',s',l',es',hc',ht',hb',hbm',hs',h1',h2'⟩:=h';rw [hc] at hc';simp only [qaE] at hc';subst hc';rw [ht] at ht';simp only [qaE,X.it.injEq] at ht';subst ht';rw [hb] at hb';simp only [qaE,Bx.iter.injEq] at hb';obtain ⟨rfl,rfl,rfl⟩:=hb';rw [hbm] at hbm';simp only [qaE,Bx.map.injEq] at hbm';subst hbm';by_cases hall:∀j,j<s->j∈l;·obtain ⟨q,e1,_,e3,e4⟩:=h2 hall;obtain ⟨q',e1',_,e3',e4'⟩:=h2' hall;rw [e1] at e1';simp only [qaE] at e1';subst e1';rw [e4] at e4';exact Prod.ext (e3.symm.trans e3') (Option.some.inj e4')
  obtain ⟨j,hj⟩:=Classical.not_forall.1 hall;have hj1:j<s:=Classical.byContradiction fun h=>hj fun h'=>absurd h' h;have hj2:j∉l:=fun h=>hj fun _=>h;have he:es[j]?=some (es[j]'(by omega)):=qa3 (by omega);obtain ⟨q,hq,hn,hx⟩:=h1 j _ he hj2;obtain ⟨q',hq',hn',hx'⟩:=h1' j _ he hj2;rw [hq] at hq';simp only [qaE] at hq';subst hq';by_cases hnorm:q.1=.norm;·exact MAll.uniq (hn hnorm) (hn' hnorm)
  obtain ⟨e3,e4⟩:=hx hnorm;obtain ⟨e3',e4'⟩:=hx' hnorm;rw [e4] at e4';exact Prod.ext (e3.symm.trans e3') (Option.some.inj e4')
theorem mrun_of {n:Nat}(h:MAll nIn t d o live f n σ r):mrun nIn t d o live f n σ=some r:=by unfold mrun;have hex:∃r,MAll nIn t d o live f n σ r:=⟨r,h⟩;rw [dif_pos hex,MAll.uniq hex.choose_spec h]
theorem run_mloop (h:MAll nIn t d o live (run Γ nIn fu b) fu σ r):run Γ nIn fu (.mloop t d o live b) σ=some r:=by
 simp only [run];split;next r' h'=>rw [MAll.uniq (mone_some h') h]
 exact mrun_of h
theorem nodup_le:∀(s:Nat) (l:List Nat),l.Nodup->(∀j,j∈l->j<s)->l.length<=s
 |0,l,_,h=>by
  cases l with
  |nil=>simp
  |cons a l=>exact absurd (h a (by simp)) (by omega)
 |s+1,l,hn,h=>by
  have h1:=nodup_le s (l.erase s) (hn.erase s) (fun j hj=>by
   have h2:=h j (List.mem_of_mem_erase hj);have h3:j≠s:=fun e=>by subst e;exact (hn.mem_erase_iff.1 hj).1 rfl
   omega)
  have h4:=List.length_erase (l:=l) (a:=s);split at h4<;>omega
theorem test_list {α:Type}(L:List α)(g:α->Value×X){i m:Nat}(S:List Nat->St)(bad:α->Bool){r z:Ex×St}(hr:r.1≠.norm)(hz:z.1≠.norm)
  (ht:∀l,lk (S l).tm t=some (.it i)) (hb:∀l,(S l).bx[i]?=some (.iter m (L.map g).length l)) (hm:∀l,(S l).bx[m]?=some (.map (L.map g)))
  (hbad:∀(l:List Nat) (j:Nat) (a:α),L[j]?=some a->bad a=true->∃τ,f (advM live d o (S l) i m (L.map g).length l j (g a))=some (r.1,τ)/\canon nIn τ=some r.2)
  (hgood:∀(l:List Nat) (j:Nat) (a:α),L[j]?=some a->bad a=false->∃τ,f (advM live d o (S l) i m (L.map g).length l j (g a))=some (.norm,τ)/\canon nIn τ=some (S (l++[j])))
  (hfin:∀l,∃τ,f (finM t live d o (S l))=some (z.1,τ)/\canon nIn τ=some z.2):
  ∀(n:Nat) (l:List Nat) (σ:St),canon nIn σ=some (S l)->l.Nodup->(∀j,j∈l->∃a,L[j]?=some a/\bad a=false)->L.length<n+l.length->
   MAll nIn t d o live f n σ (if L.any bad then r else z)
 |0,l,σ,_,hn,hl,hlt=>by
  have:=nodup_le L.length l hn fun j hj=>by obtain ⟨e,he,_⟩:=hl j hj;exact (qaY.1 he).1
  omega
 |n+1,l,σ,hc,hn,hl,hlt=>by
  refine ⟨S l,i,m,(L.map g).length,l,L.map g,hc,ht l,hb l,hm l,rfl,fun j e he hj=>?_,fun hall=>?_⟩
  ·rw [qbe] at he;obtain ⟨a,ha,rfl⟩:=qa1.1 he;cases hbe:bad a with
   |true=>have hany:L.any bad=true:=List.any_eq_true.2 ⟨a,qa5 ha,hbe⟩;obtain ⟨τ,hf,hcτ⟩:=hbad l j a ha hbe;refine ⟨_,hf,fun h=>absurd h hr,fun _=>?_⟩;rw [if_pos hany];exact ⟨rfl,hcτ⟩
   |false=>
    obtain ⟨τ,hf,hcτ⟩:=hgood l j a ha hbe;refine ⟨_,hf,fun _=>test_list L g S bad hr hz ht hb hm hbad hgood hfin n (l++[j]) τ hcτ ?_ ?_ ?_,fun h=>absurd rfl h⟩;·rw [List.nodup_append];refine ⟨hn,by simp,fun x hx y hy=>?_⟩;simp only [qbB] at hy;subst hy;exact fun e=>hj (e▸hx)
    ·intro k hk;rcases qbm.1 hk with h|h;·exact hl k h
     simp only [qbB] at h;subst h;exact ⟨a,ha,hbe⟩
    simp only [qaZ,List.length_singleton];omega
  have hany:L.any bad=false:=by rw [List.any_eq_false];intro a ha;obtain ⟨k,hk,rfl⟩:=List.mem_iff_getElem.1 ha;obtain ⟨a',ha',hb'⟩:=hl k (hall k (by rw [qa9];exact hk));rw [qa3 hk] at ha';simp only [qaE] at ha';rw [ha',hb'];simp
  rw [hany];obtain ⟨τ,hf,hcτ⟩:=hfin l;exact ⟨_,hf,hz,rfl,hcτ⟩
theorem run_list {α:Type}(L:List α)(g:α->Value×X){i m:Nat}(S:List Nat->St)(bad:α->Bool){z:Ex×St}(hr:r.1≠.norm)(hz:z.1≠.norm)
  (ht:∀l,lk (S l).tm t=some (.it i)) (hb:∀l,(S l).bx[i]?=some (.iter m (L.map g).length l)) (hm:∀l,(S l).bx[m]?=some (.map (L.map g)))
  (hbad:∀(l:List Nat) (j:Nat) (a:α),L[j]?=some a->bad a=true->∃τ,run Γ nIn fu b (advM live d o (S l) i m (L.map g).length l j (g a))=some (r.1,τ)/\canon nIn τ=some r.2)
  (hgood:∀(l:List Nat) (j:Nat) (a:α),L[j]?=some a->bad a=false->∃τ,run Γ nIn fu b (advM live d o (S l) i m (L.map g).length l j (g a))=some (.norm,τ)/\canon nIn τ=some (S (l++[j])))
  (hfin:∀l,∃τ,run Γ nIn fu b (finM t live d o (S l))=some (z.1,τ)/\canon nIn τ=some z.2) (hc:canon nIn σ=some (S [])) (hfu:L.length<fu):
  run Γ nIn fu (.mloop t d o live b) σ=some (if L.any bad then r else z):=
 run_mloop (test_list L g S bad hr hz ht hb hm hbad hgood hfin fu [] σ hc (by simp) (fun j hj=>by simp at hj) (by simpa using hfu))
end Go.Em
namespace Go.Em
variable {b:C}{e:Ex}{Γ:Gam}{fu nIn:Nat}
def foldO {α β:Type}(step:β->α->Option β):List α->β->Option β
 |[],q=>some q
 |a::r,q=>match step q a with
  |none=>none
  |some q=>foldO step r q
theorem foldO_append {α β:Type}{step:β->α->Option β}:∀(l m:List α) (q:β),foldO step (l++m) q=(foldO step l q).bind (foldO step m)
 |[],m,q=>rfl
 |a::r,m,q=>by
  simp only [List.cons_append,foldO];cases step q a with
  |none=>rfl
  |some q'=>exact foldO_append r m q'
theorem loop_listZ {α β:Type}(H:β->Nat->St)(step:β->α->Option β)(I:β->Nat->Prop)(l:List α)(fin:β->St)(Z:β->Nat->α->St->Prop)(q0:β)(h0:I q0 0)
  (hgood:∀(q q':β) (j:Nat) (a:α),l[j]?=some a->I q j->step q a=some q'->I q' (j+1)/\∃υ,run Γ nIn fu b (H q j)=some (.norm,υ)/\canon nIn υ=some (H q' (j+1)))
  (hbad:∀(q:β) (j:Nat) (a:α),l[j]?=some a->I q j->step q a=none->∃υ,run Γ nIn fu b (H q j)=some (.ret,υ)/\Z q j a υ)
  (hend:∀q,I q l.length->run Γ nIn fu b (H q l.length)=some (e,fin q)) (hne:e≠.norm) {τ:St} (hτ:canon nIn τ=some (H q0 0)) (hF:l.length<fu):
  (∃q,foldO step l q0=some q/\I q l.length/\run Γ nIn fu (.loop b) τ=some (e,fin q))\/
  (foldO step l q0=none/\∃q j a,l[j]?=some a/\I q j/\foldO step (l.take j) q0=some q/\step q a=none/\∃υ,run Γ nIn fu (.loop b) τ=some (.ret,υ)/\Z q j a υ):=by
 have key:∀d j q F υ,j+d=l.length->d<F->foldO step (l.take j) q0=some q->I q j->canon nIn υ=some (H q j)->
   (∃q',foldO step (l.drop j) q=some q'/\I q' l.length/\iter nIn (run Γ nIn fu b) F υ=some (e,fin q'))\/
   (foldO step (l.drop j) q=none/\∃q j a,l[j]?=some a/\I q j/\foldO step (l.take j) q0=some q/\step q a=none/\∃ω,iter nIn (run Γ nIn fu b) F υ=some (.ret,ω)/\Z q j a ω):=by
  intro d;induction d with
  |zero=>
   intro j q F υ hj hF ht hI hc;obtain ⟨F,rfl⟩:∃G,F=G+1:=⟨F-1,by omega⟩;obtain rfl:j=l.length:=by omega
   exact .inl ⟨q,by rw [List.drop_length];rfl,hI,iter_end hc (hend q hI) hne⟩
  |succ d ih=>
   intro j q F υ hj hF ht hI hc;obtain ⟨F,rfl⟩:∃G,F=G+1:=⟨F-1,by omega⟩;have hj':j<l.length:=by omega
   have hg:l[j]?=some l[j]:=qa3 hj';rw [List.drop_eq_getElem_cons hj'];simp only [foldO];cases hs:step q l[j] with
   |none=>obtain ⟨ω,w1,w2⟩:=hbad q j l[j] hg hI hs;exact .inr ⟨rfl,q,j,l[j],hg,hI,ht,hs,ω,iter_end hc w1 (by simp),w2⟩
   |some q'=>
    obtain ⟨hI',ω,h1,h2⟩:=hgood q q' j l[j] hg hI hs;have ht':foldO step (l.take (j+1)) q0=some q':=by rw [qbC hj',foldO_append,ht];simp only [Option.bind_some,foldO,hs]
    rcases ih (j+1) q' F ω (by omega) (by omega) ht' hI' h2 with ⟨q'',e1,e2,e3⟩|⟨e1,e2⟩;·exact .inl ⟨q'',e1,e2,iter_step hc h1 e3⟩
    obtain ⟨q2,j2,a2,f1,f2,f3,f4,ω',f5,f6⟩:=e2;exact .inr ⟨e1,q2,j2,a2,f1,f2,f3,f4,ω',iter_step hc h1 f5,f6⟩
 simp only [run];have:=key l.length 0 q0 fu τ (by omega) hF rfl h0 hτ;rw [List.drop_zero] at this;exact this
theorem loop_list {α β:Type}(H:β->Nat->St)(step:β->α->Option β)(I:β->Nat->Prop)(l:List α)(fin:β->St)(z:β->Nat->α->St)(q0:β)(h0:I q0 0)
  (hgood:∀(q q':β) (j:Nat) (a:α),l[j]?=some a->I q j->step q a=some q'->I q' (j+1)/\∃υ,run Γ nIn fu b (H q j)=some (.norm,υ)/\canon nIn υ=some (H q' (j+1)))
  (hbad:∀(q:β) (j:Nat) (a:α),l[j]?=some a->I q j->step q a=none->run Γ nIn fu b (H q j)=some (.ret,z q j a))
  (hend:∀q,I q l.length->run Γ nIn fu b (H q l.length)=some (e,fin q)) (hne:e≠.norm) {τ:St} (hτ:canon nIn τ=some (H q0 0)) (hF:l.length<fu):
  (∃q,foldO step l q0=some q/\I q l.length/\run Γ nIn fu (.loop b) τ=some (e,fin q))\/
  (foldO step l q0=none/\∃q j a,l[j]?=some a/\I q j/\foldO step (l.take j) q0=some q/\step q a=none/\run Γ nIn fu (.loop b) τ=some (.ret,z q j a)):=by
 rcases loop_listZ H step I l fin (fun q j a υ=>υ=z q j a) q0 h0 hgood (fun q j a h1 h2 h3=>⟨_,hbad q j a h1 h2 h3,rfl⟩) hend hne hτ hF with h|⟨h1,q,j,a,h2,h3,h4,h5,υ,h6,rfl⟩;·exact .inl h
 exact .inr ⟨h1,q,j,a,h2,h3,h4,h5,h6⟩
theorem loop_fold {α β:Type}(H:β->Nat->St)(step:β->α->β)(I:β->Nat->Prop)(l:List α)(fin:β->St)(q0:β)(h0:I q0 0)
  (hgood:∀(q:β) (j:Nat) (a:α),l[j]?=some a->I q j->I (step q a) (j+1)/\∃υ,run Γ nIn fu b (H q j)=some (.norm,υ)/\canon nIn υ=some (H (step q a) (j+1)))
  (hend:∀q,I q l.length->run Γ nIn fu b (H q l.length)=some (e,fin q)) (hne:e≠.norm) {τ:St} (hτ:canon nIn τ=some (H q0 0)) (hF:l.length<fu):
  run Γ nIn fu (.loop b) τ=some (e,fin (l.foldl step q0))/\I (l.foldl step q0) l.length:=by
 have hf:∀(l:List α) (q:β),foldO (fun q a=>some (step q a)) l q=some (l.foldl step q):=by
  intro l;induction l with
  |nil=>intro q;rfl
  |cons a r ih=>intro q;simp only [foldO,List.foldl_cons,ih]
 rcases loop_list H (fun q a=>some (step q a)) I l fin (fun _ _ _=>τ) q0 h0 (fun q q' j a h1 h2 h3=>by cases h3;exact hgood q j a h1 h2) (fun q j a _ _ h=>by cases h) hend hne hτ hF with ⟨q,e1,e2,e3⟩|⟨e1,_⟩;·rw [hf] at e1;cases e1;exact ⟨e3,e2⟩
 rw [hf] at e1;cases e1
end Go.Em
namespace Go.Proofs.YtonnphbfclaigaaGreatDoor.Ba
open Go Go.Em Go.Proofs.YtonnphbfclaigaaGreatDoor
set_option maxRecDepth 100000
variable {a b s:Stp}
theorem sEq_iff :sEq a b=true↔a=b:=by
 constructor
 ·intro h;have h0:cmpS a b=0:=by simpa [sEq] using h
  have h1:=orL_zero h0;have e1:=Sy.ordI_zero.1 (h1 (ordI a.e b.e) (by simp));have e2:=Sy.lex_zero (h1 (lexC ordI a.p b.p) (by simp));obtain ⟨_,_⟩:=a;obtain ⟨_,_⟩:=b;simp_all
 rintro rfl
 exact sEq_refl a
theorem sEq_comm (a b:Stp):sEq a b=sEq b a:=by rw [Bool.eq_iff_iff,sEq_iff,sEq_iff];exact eq_comm
def kB (s:Stp):qbJ:=⟨(keyZ s.e s.p).toArray⟩
def kS (s:Stp):Value:=.string (kB s)
theorem kB_inj (h:kB a=kB b):a=b:=by
 unfold kB at h;have h1:(keyZ a.e a.p).toArray=(keyZ b.e b.p).toArray:=congrArg ByteArray.data h;have h2:keyZ a.e a.p=keyZ b.e b.p:=by simpa using congrArg Array.toList h1
 obtain ⟨e1,e2⟩:=keyZ_inj h2;obtain ⟨_,_⟩:=a;obtain ⟨_,_⟩:=b;simp_all
theorem kS_same (a b:Stp):keySame (kS a) (kS b)=some (sEq a b):=by
 show some (kB a==kB b)=some (sEq a b)
 congr 1
 have h0:(kB a==kB b)=true↔kB a=kB b:=by show ByteArray.beq (kB a) (kB b)=true↔_;unfold ByteArray.beq;rw [qbg];exact ⟨ByteArray.ext,fun h=>by rw [h]⟩
 rw [Bool.eq_iff_iff,sEq_iff,h0];exact ⟨kB_inj,fun h=>by rw [h]⟩
section
variable {α:Type} (f:α->X)
def mOf (l:List (Stp×α)):List (Value×X):=l.map fun p=>(kS p.1,f p.2)
def fnd (s:Stp):List (Stp×α)->Option α
 |[]=>none
 |p::r=>if sEq s p.1 then some p.2 else fnd s r
def putS (s:Stp)(a:α):List (Stp×α)->List (Stp×α)
 |[]=>[(s,a)]
 |p::r=>if sEq s p.1 then (s,a)::r else p::putS s a r
theorem find_mOf (s:Stp)(a:α):∀(l:List (Stp×α)) (i:Nat),(fnd s l=none/\mapFind (kS s) (mOf f l) i=some none/\putS s a l=l++[(s,a)])\/
  ∃j x,fnd s l=some x/\mapFind (kS s) (mOf f l) i=some (some (i+j,f x))/\putS s a l=l.set j (s,a)
 |[],i=>.inl ⟨rfl,rfl,rfl⟩
 |p::r,i=>by
  have hk:=kS_same s p.1;cases hq:sEq s p.1 with
  |true=>
   rw [hq] at hk;refine .inr ⟨0,p.2,?_,?_,?_⟩;·simp only [fnd,hq,if_true]
   ·simp only [mOf,qbt,mapFind,hk,Nat.add_zero]
   simp only [putS,hq,if_true,List.set_cons_zero]
  |false=>
   rw [hq] at hk;rcases find_mOf s a r (i+1) with ⟨h1,h2,h3⟩|⟨j,x,h1,h2,h3⟩
   ·refine .inl ⟨?_,?_,?_⟩;·simp only [fnd,hq,qbc,if_false,h1]
    ·simp only [mOf,qbt,mapFind,hk];exact h2
    simp only [putS,hq,qbc,if_false,h3,List.cons_append]
   refine .inr ⟨j+1,x,?_,?_,?_⟩;·simp only [fnd,hq,qbc,if_false,h1]
   ·simp only [mOf,qbt,mapFind,hk];rw [show i+(j+1)=i+1+j by omega];exact h2
   simp only [putS,hq,qbc,if_false,h3,List.set_cons_succ]
theorem put_mOf (s:Stp)(a:α)(l:List (Stp×α)):mapPut (kS s) (f a) (mOf f l)=some (mOf f (putS s a l)):=by
 unfold mapPut;rcases find_mOf f s a l 0 with ⟨_,h2,h3⟩|⟨j,x,_,h2,h3⟩;·rw [h2,h3];simp [mOf]
 rw [h2,h3];simp [mOf,List.map_set]
theorem get_some {a:α}{l:List (Stp×α)}(h:fnd s l=some a)(ok:Bool)(z:X):mapGet ok z (kS s) (mOf f l)=some (if ok then .tup [f a,.v (.bool true)] else f a):=by
 unfold mapGet;rcases find_mOf f s a l 0 with ⟨h1,_,_⟩|⟨j,x,h1,h2,_⟩;·rw [h] at h1;cases h1
 rw [h] at h1;cases h1;rw [h2]
theorem get_none {l:List (Stp×α)}(h:fnd s l=none)(ok:Bool)(z:X):mapGet ok z (kS s) (mOf f l)=some (if ok then .tup [z,.v (.bool false)] else z):=by
 unfold mapGet;cases l with
 |nil=>rfl
 |cons p r=>
  rcases find_mOf f s p.2 (p::r) 0 with ⟨_,h2,_⟩|⟨j,x,h1,_,_⟩;·rw [h2]
  rw [h] at h1;cases h1
end
theorem mOf_length {α:Type}(f:α->X)(l:List (Stp×α)):(mOf f l).length=l.length:=by simp [mOf]
def mX (m:Msg):X:=.agg m.cells
def uX (_:Unit):X:=.v (.bool true)
abbrev MM:=List (Stp×Msg)
abbrev MU:=List (Stp×Unit)
def byF (l:List Msg)(z:MM):MM:=l.foldl (fun z m=>putS m.st m z) z
def byS (l:List Msg):MM:=byF l []
def inF (l:List Stp)(z:MU):MU:=l.foldl (fun z s=>putS s () z) z
structure FS where
 has:MU
 into:MU
 rej:List Stp
def fstep (old:MM)(q:FS)(f:Fte):Option FS:=
 if (fnd f.st old).isNone||(fnd f.st q.has).isSome then none
 else if f.kind==1||f.kind==2 then some ⟨putS f.st () q.has,inF f.into q.into,q.rej⟩
 else if f.kind==4 then some ⟨putS f.st () q.has,q.into,q.rej++[f.st]⟩ else none
def fats (old:MM)(l:List Fte)(q:FS):Option FS:=foldO (fstep old) l q
def sumW (l:List Msg):Int:=l.foldl (fun z m=>IntKind.i64.wrap (z+m.mass)) 0
def fix (s:Stp):List Msg->Option Nat
 |[]=>none
 |m::r=>if sEq m.st s then some 0 else (fix s r).map (·+1)
def fixI (s:Stp)(l:List Msg):Int:=match fix s l with
 |some k=>Int.ofNat k
 |none=>-1
def lstep (s:Stp)(_:Unit)(m:Msg):Option Unit:=if sEq m.st s then none else some ()
theorem fix_none {s:Stp}:∀{l:List Msg},foldO (lstep s) l ()=some ()->fix s l=none
 |[],_=>rfl
 |m::r,h=>by
  simp only [foldO,lstep] at h;cases hq:sEq m.st s with
  |true=>rw [hq] at h;cases h
  |false=>rw [hq] at h;simp only [fix,hq,qbc,if_false,fix_none (l:=r) h,qbD]
theorem fix_some {s:Stp}:∀{l:List Msg} {j:Nat} {m:Msg},l[j]?=some m->foldO (lstep s) (l.take j) ()=some ()->sEq m.st s=true->fix s l=some j
 |[],j,m,h,_,_=>by cases h
 |x::r,0,m,h,_,hm=>by
  cases h;simp only [fix,hm,if_true]
 |x::r,j+1,m,h,h1,hm=>by
  simp only [List.take_succ_cons,foldO,lstep] at h1;cases hq:sEq x.st s with
  |true=>rw [hq] at h1;cases h1
  |false=>rw [hq] at h1;simp only [fix,hq,qbc,if_false,fix_some (l:=r) (j:=j) (by simpa using h) h1 hm,qbw]
def dstep (L:List Msg)(j:Nat)(m:Msg):Option Nat:=if fixI m.st L==Int.ofNat j then some (j+1) else none
def difB (L:List Msg):Bool:=(foldO (dstep L) L 0).isSome
end Go.Proofs.YtonnphbfclaigaaGreatDoor.Ba
namespace Go.Proofs.YtonnphbfclaigaaGreatDoor.Iv
open Go.Em Go.RowKit Go.Lib
variable {P:Program}
theorem run_copy_k (w:World)(dT sT ty elem:TypeId)(k:Nat)(b o dLen dCap:Nat)(a:Addr)(sLen sCap:Nat)(cs:List Value)
  (hu:P.underlying dT=some (.slice elem)) (hs:(P.info? elem).map (·.size)=some k) (hn:cs.length=Nat.min sLen dLen*k)
  (hsrc:∀j v,cs[j]?=some v->w.cell? (a.add j)=some v) (hc:∀j,j<cs.length->(w.cell? ⟨b,o+j,none⟩).isSome=true) (hf:∀j,j<cs.length->w.frozen? ⟨b,o+j,none⟩=false) (h1:∀v∈cs,v.oneCell'=true):
  (Builtin.copy_ #[dT,sT] ty #[.slice (some ⟨b,o,none⟩) dLen dCap,.slice (some a) sLen sCap]).run P w=.ok (goInt (Nat.min sLen dLen)) (w.setCells b o cs):=by
 have hl:=run_loadCells_list (P:=P) w a cs hsrc;have hst:=run_storeCells_cells (P:=P) b o cs 0 w (by simpa using hc) (by simpa using hf) h1;cases hq:P.info? elem with
 |none=>simp [hq] at hs
 |some i=>
  have hi:i.size=k:=by simpa [hq] using hs
  simp [Builtin.copy_,run_underlying hu,Builtin.lenOf,Builtin.firstCells,sizeOf,typeInfo,hq,hi,<-hn,hl,hst]
theorem run_overlaps_own (w:World)(tS tR e:TypeId)(ht:P.underlying tS=some (.slice e))(size:Nat)(hz:∀w,(Go.sizeOf e).run P w=.ok size w)
  (a b:Addr) (la ca lb cb:Nat) (hne:a.block≠b.block) (tA tB:TypeId) (kA kB:Nat)
  (hsa:w.shape? a.block=some (tA,kA)) (hsb:w.shape? b.block=some (tB,kB)) (hkB:kB≠0) (hkA:kA≠0)
  (hfb:w.frozen? b=false) (hfe:w.frozen? {block:=b.block,off:=kB}=false):
  (Extern.SlicesOverlaps.overlaps #[tS,tS] #[tR] #[.slice (some a) la ca,.slice (some b) lb cb]).run P w=.ok (.bool false) w:=by
 have hnb:(a.block !=b.block)=true:=by simpa using hne
 have hnb':(a.block==b.block)=false:=by simpa using hne
 change Sem.run P (α:=Value) (do
  let some t:=(#[tS,tS]:Array TypeId)[0]?|stuck "slices.overlaps: no parameter types"
  let .slice elem <-underlying t|stuck "slices.overlaps: slice type expected"
  let size <-sizeOf elem
  match (some a:Option Addr),(some b:Option Addr) with
  |some a,some b=>
   if la=0\/lb=0\/size=0 then pure (Value.bool false)
   else if a.block !=b.block&&(<-frozen a)&&(<-frozen b) then unsupported .addressObserved
   else do
    if a.block !=b.block then do
     noView a;noView b
     if <-mayBeOne a b then return Value.bool ((<-choose (.extern "sameAddr.stringBytes" 2))==1)
    pure (Value.bool (a.block==b.block&&a.off<b.off+lb*size&&b.off<a.off+la*size))
  |_,_=>pure (Value.bool false)) w=_
 by_cases h0:la=0\/lb=0\/size=0;·simp [run_underlying ht,hz,h0]
 cases kB with
 |zero=>exact absurd rfl hkB
 |succ kB=>
  obtain ⟨kA,rfl⟩:∃k,kA=k+1:=⟨kA-1,by omega⟩;cases hfa:w.frozen? a with
  |true=>simp [run_underlying ht,hz,h0,hnb,hnb',frozen,noView,viewAt,mayBeOne,stringish,shape,Sem.run,hsa,hsb,hfb,hfe,hfa]
  |false=>
   cases hfx:w.frozen? {block:=a.block,off:=kA+1} with
   |true=>simp [run_underlying ht,hz,h0,hnb,hnb',frozen,noView,viewAt,mayBeOne,stringish,shape,Sem.run,hsa,hsb,hfb,hfe,hfa,hfx]
   |false=>simp [run_underlying ht,hz,h0,hnb,hnb',frozen,noView,viewAt,mayBeOne,stringish,shape,Sem.run,hsa,hsb,hfb,hfe,hfa,hfx]
theorem run_overlaps_same (w:World)(tS tR e:TypeId)(ht:P.underlying tS=some (.slice e))(size:Nat)(hz:∀w,(Go.sizeOf e).run P w=.ok size w)
  (a b:Addr) (la ca lb cb:Nat) (hsame:a.block=b.block) (hd:¬(a.off<b.off+lb*size/\b.off<a.off+la*size)):
  (Extern.SlicesOverlaps.overlaps #[tS,tS] #[tR] #[.slice (some a) la ca,.slice (some b) lb cb]).run P w=.ok (.bool false) w:=by
 have hnb:(a.block !=b.block)=false:=by simpa using hsame
 have hnb':(a.block==b.block)=true:=by simpa using hsame
 have hd':(decide (a.off<b.off+lb*size)&&decide (b.off<a.off+la*size))=false:=by
  cases h:(decide (a.off<b.off+lb*size)&&decide (b.off<a.off+la*size)) with
  |false=>rfl
  |true=>exact absurd (by simpa using h) hd
 change Sem.run P (α:=Value) (do
  let some t:=(#[tS,tS]:Array TypeId)[0]?|stuck "slices.overlaps: no parameter types"
  let .slice elem <-underlying t|stuck "slices.overlaps: slice type expected"
  let size <-sizeOf elem
  match (some a:Option Addr),(some b:Option Addr) with
  |some a,some b=>
   if la=0\/lb=0\/size=0 then pure (Value.bool false)
   else if a.block !=b.block&&(<-frozen a)&&(<-frozen b) then unsupported .addressObserved
   else do
    if a.block !=b.block then do
     noView a;noView b
     if <-mayBeOne a b then return Value.bool ((<-choose (.extern "sameAddr.stringBytes" 2))==1)
    pure (Value.bool (a.block==b.block&&a.off<b.off+lb*size&&b.off<a.off+la*size))
  |_,_=>pure (Value.bool false)) w=_
 by_cases h0:la=0\/lb=0\/size=0;·simp [run_underlying ht,hz,h0]
 simp [run_underlying ht,hz,h0,hnb,hnb',hd',frozen,Sem.run]
end Go.Proofs.YtonnphbfclaigaaGreatDoor.Iv
namespace Go.Proofs.YtonnphbfclaigaaGreatDoor.Iv
open Go.Em Go.RowKit Go.Lib
theorem und35:Tryz.prog.underlying 28=some (.slice 31):=by kernel_rfl
theorem info78:(Tryz.prog.info? 31).map (·.size)=some 6:=by kernel_rfl
theorem size78:∀w,(Go.sizeOf 31).run Tryz.prog w=.ok 6 w:=Tryz.sizeOf31
set_option maxHeartbeats 4000000 in
set_option maxRecDepth 100000 in
theorem ins_shift (b off n c i vb voff vc:Nat)(cs vs:List Value)(w:World)(hi:i<n)(hroom:n+1<=c)(hn3:n<=2000000)(hdis:∀j k,j<6->k<(n+1)*6->vb=b->voff+j≠off+k)
  (hcl:cs.length=n*6) (hvl:vs.length=6)
  (hcs:∀j v,cs[j]?=some v->w.cell? ⟨b,off+j,none⟩=some v) (hsp:∀j,j<(n+1)*6->(w.cell? ⟨b,off+j,none⟩).isSome=true) (hfz:∀j,j<(n+1)*6->w.frozen? ⟨b,off+j,none⟩=false)
  (hvs:∀j v,vs[j]?=some v->w.cell? ⟨vb,voff+j,none⟩=some v) (h1c:∀v∈cs,v.oneCell'=true) (h1v:∀v∈vs,v.oneCell'=true)
  (tA tB:TypeId) (kA kB:Nat) (hsa:w.shape? vb=some (tA,kA)) (hsb:w.shape? b=some (tB,kB)) (hkB:kB≠0) (hkA:kA≠0) (hfb:∀o,w.frozen? ⟨b,o,none⟩=false):
  Calls Tryz.prog 207 #[.slice (some ⟨b,off,none⟩) n c,.int .i64 i,.slice (some ⟨vb,voff,none⟩) 1 vc] w fun e w'=>
   e=.returned (.slice (some ⟨b,off,none⟩) (n+1) c)/\w'=(w.drew.setCells b (off+(i+1)*6) (cs.drop (i*6))).setCells b (off+i*6) vs:=by
 have hz2:¬((i:Int)=(n:Int)):=by omega
 have hov:∀cb,(callFunc 272 #[.slice (some ⟨vb,voff,none⟩) 1 vc,.slice (some ⟨b,off+(i+1)*6,none⟩) (n-i) cb]).run Tryz.prog w=.ok (.value (.bool false)) w:=fun cb=>by
  rw [run_callFunc_extern Tryz.func272 (by kernel_rfl) (by kernel_rfl) (by kernel_rfl) (e:=Extern.SlicesOverlaps.overlaps #[28,28] #[4]) (by kernel_rfl)];by_cases hvb:vb=b
  ·rw [run_overlaps_same w 28 4 31 und35 6 size78 ⟨vb,voff,none⟩ ⟨b,off+(i+1)*6,none⟩ 1 vc (n-i) cb hvb (fun h=>by
    obtain ⟨h1,h2⟩:=h;dsimp only at h1 h2;by_cases hlo:off+(i+1)*6<=voff;·exact hdis 0 (voff-off) (by omega) (by omega) hvb (by omega)
    exact hdis (off+(i+1)*6-voff) ((i+1)*6) (by omega) (by omega) hvb (by omega))]
   rfl
  rw [run_overlaps_own w 28 4 31 und35 6 size78 ⟨vb,voff,none⟩ ⟨b,off+(i+1)*6,none⟩ 1 vc (n-i) cb hvb tA tB kA kB hsa hsb hkB hkA (hfb _) (hfb _)];rfl
 have hdl:(cs.drop (i*6)).length=(n-i)*6:=by rw [qba,hcl];omega
 have hw1:IntKind.i64.wrap ((i:Int)+1)=(i:Int)+1:=by rw [IntKind.wrap_i64];omega
 have hb1:(0:Int)<=(i:Int)+1:=by omega
 have hin:i<=n:=by omega
 have htn:((i:Int)+1).toNat=i+1:=by omega
 have hb2:¬(c=i+1):=by omega
 have hb3:(i:Int)<=(n:Int)+1:=by omega
 have hb4:¬(c=i):=by omega
 have hcp1:∀ty dc sc,(Builtin.copy_ #[28,28] ty #[.slice (some ⟨b,off+(i+1)*6,none⟩) (n-i) dc,.slice (some ⟨b,off+i*6,none⟩) (n+1-i) sc]).run Tryz.prog w.drew=.ok (goInt (Nat.min (n+1-i) (n-i))) (w.drew.setCells b (off+(i+1)*6) (cs.drop (i*6))):=fun ty dc sc=>
  run_copy_k w.drew _ _ ty 31 6 b (off+(i+1)*6) (n-i) dc ⟨b,off+i*6,none⟩ (n+1-i) sc (cs.drop (i*6)) und35 info78 (by rw [hdl];congr 1;simp only [Nat.min_def];split<;>omega)
   (fun j v hj=>by rw [Addr.add_lit,Nat.add_assoc];exact hcs (i*6+j) v (by rwa [qa8] at hj))
   (fun j hj=>by rw [Nat.add_assoc];exact hsp _ (by omega)) (fun j hj=>by rw [Nat.add_assoc];exact hfz _ (by omega)) (fun v hv=>h1c v (List.mem_of_mem_drop hv))
 obtain ⟨W1,hW1⟩:∃W1,W1=w.drew.setCells b (off+(i+1)*6) (cs.drop (i*6)):=⟨_,rfl⟩;have hsp1:∀k,k<(n+1)*6->(W1.cell? ⟨b,off+k,none⟩).isSome=true:=fun k hk=>by rw [hW1];exact isSome_setCells b _ _ _ (fun j hj=>by rw [Nat.add_assoc];exact hsp _ (by omega)) _ (hsp k hk)
 have hcp2:∀(W:World),(∀x,W.cell? x=W1.cell? x)->(∀x,W.frozen? x=W1.frozen? x)->∀ty dc,(Builtin.copy_ #[28,28] ty #[.slice (some ⟨b,off+i*6,none⟩) (n+1-i) dc,.slice (some ⟨vb,voff,none⟩) 1 vc]).run Tryz.prog W=.ok (goInt (Nat.min 1 (n+1-i))) (W.setCells b (off+i*6) vs):=fun W hWc hWf ty dc=>
  run_copy_k W _ _ ty 31 6 b (off+i*6) (n+1-i) dc ⟨vb,voff,none⟩ 1 vc vs und35 info78 (by rw [hvl];simp only [Nat.min_def];split<;>omega)
   (fun j v hj=>by
    have hj':j<6:=by rw [<-hvl];exact (qaY.1 hj).1
    rw [Addr.add_lit,hWc,hW1,World.cell?_setCells_out b _ _ _ _ (fun h _=>by
     dsimp only at h ⊢;have h5:=hdis j (voff+j-off) hj';by_cases h6:off<=voff+j/\voff+j-off<(n+1)*6;·exact absurd (by omega) (h5 h6.2 h)
     omega)]
    exact hvs j v hj)
   (fun j hj=>by rw [hWc,Nat.add_assoc];exact hsp1 _ (by omega)) (fun j hj=>by rw [hWf,hW1,World.frozen?_setCells,Nat.add_assoc];exact hfz _ (by omega)) h1v
 rw [<-hW1] at hcp1;have mixed:Tryz.prog.follows .mixedOrders=true:=by kernel_rfl
 go_enter Tryz.func207,Tryz.ntmps207
 go_wp2_with (simp only [hov])
 go_region_law_o (refine step_copy_runI rfl _ _ 28 28 rfl _ _ (by simp [Act.eval,Act.put]) (by simp [Act.eval,Act.put]) (hcp1 _ _ _) ?_)
 go_wp2_with (at_builtin;refine wpList_copy_runI _ rfl _ _ 28 28 rfl _ _ rfl rfl (hcp2 _ (fun _=>rfl) (fun _=>rfl) _ _) ?_)
 go_ret
 first|exact ⟨rfl,rfl⟩|exact ⟨rfl,by rw [hW1]⟩
end Go.Proofs.YtonnphbfclaigaaGreatDoor.Iv
namespace Go.Proofs.YtonnphbfclaigaaGreatDoor.Iv
open Go.Em Go.RowKit Go.Lib
set_option maxHeartbeats 4000000 in
set_option maxRecDepth 100000 in
theorem ins_end (ob:Option Addr)(n c vb voff vc:Nat)(w w1:World)(v:Value)(hnc:n<=c)(hn3:n<=2000000)(hnil:ob=none->n=0/\c=0)
  (hrun:∀ty,(Builtin.append_ #[28,28] ty #[.slice ob n c,.slice (some ⟨vb,voff,none⟩) 1 vc]).run Tryz.prog w=.ok v w1):
  Calls Tryz.prog 207 #[.slice ob n c,.int .i64 n,.slice (some ⟨vb,voff,none⟩) 1 vc] w fun e w'=>e=.returned v/\w'=w1:=by
 have mixed:Tryz.prog.follows .mixedOrders=true:=by kernel_rfl
 go_enter Tryz.func207,Tryz.ntmps207
 cases ob with
 |none=>
  obtain ⟨rfl,rfl⟩:=hnil rfl
  go_wp2_with (at_builtin;refine Lib.wpList_append_run _ rfl _ _ _ _ rfl _ _ rfl rfl _ _ (hrun _) ?_)
  go_ret
  exact ⟨rfl,rfl⟩
 |some a=>
  obtain ⟨ab,ao,asp⟩:=a
  go_wp2_with (at_builtin;refine Lib.wpList_append_run _ rfl _ _ _ _ rfl _ _ rfl rfl _ _ (hrun _) ?_)
  all_goals (go_ret;exact ⟨rfl,rfl⟩)
def IsRow (r:Array Value)(l:List Value):Prop:=r=l.toArray
theorem info78b:(Tryz.prog.info? 31).map (fun i=>(i.zero.map (·.cells.size),i.size,i.bytes))=some (some 6,6,88):=by kernel_rfl
theorem und3:Tryz.prog.underlying 3=some (.int .i64):=by kernel_rfl
set_option maxHeartbeats 4000000 in
set_option maxRecDepth 100000 in
theorem ins_grow (b off n c i vb voff vc:Nat)(cs vs:List Value)(w:World)(hi:i<n)(hnc:n<=c)(hroom:c<n+1)(hc63:c<=4000000)
  (hcl:cs.length=n*6) (hvl:vs.length=6)
  (hcs:∀j v,cs[j]?=some v->w.cell? ⟨b,off+j,none⟩=some v)
  (hvs:∀j v,vs[j]?=some v->w.cell? ⟨vb,voff+j,none⟩=some v) (h1c:∀v∈cs,v.oneCell'=true) (h1v:∀v∈vs,v.oneCell'=true):
  Calls Tryz.prog 207 #[.slice (some ⟨b,off,none⟩) n c,.int .i64 i,.slice (some ⟨vb,voff,none⟩) 1 vc] w fun e w'=>
   ∃(G:Nat) (tl:List Value),n+1<=G/\e=.returned (.slice (some ⟨w.heap.size,0,none⟩) (n+1) G)/\tl.length=(G-i)*6/\
   w'=(((w.alloc (.cells ((cs.take (i*6))++tl).toArray 31)).drew.setCells w.heap.size (i*6) vs).drew).setCells w.heap.size ((i+1)*6) (cs.drop (i*6)):=by
 obtain ⟨i0,hi0,hz0,hzs,hzb⟩:∃i0,Tryz.prog.info? 31=some i0/\i0.zero.map (·.cells.size)=some 6/\i0.size=6/\i0.bytes=88:=by obtain ⟨i0,h1,h2⟩:=qa1.1 info78b;simp only [qaH] at h2;exact ⟨i0,h1,h2.1,h2.2.1,h2.2.2⟩
 obtain ⟨zv,hz0,hzc⟩:=qa1.1 hz0;have hz2:¬((i:Int)=(n:Int)):=by omega
 have hz3:(c:Int)<(n:Int)+1:=by omega
 have hbw:b<w.heap.size:=block_lt_of_cell (hcs 0 _ (qa3 (by omega)));have hvw:vb<w.heap.size:=block_lt_of_cell (hvs 0 _ (qa3 (by omega)));have hkk:(n:Int)+1-(i:Int)=((n+1-i:Nat):Int):=by omega
 have hik:i+(n+1-i)=n+1:=by omega
 have hold:(Builtin.firstCells i0.size i (.slice (some ⟨b,off,none⟩) i c)).run Tryz.prog w.drew=.ok (cs.take (i*6)).toArray w.drew:=by
  rw [hzs];exact run_firstCells_some w.drew 6 i ⟨b,off,none⟩ i c (cs.take (i*6)) (by rw [qaN];omega) (fun j v hj=>by
   rw [Addr.add_lit];rw [qbb] at hj;split at hj;·exact hcs j v hj
   cases hj)
 have hrz:∀ty,(Builtin.append_ #[28,3] ty #[.slice (some ⟨b,off,none⟩) i c,.int .i64 ((n:Int)+1-(i:Int))]).run Tryz.prog w=
   .ok (.slice (some ⟨w.heap.size,0,none⟩) (n+1) (grownCap w (n+1) c 31)) (w.drew.alloc (.cells ((cs.take (i*6)).toArray++Builtin.zeroCells zv.cells (n+1-i)++Builtin.zeroCells zv.cells (grownCap w (n+1) c 31-(n+1))) 31)):=fun ty=>by
  have h:=Lib.run_append_grow_zeros w 28 3 ty 31 i0 zv .i64 .i64 und35 und3 hi0 hz0 (some ⟨b,off,none⟩) i c (cs.take (i*6)) hold (n+1-i) (by omega) (by omega) (by omega) (by omega) (by rw [hzb];omega) (by rw [hzb,hik];exact growslice_fits hroom (by omega));rw [hik] at h;rw [hkk];exact h
 have hGn:n+1<=grownCap w (n+1) c 31:=grownCap_ge w _ _ _;have hG63:grownCap w (n+1) c 31<=9223372036854775807:=by have:=grownCap_le_maxLen w (n+1) c 31 (by unfold maxLen;omega);unfold maxLen at this;omega
 generalize grownCap w (n+1) c 31=G at hrz hGn hG63;have hzl:∀k,(Builtin.zeroCells zv.cells k).size=k*6:=fun k=>by simp [Builtin.zeroCells,hzc]
 obtain ⟨tl,htl⟩:∃tl:List Value,(cs.take (i*6)).toArray++Builtin.zeroCells zv.cells (n+1-i)++Builtin.zeroCells zv.cells (G-(n+1))=((cs.take (i*6))++tl).toArray/\tl.length=(G-i)*6:=by
  refine ⟨(Builtin.zeroCells zv.cells (n+1-i)).toList++(Builtin.zeroCells zv.cells (G-(n+1))).toList,?_,?_⟩;·apply Array.toList_inj.1;simp
  rw [qaZ,Array.length_toList,Array.length_toList,hzl,hzl];omega
 obtain ⟨htl,htll⟩:=htl;rw [htl] at hrz;obtain ⟨ROW,hROW⟩:∃ROW:Array Value,ROW=((cs.take (i*6))++tl).toArray:=⟨_,rfl⟩;have hRl:(n+1)*6<=ROW.size:=by rw [hROW];simp only [List.size_toArray,qaZ,qaN,htll];omega
 rw [<-hROW] at hrz;obtain ⟨W1,hW1⟩:∃W1,W1=w.drew.alloc (.cells ROW 31):=⟨_,rfl⟩;rw [<-hW1] at hrz;have hN:∀j,j<(n+1)*6->(W1.cell? ⟨w.heap.size,j,none⟩).isSome=true:=fun j hj=>by rw [hW1,World.cell?_alloc_at (w:=w.drew) ROW _ w.heap.size j rfl,qa7 (by omega)];rfl
 have hNf:∀j,W1.frozen? ⟨w.heap.size,j,none⟩=false:=fun j=>by rw [hW1];exact World.frozen?_alloc_at (w:=w.drew) ROW _ w.heap.size j rfl
 have hOb:∀j v,w.cell? ⟨b,j,none⟩=some v->W1.cell? ⟨b,j,none⟩=some v:=fun j v h=>by rw [hW1,World.cell?_alloc_past (w:=w.drew) _ b j hbw];exact h
 have hOv:∀j v,w.cell? ⟨vb,j,none⟩=some v->W1.cell? ⟨vb,j,none⟩=some v:=fun j v h=>by rw [hW1,World.cell?_alloc_past (w:=w.drew) _ vb j hvw];exact h
 have hcpA:∀(W:World),(∀x,W.cell? x=W1.cell? x)->(∀x,W.frozen? x=W1.frozen? x)->∀ty dc,(Builtin.copy_ #[28,28] ty #[.slice (some ⟨w.heap.size,i*6,none⟩) (n+1-i) dc,.slice (some ⟨vb,voff,none⟩) 1 vc]).run Tryz.prog W=.ok (goInt (Nat.min 1 (n+1-i))) (W.setCells w.heap.size (i*6) vs):=fun W hWc hWf ty dc=>
  run_copy_k W _ _ ty 31 6 w.heap.size (i*6) (n+1-i) dc ⟨vb,voff,none⟩ 1 vc vs und35 info78 (by rw [hvl];simp only [Nat.min_def];split<;>omega)
   (fun j v hj=>by rw [Addr.add_lit,hWc];exact hOv _ v (hvs j v hj))
   (fun j hj=>by rw [hWc];exact hN _ (by omega)) (fun j hj=>by rw [hWf];exact hNf _) h1v
 have hGi:¬(G=i):=by omega
 have hGim:¬(G=i+1):=by omega
 have hci:¬(c=i):=by omega
 have hbN:b≠w.heap.size:=by omega
 have hdl:(cs.drop (i*6)).length=(n-i)*6:=by rw [qba,hcl];omega
 have hcpB:∀(W:World),(∀x,W.cell? x=(W1.setCells w.heap.size (i*6) vs).cell? x)->(∀x,W.frozen? x=(W1.setCells w.heap.size (i*6) vs).frozen? x)->∀ty dc sc,(Builtin.copy_ #[28,28] ty #[.slice (some ⟨w.heap.size,(i+1)*6,none⟩) (n-i) dc,.slice (some ⟨b,off+i*6,none⟩) (n-i) sc]).run Tryz.prog W=.ok (goInt (Nat.min (n-i) (n-i))) (W.setCells w.heap.size ((i+1)*6) (cs.drop (i*6))):=fun W hWc hWf ty dc sc=>
  run_copy_k W _ _ ty 31 6 w.heap.size ((i+1)*6) (n-i) dc ⟨b,off+i*6,none⟩ (n-i) sc (cs.drop (i*6)) und35 info78 (by rw [hdl];simp)
   (fun j v hj=>by rw [Addr.add_lit,hWc,World.cell?_setCells_out _ _ _ _ _ (fun h _=>absurd h hbN),Nat.add_assoc];exact hOb _ v (hcs (i*6+j) v (by rwa [qa8] at hj)))
   (fun j hj=>by rw [hWc];exact isSome_setCells _ _ _ _ (fun t ht=>hN _ (by omega)) _ (hN _ (by omega)))
   (fun j hj=>by rw [hWf,World.frozen?_setCells];exact hNf _) (fun v hv=>h1c v (List.mem_of_mem_drop hv))
 subst hW1;have hE1:∀x,((w.alloc (.cells ROW 31)).drew).cell? x=(w.drew.alloc (.cells ROW 31)).cell? x:=fun x=>rfl;have hE2:∀x,((w.alloc (.cells ROW 31)).drew).frozen? x=(w.drew.alloc (.cells ROW 31)).frozen? x:=fun x=>rfl;have hF1:∀x,(((w.alloc (.cells ROW 31)).drew.setCells w.heap.size (i*6) vs).drew).cell? x=((w.drew.alloc (.cells ROW 31)).setCells w.heap.size (i*6) vs).cell? x:=fun x=>rfl;have hF2:∀x,(((w.alloc (.cells ROW 31)).drew.setCells w.heap.size (i*6) vs).drew).frozen? x=((w.drew.alloc (.cells ROW 31)).setCells w.heap.size (i*6) vs).frozen? x:=fun x=>rfl;have hw1:IntKind.i64.wrap ((i:Int)+1)=(i:Int)+1:=by rw [IntKind.wrap_i64];omega
 have hb1:(0:Int)<=(i:Int)+1:=by omega
 have hin:i<=n:=by omega
 have htn:((i:Int)+1).toNat=i+1:=by omega
 have hb3:(i:Int)<=(n:Int):=by omega
 have mixed:Tryz.prog.follows .mixedOrders=true:=by kernel_rfl
 have hkeep:IsRow ROW ((cs.take (i*6))++tl):=hROW;clear hkk hik hold hRl htl hROW
 go_enter Tryz.func207,Tryz.ntmps207
 go_wp2_with (first
  |(at_builtin;refine Lib.wpList_append_run _ rfl _ _ _ _ rfl _ _ rfl rfl _ _ (hrz _) ?_)
  |(at_builtin;refine wpList_copy_runI _ rfl _ _ 28 28 rfl _ _ rfl rfl (hcpA _ hE1 hE2 _ _) ?_)
  |(at_builtin;refine wpList_copy_runI _ rfl _ _ 28 28 rfl _ _ rfl rfl (hcpB _ (fun _=>rfl) (fun _=>rfl) _ _ _) ?_))
 go_region_law_o (refine step_copy_runI rfl _ _ 28 28 rfl (.slice (some ⟨w.heap.size,(i+1)*6,none⟩) (n-i) (G-(i+1))) (.slice (some ⟨b,off+i*6,none⟩) (n-i) (c-i)) (by simp [Act.eval,Act.put]) (by simp [Act.eval,Act.put]) (hcpB _ hF1 hF2 3 (G-(i+1)) (c-i)) ?_)
 go_wp2
 go_ret
 exact ⟨G,tl,hGn,rfl,htll,by unfold IsRow at hkeep;rw [<-hkeep]⟩
end Go.Proofs.YtonnphbfclaigaaGreatDoor.Iv
