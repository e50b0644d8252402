/-.-/
import Derived.Shelf.Strings.Repeat
import Derived.Shelf.Strconv.AtoiAll
import Derived.Shelf.Unicode.DecodeAny
import Derived.Shelf.Strings.Search2
import Derived.Lib.AppendIntMem
import Derived.Lib.SmallJoins
import Derived.Shelf.Strings.BuilderRune
import Derived.Shelf.Strings.BuilderK
import Derived.Shelf.Spec.SlicesInsertGrow
import Derived.Test.YtonnphbfclaigaaGreatDoorW17
set_option linter.all false
namespace Go.Proofs
open Go.Shelf
namespace YtonnphbfclaigaaGreatDoor
open Go.RowKit Go.Em
section
variable {P:Program} {R:CodeRel}
theorem fsem_rep {f:FuncId}{args:List X}{inb:List Bx}{y:X}(h:∀(cargs:Array Value) (w:World) (K:Kn) (C:List CB),Inv P R K C inb w->ArgsRep K C args cargs->Calls P f cargs w fun e w'=>∃u,e=.returned u/\(∀K C,Rep K C y u)/\Below w.heap.size w w'):FSem P R f args inb y inb:=by
 intro K C w cargs hI ha;refine (h cargs w K C hI ha).mono ?_
 rintro e w' ⟨u,rfl,hr,hB⟩
 have hf:=frame_of_below hB;exact ⟨u,K,[],rfl,owns_same (hI.still hf),hr _ _,KLe.refl _,fun b o v e=>.inl e,fun b o ho=>.inl (by grind),hf.mono (fun b o _ hs=>hs.elim),fun i B hB hl=>⟨B,hB,hl⟩⟩
theorem one_arg {K:Kn}{C:List CB}{u:Value}{cargs:Array Value}(ha:ArgsRep K C [.v u] cargs):cargs=#[u]:=by
 have hs:cargs.size=1:=ha.1;have r0:=rep_v (ha.2 0 _ cargs[0] rfl (qao (by omega)))
 grind
theorem two_args {K:Kn}{C:List CB}{u v:Value}{cargs:Array Value}(ha:ArgsRep K C [.v u,.v v] cargs):cargs=#[u,v]:=by
 have hs:cargs.size=2:=ha.1;have r0:=rep_v (ha.2 0 _ cargs[0] rfl (qao (by omega)));have r1:=rep_v (ha.2 1 _ cargs[1] rfl (qao (by omega)))
 grind
theorem rep_two {K:Kn}{C:List CB}{x y:X}{u v:Value}(h1:Rep K C x u)(h2:Rep K C y v):Rep K C (.tup [x,y]) (.tuple #[u,v]):=by
 refine .tup rfl fun j a b ha hb=>?_
 grind
end
theorem glob_cell {R:CodeRel}(hR:R.gl=gl){K:Kn}{C:List CB}{bx:List Bx}{w:World}(hI:Inv Tryz.prog R K C bx w){g:Nat}{cs:List X}(hg:gl g=some cs){j:Nat}{x:X}(hj:cs[j]?=some x):∃v,w.cell? ⟨g,j,none⟩=some v/\Rep K [] x v:=by
 have h:=hI.glob g cs (by simp_all);cases h with
 |dp vals hcell hk hr=>have e3:=hI.known _ _ _ (hk j _ hj)<;>grind
theorem pow_of {R:CodeRel}(hR:R.gl=gl){K:Kn}{C:List CB}{bx:List Bx}{w:World}(hI:Inv Tryz.prog R K C bx w):PowIs (Tryz.laysItoa_ren.g 17) w:=by
 rw [show Tryz.laysItoa_ren.g 17=3 by kernel_rfl];intro i hi;obtain ⟨v,h1,h2⟩:=glob_cell hR hI (g:=3) rfl (j:=i) (x:=.v (.int .u64 ((10^i:Nat):Int))) (by grind)
 grind[rep_v]
theorem itoa_sem {R:CodeRel}(hR:R.gl=gl)(z:Int)(h0:-9223372036854775808<=z)(h1:z<=9223372036854775807)(inb:List Bx):FSem Tryz.prog R 123 [.v (.int .i64 z)] inb (.v (.string ⟨(Lib.itoa z).toArray⟩)) inb:=by
 refine fsem_rep fun cargs w K C hI ha=>?_;rw [one_arg ha];refine (AnyC.strconv_Itoa Tryz.laysItoa z h0 h1 w (pow_of hR hI)).mono ?_
 rintro e w' ⟨rfl,k,os,rfl⟩
 exact ⟨_,rfl,fun _ _=>.v rfl,Lib.below_grow _ _ (Nat.le_refl _) _ _⟩
theorem repeat_extra:Builder.Extra Tryz.prog Tryz.laysRep_ren:={
 sizeBuilder:=by kernel_rfl
 liesBuilder:=by kernel_rfl
 t5:=Tryz.laysRep.t5
 a5:=Tryz.laysRep.a5
 z5:=Tryz.laysRep.z5
 v5:=Tryz.laysRep.v5
 infoByte:=by kernel_rfl
 cellsByte:=by kernel_rfl
 sizeByte:=by kernel_rfl
 neB5:=by decide}
theorem repeat_sem {R:CodeRel}(s:qaW)(c:Int)(h0:0<=c)(h1:c<=1000000)(h2:s.size<=1000000)(inb:List Bx):FSem Tryz.prog R 536 [.v (.string s),.v (.int .i64 c)] inb (.v (.string ⟨(Lib.repeatL s.data.toList c.toNat).toArray⟩)) inb:=by
 refine fsem_rep fun cargs w K C hI ha=>?_;rw [two_args ha];obtain ⟨n,rfl⟩:∃n:Nat,c=n:=⟨c.toNat,by omega⟩;have hn:n<=1000000:=by omega
 have hm:=Nat.mul_le_mul h2 hn;refine (Any.strings_Repeat Tryz.laysRep repeat_extra s n w (by omega) (by omega)).mono ?_
 rintro e w' ⟨rfl,hB⟩
 exact ⟨_,rfl,fun _ _=>.v rfl,hB⟩
theorem tabsD_of {R:CodeRel}(hR:R.gl=gl){K:Kn}{C:List CB}{bx:List Bx}{w:World}(hI:Inv Tryz.prog R K C bx w):Lib.Utf8Tabs (Tryz.laysDec_ren.g 3) (Tryz.laysDec_ren.g 4) w:=by
 have cell:∀(g:Nat) (cs:List X),gl g=some cs->∀(j:Nat) (v:Value),cs[j]?=some (.v v)->w.cell? ⟨g,j,none⟩=some v:=fun g cs hg j v hj=>by grind[glob_cell,rep_v]
 rw [show Tryz.laysDec_ren.g 3=1 by kernel_rfl,show Tryz.laysDec_ren.g 4=2 by kernel_rfl];constructor
 ·intro c hc;have hall:((List.range 256).all fun c=>match (bytesX Go.Pinned.utf8FirstZ)[c]? with
   |some (.v (.int .u8 z))=>z==Lib.firstT c
   |_=>false)=true:=by kernel_rfl
  have h1:=qaA.1 hall c (List.mem_range.2 hc);split at h1;next z hz=>rw [cell 1 _ rfl c _ hz,eq_of_beq h1]
  grind
 intro i hi;have hall:((List.range 16).all fun i=>(match (bytesX ([128,191,160,191,128,159,144,191,128,143]++List.replicate 22 0))[2*i]? with
  |some (.v (.int .u8 z))=>z==Lib.accLo i
  |_=>false)&&(match (bytesX ([128,191,160,191,128,159,144,191,128,143]++List.replicate 22 0))[2*i+1]? with
  |some (.v (.int .u8 z))=>z==Lib.accHi i
  |_=>false))=true:=by kernel_rfl
 have h1:=qaA.1 hall i (List.mem_range.2 hi);rw [qag] at h1;obtain ⟨h1,h2⟩:=h1;constructor
 ·split at h1;next z hz=>rw [cell 2 _ rfl (2*i) _ hz,eq_of_beq h1]
  grind
 split at h2;next z hz=>rw [cell 2 _ rfl (2*i+1) _ hz,eq_of_beq h2]
 grind
theorem decode_sem {R:CodeRel}(hR:R.gl=gl)(s:qaW)(inb:List Bx):FSem Tryz.prog R 533 [.v (.string s)] inb (.tup [.v (.int .i32 (decGo s).1),.v (.int .i64 (decGo s).2)]) inb:=by
 refine fsem_rep fun cargs w K C hI ha=>?_;rw [one_arg ha];refine (Any.utf8_DecodeRuneInString Tryz.laysDec s w (tabsD_of hR hI)).mono ?_
 rintro e w' ⟨rfl,hB⟩
 exact ⟨_,rfl,fun _ _=>rep_two (.v rfl) (.v rfl),hB⟩
theorem err_cell {R:CodeRel}(hR:R.gl=gl){K:Kn}{C:List CB}{bx:List Bx}{w:World}(hI:Inv Tryz.prog R K C bx w){g:Nat}(hg:gl g=some [.ifc]):∃v,w.cell? ⟨g,0,none⟩=some v/\(v=.nilIface\/∃te pe,v=.iface te pe):=by obtain ⟨v,h1,h2⟩:=glob_cell hR hI hg (j:=0) (x:=.ifc) rfl;cases h2<;>simp_all
def atoiRes (s:qaW):X:=match Lib.atoiAll s.data.toList with
 |.ok v=>.tup [.v (.int .i64 v),.v .nilIface]
 |.range=>.tup [.v (.int .i64 (Lib.atoiSat s.data.toList)),.ifc]
 |_=>.tup [.v (.int .i64 0),.ifc]
theorem atoi_sem {R:CodeRel}(hR:R.gl=gl)(s:qaW)(hs:s.size<=281474976710656)(inb:List Bx):FSem Tryz.prog R 392 [.v (.string s)] inb (atoiRes s) inb:=by
 refine fsem_rep fun cargs w K C hI ha=>?_;rw [one_arg ha];unfold atoiRes;cases h:Lib.atoiAll s.data.toList with
 |ok v=>
  refine (Any.strconv_Atoi_ok Tryz.laysAtoi s (by omega) v h w).mono ?_
  rintro e w' ⟨rfl,hB⟩
  refine ⟨_,rfl,fun _ _=>rep_two (.v rfl) (.v rfl),?_⟩;rcases hB with rfl|⟨t,rfl⟩<;>simp_all[Below.refl,Go.Joins.below_bytesWorld]
 |range=>
  obtain ⟨v,h1,h2⟩:=err_cell hR hI (g:=7) rfl;refine (Any.strconv_Atoi_range Tryz.laysAtoi s hs h v w (by rw [show Tryz.laysAtoi_ren.g 16=7 by kernel_rfl]<;>grind) h2).mono ?_
  rintro e w' ⟨N,rfl,_,_,hB⟩
  exact ⟨_,rfl,fun _ _=>rep_two (.v rfl) .ifc,hB⟩
 |_=>
  obtain ⟨v,h1,h2⟩:=err_cell hR hI (g:=6) rfl;refine (Any.strconv_Atoi_syntax Tryz.laysAtoi s hs h v w (by rw [show Tryz.laysAtoi_ren.g 15=6 by kernel_rfl]<;>grind) h2).mono ?_
  rintro e w' ⟨N,rfl,_,_,hB⟩
  exact ⟨_,rfl,fun _ _=>rep_two (.v rfl) .ifc,hB⟩
theorem index1_sem {R:CodeRel}(s c:qaW)(b:UInt8)(hc:c.data.toList=[b])(inb:List Bx):FSem Tryz.prog R 517 [.v (.string s),.v (.string c)] inb (.v (.int .i64 (Lib.indexByte s.data.toList b))) inb:=by
 refine fsem_rep fun cargs w K C hI ha=>?_;rw [two_args ha];have hc':c=⟨#[b]⟩:=by
  obtain ⟨d⟩:=c
  congr
  apply Array.toList_inj.1;exact hc
 rw [hc'];refine (Any.stringslite_Index_one Tryz.laysIdx s b w).mono ?_
 rintro e w' ⟨rfl,hw⟩
 exact ⟨_,rfl,fun _ _=>.v rfl,hw▸Below.refl _ _⟩
theorem anyFrom_eq (s:qaW):∀(f pos:Nat),anyFrom s marks f pos=Mk.seek s f pos
 |0,_=>rfl
 |f+1,pos=>by unfold anyFrom Mk.seek;rw [anyFrom_eq s f];rfl
theorem marks_sem {R:CodeRel}(s:qaW)(hs:s.size<4294967281)(inb:List Bx):FSem Tryz.prog R 389 [.v (.string s),.v (.string marks)] inb (.v (.int .i64 (if s.size<=8 then anyFrom s marks s.size 0 else Lib.indexAny s.data.toList marks.data.toList))) inb:=by
 refine fsem_rep fun cargs w K C hI ha=>?_;rw [two_args ha];by_cases h8:s.size<=8
 ·rw [if_pos h8,anyFrom_eq];refine (Mk.indexAny_short {Tryz.laysAny with} s w h8).mono ?_
  rintro e w' ⟨rfl,hB⟩
  exact ⟨_,rfl,fun _ _=>.v rfl,hB⟩
 rw [if_neg h8];have hz:(Tryz.prog.info? (Tryz.laysAny_ren.t 116)).map (fun i=>(i.zero,i.size))=some (some (.agg (Array.replicate 256 (.bool false))),256):=by kernel_rfl
 refine (Any.strings_IndexAny_long Tryz.laysAny (zero_of_info hz).1 (zero_of_info hz).2 s marks w (by decide) (by omega) hs (by decide) (fun j b hb=>?_)).mono ?_
 ·have h3:∀b∈[46,91,63],(b:UInt8).toNat<128:=by decide
  exact h3 b (qas hb)
 rintro e w' ⟨rfl,hw⟩
 refine ⟨_,rfl,fun _ _=>.v rfl,?_⟩;rw [hw];exact ((Below.refl _ _).alloc (Nat.le_refl _) _).alloc (by simp) _
theorem ints_length:∀{es:qaV} {zs:List Int},intsOf es=some zs->es.length=zs.length/\∀j,j<zs.length->es[j]?=some [.v (.int .i64 (zs.getD j 0))]
 |[],zs,h=>by simp_all[intsOf]
 |e::r,zs,h=>by
  unfold intsOf at h;split at h
  ·grind
  ·rename_i z r' heq;obtain ⟨rfl,rfl⟩:=List.cons.inj heq;split at h;next l hl=>simp at h;subst h;obtain ⟨h1,h2⟩:=ints_length hl<;>grind
   grind
  grind
end YtonnphbfclaigaaGreatDoor
namespace YtonnphbfclaigaaGreatDoor
open Go.RowKit Go.Em
theorem wr_extra:Builder.Extra Tryz.prog Tryz.laysWR_ren:={
 sizeBuilder:=by kernel_rfl
 liesBuilder:=by kernel_rfl
 t5:=Tryz.laysWR.t5
 a5:=Tryz.laysWR.a5
 z5:=Tryz.laysWR.z5
 v5:=Tryz.laysWR.v5
 infoByte:=by kernel_rfl
 cellsByte:=by kernel_rfl
 sizeByte:=by kernel_rfl
 neB5:=by decide}
theorem bs_extra:Builder.Extra Tryz.prog Tryz.laysBS_ren:={
 sizeBuilder:=by kernel_rfl
 liesBuilder:=by kernel_rfl
 t5:=Tryz.laysWR.t5
 a5:=Tryz.laysWR.a5
 z5:=Tryz.laysWR.z5
 v5:=Tryz.laysWR.v5
 infoByte:=by kernel_rfl
 cellsByte:=by kernel_rfl
 sizeByte:=by kernel_rfl
 neB5:=by decide}
set_option maxHeartbeats 1000000 in
set_option maxRecDepth 100000 in
theorem isPoint_calls (z:Int)(w:World):Calls Tryz.prog 486 #[.int .i64 z] w fun e w'=>e=.returned (.bool (pointOk z))/\w'=w:=by
 have e:pointOk z=(decide (0<=z)&&decide (z<=1114111)&&(decide (z<55296)||decide (57343<z))):=by unfold pointOk;rw [Bool.eq_iff_iff];simp;omega
 rw [e]
 go_enter Tryz.func486,Tryz.ntmps486
 go_wp2
 all_goals (go_ret;refine ⟨?_,rfl⟩;simp_all<;>omega)
theorem flat_len (zs:List Int):(zs.flatMap Lib.encodeRune).length<=4*zs.length:=by
 induction zs with
 |nil=>grind
 |cons z r ih=>grind[Lib.encodeRuneZ_length,Lib.encodeRune]
theorem byteCells_append (a b:List UInt8):Lib.byteCells (a++b)=Lib.byteCells a++Lib.byteCells b:=by simp [Lib.byteCells]
def ptRes (zs:List Int):Value:=if zs.all pointOk then .tuple #[.string ⟨(zs.flatMap Lib.encodeRune).toArray⟩,.int .i64 0] else .tuple #[.string ⟨#[]⟩,.int .i64 2]
set_option maxHeartbeats 4000000 in
set_option maxRecDepth 100000 in
theorem points_calls (zs:List Int)(hz:zs.length<=1000000)(v:Value)(w:World)(hv:(∃ob,v=.slice ob 0 0/\zs=[])\/∃b o cap,v=.slice (some ⟨b,o,none⟩) zs.length cap/\∀j,j<zs.length->w.cell? ⟨b,o+j,none⟩=some (.int .i64 (zs.getD j 0))):
  Calls Tryz.prog 430 #[v] w fun e w'=>e=.returned (ptRes zs)/\Below w.heap.size w w':=by
 have hstr:∀(l:List UInt8) (wx:World),Lib.IsBuilderF 168 5 w.heap.size w.heap.size (Lib.byteCells l) wx->w.heap.size<=wx.heap.size->Calls Tryz.prog 125 #[.pointer (some ⟨w.heap.size,0,none⟩)] wx fun e w'=>e=.returned (.string ⟨l.toArray⟩)/\Below w.heap.size wx w':=fun l wx h hs=>by refine (Any.Builder_String_any_k Tryz.laysBS bs_extra w.heap.size w.heap.size l wx h hs).mono ?_<;>grind
 have hb0:=Lib.IsBuilderF.of (Lib.fresh_isBuilder 168 5 w);have hB0:Below w.heap.size w (w.alloc (Obj.cells #[Value.pointer none,Value.slice none 0 0] 168)):=(Below.refl _ _).alloc (Nat.le_refl _) _;rcases hv with ⟨ob,rfl,rfl⟩|⟨b,o,cap,rfl,hc⟩
 ·go_enter Tryz.func430,Tryz.ntmps430
  go_wp2
  go_loopg [6,9] 0 (fun g _ s9 wx=>s9=.int .i64 0/\Lib.IsBuilderF 168 5 w.heap.size w.heap.size (Lib.byteCells []) wx/\Below w.heap.size w wx)
  case atStart=>exact ⟨rfl,hb0,hB0⟩
  case round=>
   obtain ⟨rfl,hb,hB⟩:=hrel;have hl:=hstr [] _ hb hB.size;have HL:=Lib.hid hl;clear hl hstr
   go_wp2_with (go_at_call 125;refine HL.out.mono ?_;rintro e w2 ⟨rfl,hB2⟩)
   go_ret2
   exact ⟨rfl,hB.trans hB2⟩
 have hcells:∀wx,Below w.heap.size w wx->∀j,j<zs.length->wx.cell? ⟨b,o+j,none⟩=some (.int .i64 (zs.getD j 0)):=fun wx hB j hj=>by
  have h1:=hc j hj;have hlt:b<w.heap.size:=by
   rcases Nat.lt_or_ge b w.heap.size with h'|h'
   ·grind
   ·grind[World.cell?]
  unfold World.cell? at h1 ⊢;rw [hB.block b hlt]<;>grind
 clear hc
 go_enter Tryz.func430,Tryz.ntmps430
 go_wp2
 go_loopg [6,9] zs.length (fun g _ s9 wx=>∃i:Nat,i+g=zs.length/\s9=.int .i64 i/\Lib.IsBuilderF 168 5 w.heap.size w.heap.size (Lib.byteCells ((zs.take i).flatMap Lib.encodeRune)) wx/\Below w.heap.size w wx/\Aside ((zs.take i).all pointOk=true))
 case atStart=>exact ⟨0,by omega,rfl,hb0,hB0,rfl⟩
 case round=>
  obtain ⟨i,hig,rfl,hb,hB,A⟩:=hrel;cases gk with
  |zero=>
   obtain rfl:i=zs.length:=by omega
   have hiz:¬((zs.length:Int)<(zs.length:Int)):=by omega
   have hl:=hstr ((zs.take zs.length).flatMap Lib.encodeRune) _ hb hB.size;have HL:=Lib.hid hl;clear hcells hl hstr
   go_wp2_with (go_at_call 125;refine HL.out.mono ?_;rintro e w2 ⟨rfl,hB2⟩)
   go_ret2
   have hA:=A.out;rw [List.take_length] at hA;refine ⟨?_,hB.trans hB2⟩;have hr:ptRes zs=.tuple #[.string ⟨(zs.flatMap Lib.encodeRune).toArray⟩,.int .i64 0]:=by unfold ptRes;rw [hA];rfl
   rw [hr];rfl
  |succ g=>
   have hi:i<zs.length:=by omega
   have hiz:(i:Int)<(zs.length:Int):=by omega
   have hcell:=hcells wr hB i hi;clear hcells;have hstep:zs.take (i+1)=zs.take i++[zs.getD i 0]:=by rw [List.take_add_one,qad hi,qaF,qad hi];rfl
   have hmem:zs.getD i 0∈zs:=by rw [qaF,qad hi];exact qal hi
   have H1:Aside (zs.take (i+1)=zs.take i++[zs.getD i 0]):=hstep;have H2:Aside (zs.getD i 0∈zs):=hmem;clear hstep hmem;obtain ⟨z,hz'⟩:∃z,zs.getD i 0=z:=⟨_,rfl⟩;rw [hz'] at hcell;have H3:Aside (zs.getD i 0=z):=hz';clear hz';cases hp:pointOk z with
   |false=>
    go_wp2_with (go_at_call 486;refine (isPoint_calls z _).mono ?_;rintro e w' ⟨rfl,hw⟩;rw [hw,hp])
    go_ret2
    have hall:zs.all pointOk=false:=by rw [List.all_eq_false];exact ⟨z,by rw [<-H3.out]<;>grind,by grind⟩
    have hr:ptRes zs=.tuple #[.string ⟨#[]⟩,.int .i64 2]:=by unfold ptRes;rw [hall];rfl
    exact ⟨by rw [hr];rfl,hB⟩
   |true=>
    have hp':=of_decide_eq_true hp;have hwr:IntKind.i32.wrap z=z:=by unfold IntKind.wrap;simp [IntKind.bits,IntKind.signed];omega
    have hlen:(Lib.byteCells ((zs.take i).flatMap Lib.encodeRune)).length+4<=140737488355328:=by have:=flat_len (zs.take i);rw [qac] at this;simp only [Lib.byteCells,qay];omega
    have hw:=Any.Builder_WriteRune_k Tryz.laysWR wr_extra w.heap.size w.heap.size _ z (by omega) (by omega) wr hb hlen hB.size;have HW:=Lib.hid hw;clear hlen hw hstr
    go_wp2_with (first
     |(go_at_call 486;refine (isPoint_calls z _).mono ?_;rintro e w' ⟨rfl,hw⟩;rw [hw,hp])
     |(go_at_call 487;refine HW.out.mono ?_;rintro e w2 ⟨rfl,hb2,hB2,_⟩))
    go_roundg g
    case measure=>omega
    case rel=>
     refine ⟨i+1,by omega,rfl,.inr ?_,hB.trans hB2,?_⟩
     ·rw [H1.out,List.flatMap_append,byteCells_append,H3.out];have:Lib.byteCells ([z].flatMap Lib.encodeRune)=Lib.runeCells z:=by rw [List.flatMap_cons,List.flatMap_nil,List.append_nil,Lib.byteCells_encodeRune]
      rw [this];exact hb2
     show _=_;rw [H1.out,List.all_append,A.out,H3.out]<;>grind
theorem points_sem {R:CodeRel}(t:Bool)(es:qaV)(zs:List Int)(h:intsOf es=some zs)(hz:zs.length<=1000000)(inb:List Bx):
  FSem Tryz.prog R 430 [.sl t 1 es] inb (if zs.all pointOk then .tup [.v (.string ⟨(zs.flatMap Lib.encodeRune).toArray⟩),.v (.int .i64 0)] else .tup [.v (.string ⟨#[]⟩),.v (.int .i64 2)]) inb:=by
 refine fsem_rep fun cargs w K C hI ha=>?_;obtain ⟨h1,h2⟩:=ints_length h;have hs:cargs.size=1:=ha.1;have r0:=ha.2 0 _ cargs[0] rfl (qao (by omega));have hca:cargs=#[cargs[0]]:=by
  refine Array.ext (by grind) fun i h1 h2=>?_
  match i,h1,h2 with
  |0,_,_=>rfl
  |i+1,h1,_=>omega
 rw [hca];generalize cargs[0]=v at r0;have hv:(∃ob,v=.slice ob 0 0/\zs=[])\/∃b o cap,v=.slice (some ⟨b,o,none⟩) zs.length cap/\∀j,j<zs.length->w.cell? ⟨b,o+j,none⟩=some (.int .i64 (zs.getD j 0)):=by
  generalize hx:X.sl t 1 es=x at r0;cases r0<;>try cases hx
  case slNil ob=>grind
  case sl b o cap vals hcap hcell hr htight hlen hk=>
   refine .inr ⟨b,o,cap,by rw [h1],fun j hj=>?_⟩;have e1:=h2 j hj;have e2:at2 es j 0=some (.v (.int .i64 (zs.getD j 0))):=by simp [at2,e1]
   have e3:=hI.known _ _ _ (hk j 0 _ e2)<;>grind[rep_v]
 refine (points_calls zs hz v w hv).mono ?_
 rintro e w' ⟨rfl,hB⟩
 refine ⟨_,rfl,fun _ _=>?_,hB⟩;unfold ptRes;split;·exact rep_two (.v rfl) (.v rfl)
 exact rep_two (.v rfl) (.v rfl)
end YtonnphbfclaigaaGreatDoor
def Tryz.laysWS_ren:Go.Shelf.Ren:=⟨fun|166=>122|240=>172|276=>240|n=>n,fun|70=>165|9=>9|3=>3|75=>170|0=>0|72=>168|37=>166|4=>4|164=>296|80=>175|5=>5|n=>n,fun|n=>n⟩
theorem Tryz.laysWS:Go.Proofs.Lays.n166 Tryz.prog Tryz.laysWS_ren:={
 mixed:=by kernel_rfl
 f166:=Tryz.func122.trans (congrArg some (by kernel_rfl))
 f240:=Tryz.func172.trans (congrArg some (by kernel_rfl))
 f276:=Tryz.func240.trans (congrArg some (by kernel_rfl))
 t0:=Tryz.underlying0
 a0:=Tryz.isAgg0
 z0:=Tryz.sizeOf0
 v0:=Tryz.zeroValue0
 t3:=Tryz.underlying3
 a3:=Tryz.isAgg3
 z3:=Tryz.sizeOf3
 v3:=Tryz.zeroValue3
 t4:=Tryz.underlying4
 a4:=Tryz.isAgg4
 z4:=Tryz.sizeOf4
 v4:=Tryz.zeroValue4
 t9:=Tryz.underlying9
 a9:=Tryz.isAgg9
 z9:=Tryz.sizeOf9
 v9:=Tryz.zeroValue9
 t20:=Tryz.underlying20
 a20:=Tryz.isAgg20
 z20:=Tryz.sizeOf20
 v20:=Tryz.zeroValue20
 t37:=Tryz.underlying166
 a37:=Tryz.isAgg166
 z37:=Tryz.sizeOf166
 v37:=Tryz.zeroValue166
 t70:=Tryz.underlying165
 a70:=Tryz.isAgg165
 z70:=Tryz.sizeOf165
 v70:=Tryz.zeroValue165
 t72:=Tryz.underlying168
 a72:=Tryz.isAgg168
 z72:=Tryz.sizeOf168
 v72:=Tryz.zeroValue168
 t75:=Tryz.underlying170
 a75:=Tryz.isAgg170
 z75:=Tryz.sizeOf170
 v75:=Tryz.zeroValue170
 t164:=Tryz.underlying296
 a164:=Tryz.isAgg296
 z164:=Tryz.sizeOf296
 v164:=Tryz.zeroValue296}
def Tryz.laysWB_ren:Go.Shelf.Ren:=⟨fun|167=>124|240=>172|276=>240|n=>n,fun|70=>165|5=>5|75=>170|0=>0|72=>168|37=>166|4=>4|164=>296|80=>175|9=>9|n=>n,fun|n=>n⟩
theorem Tryz.laysWB:Go.Proofs.Lays.n167 Tryz.prog Tryz.laysWB_ren:={
 mixed:=by kernel_rfl
 f167:=Tryz.func124.trans (congrArg some (by kernel_rfl))
 f240:=Tryz.func172.trans (congrArg some (by kernel_rfl))
 f276:=Tryz.func240.trans (congrArg some (by kernel_rfl))
 t0:=Tryz.underlying0
 a0:=Tryz.isAgg0
 z0:=Tryz.sizeOf0
 v0:=Tryz.zeroValue0
 t4:=Tryz.underlying4
 a4:=Tryz.isAgg4
 z4:=Tryz.sizeOf4
 v4:=Tryz.zeroValue4
 t5:=Tryz.underlying5
 a5:=Tryz.isAgg5
 z5:=Tryz.sizeOf5
 v5:=Tryz.zeroValue5
 t9:=Tryz.underlying9
 a9:=Tryz.isAgg9
 z9:=Tryz.sizeOf9
 v9:=Tryz.zeroValue9
 t20:=Tryz.underlying20
 a20:=Tryz.isAgg20
 z20:=Tryz.sizeOf20
 v20:=Tryz.zeroValue20
 t37:=Tryz.underlying166
 a37:=Tryz.isAgg166
 z37:=Tryz.sizeOf166
 v37:=Tryz.zeroValue166
 t70:=Tryz.underlying165
 a70:=Tryz.isAgg165
 z70:=Tryz.sizeOf165
 v70:=Tryz.zeroValue165
 t72:=Tryz.underlying168
 a72:=Tryz.isAgg168
 z72:=Tryz.sizeOf168
 v72:=Tryz.zeroValue168
 t75:=Tryz.underlying170
 a75:=Tryz.isAgg170
 z75:=Tryz.sizeOf170
 v75:=Tryz.zeroValue170
 t164:=Tryz.underlying296
 a164:=Tryz.isAgg296
 z164:=Tryz.sizeOf296
 v164:=Tryz.zeroValue296}
def Tryz.laysI2_ren:Go.Shelf.Ren:=⟨fun|243=>173|246=>241|283=>317|284=>318|285=>319|286=>320|129=>384|317=>383|318=>385|319=>386|320=>387|337=>452|338=>453|n=>n,fun|3=>3|9=>9|2=>2|4=>4|171=>365|0=>0|53=>366|37=>166|5=>5|173=>369|212=>427|51=>428|20=>20|213=>429|46=>337|232=>521|233=>522|n=>n,fun|17=>3|18=>4|19=>5|n=>n⟩
theorem Tryz.laysI2:Go.Proofs.Lays.n243 Tryz.prog Tryz.laysI2_ren:={
 mixed:=by kernel_rfl
 f129:=Tryz.func384.trans (congrArg some (by kernel_rfl))
 f243:=Tryz.func173.trans (congrArg some (by kernel_rfl))
 f246:=Tryz.func241.trans (congrArg some (by kernel_rfl))
 f283:=Tryz.func317.trans (congrArg some (by kernel_rfl))
 f284:=Tryz.func318.trans (congrArg some (by kernel_rfl))
 f285:=Tryz.func319.trans (congrArg some (by kernel_rfl))
 f286:=Tryz.func320.trans (congrArg some (by kernel_rfl))
 f317:=Tryz.func383.trans (congrArg some (by kernel_rfl))
 f318:=Tryz.func385.trans (congrArg some (by kernel_rfl))
 f319:=Tryz.func386.trans (congrArg some (by kernel_rfl))
 f320:=Tryz.func387.trans (congrArg some (by kernel_rfl))
 f337:=Tryz.func452.trans (congrArg some (by kernel_rfl))
 f338:=Tryz.func453.trans (congrArg some (by kernel_rfl))
 t0:=Tryz.underlying0
 a0:=Tryz.isAgg0
 z0:=Tryz.sizeOf0
 v0:=Tryz.zeroValue0
 t2:=Tryz.underlying2
 a2:=Tryz.isAgg2
 z2:=Tryz.sizeOf2
 v2:=Tryz.zeroValue2
 t3:=Tryz.underlying3
 a3:=Tryz.isAgg3
 z3:=Tryz.sizeOf3
 v3:=Tryz.zeroValue3
 t4:=Tryz.underlying4
 a4:=Tryz.isAgg4
 z4:=Tryz.sizeOf4
 v4:=Tryz.zeroValue4
 t5:=Tryz.underlying5
 a5:=Tryz.isAgg5
 z5:=Tryz.sizeOf5
 v5:=Tryz.zeroValue5
 t9:=Tryz.underlying9
 a9:=Tryz.isAgg9
 z9:=Tryz.sizeOf9
 v9:=Tryz.zeroValue9
 t20:=Tryz.underlying20
 a20:=Tryz.isAgg20
 z20:=Tryz.sizeOf20
 v20:=Tryz.zeroValue20
 t37:=Tryz.underlying166
 a37:=Tryz.isAgg166
 z37:=Tryz.sizeOf166
 v37:=Tryz.zeroValue166
 t46:=Tryz.underlying337
 a46:=Tryz.isAgg337
 z46:=Tryz.sizeOf337
 v46:=Tryz.zeroValue337
 t51:=Tryz.underlying428
 a51:=Tryz.isAgg428
 z51:=Tryz.sizeOf428
 v51:=Tryz.zeroValue428
 t53:=Tryz.underlying366
 a53:=Tryz.isAgg366
 z53:=Tryz.sizeOf366
 v53:=Tryz.zeroValue366
 t171:=Tryz.underlying365
 a171:=Tryz.isAgg365
 z171:=Tryz.sizeOf365
 v171:=Tryz.zeroValue365
 t173:=Tryz.underlying369
 a173:=Tryz.isAgg369
 z173:=Tryz.sizeOf369
 v173:=Tryz.zeroValue369
 t212:=Tryz.underlying427
 a212:=Tryz.isAgg427
 z212:=Tryz.sizeOf427
 v212:=Tryz.zeroValue427
 t213:=Tryz.underlying429
 a213:=Tryz.isAgg429
 z213:=Tryz.sizeOf429
 t232:=Tryz.underlying521
 a232:=Tryz.isAgg521
 z232:=Tryz.sizeOf521
 v232:=Tryz.zeroValue521
 t233:=Tryz.underlying522
 a233:=Tryz.isAgg522
 z233:=Tryz.sizeOf522
 v233:=Tryz.zeroValue522
 g17:=by kernel_rfl
 g18:=by kernel_rfl
 g19:=by kernel_rfl}
namespace YtonnphbfclaigaaGreatDoor
open Go.RowKit Go.Em
theorem ws_extra:Builder.Extra Tryz.prog Tryz.laysWS_ren:={
 sizeBuilder:=by kernel_rfl
 liesBuilder:=by kernel_rfl
 t5:=Tryz.laysWR.t5
 a5:=Tryz.laysWR.a5
 z5:=Tryz.laysWR.z5
 v5:=Tryz.laysWR.v5
 infoByte:=by kernel_rfl
 cellsByte:=by kernel_rfl
 sizeByte:=by kernel_rfl
 neB5:=by decide}
theorem wb_extra:Builder.Extra Tryz.prog Tryz.laysWB_ren:={
 sizeBuilder:=by kernel_rfl
 liesBuilder:=by kernel_rfl
 t5:=Tryz.laysWR.t5
 a5:=Tryz.laysWR.a5
 z5:=Tryz.laysWR.z5
 v5:=Tryz.laysWR.v5
 infoByte:=by kernel_rfl
 cellsByte:=by kernel_rfl
 sizeByte:=by kernel_rfl
 neB5:=by decide}
set_option maxHeartbeats 1000000 in
set_option maxRecDepth 100000 in
theorem itoaS_calls (i:Nat)(hi:i<100)(w:World):Calls Tryz.prog 123 #[.int .i64 i] w fun e w'=>e=.returned (.string ⟨(Lib.decDigits i).toArray⟩)/\w'=w:=by
 go_enter Tryz.func123,Tryz.ntmps123
 go_wp2_with (go_at_call 173;refine (Any.internal_strconv_Itoa_small Tryz.laysI2 i hi _).mono ?_;rintro e w' ⟨rfl,rfl⟩)
 go_ret
 exact ⟨rfl,rfl⟩
theorem keyB_snoc (e:Nat)(a:List Nat)(n:Nat):keyB e (a++[n])=keyB e a++44::Lib.decDigits n:=by simp [keyB]
theorem keyB_len (e:Nat)(he:e<100)(a:List Nat)(ha:∀n,n∈a->n<100):(keyB e a).length<=2+3*a.length:=by
 have hd:∀n,n<100->(Lib.decDigits n).length<=2:=by decide+kernel
 induction a with
 |nil=>have:=hd e he;simp [keyB];exact this
 |cons n r ih=>have h1:=ih fun m hm=>ha m (qaT _ hm);have h2:=hd n (ha n qaR);simp only [keyB,List.flatMap_cons,qae,qaI] at h1 ⊢;omega
theorem byteCells_len (l:List UInt8):(Lib.byteCells l).length=l.length:=by simp [Lib.byteCells]
theorem byteCells_app (a b:List UInt8):Lib.byteCells (a++b)=Lib.byteCells a++Lib.byteCells b:=by simp [Lib.byteCells]
section
variable (B:Nat)
theorem k_str (l:List UInt8)(wx:World)(h:Lib.IsBuilderF 168 5 B B (Lib.byteCells l) wx)(hs:B<=wx.heap.size):
  Calls Tryz.prog 125 #[.pointer (some ⟨B,0,none⟩)] wx fun e w'=>e=.returned (.string ⟨l.toArray⟩)/\Below B wx w':=by
 refine (Any.Builder_String_any_k Tryz.laysBS bs_extra B B l wx h hs).mono ?_
 rintro e w' ⟨rfl,_,hB,_⟩
 exact ⟨rfl,hB⟩
theorem k_ws (l s:List UInt8)(wx:World)(h:Lib.IsBuilderF 168 5 B B (Lib.byteCells l) wx)(hs:B<=wx.heap.size)(hl:l.length<=1000000)(hl2:s.length<=1000):
  Calls Tryz.prog 122 #[.pointer (some ⟨B,0,none⟩),.string ⟨s.toArray⟩] wx fun e w'=>e=.returned (.tuple #[.int .i64 (ByteArray.mk s.toArray).size,.nilIface])/\Lib.IsBuilderF 168 5 B B (Lib.byteCells (l++s)) w'/\B<=w'.heap.size/\Below B wx w':=by
 have hsz:(ByteArray.mk s.toArray).size=s.length:=by simp [ByteArray.size]
 refine (Any.Builder_WriteString_k Tryz.laysWS ws_extra B B (Lib.byteCells l) ⟨s.toArray⟩ wx h (by rw [byteCells_len,hsz];omega) hs).mono ?_
 rintro e w' ⟨rfl,hb,hB,_⟩
 refine ⟨rfl,.inr ?_,Nat.le_trans hs hB.size,hB⟩;rw [byteCells_app];exact hb
theorem k_wb (l:List UInt8)(wx:World)(h:Lib.IsBuilderF 168 5 B B (Lib.byteCells l) wx)(hs:B<=wx.heap.size)(hl:l.length<=1000000):
  Calls Tryz.prog 124 #[.pointer (some ⟨B,0,none⟩),.int .u8 44] wx fun e w'=>e=.returned .nilIface/\Lib.IsBuilderF 168 5 B B (Lib.byteCells (l++[44])) w'/\B<=w'.heap.size/\Below B wx w':=by
 refine (Any.Builder_WriteByte_k Tryz.laysWB wb_extra B B (Lib.byteCells l) 44 wx h (by rw [byteCells_len];omega) hs).mono ?_
 rintro e w' ⟨rfl,hb,hB,_⟩
 refine ⟨rfl,.inr ?_,Nat.le_trans hs hB.size,hB⟩;rw [byteCells_app];exact hb
end
set_option maxHeartbeats 4000000 in
set_option maxRecDepth 100000 in
theorem key_calls (e:Nat)(he:e<100)(zs:List Nat)(hz0:∀n,n∈zs->n<100)(hz:zs.length<=1000)(v:Value)(w:World)(hv:(∃ob,v=.slice ob 0 0/\zs=[])\/∃b o cap,v=.slice (some ⟨b,o,none⟩) zs.length cap/\∀j,j<zs.length->w.cell? ⟨b,o+j,none⟩=some (.int .i64 (zs.getD j 0:Nat))):
  Calls Tryz.prog 83 #[.agg #[.int .i64 e,v]] w fun e' w'=>e'=.returned (.string ⟨(keyB e zs).toArray⟩)/\Below w.heap.size w w':=by
 have hb0:Lib.IsBuilderF 168 5 (w.heap.size+1) (w.heap.size+1) (Lib.byteCells []) ((w.alloc (Obj.cells #[Value.int IntKind.i64 e,v] 27)).alloc (Obj.cells #[Value.pointer none,Value.slice none 0 0] 168)):=by have h:=Lib.IsBuilderF.of (Lib.fresh_isBuilder 168 5 (w.alloc (Obj.cells #[Value.int IntKind.i64 e,v] 27)));have e1:(w.alloc (Obj.cells #[Value.int IntKind.i64 e,v] 27)).heap.size=w.heap.size+1:=Array.size_push ..;rw [e1] at h;exact h
 have hs0:w.heap.size+1<=((w.alloc (Obj.cells #[Value.int IntKind.i64 e,v] 27)).alloc (Obj.cells #[Value.pointer none,Value.slice none 0 0] 168)).heap.size:=by show _<=(Array.push (Array.push w.heap _) _).size;rw [Array.size_push,Array.size_push];omega
 have hB0:Below w.heap.size w ((w.alloc (Obj.cells #[Value.int IntKind.i64 e,v] 27)).alloc (Obj.cells #[Value.pointer none,Value.slice none 0 0] 168)):=((Below.refl _ _).alloc (Nat.le_refl _) _).alloc (by show _<=(Array.push w.heap _).size;rw [Array.size_push];omega) _;have hd:∀n,n<100->(Lib.decDigits n).length<=2:=by decide+kernel
 have h1:=k_ws (w.heap.size+1) [] (Lib.decDigits e) _ hb0 hs0 (by simp) (by have:=hd e he;omega);have hde:[]++Lib.decDigits e=keyB e []:=by simp [keyB]
 rw [hde] at h1;clear hb0 hs0;have hcellS:∀v:Value,World.cell? ((w.alloc (Obj.cells #[Value.int IntKind.i64 e,v] 27)).alloc (Obj.cells #[Value.pointer none,Value.slice none 0 0] 168)) ⟨w.heap.size,1,none⟩=some v:=fun v=>by
  unfold World.cell?;simp only [World.alloc];simp [Array.getElem?_push,Array.size_push]
  try rfl
 have h2:=h1.mono (fun e' w' (h:_/\_/\_/\_)=>(⟨h.1,h.2.1,h.2.2.1,h.2.2.2,(h.2.2.2.cell (p:=⟨w.heap.size,1,none⟩) (Nat.lt_succ_self _)).trans (hcellS v)⟩:_/\_/\_/\_/\w'.cell? ⟨w.heap.size,1,none⟩=some v));clear h1 hcellS;rcases hv with ⟨ob,rfl,rfl⟩|⟨b,o,cap,rfl,hc⟩
 ·have H1:=Lib.hid h2;clear h2
  go_enter Tryz.func83,Tryz.ntmps83
  go_wp2_with (first
   |(go_at_call 123;refine (itoaS_calls e he _).mono ?_;rintro e w' ⟨rfl,rfl⟩)
   |(go_at_call 122;refine H1.out.mono ?_;rintro e w2 ⟨rfl,hb1,hs1,hB1,hc1⟩))
  have hB2:=hB0.trans (hB1.mono (Nat.le_succ _))
  go_loopg [5,13] 0 (fun g _ s13 wx=>s13=.int .i64 0/\Lib.IsBuilderF 168 5 (w.heap.size+1) (w.heap.size+1) (Lib.byteCells (keyB e [])) wx/\w.heap.size+1<=wx.heap.size/\Below w.heap.size w wx)
  case atStart=>exact ⟨rfl,hb1,hs1,hB2⟩
  case round=>
   obtain ⟨rfl,hb,hs,hB⟩:=hrel;have HL:=Lib.hid (k_str (w.heap.size+1) _ _ hb hs)
   go_wp2_with (go_at_call 125;refine HL.out.mono ?_;rintro e w2 ⟨rfl,hB2⟩)
   go_ret
   exact ⟨rfl,hB.trans (hB2.mono (Nat.le_succ _))⟩
 have hcells:∀wx,Below w.heap.size w wx->∀j,j<zs.length->wx.cell? ⟨b,o+j,none⟩=some (.int .i64 (zs.getD j 0:Nat)):=fun wx hB j hj=>by
  have h1:=hc j hj;have hlt:b<w.heap.size:=by
   rcases Nat.lt_or_ge b w.heap.size with h'|h';·exact h'
   exfalso;unfold World.cell? at h1;rw [Array.getElem?_eq_none (by exact h')] at h1;simp at h1
  rw [hB.cell hlt];exact h1
 clear hc;have H1:=Lib.hid h2;clear h2;have hlb:=keyB_len e he zs hz0
 go_enter Tryz.func83,Tryz.ntmps83
 go_wp2_with (first
  |(go_at_call 123;refine (itoaS_calls e he _).mono ?_;rintro e w' ⟨rfl,rfl⟩)
  |(go_at_call 122;refine H1.out.mono ?_;rintro e w2 ⟨rfl,hb1,hs1,hB1,hc1⟩))
 have hB2:=hB0.trans (hB1.mono (Nat.le_succ _))
 go_loopg [5,13] zs.length (fun g _ s13 wx=>∃i:Nat,i+g=zs.length/\s13=.int .i64 i/\Lib.IsBuilderF 168 5 (w.heap.size+1) (w.heap.size+1) (Lib.byteCells (keyB e (zs.take i))) wx/\w.heap.size+1<=wx.heap.size/\Below w.heap.size w wx)
 case atStart=>exact ⟨0,by omega,rfl,hb1,hs1,hB2⟩
 case round=>
  obtain ⟨i,hig,rfl,hb,hs,hB⟩:=hrel;cases gk with
  |zero=>
   obtain rfl:i=zs.length:=by omega
   have hiz:¬((zs.length:Int)<(zs.length:Int)):=by omega
   have HL:=Lib.hid (k_str (w.heap.size+1) _ _ hb hs);clear hcells
   go_wp2_with (go_at_call 125;refine HL.out.mono ?_;rintro e w2 ⟨rfl,hB2⟩)
   go_ret
   exact ⟨rfl,hB.trans (hB2.mono (Nat.le_succ _))⟩
  |succ g=>
   have hi:i<zs.length:=by omega
   have hiz:(i:Int)<(zs.length:Int):=by omega
   have hcell:=hcells wr hB i hi;clear hcells;have hmem:zs.getD i 0∈zs:=by rw [qaF,qad hi];exact qal hi
   have hstep:keyB e (zs.take (i+1))=(keyB e (zs.take i)++[44])++Lib.decDigits (zs.getD i 0):=by rw [List.take_add_one,qad hi,qaF,qad hi];show keyB e (zs.take i++[zs[i]])=_;rw [keyB_snoc];simp
   have hn:=hz0 _ hmem;generalize zs.getD i 0=n at hcell hstep hn;have hl1:=keyB_len e he (zs.take i) (fun m hm=>hz0 m (List.mem_of_mem_take hm));have hl2:(zs.take i).length<=1000:=by rw [qac];omega
   have HB:=Lib.hid (k_wb (w.heap.size+1) _ _ hb hs (by omega));have HS:∀wx,Lib.IsBuilderF 168 5 (w.heap.size+1) (w.heap.size+1) (Lib.byteCells (keyB e (zs.take i)++[44])) wx->w.heap.size+1<=wx.heap.size->_:=fun wx h1 h2=>k_ws (w.heap.size+1) _ (Lib.decDigits n) wx h1 h2 (by rw [qae];simp;omega) (by have:=hd n hn;omega);have HS':=Lib.hid HS;have hst:=Lib.hid hstep;clear hstep HS
   go_wp2_with (first
    |(go_at_call 124;refine HB.out.mono ?_;rintro e w2 ⟨rfl,hb3,hs3,hB3⟩)
    |(go_at_call 123;refine (itoaS_calls n hn _).mono ?_;rintro e w' ⟨rfl,rfl⟩)
    |(go_at_call 122;refine (HS'.out _ hb3 hs3).mono ?_;rintro e w4 ⟨rfl,hb4,hs4,hB4⟩))
   go_roundg g
   case measure=>omega
   case rel=>refine ⟨i+1,by omega,rfl,?_,hs4,(hB.trans (hB3.mono (Nat.le_succ _))).trans (hB4.mono (Nat.le_succ _))⟩;rw [hst.out];exact hb4
theorem key_sem {R:CodeRel}(e:Int)(t:Bool)(es:qaV)(zs:List Int)(h:intsOf es=some zs)(he:0<=e/\e<100)(hz:(zs.all fun z=>decide (0<=z)&&decide (z<100))=true)(hl:zs.length<=1000)(inb:List Bx):
  FSem Tryz.prog R 83 [.agg [.v (.int .i64 e),.sl t 1 es]] inb (.v (.string ⟨(keyB e.toNat (zs.map Int.toNat)).toArray⟩)) inb:=by
 refine fsem_rep fun cargs w K C hI ha=>?_;obtain ⟨h1,h2⟩:=ints_length h;have hs:cargs.size=1:=ha.1;have r0:=ha.2 0 _ cargs[0] rfl (qao (by omega));have hca:cargs=#[cargs[0]]:=by
  refine Array.ext (by grind) fun i h1 h2=>?_
  match i,h1,h2 with
  |0,_,_=>rfl
  |i+1,h1,_=>omega
 rw [hca];generalize cargs[0]=v0 at r0;have hz':∀z,z∈zs->0<=z/\z<100:=fun z hm=>by have:=qaA.mp hz z hm;simp only [qag,qaD] at this;exact this
 have hn0:∀n,n∈zs.map Int.toNat->n<100:=fun n hn=>by obtain ⟨z,hm,rfl⟩:=qaC.mp hn;have:=hz' z hm;omega
 have hv0:∃v,v0=.agg #[.int .i64 (e.toNat:Nat),v]/\Rep K C (.sl t 1 es) v:=by
  generalize hx:X.agg [.v (.int .i64 e),.sl t 1 es]=x at r0;cases r0<;>try cases hx
  case agg vs hsz _ hr=>
   have hs2:vs.size=2:=hsz;have a0:=hr 0 _ vs[0] rfl (qao (by omega));have a1:=hr 1 _ vs[1] rfl (qao (by omega));refine ⟨vs[1],?_,a1⟩;have e0:vs[0]=.int .i64 e:=rep_v a0;have:vs=#[vs[0],vs[1]]:=by
    refine Array.ext (by simp [hs2]) fun i h1 h2=>?_
    match i,h1,h2 with
    |0,_,_=>rfl
    |1,_,_=>rfl
    |i+2,h1,_=>omega
   have ee:((e.toNat:Nat):Int)=e:=Int.toNat_of_nonneg he.1;rw [ee,<-e0];exact congrArg Value.agg this
 obtain ⟨v,rfl,r1⟩:=hv0;have hv:(∃ob,v=.slice ob 0 0/\zs.map Int.toNat=[])\/∃b o cap,v=.slice (some ⟨b,o,none⟩) (zs.map Int.toNat).length cap/\∀j,j<(zs.map Int.toNat).length->w.cell? ⟨b,o+j,none⟩=some (.int .i64 ((zs.map Int.toNat).getD j 0:Nat)):=by
  generalize hx:X.sl t 1 es=x at r1;cases r1<;>try cases hx
  case slNil ob=>
   have:zs=[]:=by
    cases zs with
    |nil=>rfl
    |cons z r=>simp at h1
   subst this;exact .inl ⟨_,rfl,rfl⟩
  case sl b o cap vals hcap hcell hr htight hlen hk=>
   refine .inr ⟨b,o,cap,by rw [qay,h1],fun j hj=>?_⟩;rw [qay] at hj;have e1:=h2 j hj;have e2:at2 es j 0=some (.v (.int .i64 (zs.getD j 0))):=by simp [at2,e1]
   have e3:=hI.known _ _ _ (hk j 0 _ e2);have hm:zs.getD j 0∈zs:=by rw [qaF,qad hj];exact qal hj
   have e4:=hz' _ hm;have e5:(((zs.map Int.toNat).getD j 0:Nat):Int)=zs.getD j 0:=by
    have g1:(zs.map Int.toNat).getD j 0=(zs.getD j 0).toNat:=by simp [qaF,qat,qad hj]
    rw [g1];exact Int.toNat_of_nonneg e4.1
   rw [e5]
   grind[rep_v]
 refine (key_calls e.toNat (by omega) (zs.map Int.toNat) hn0 (by rw [qay];exact hl) v w hv).mono ?_
 rintro e' w' ⟨rfl,hB⟩
 exact ⟨_,rfl,fun _ _=>.v rfl,hB⟩
end YtonnphbfclaigaaGreatDoor
end Go.Proofs
namespace Go.Proofs.YtonnphbfclaigaaGreatDoor.Iv
open Go.Em Go.RowKit Go.Lib
variable {rows:qaV}{cs vs:List Value}{v:Value}
theorem run_copy_k {P:Program}(w:World)(dT sT ty elem:TypeId)(k:Nat)(b o dLen dCap:Nat)(a:Addr)(sLen sCap:Nat)(cs:List Value)
  (hu:P.underlying dT=some (.slice elem)) (hs:(P.info? elem).map (·.size)=some k) (hn:cs.length=Nat.min sLen dLen*k)
  (hsrc:∀j v,cs[j]?=some v->w.cell? (a.add j)=some v) (hc:∀j,j<cs.length->(w.cell? ⟨b,o+j,none⟩).isSome=true) (hf:∀j,j<cs.length->w.frozen? ⟨b,o+j,none⟩=false) (h1:∀v∈cs,v.oneCell'=true):
  (Builtin.copy_ #[dT,sT] ty #[.slice (some ⟨b,o,none⟩) dLen dCap,.slice (some a) sLen sCap]).run P w=.ok (goInt (Nat.min sLen dLen)) (w.setCells b o cs):=by
 have hl:=run_loadCells_list (P:=P) w a cs hsrc;have hst:=run_storeCells_cells (P:=P) b o cs 0 w (by simpa using hc) (by simpa using hf) h1;cases hq:P.info? elem with
 |none=>simp [hq] at hs
 |some i=>
  have hi:i.size=k:=by simpa [hq] using hs
  simp [Builtin.copy_,run_underlying hu,Builtin.lenOf,Builtin.firstCells,sizeOf,typeInfo,hq,hi,<-hn,hl,hst]
theorem run_overlaps_own {P:Program}(w:World)(tS tR e:TypeId)(ht:P.underlying tS=some (.slice e))(size:Nat)(hz:∀w,(Go.sizeOf e).run P w=.ok size w)
  (a b:Addr) (la ca lb cb:Nat) (hne:a.block≠b.block) (tA tB:TypeId) (kA kB:Nat)
  (hsa:w.shape? a.block=some (tA,kA)) (hsb:w.shape? b.block=some (tB,kB)) (hkB:kB≠0) (hkA:kA≠0)
  (hfb:w.frozen? b=false) (hfe:w.frozen? {block:=b.block,off:=kB}=false):
  (Extern.SlicesOverlaps.overlaps #[tS,tS] #[tR] #[.slice (some a) la ca,.slice (some b) lb cb]).run P w=.ok (.bool false) w:=by
 have hnb:(a.block !=b.block)=true:=by simpa using hne
 have hnb':(a.block==b.block)=false:=by simpa using hne
 change Sem.run P (α:=Value) (do
  let some t:=(#[tS,tS]:Array TypeId)[0]?|stuck "slices.overlaps: no parameter types"
  let .slice elem <-underlying t|stuck "slices.overlaps: slice type expected"
  let size <-sizeOf elem
  match (some a:Option Addr),(some b:Option Addr) with
  |some a,some b=>
   if la=0\/lb=0\/size=0 then pure (Value.bool false)
   else if a.block !=b.block&&(<-frozen a)&&(<-frozen b) then unsupported .addressObserved
   else do
    if a.block !=b.block then do
     noView a;noView b
     if <-mayBeOne a b then return Value.bool ((<-choose (.extern "sameAddr.stringBytes" 2))==1)
    pure (Value.bool (a.block==b.block&&a.off<b.off+lb*size&&b.off<a.off+la*size))
  |_,_=>pure (Value.bool false)) w=_
 by_cases h0:la=0\/lb=0\/size=0;·simp [run_underlying ht,hz,h0]
 cases kB with
 |zero=>exact absurd rfl hkB
 |succ kB=>
  obtain ⟨kA,rfl⟩:∃k,kA=k+1:=⟨kA-1,by omega⟩;cases hfa:w.frozen? a with
  |true=>simp [run_underlying ht,hz,h0,hnb,hnb',frozen,noView,viewAt,mayBeOne,stringish,shape,Sem.run,hsa,hsb,hfb,hfe,hfa]
  |false=>
   cases hfx:w.frozen? {block:=a.block,off:=kA+1} with
   |true=>simp [run_underlying ht,hz,h0,hnb,hnb',frozen,noView,viewAt,mayBeOne,stringish,shape,Sem.run,hsa,hsb,hfb,hfe,hfa,hfx]
   |false=>simp [run_underlying ht,hz,h0,hnb,hnb',frozen,noView,viewAt,mayBeOne,stringish,shape,Sem.run,hsa,hsb,hfb,hfe,hfa,hfx]
theorem run_overlaps_same {P:Program}(w:World)(tS tR e:TypeId)(ht:P.underlying tS=some (.slice e))(size:Nat)(hz:∀w,(Go.sizeOf e).run P w=.ok size w)
  (a b:Addr) (la ca lb cb:Nat) (hsame:a.block=b.block) (hd:¬(a.off<b.off+lb*size/\b.off<a.off+la*size)):
  (Extern.SlicesOverlaps.overlaps #[tS,tS] #[tR] #[.slice (some a) la ca,.slice (some b) lb cb]).run P w=.ok (.bool false) w:=by
 have hnb:(a.block !=b.block)=false:=by simpa using hsame
 have hnb':(a.block==b.block)=true:=by simpa using hsame
 have hd':(decide (a.off<b.off+lb*size)&&decide (b.off<a.off+la*size))=false:=by
  cases h:(decide (a.off<b.off+lb*size)&&decide (b.off<a.off+la*size)) with
  |false=>rfl
  |true=>exact absurd (by simpa using h) hd
 change Sem.run P (α:=Value) (do
  let some t:=(#[tS,tS]:Array TypeId)[0]?|stuck "slices.overlaps: no parameter types"
  let .slice elem <-underlying t|stuck "slices.overlaps: slice type expected"
  let size <-sizeOf elem
  match (some a:Option Addr),(some b:Option Addr) with
  |some a,some b=>
   if la=0\/lb=0\/size=0 then pure (Value.bool false)
   else if a.block !=b.block&&(<-frozen a)&&(<-frozen b) then unsupported .addressObserved
   else do
    if a.block !=b.block then do
     noView a;noView b
     if <-mayBeOne a b then return Value.bool ((<-choose (.extern "sameAddr.stringBytes" 2))==1)
    pure (Value.bool (a.block==b.block&&a.off<b.off+lb*size&&b.off<a.off+la*size))
  |_,_=>pure (Value.bool false)) w=_
 by_cases h0:la=0\/lb=0\/size=0;·simp [run_underlying ht,hz,h0]
 simp [run_underlying ht,hz,h0,hnb,hnb',hd',frozen,Sem.run]
theorem und35:Tryz.prog.underlying 28=some (.slice 31):=by kernel_rfl
theorem info78:(Tryz.prog.info? 31).map (·.size)=some 6:=by kernel_rfl
theorem size78:∀w,(Go.sizeOf 31).run Tryz.prog w=.ok 6 w:=Tryz.sizeOf31
set_option maxHeartbeats 4000000 in
set_option maxRecDepth 100000 in
theorem ins_shift (b off n c i vb voff vc:Nat)(cs vs:List Value)(w:World)(hi:i<n)(hroom:n+1<=c)(hn3:n<=2000000)(hdis:∀j k,j<6->k<(n+1)*6->vb=b->voff+j≠off+k)
  (hcl:cs.length=n*6) (hvl:vs.length=6)
  (hcs:∀j v,cs[j]?=some v->w.cell? ⟨b,off+j,none⟩=some v) (hsp:∀j,j<(n+1)*6->(w.cell? ⟨b,off+j,none⟩).isSome=true) (hfz:∀j,j<(n+1)*6->w.frozen? ⟨b,off+j,none⟩=false)
  (hvs:∀j v,vs[j]?=some v->w.cell? ⟨vb,voff+j,none⟩=some v) (h1c:∀v∈cs,v.oneCell'=true) (h1v:∀v∈vs,v.oneCell'=true)
  (tA tB:TypeId) (kA kB:Nat) (hsa:w.shape? vb=some (tA,kA)) (hsb:w.shape? b=some (tB,kB)) (hkB:kB≠0) (hkA:kA≠0) (hfb:∀o,w.frozen? ⟨b,o,none⟩=false):
  Calls Tryz.prog 207 #[.slice (some ⟨b,off,none⟩) n c,.int .i64 i,.slice (some ⟨vb,voff,none⟩) 1 vc] w fun e w'=>
   e=.returned (.slice (some ⟨b,off,none⟩) (n+1) c)/\w'=(w.drew.setCells b (off+(i+1)*6) (cs.drop (i*6))).setCells b (off+i*6) vs:=by
 have hz2:¬((i:Int)=(n:Int)):=by omega
 have hov:∀cb,(callFunc 272 #[.slice (some ⟨vb,voff,none⟩) 1 vc,.slice (some ⟨b,off+(i+1)*6,none⟩) (n-i) cb]).run Tryz.prog w=.ok (.value (.bool false)) w:=fun cb=>by
  rw [run_callFunc_extern Tryz.func272 (by kernel_rfl) (by kernel_rfl) (by kernel_rfl) (e:=Extern.SlicesOverlaps.overlaps #[28,28] #[4]) (by kernel_rfl)];by_cases hvb:vb=b
  ·rw [run_overlaps_same w 28 4 31 und35 6 size78 ⟨vb,voff,none⟩ ⟨b,off+(i+1)*6,none⟩ 1 vc (n-i) cb hvb (fun h=>by
    obtain ⟨h1,h2⟩:=h;dsimp only at h1 h2;by_cases hlo:off+(i+1)*6<=voff;·exact hdis 0 (voff-off) (by omega) (by omega) hvb (by omega)
    exact hdis (off+(i+1)*6-voff) ((i+1)*6) (by omega) (by omega) hvb (by omega))]
   rfl
  rw [run_overlaps_own w 28 4 31 und35 6 size78 ⟨vb,voff,none⟩ ⟨b,off+(i+1)*6,none⟩ 1 vc (n-i) cb hvb tA tB kA kB hsa hsb hkB hkA (hfb _) (hfb _)];rfl
 have hdl:(cs.drop (i*6)).length=(n-i)*6:=by rw [qaj,hcl];omega
 have hw1:IntKind.i64.wrap ((i:Int)+1)=(i:Int)+1:=by rw [IntKind.wrap_i64];omega
 have hb1:(0:Int)<=(i:Int)+1:=by omega
 have hin:i<=n:=by omega
 have htn:((i:Int)+1).toNat=i+1:=by omega
 have hb2:¬(c=i+1):=by omega
 have hb3:(i:Int)<=(n:Int)+1:=by omega
 have hb4:¬(c=i):=by omega
 have hcp1:∀ty dc sc,(Builtin.copy_ #[28,28] ty #[.slice (some ⟨b,off+(i+1)*6,none⟩) (n-i) dc,.slice (some ⟨b,off+i*6,none⟩) (n+1-i) sc]).run Tryz.prog w.drew=.ok (goInt (Nat.min (n+1-i) (n-i))) (w.drew.setCells b (off+(i+1)*6) (cs.drop (i*6))):=fun ty dc sc=>
  run_copy_k w.drew _ _ ty 31 6 b (off+(i+1)*6) (n-i) dc ⟨b,off+i*6,none⟩ (n+1-i) sc (cs.drop (i*6)) und35 info78 (by rw [hdl];congr 1;simp only [Nat.min_def];split<;>omega)
   (fun j v hj=>by rw [Addr.add_lit,Nat.add_assoc];exact hcs (i*6+j) v (by rwa [qak] at hj))
   (fun j hj=>by rw [Nat.add_assoc];exact hsp _ (by omega)) (fun j hj=>by rw [Nat.add_assoc];exact hfz _ (by omega)) (fun v hv=>h1c v (List.mem_of_mem_drop hv))
 obtain ⟨W1,hW1⟩:∃W1,W1=w.drew.setCells b (off+(i+1)*6) (cs.drop (i*6)):=⟨_,rfl⟩;have hsp1:∀k,k<(n+1)*6->(W1.cell? ⟨b,off+k,none⟩).isSome=true:=fun k hk=>by rw [hW1];exact isSome_setCells b _ _ _ (fun j hj=>by rw [Nat.add_assoc];exact hsp _ (by omega)) _ (hsp k hk)
 have hcp2:∀(W:World),(∀x,W.cell? x=W1.cell? x)->(∀x,W.frozen? x=W1.frozen? x)->∀ty dc,(Builtin.copy_ #[28,28] ty #[.slice (some ⟨b,off+i*6,none⟩) (n+1-i) dc,.slice (some ⟨vb,voff,none⟩) 1 vc]).run Tryz.prog W=.ok (goInt (Nat.min 1 (n+1-i))) (W.setCells b (off+i*6) vs):=fun W hWc hWf ty dc=>
  run_copy_k W _ _ ty 31 6 b (off+i*6) (n+1-i) dc ⟨vb,voff,none⟩ 1 vc vs und35 info78 (by rw [hvl];simp only [Nat.min_def];split<;>omega)
   (fun j v hj=>by
    have hj':j<6:=by rw [<-hvl];exact (qah.1 hj).1
    rw [Addr.add_lit,hWc,hW1,World.cell?_setCells_out b _ _ _ _ (fun h _=>by
     dsimp only at h ⊢;have h5:=hdis j (voff+j-off) hj';by_cases h6:off<=voff+j/\voff+j-off<(n+1)*6;·exact absurd (by omega) (h5 h6.2 h)
     omega)]
    exact hvs j v hj)
   (fun j hj=>by rw [hWc,Nat.add_assoc];exact hsp1 _ (by omega)) (fun j hj=>by rw [hWf,hW1,World.frozen?_setCells,Nat.add_assoc];exact hfz _ (by omega)) h1v
 rw [<-hW1] at hcp1;have mixed:Tryz.prog.follows .mixedOrders=true:=by kernel_rfl
 go_enter Tryz.func207,Tryz.ntmps207
 go_wp2_with (simp only [hov])
 go_region_law_o (refine step_copy_runI rfl _ _ 28 28 rfl _ _ (by simp [Act.eval,Act.put]) (by simp [Act.eval,Act.put]) (hcp1 _ _ _) ?_)
 go_wp2_with (at_builtin;refine wpList_copy_runI _ rfl _ _ 28 28 rfl _ _ rfl rfl (hcp2 _ (fun _=>rfl) (fun _=>rfl) _ _) ?_)
 go_ret
 first|exact ⟨rfl,rfl⟩|exact ⟨rfl,by rw [hW1]⟩
set_option maxHeartbeats 4000000 in
set_option maxRecDepth 100000 in
theorem ins_end (ob:Option Addr)(n c vb voff vc:Nat)(w w1:World)(v:Value)(hnc:n<=c)(hn3:n<=2000000)(hnil:ob=none->n=0/\c=0)
  (hrun:∀ty,(Builtin.append_ #[28,28] ty #[.slice ob n c,.slice (some ⟨vb,voff,none⟩) 1 vc]).run Tryz.prog w=.ok v w1):
  Calls Tryz.prog 207 #[.slice ob n c,.int .i64 n,.slice (some ⟨vb,voff,none⟩) 1 vc] w fun e w'=>e=.returned v/\w'=w1:=by
 have mixed:Tryz.prog.follows .mixedOrders=true:=by kernel_rfl
 go_enter Tryz.func207,Tryz.ntmps207
 cases ob with
 |none=>
  obtain ⟨rfl,rfl⟩:=hnil rfl
  go_wp2_with (at_builtin;refine Lib.wpList_append_run _ rfl _ _ _ _ rfl _ _ rfl rfl _ _ (hrun _) ?_)
  go_ret
  exact ⟨rfl,rfl⟩
 |some a=>
  obtain ⟨ab,ao,asp⟩:=a
  go_wp2_with (at_builtin;refine Lib.wpList_append_run _ rfl _ _ _ _ rfl _ _ rfl rfl _ _ (hrun _) ?_)
  all_goals (go_ret;exact ⟨rfl,rfl⟩)
def IsRow (r:Array Value)(l:List Value):Prop:=r=l.toArray
theorem info78b:(Tryz.prog.info? 31).map (fun i=>(i.zero.map (·.cells.size),i.size,i.bytes))=some (some 6,6,88):=by kernel_rfl
theorem und3:Tryz.prog.underlying 3=some (.int .i64):=by kernel_rfl
set_option maxHeartbeats 4000000 in
set_option maxRecDepth 100000 in
theorem ins_grow (b off n c i vb voff vc:Nat)(cs vs:List Value)(w:World)(hi:i<n)(hnc:n<=c)(hroom:c<n+1)(hc63:c<=4000000)
  (hcl:cs.length=n*6) (hvl:vs.length=6)
  (hcs:∀j v,cs[j]?=some v->w.cell? ⟨b,off+j,none⟩=some v)
  (hvs:∀j v,vs[j]?=some v->w.cell? ⟨vb,voff+j,none⟩=some v) (h1c:∀v∈cs,v.oneCell'=true) (h1v:∀v∈vs,v.oneCell'=true):
  Calls Tryz.prog 207 #[.slice (some ⟨b,off,none⟩) n c,.int .i64 i,.slice (some ⟨vb,voff,none⟩) 1 vc] w fun e w'=>
   ∃(G:Nat) (tl:List Value),n+1<=G/\e=.returned (.slice (some ⟨w.heap.size,0,none⟩) (n+1) G)/\tl.length=(G-i)*6/\
   w'=(((w.alloc (.cells ((cs.take (i*6))++tl).toArray 31)).drew.setCells w.heap.size (i*6) vs).drew).setCells w.heap.size ((i+1)*6) (cs.drop (i*6)):=by
 obtain ⟨i0,hi0,hz0,hzs,hzb⟩:∃i0,Tryz.prog.info? 31=some i0/\i0.zero.map (·.cells.size)=some 6/\i0.size=6/\i0.bytes=88:=by obtain ⟨i0,h1,h2⟩:=qaf.1 info78b;simp only [qab] at h2;exact ⟨i0,h1,h2.1,h2.2.1,h2.2.2⟩
 obtain ⟨zv,hz0,hzc⟩:=qaf.1 hz0;have hz2:¬((i:Int)=(n:Int)):=by omega
 have hz3:(c:Int)<(n:Int)+1:=by omega
 have hbw:b<w.heap.size:=block_lt_of_cell (hcs 0 _ (qad (by omega)));have hvw:vb<w.heap.size:=block_lt_of_cell (hvs 0 _ (qad (by omega)));have hkk:(n:Int)+1-(i:Int)=((n+1-i:Nat):Int):=by omega
 have hik:i+(n+1-i)=n+1:=by omega
 have hold:(Builtin.firstCells i0.size i (.slice (some ⟨b,off,none⟩) i c)).run Tryz.prog w.drew=.ok (cs.take (i*6)).toArray w.drew:=by
  rw [hzs];exact run_firstCells_some w.drew 6 i ⟨b,off,none⟩ i c (cs.take (i*6)) (by rw [qac];omega) (fun j v hj=>by
   rw [Addr.add_lit];rw [qaq] at hj;split at hj;·exact hcs j v hj
   cases hj)
 have hrz:∀ty,(Builtin.append_ #[28,3] ty #[.slice (some ⟨b,off,none⟩) i c,.int .i64 ((n:Int)+1-(i:Int))]).run Tryz.prog w=
   .ok (.slice (some ⟨w.heap.size,0,none⟩) (n+1) (grownCap w (n+1) c 31)) (w.drew.alloc (.cells ((cs.take (i*6)).toArray++Builtin.zeroCells zv.cells (n+1-i)++Builtin.zeroCells zv.cells (grownCap w (n+1) c 31-(n+1))) 31)):=fun ty=>by
  have h:=Lib.run_append_grow_zeros w 28 3 ty 31 i0 zv .i64 .i64 und35 und3 hi0 hz0 (some ⟨b,off,none⟩) i c (cs.take (i*6)) hold (n+1-i) (by omega) (by omega) (by omega) (by omega) (by rw [hzb];omega) (by rw [hzb,hik];exact growslice_fits hroom (by omega));rw [hik] at h;rw [hkk];exact h
 have hGn:n+1<=grownCap w (n+1) c 31:=grownCap_ge w _ _ _;have hG63:grownCap w (n+1) c 31<=9223372036854775807:=by have:=grownCap_le_maxLen w (n+1) c 31 (by unfold maxLen;omega);unfold maxLen at this;omega
 generalize grownCap w (n+1) c 31=G at hrz hGn hG63;have hzl:∀k,(Builtin.zeroCells zv.cells k).size=k*6:=fun k=>by simp [Builtin.zeroCells,hzc]
 obtain ⟨tl,htl⟩:∃tl:List Value,(cs.take (i*6)).toArray++Builtin.zeroCells zv.cells (n+1-i)++Builtin.zeroCells zv.cells (G-(n+1))=((cs.take (i*6))++tl).toArray/\tl.length=(G-i)*6:=by
  refine ⟨(Builtin.zeroCells zv.cells (n+1-i)).toList++(Builtin.zeroCells zv.cells (G-(n+1))).toList,?_,?_⟩;·apply Array.toList_inj.1;simp
  rw [qae,Array.length_toList,Array.length_toList,hzl,hzl];omega
 obtain ⟨htl,htll⟩:=htl;rw [htl] at hrz;obtain ⟨ROW,hROW⟩:∃ROW:Array Value,ROW=((cs.take (i*6))++tl).toArray:=⟨_,rfl⟩;have hRl:(n+1)*6<=ROW.size:=by rw [hROW];simp only [List.size_toArray,qae,qac,htll];omega
 rw [<-hROW] at hrz;obtain ⟨W1,hW1⟩:∃W1,W1=w.drew.alloc (.cells ROW 31):=⟨_,rfl⟩;rw [<-hW1] at hrz;have hN:∀j,j<(n+1)*6->(W1.cell? ⟨w.heap.size,j,none⟩).isSome=true:=fun j hj=>by rw [hW1,World.cell?_alloc_at (w:=w.drew) ROW _ w.heap.size j rfl,qao (by omega)];rfl
 have hNf:∀j,W1.frozen? ⟨w.heap.size,j,none⟩=false:=fun j=>by rw [hW1];exact World.frozen?_alloc_at (w:=w.drew) ROW _ w.heap.size j rfl
 have hOb:∀j v,w.cell? ⟨b,j,none⟩=some v->W1.cell? ⟨b,j,none⟩=some v:=fun j v h=>by rw [hW1,World.cell?_alloc_past (w:=w.drew) _ b j hbw];exact h
 have hOv:∀j v,w.cell? ⟨vb,j,none⟩=some v->W1.cell? ⟨vb,j,none⟩=some v:=fun j v h=>by rw [hW1,World.cell?_alloc_past (w:=w.drew) _ vb j hvw];exact h
 have hcpA:∀(W:World),(∀x,W.cell? x=W1.cell? x)->(∀x,W.frozen? x=W1.frozen? x)->∀ty dc,(Builtin.copy_ #[28,28] ty #[.slice (some ⟨w.heap.size,i*6,none⟩) (n+1-i) dc,.slice (some ⟨vb,voff,none⟩) 1 vc]).run Tryz.prog W=.ok (goInt (Nat.min 1 (n+1-i))) (W.setCells w.heap.size (i*6) vs):=fun W hWc hWf ty dc=>
  run_copy_k W _ _ ty 31 6 w.heap.size (i*6) (n+1-i) dc ⟨vb,voff,none⟩ 1 vc vs und35 info78 (by rw [hvl];simp only [Nat.min_def];split<;>omega)
   (fun j v hj=>by rw [Addr.add_lit,hWc];exact hOv _ v (hvs j v hj))
   (fun j hj=>by rw [hWc];exact hN _ (by omega)) (fun j hj=>by rw [hWf];exact hNf _) h1v
 have hGi:¬(G=i):=by omega
 have hGim:¬(G=i+1):=by omega
 have hci:¬(c=i):=by omega
 have hbN:b≠w.heap.size:=by omega
 have hdl:(cs.drop (i*6)).length=(n-i)*6:=by rw [qaj,hcl];omega
 have hcpB:∀(W:World),(∀x,W.cell? x=(W1.setCells w.heap.size (i*6) vs).cell? x)->(∀x,W.frozen? x=(W1.setCells w.heap.size (i*6) vs).frozen? x)->∀ty dc sc,(Builtin.copy_ #[28,28] ty #[.slice (some ⟨w.heap.size,(i+1)*6,none⟩) (n-i) dc,.slice (some ⟨b,off+i*6,none⟩) (n-i) sc]).run Tryz.prog W=.ok (goInt (Nat.min (n-i) (n-i))) (W.setCells w.heap.size ((i+1)*6) (cs.drop (i*6))):=fun W hWc hWf ty dc sc=>
  run_copy_k W _ _ ty 31 6 w.heap.size ((i+1)*6) (n-i) dc ⟨b,off+i*6,none⟩ (n-i) sc (cs.drop (i*6)) und35 info78 (by rw [hdl];simp)
   (fun j v hj=>by rw [Addr.add_lit,hWc,World.cell?_setCells_out _ _ _ _ _ (fun h _=>absurd h hbN),Nat.add_assoc];exact hOb _ v (hcs (i*6+j) v (by rwa [qak] at hj)))
   (fun j hj=>by rw [hWc];exact isSome_setCells _ _ _ _ (fun t ht=>hN _ (by omega)) _ (hN _ (by omega)))
   (fun j hj=>by rw [hWf,World.frozen?_setCells];exact hNf _) (fun v hv=>h1c v (List.mem_of_mem_drop hv))
 subst hW1;have hE1:∀x,((w.alloc (.cells ROW 31)).drew).cell? x=(w.drew.alloc (.cells ROW 31)).cell? x:=fun x=>rfl;have hE2:∀x,((w.alloc (.cells ROW 31)).drew).frozen? x=(w.drew.alloc (.cells ROW 31)).frozen? x:=fun x=>rfl;have hF1:∀x,(((w.alloc (.cells ROW 31)).drew.setCells w.heap.size (i*6) vs).drew).cell? x=((w.drew.alloc (.cells ROW 31)).setCells w.heap.size (i*6) vs).cell? x:=fun x=>rfl;have hF2:∀x,(((w.alloc (.cells ROW 31)).drew.setCells w.heap.size (i*6) vs).drew).frozen? x=((w.drew.alloc (.cells ROW 31)).setCells w.heap.size (i*6) vs).frozen? x:=fun x=>rfl;have hw1:IntKind.i64.wrap ((i:Int)+1)=(i:Int)+1:=by rw [IntKind.wrap_i64];omega
 have hb1:(0:Int)<=(i:Int)+1:=by omega
 have hin:i<=n:=by omega
 have htn:((i:Int)+1).toNat=i+1:=by omega
 have hb3:(i:Int)<=(n:Int):=by omega
 have mixed:Tryz.prog.follows .mixedOrders=true:=by kernel_rfl
 have hkeep:IsRow ROW ((cs.take (i*6))++tl):=hROW;clear hkk hik hold hRl htl hROW
 go_enter Tryz.func207,Tryz.ntmps207
 go_wp2_with (first
  |(at_builtin;refine Lib.wpList_append_run _ rfl _ _ _ _ rfl _ _ rfl rfl _ _ (hrz _) ?_)
  |(at_builtin;refine wpList_copy_runI _ rfl _ _ 28 28 rfl _ _ rfl rfl (hcpA _ hE1 hE2 _ _) ?_)
  |(at_builtin;refine wpList_copy_runI _ rfl _ _ 28 28 rfl _ _ rfl rfl (hcpB _ (fun _=>rfl) (fun _=>rfl) _ _ _) ?_))
 go_region_law_o (refine step_copy_runI rfl _ _ 28 28 rfl (.slice (some ⟨w.heap.size,(i+1)*6,none⟩) (n-i) (G-(i+1))) (.slice (some ⟨b,off+i*6,none⟩) (n-i) (c-i)) (by simp [Act.eval,Act.put]) (by simp [Act.eval,Act.put]) (hcpB _ hF1 hF2 3 (G-(i+1)) (c-i)) ?_)
 go_wp2
 go_ret
 exact ⟨G,tl,hGn,rfl,htll,by unfold IsRow at hkeep;rw [<-hkeep]⟩
section
variable {P:Program} {R:CodeRel} {K:Kn}
theorem post_move {w w':World}{c0 c':CB}{sz:Nat}{new:qaV}{res:X}(hI:Inv P R K [c0] [.row sz rows] w)(hf:FrameOk c0.owns w w')(hown:∀b o,c'.owns b o->c0.owns b o\/w.heap.size<=b)
  (hB:BoxOk P R K ([c0]++[c']) w' (.row sz new) c') (hres:Rep K ([c0]++[c']) res v):Post P R K [c0] [.row sz rows] w res [.dead,.row sz new] (.returned v) w':=by
 have hdead:∀b o,¬Owns [c0] [Bx.dead] b o:=by
  rintro b o ⟨i,c,B,h1,h2,h3,h4⟩
  cases i with
  |zero=>simp at h2;subst h2;simp [Bx.live] at h3
  |succ i=>simp at h2
 have hin:∀b o,c0.owns b o->Owns [c0] [Bx.row sz rows] b o:=fun b o h=>⟨0,c0,.row sz rows,rfl,rfl,rfl,h⟩;have hk:=hI.kill 0;have hk':Inv P R K [c0] [.dead] w':=Inv.frame hk hf (fun b o v e ho=>by have:=hI.apart b o (hin b o ho);rw [this] at e;cases e) (fun b o ho=>absurd ho (hdead b o));refine ⟨v,K,[c'],rfl,⟨hk'.push hB (fun b o ho=>?_) (fun b o _=>hdead b o),hres,KLe.refl _,fun b o u e=>.inl e,fun b o ho=>?_,hf.mono fun b o _ h=>hin b o h,fun i B e hl=>?_⟩⟩
 ·rcases hown b o ho with h|h;·exact hI.apart b o (hin b o h)
  cases hk:K b o with
  |none=>rfl
  |some u=>have:=hI.known_lt hk;omega
 ·obtain ⟨i,c,B,h1,h2,h3,h4⟩:=ho
  match i,h1,h2 with
  |0,h1,h2=>simp at h2;subst h2;simp [Bx.live] at h3
  |1,h1,h2=>
   simp at h1;subst h1;rcases hown b o h4 with h|h;·exact .inl (hin b o h)
   exact .inr h
  |i+2,h1,h2=>simp at h2
 cases i with
 |zero=>simp at e;subst e;cases hl
 |succ i=>simp at e
theorem splice_get (l vs:List Value)(o q:Nat)(h:o+vs.length<=l.length):(l.take o++vs++l.drop (o+vs.length)).toArray[q]?=if q<o then l[q]? else if q<o+vs.length then vs[q-o]? else l[q]?:=by
 have hT:(l.take o).length=o:=by rw [qac];omega
 rw [List.getElem?_toArray];by_cases h5:q<o;·rw [if_pos h5,qau,qai (by omega),qaq,if_pos h5]
 rw [if_neg h5,qau,qan (by omega),hT];by_cases h6:q<o+vs.length;·rw [if_pos h6,qai (by omega)]
 rw [if_neg h6,qan (by omega),qak]
 congr 1;omega
theorem setCells_row (W:World)(b o:Nat)(arr:Array Value)(el:TypeId)(vs:List Value)(hb:W.heap[b]?=some (.cells arr el (0,0)))(hl:o+vs.length<=arr.size)(h1:∀v∈vs,v.oneCell'=true):
  W.setCells b o vs=W.setRow b (arr.toList.take o++vs++arr.toList.drop (o+vs.length)).toArray:=by
 have hc:∀j,j<vs.length->(W.cell? ⟨b,o+j,none⟩).isSome=true:=fun j hj=>by simp only [World.cell?,hb];rw [qao (by omega)];rfl
 have hf:∀j,j<vs.length->W.frozen? ⟨b,o+j,none⟩=false:=fun j hj=>by simp [World.frozen?,hb]
 have e1:=run_storeCells_cells (P:=Tryz.prog) b o vs 0 W (by simpa using hc) (by simpa using hf) h1;have e2:=run_storeCells_at Tryz.prog b o el vs 0 arr W hb (by omega) h1;rw [e1] at e2;simp only [Nat.add_zero] at e2;injection e2
theorem ins_flat {K:Kn}{x:List X}(hf:Flat K 6 rows cs)(hv:Flat K 6 [x] vs)(i:Nat):Flat K 6 (rows.take i++[x]++rows.drop i) (cs.take (i*6)++vs++cs.drop (i*6)):=
 ((hf.take i).append hv).append (hf.drop i)
theorem ins_get {n i k:Nat}(hcl:cs.length=n*6)(hvl:vs.length=6)(hi:i<=n)(h:(cs.take (i*6)++vs++cs.drop (i*6))[k]?=some v):
  (k<i*6/\cs[k]?=some v)\/(i*6<=k/\k<(i+1)*6/\vs[k-i*6]?=some v)\/((i+1)*6<=k/\k<(n+1)*6/\cs[k-6]?=some v):=by
 have hT:(cs.take (i*6)).length=i*6:=by rw [qac];omega
 by_cases h1:k<i*6;·rw [qau,qai (by omega),qaq,if_pos h1] at h;exact .inl ⟨h1,h⟩
 rw [qau,qan (by omega),hT] at h;by_cases h2:k<(i+1)*6;·rw [qai (by omega)] at h;exact .inr (.inl ⟨by omega,h2,h⟩)
 rw [qan (by omega),qak] at h;have e:i*6+(k-i*6-vs.length)=k-6:=by omega
 rw [e] at h;have:=(qah.1 h).1;exact .inr (.inr ⟨by omega,by omega,h⟩)
set_option maxRecDepth 100000 in
theorem ins_sem {R:CodeRel}(n i:Nat)(t:Bool)(x:List X)(rows:qaV)(hi:i<=n)(hn:n=rows.length)(hn2:n<=2000000):
  FSem Tryz.prog R 207 [.bs 0 0 n,.v (.int .i64 (Int.ofNat i)),.sl t 6 [x]] [.row 6 rows] (.bs 1 0 (n+1)) [.dead,.row 6 (rows.take i++[x]++rows.drop i)]:=by
 intro K C w cargs hI ha;have hs:cargs.size=3:=ha.1;have r0:=ha.2 0 _ cargs[0] rfl (qao (by omega));have r1:=ha.2 1 _ cargs[1] rfl (qao (by omega));have r2:=ha.2 2 _ cargs[2] rfl (qao (by omega));have hca:cargs=#[cargs[0],cargs[1],cargs[2]]:=by
  refine Array.ext (by simp [hs]) fun j h1 h2=>?_
  match j,h1,h2 with
  |0,_,_=>rfl
  |1,_,_=>rfl
  |2,_,_=>rfl
  |j+3,h1,_=>omega
 rw [hca];generalize cargs[0]=v0 at r0;generalize cargs[1]=v1 at r1;generalize cargs[2]=v2 at r2;obtain rfl:=rep_v r1;obtain ⟨c0,hC⟩:∃c0,C=[c0]:=by
  have:=hI.size
  match C,this with
  |[c0],_=>exact ⟨c0,rfl⟩
 subst hC;obtain ⟨vb,vo,c2,rfl⟩:∃vb vo c2,v2=.slice (some ⟨vb,vo,none⟩) 1 c2:=by
  generalize hx:X.sl t 6 [x]=y at r2;cases r2<;>try cases hx
  exact ⟨_,_,_,rfl⟩
 obtain ⟨vs,hv,hvK⟩:=r2.flat;have hvl:vs.length=6:=by simpa using hv.len
 have hvs:∀j v,vs[j]?=some v->w.cell? ⟨vb,vo+j,none⟩=some v:=fun j v h=>hI.known _ _ _ (hvK j v h);have h1v:=hv.oneCell;obtain ⟨tA,kA,hsa,hkA⟩:∃tA kA,w.shape? vb=some (tA,kA)/\kA≠0:=by
  have h0:=hvs 0 _ (qad (by omega));unfold World.cell? at h0;split at h0;next arr el fr hh=>refine ⟨el,arr.size,by simp [World.shape?,hh],fun e=>?_⟩;have:=(qaM.1 h0).1;omega
  cases h0
 have hvfc:∀w':World,w'.heap=w.heap->(Builtin.firstCells 6 1 (.slice (some ⟨vb,vo,none⟩) 1 c2)).run Tryz.prog w'=.ok vs.toArray w':=fun w' hw=>by refine run_firstCells_some w' 6 1 ⟨vb,vo,none⟩ 1 c2 vs (by omega) (fun j u hu=>?_);rw [Addr.add_lit];have:=hvs j u hu;simp only [World.cell?,hw] at this ⊢;exact this
 have hz78:(zeroP Tryz.prog 31).isSome=true:=by kernel_rfl
 obtain ⟨z78,hz78⟩:=Option.isSome_iff_exists.1 hz78;have hs78:sizeP Tryz.prog 31=some 6:=by kernel_rfl
 have hb78:bytesP Tryz.prog 31=some 88:=by kernel_rfl
 have endGrow:∀(ob:Option Addr) (c:Nat) (olds:List Value),i=n->n<=c->c<n+1->(ob=none->n=0/\c=0)->Flat K 6 rows olds->(∀w':World,w'.heap=w.heap->(Builtin.firstCells 6 n (.slice ob n c)).run Tryz.prog w'=.ok olds.toArray w')->
   Calls Tryz.prog 207 #[.slice ob n c,.int .i64 (Int.ofNat i),.slice (some ⟨vb,vo,none⟩) 1 c2] w (Post Tryz.prog R K [c0] [.row 6 rows] w (.bs 1 0 (n+1)) [.dead,.row 6 (rows.take i++[x]++rows.drop i)]):=by
  intro ob c olds hin hnc hcn hnil hfo hfco;subst hin;have hex:∃rest:List Value,(∀ty,(Builtin.append_ #[28,28] ty #[.slice ob i c,.slice (some ⟨vb,vo,none⟩) 1 c2]).run Tryz.prog w=.ok (.slice (some ⟨w.heap.size,0,none⟩) (i+1) (grownCap w (i+1) c 31)) (w.drew.alloc (.cells (olds++vs++rest).toArray 31)))/\rest.length=(grownCap w (i+1) c 31-(i+1))*6:=by obtain ⟨rest,h1,h2⟩:=run_app_grow (P:=Tryz.prog) (w:=w) (ty:=0) (ob:=ob) (oc:=some ⟨vb,vo,none⟩) (n:=i) (cap:=c) (m:=1) (c:=c2) und35 und35 hs78 hb78 hz78 olds vs hfco hvfc hcn (by omega) (by omega) (by omega);exact ⟨rest,fun ty=>h1,h2⟩
  obtain ⟨rest,hrun,hrl⟩:=hex;have hm:=grownCap_ge w (i+1) c 31;generalize grownCap w (i+1) c 31=m at hrun hrl hm;refine (ins_end ob i c vb vo c2 w _ _ hnc hn2 hnil hrun).mono ?_
  rintro e w' ⟨rfl,rfl⟩
  have hfl:=hfo.append hv;have e1:rows.take i++[x]++rows.drop i=rows++[x]:=by rw [hn,List.take_length,List.drop_length,List.append_nil]
  rw [e1];have hol:olds.length=i*6:=by rw [hfo.len,<-hn]
  have hsz:(olds++vs++rest).toArray.size=m*6:=by simp only [List.size_toArray,qae,hol,hvl,hrl];omega
  refine post_move (c':=.at w.heap.size 0 (m*6) 6) hI (FrameOk.trans (FrameOk.drew _ w) (FrameOk.alloc (S:=c0.owns) _ _) (fun _ _ _ h=>h)) (fun b o h=>.inr (by rw [h.1];exact Nat.le_refl _)) (hfl.box (alloc_get w.drew _) (fun k v hk=>?_) (by simp only [qae,List.length_singleton];omega) (by omega)) ?_;·rw [Nat.zero_add,List.getElem?_toArray,qai (qah.1 hk).1];exact hk
  have:=@Rep.bs K ([c0]++[.at w.heap.size 0 (m*6) 6]) 1 0 (i+1) w.heap.size 0 (m*6) 6 m rfl (by omega) (by omega);simpa using this
 generalize hx0:X.bs 0 0 n=y0 at r0;cases r0<;>try cases hx0
 case bsNil ob hc=>
  have e0:c0=.ghost:=by simpa using hc
  subst e0;have hi0:i=0:=by omega
  have hr0:rows=[]:=qaJ hn.symm;refine endGrow ob 0 [] hi0 (Nat.le_refl _) (by omega) (fun _=>⟨rfl,rfl⟩) (by rw [hr0];exact Flat.nil) (fun w' _=>?_);cases ob<;>simp [Builtin.firstCells,loadCells,loadCellsFrom]
 case bs b base hi' sz cap hc hcap hlen=>
  have e0:c0=.at b base hi' sz:=by simpa using hc
  subst e0;obtain ⟨arr,el,g1,g2,g3,hbl,hfe⟩:=(hI.box 0 _ _ rfl rfl).flat;subst g1;simp only [Nat.zero_mul,Nat.zero_add,Nat.add_zero] at hcap ⊢;generalize hcd:(arr.toList.drop base).take (rows.length*6)=cs at hfe;have hcl:cs.length=n*6:=by rw [hfe.len,<-hn]
  have hcar:∀j v,cs[j]?=some v->arr[base+j]?=some v:=fun j v h=>by
   rw [<-hcd,qaq] at h;split at h;·rw [qak] at h;simpa using h
   cases h
  have hcs:∀j v,cs[j]?=some v->w.cell? ⟨b,base+j,none⟩=some v:=fun j v h=>by simp only [World.cell?,hbl];exact hcar j v h
  have h1c:=hfe.oneCell;have hnk:∀o,base<=o->o<hi'->K b o=none:=fun o h1 h2=>hI.apart b o ⟨0,_,_,rfl,rfl,rfl,⟨rfl,h1,h2⟩⟩;have hfz:∀o,w.frozen? ⟨b,o,none⟩=false:=fun o=>by simp [World.frozen?,hbl]
  have hflat:=ins_flat hfe hv i;by_cases hin:i=n
  ·by_cases hfit:n+1<=cap
   ·subst hin;have hst:=run_storeCells_at Tryz.prog b (base+i*6) el vs 0 arr w hbl (by omega) h1v;simp only [Nat.add_zero] at hst;have hrun:∀ty,(Builtin.append_ #[28,28] ty #[.slice (some ⟨b,base,none⟩) i cap,.slice (some ⟨vb,vo,none⟩) 1 c2]).run Tryz.prog w=.ok (.slice (some ⟨b,base,none⟩) (i+1) cap) (w.setRow b (arr.toList.take (base+i*6)++vs++arr.toList.drop (base+i*6+vs.length)).toArray):=fun ty=>run_app_fit (P:=Tryz.prog) (ty:=ty) (ob:=some ⟨b,base,none⟩) und35 und35 hs78 vs _ (hvfc w rfl) hfit (fun ad e=>by cases e;rw [Addr.add_lit];exact hst) (fun e=>by cases e);refine (ins_end _ i cap vb vo c2 w _ _ (by omega) hn2 (fun e=>by cases e) hrun).mono ?_
    rintro e w' ⟨rfl,rfl⟩
    have hget:∀q,(arr.toList.take (base+i*6)++vs++arr.toList.drop (base+i*6+vs.length)).toArray[q]?=if q<base+i*6 then arr[q]? else if q<base+i*6+vs.length then vs[q-(base+i*6)]? else arr[q]?:=fun q=>by rw [splice_get _ _ _ _ (by have:arr.toList.length=arr.size:=Array.length_toList;omega)];simp
    have hsize:(arr.toList.take (base+i*6)++vs++arr.toList.drop (base+i*6+vs.length)).toArray.size=arr.size:=by simp;omega
    generalize (arr.toList.take (base+i*6)++vs++arr.toList.drop (base+i*6+vs.length)).toArray=arr' at hget hsize;refine post_move (c':=.at b base hi' 6) hI (FrameOk.setRow hbl hsize fun q hq=>?_) (fun b' o' h=>.inl h) (hflat.box (setRow_heap w b arr arr' el _ hbl) (fun k v hk=>?_) (by rw [hflat.len.symm.trans (by simp;omega:_=(i+1)*6)];omega) (by omega)) ?_
    ·rw [hget];have hout:¬(base<=q/\q<hi'):=fun hh=>hq ⟨rfl,hh.1,hh.2⟩;by_cases h5:q<base+i*6;·rw [if_pos h5]
     rw [if_neg h5,if_neg (by omega)]
    ·rw [hget];rcases ins_get hcl hvl (Nat.le_refl _) hk with ⟨h1,h2⟩|⟨h1,h2,h3⟩|⟨h1,h2,h3⟩;·rw [if_pos (by omega)];exact hcar k v h2
     ·rw [if_neg (by omega),if_pos (by omega),<-h3];congr 1;omega
     omega
    have:=@Rep.bs K ([.at b base hi' 6]++[.at b base hi' 6]) 1 0 (i+1) b base hi' 6 cap rfl (by omega) hfit;simpa using this
   refine endGrow (some ⟨b,base,none⟩) cap cs hin (by omega) (by omega) (fun e=>by cases e) hfe (fun w' hw=>?_);refine run_firstCells_some w' 6 n ⟨b,base,none⟩ n cap cs (by omega) (fun j u hu=>?_);rw [Addr.add_lit];have:=hcs j u hu;simp only [World.cell?,hw] at this ⊢;exact this
  have hil:i<n:=by omega
  by_cases hfit:n+1<=cap
  ·have hlb:arr.toList.length=arr.size:=Array.length_toList;have hsh:w.shape? b=some (el,arr.size):=by simp [World.shape?,hbl]
   refine (ins_shift b base n cap i vb vo c2 cs vs w hil hfit hn2 (fun j k hj hk e hne=>?_) hcl hvl hcs (fun j hj=>?_) (fun j _=>hfz _) hvs h1c h1v tA el kA arr.size hsa hsh (by omega) hkA hfz).mono ?_;·have hk1:=hvK j _ (qad (by omega));rw [e,hne,hnk _ (by omega) (by omega)] at hk1;cases hk1
   ·simp only [World.cell?,hbl];rw [qao (by omega)];rfl
   rintro e w' ⟨rfl,rfl⟩
   have hdl:(cs.drop (i*6)).length=(n-i)*6:=by rw [qaj,hcl];omega
   have hbl2:w.drew.heap[b]?=some (.cells arr el (0,0)):=hbl;rw [setCells_row w.drew b _ arr el _ hbl2 (by omega) (fun v hv'=>h1c v (List.mem_of_mem_drop hv'))];have hget1:=fun q=>splice_get arr.toList (cs.drop (i*6)) (base+(i+1)*6) q (by omega);have hsz1:(arr.toList.take (base+(i+1)*6)++cs.drop (i*6)++arr.toList.drop (base+(i+1)*6+(cs.drop (i*6)).length)).toArray.size=arr.size:=by simp only [List.size_toArray,qae,qac,qaj,hlb];omega
   generalize (arr.toList.take (base+(i+1)*6)++cs.drop (i*6)++arr.toList.drop (base+(i+1)*6+(cs.drop (i*6)).length)).toArray=arr1 at hget1 hsz1 ⊢;have hb1:=setRow_heap w.drew b arr arr1 el (0,0) hbl2;have hlb1:arr1.toList.length=arr1.size:=Array.length_toList;rw [setCells_row _ b _ arr1 el _ hb1 (by omega) h1v];have hget2:=fun q=>splice_get arr1.toList vs (base+i*6) q (by omega);have hsz2:(arr1.toList.take (base+i*6)++vs++arr1.toList.drop (base+i*6+vs.length)).toArray.size=arr1.size:=by simp only [List.size_toArray,qae,qac,qaj,hlb1];omega
   generalize (arr1.toList.take (base+i*6)++vs++arr1.toList.drop (base+i*6+vs.length)).toArray=arr2 at hget2 hsz2 ⊢;have hb2:=setRow_heap _ b arr1 arr2 el (0,0) hb1;simp only [Array.getElem?_toList] at hget1 hget2;refine post_move (c':=.at b base hi' 6) hI (FrameOk.trans (FrameOk.drew _ w) (FrameOk.trans (FrameOk.setRow hbl2 hsz1 fun q hq=>?_) (FrameOk.setRow (S:=(CB.at b base hi' 6).owns) hb1 hsz2 fun q hq=>?_) (fun _ _ _ h=>h)) (fun _ _ _ h=>h)) (fun b' o' h=>.inl h) (hflat.box hb2 (fun k v hk=>?_) ?_ (by omega)) ?_
   ·rw [hget1];have hout:¬(base<=q/\q<hi'):=fun hh=>hq ⟨rfl,hh.1,hh.2⟩;by_cases h5:q<base+(i+1)*6;·rw [if_pos h5]
    rw [if_neg h5,if_neg (by omega)]
   ·rw [hget2];have hout:¬(base<=q/\q<hi'):=fun hh=>hq ⟨rfl,hh.1,hh.2⟩;by_cases h5:q<base+i*6;·rw [if_pos h5]
    rw [if_neg h5,if_neg (by omega)]
   ·rw [hget2];rcases ins_get hcl hvl hi hk with ⟨h1,h2⟩|⟨h1,h2,h3⟩|⟨h1,h2,h3⟩;·rw [if_pos (by omega),hget1,if_pos (by omega)];exact hcar k v h2
    ·rw [if_neg (by omega),if_pos (by omega),<-h3];congr 1;omega
    rw [if_neg (by omega),if_neg (by omega),hget1,if_neg (by omega),if_pos (by omega),qak,<-h3];congr 1;omega
   ·have:=hflat.len;simp only [qae,qac,qaj,List.length_singleton];omega
   have:=@Rep.bs K ([.at b base hi' 6]++[.at b base hi' 6]) 1 0 (n+1) b base hi' 6 cap rfl (by omega) hfit;simpa using this
  refine (ins_grow b base n cap i vb vo c2 cs vs w hil (by omega) (by omega) (by omega) hcl hvl hcs hvs h1c h1v).mono ?_
  rintro e w' ⟨G,tl,hG,rfl,htl,rfl⟩
  have hdl:(cs.drop (i*6)).length=(n-i)*6:=by rw [qaj,hcl];omega
  have hTl:(cs.take (i*6)).length=i*6:=by rw [qac];omega
  generalize hA:(cs.take (i*6)++tl).toArray=A;have hAs:A.size=G*6:=by rw [<-hA,List.size_toArray,qae,hTl,htl];omega
  have hlA:A.toList.length=A.size:=Array.length_toList;have hb0:(w.alloc (.cells A 31)).drew.heap[w.heap.size]?=some (.cells A 31 (0,0)):=alloc_get w _;rw [setCells_row _ _ _ A 31 _ hb0 (by omega) h1v];have hget1:=fun q=>splice_get A.toList vs (i*6) q (by omega);have hsz1:(A.toList.take (i*6)++vs++A.toList.drop (i*6+vs.length)).toArray.size=A.size:=by simp only [List.size_toArray,qae,qac,qaj,hlA];omega
  generalize (A.toList.take (i*6)++vs++A.toList.drop (i*6+vs.length)).toArray=arr1 at hget1 hsz1 ⊢;have hb1:=setRow_heap _ w.heap.size A arr1 31 (0,0) hb0;have hlb1:arr1.toList.length=arr1.size:=Array.length_toList;have hb1':((w.alloc (.cells A 31)).drew.setRow w.heap.size arr1).drew.heap[w.heap.size]?=some (.cells arr1 31 (0,0)):=hb1;rw [setCells_row _ _ _ arr1 31 _ hb1' (by omega) (fun v hv'=>h1c v (List.mem_of_mem_drop hv'))];have hget2:=fun q=>splice_get arr1.toList (cs.drop (i*6)) ((i+1)*6) q (by omega);have hsz2:(arr1.toList.take ((i+1)*6)++cs.drop (i*6)++arr1.toList.drop ((i+1)*6+(cs.drop (i*6)).length)).toArray.size=arr1.size:=by simp only [List.size_toArray,qae,qac,qaj,hlb1];omega
  generalize (arr1.toList.take ((i+1)*6)++cs.drop (i*6)++arr1.toList.drop ((i+1)*6+(cs.drop (i*6)).length)).toArray=arr2 at hget2 hsz2 ⊢;have hb2:=setRow_heap _ w.heap.size arr1 arr2 31 (0,0) hb1';simp only [Array.getElem?_toList] at hget1 hget2;have hfr:FrameOk (CB.at b base hi' 6).owns w (((w.alloc (.cells A 31)).drew.setRow w.heap.size arr1).drew.setRow w.heap.size arr2):=by
   have f1:FrameOk (fun p _=>p=w.heap.size) w (((w.alloc (.cells A 31)).drew.setRow w.heap.size arr1).drew.setRow w.heap.size arr2):=
    FrameOk.trans (FrameOk.alloc (S:=fun p _=>p=w.heap.size) w _) (FrameOk.trans (FrameOk.drew _ _) (FrameOk.trans (FrameOk.setRow hb0 hsz1 fun q hq=>absurd rfl hq) (FrameOk.trans (FrameOk.drew _ _) (FrameOk.setRow hb1' hsz2 fun q hq=>absurd rfl hq) (fun _ _ _ h=>h)) (fun _ _ _ h=>h)) (fun _ _ _ h=>h)) (fun _ _ _ h=>h)
   exact f1.mono fun p o hp h=>by omega
  refine post_move (c':=.at w.heap.size 0 (G*6) 6) hI hfr (fun b' o' h=>.inr (by rw [h.1];exact Nat.le_refl _)) (hflat.box hb2 (fun k v hk=>?_) ?_ (by omega)) ?_
  ·rw [Nat.zero_add,hget2];rcases ins_get hcl hvl hi hk with ⟨h1,h2⟩|⟨h1,h2,h3⟩|⟨h1,h2,h3⟩;·rw [if_pos (by omega),hget1,if_pos (by omega),<-hA,List.getElem?_toArray,qai (by omega),qaq,if_pos h1];exact h2
   ·rw [if_pos (by omega),hget1,if_neg (by omega),if_pos (by omega)];exact h3
   rw [if_neg (by omega),if_pos (by omega),qak,<-h3];congr 1;omega
  ·simp only [qae,qac,qaj,List.length_singleton];omega
  have:=@Rep.bs K ([.at b base hi' 6]++[.at w.heap.size 0 (G*6) 6]) 1 0 (n+1) w.heap.size 0 (G*6) 6 G rfl (by omega) (by omega);simpa using this
end
end Go.Proofs.YtonnphbfclaigaaGreatDoor.Iv
namespace Go.Proofs.YtonnphbfclaigaaGreatDoor.Im
open Go.Em Go.RowKit Go.Lib
variable {P:Program}
theorem run_copy_k (w:World)(dT sT ty elem:TypeId)(k:Nat)(b o dLen dCap:Nat)(a:Addr)(sLen sCap:Nat)(cs:List Value)
  (hu:P.underlying dT=some (.slice elem)) (hs:(P.info? elem).map (·.size)=some k) (hn:cs.length=Nat.min sLen dLen*k)
  (hsrc:∀j v,cs[j]?=some v->w.cell? (a.add j)=some v) (hc:∀j,j<cs.length->(w.cell? ⟨b,o+j,none⟩).isSome=true) (hf:∀j,j<cs.length->w.frozen? ⟨b,o+j,none⟩=false) (h1:∀v∈cs,v.oneCell'=true):
  (Builtin.copy_ #[dT,sT] ty #[.slice (some ⟨b,o,none⟩) dLen dCap,.slice (some a) sLen sCap]).run P w=.ok (goInt (Nat.min sLen dLen)) (w.setCells b o cs):=by
 have hl:=run_loadCells_list (P:=P) w a cs hsrc;have hst:=run_storeCells_cells (P:=P) b o cs 0 w (by simpa using hc) (by simpa using hf) h1;cases hq:P.info? elem with
 |none=>simp [hq] at hs
 |some i=>
  have hi:i.size=k:=by simpa [hq] using hs
  simp [Builtin.copy_,run_underlying hu,Builtin.lenOf,Builtin.firstCells,sizeOf,typeInfo,hq,hi,<-hn,hl,hst]
theorem run_overlaps_own (w:World)(tS tR e:TypeId)(ht:P.underlying tS=some (.slice e))(size:Nat)(hz:∀w,(Go.sizeOf e).run P w=.ok size w)
  (a b:Addr) (la ca lb cb:Nat) (hne:a.block≠b.block) (tA tB:TypeId) (kA kB:Nat)
  (hsa:w.shape? a.block=some (tA,kA)) (hsb:w.shape? b.block=some (tB,kB)) (hkB:kB≠0) (hkA:kA≠0)
  (hfb:w.frozen? b=false) (hfe:w.frozen? {block:=b.block,off:=kB}=false):
  (Extern.SlicesOverlaps.overlaps #[tS,tS] #[tR] #[.slice (some a) la ca,.slice (some b) lb cb]).run P w=.ok (.bool false) w:=by
 have hnb:(a.block !=b.block)=true:=by simpa using hne
 have hnb':(a.block==b.block)=false:=by simpa using hne
 change Sem.run P (α:=Value) (do
  let some t:=(#[tS,tS]:Array TypeId)[0]?|stuck "slices.overlaps: no parameter types"
  let .slice elem <-underlying t|stuck "slices.overlaps: slice type expected"
  let size <-sizeOf elem
  match (some a:Option Addr),(some b:Option Addr) with
  |some a,some b=>
   if la=0\/lb=0\/size=0 then pure (Value.bool false)
   else if a.block !=b.block&&(<-frozen a)&&(<-frozen b) then unsupported .addressObserved
   else do
    if a.block !=b.block then do
     noView a;noView b
     if <-mayBeOne a b then return Value.bool ((<-choose (.extern "sameAddr.stringBytes" 2))==1)
    pure (Value.bool (a.block==b.block&&a.off<b.off+lb*size&&b.off<a.off+la*size))
  |_,_=>pure (Value.bool false)) w=_
 by_cases h0:la=0\/lb=0\/size=0;·simp [run_underlying ht,hz,h0]
 cases kB with
 |zero=>exact absurd rfl hkB
 |succ kB=>
  obtain ⟨kA,rfl⟩:∃k,kA=k+1:=⟨kA-1,by omega⟩;cases hfa:w.frozen? a with
  |true=>simp [run_underlying ht,hz,h0,hnb,hnb',frozen,noView,viewAt,mayBeOne,stringish,shape,Sem.run,hsa,hsb,hfb,hfe,hfa]
  |false=>
   cases hfx:w.frozen? {block:=a.block,off:=kA+1} with
   |true=>simp [run_underlying ht,hz,h0,hnb,hnb',frozen,noView,viewAt,mayBeOne,stringish,shape,Sem.run,hsa,hsb,hfb,hfe,hfa,hfx]
   |false=>simp [run_underlying ht,hz,h0,hnb,hnb',frozen,noView,viewAt,mayBeOne,stringish,shape,Sem.run,hsa,hsb,hfb,hfe,hfa,hfx]
theorem run_overlaps_same (w:World)(tS tR e:TypeId)(ht:P.underlying tS=some (.slice e))(size:Nat)(hz:∀w,(Go.sizeOf e).run P w=.ok size w)
  (a b:Addr) (la ca lb cb:Nat) (hsame:a.block=b.block) (hd:¬(a.off<b.off+lb*size/\b.off<a.off+la*size)):
  (Extern.SlicesOverlaps.overlaps #[tS,tS] #[tR] #[.slice (some a) la ca,.slice (some b) lb cb]).run P w=.ok (.bool false) w:=by
 have hnb:(a.block !=b.block)=false:=by simpa using hsame
 have hnb':(a.block==b.block)=true:=by simpa using hsame
 have hd':(decide (a.off<b.off+lb*size)&&decide (b.off<a.off+la*size))=false:=by
  cases h:(decide (a.off<b.off+lb*size)&&decide (b.off<a.off+la*size)) with
  |false=>rfl
  |true=>exact absurd (by simpa using h) hd
 change Sem.run P (α:=Value) (do
  let some t:=(#[tS,tS]:Array TypeId)[0]?|stuck "slices.overlaps: no parameter types"
  let .slice elem <-underlying t|stuck "slices.overlaps: slice type expected"
  let size <-sizeOf elem
  match (some a:Option Addr),(some b:Option Addr) with
  |some a,some b=>
   if la=0\/lb=0\/size=0 then pure (Value.bool false)
   else if a.block !=b.block&&(<-frozen a)&&(<-frozen b) then unsupported .addressObserved
   else do
    if a.block !=b.block then do
     noView a;noView b
     if <-mayBeOne a b then return Value.bool ((<-choose (.extern "sameAddr.stringBytes" 2))==1)
    pure (Value.bool (a.block==b.block&&a.off<b.off+lb*size&&b.off<a.off+la*size))
  |_,_=>pure (Value.bool false)) w=_
 by_cases h0:la=0\/lb=0\/size=0;·simp [run_underlying ht,hz,h0]
 simp [run_underlying ht,hz,h0,hnb,hnb',hd',frozen,Sem.run]
theorem und35:Tryz.prog.underlying 39=some (.slice 33):=by kernel_rfl
theorem info78:(Tryz.prog.info? 33).map (·.size)=some 10:=by kernel_rfl
theorem size78:∀w,(Go.sizeOf 33).run Tryz.prog w=.ok 10 w:=Tryz.sizeOf33
set_option maxHeartbeats 4000000 in
set_option maxRecDepth 100000 in
theorem ins_shift (b off n c i vb voff vc:Nat)(cs vs:List Value)(w:World)(hi:i<n)(hroom:n+1<=c)(hn3:n<=2000000)(hdis:∀j k,j<10->k<(n+1)*10->vb=b->voff+j≠off+k)
  (hcl:cs.length=n*10) (hvl:vs.length=10)
  (hcs:∀j v,cs[j]?=some v->w.cell? ⟨b,off+j,none⟩=some v) (hsp:∀j,j<(n+1)*10->(w.cell? ⟨b,off+j,none⟩).isSome=true) (hfz:∀j,j<(n+1)*10->w.frozen? ⟨b,off+j,none⟩=false)
  (hvs:∀j v,vs[j]?=some v->w.cell? ⟨vb,voff+j,none⟩=some v) (h1c:∀v∈cs,v.oneCell'=true) (h1v:∀v∈vs,v.oneCell'=true)
  (tA tB:TypeId) (kA kB:Nat) (hsa:w.shape? vb=some (tA,kA)) (hsb:w.shape? b=some (tB,kB)) (hkB:kB≠0) (hkA:kA≠0) (hfb:∀o,w.frozen? ⟨b,o,none⟩=false):
  Calls Tryz.prog 206 #[.slice (some ⟨b,off,none⟩) n c,.int .i64 i,.slice (some ⟨vb,voff,none⟩) 1 vc] w fun e w'=>
   e=.returned (.slice (some ⟨b,off,none⟩) (n+1) c)/\w'=(w.drew.setCells b (off+(i+1)*10) (cs.drop (i*10))).setCells b (off+i*10) vs:=by
 have hz2:¬((i:Int)=(n:Int)):=by omega
 have hov:∀cb,(callFunc 270 #[.slice (some ⟨vb,voff,none⟩) 1 vc,.slice (some ⟨b,off+(i+1)*10,none⟩) (n-i) cb]).run Tryz.prog w=.ok (.value (.bool false)) w:=fun cb=>by
  rw [run_callFunc_extern Tryz.func270 (by kernel_rfl) (by kernel_rfl) (by kernel_rfl) (e:=Extern.SlicesOverlaps.overlaps #[39,39] #[4]) (by kernel_rfl)];by_cases hvb:vb=b
  ·rw [run_overlaps_same w 39 4 33 und35 10 size78 ⟨vb,voff,none⟩ ⟨b,off+(i+1)*10,none⟩ 1 vc (n-i) cb hvb (fun h=>by
    obtain ⟨h1,h2⟩:=h;dsimp only at h1 h2;by_cases hlo:off+(i+1)*10<=voff;·exact hdis 0 (voff-off) (by omega) (by omega) hvb (by omega)
    exact hdis (off+(i+1)*10-voff) ((i+1)*10) (by omega) (by omega) hvb (by omega))]
   rfl
  rw [run_overlaps_own w 39 4 33 und35 10 size78 ⟨vb,voff,none⟩ ⟨b,off+(i+1)*10,none⟩ 1 vc (n-i) cb hvb tA tB kA kB hsa hsb hkB hkA (hfb _) (hfb _)];rfl
 have hdl:(cs.drop (i*10)).length=(n-i)*10:=by rw [qaj,hcl];omega
 have hw1:IntKind.i64.wrap ((i:Int)+1)=(i:Int)+1:=by rw [IntKind.wrap_i64];omega
 have hb1:(0:Int)<=(i:Int)+1:=by omega
 have hin:i<=n:=by omega
 have htn:((i:Int)+1).toNat=i+1:=by omega
 have hb2:¬(c=i+1):=by omega
 have hb3:(i:Int)<=(n:Int)+1:=by omega
 have hb4:¬(c=i):=by omega
 have hcp1:∀ty dc sc,(Builtin.copy_ #[39,39] ty #[.slice (some ⟨b,off+(i+1)*10,none⟩) (n-i) dc,.slice (some ⟨b,off+i*10,none⟩) (n+1-i) sc]).run Tryz.prog w.drew=.ok (goInt (Nat.min (n+1-i) (n-i))) (w.drew.setCells b (off+(i+1)*10) (cs.drop (i*10))):=fun ty dc sc=>
  run_copy_k w.drew _ _ ty 33 10 b (off+(i+1)*10) (n-i) dc ⟨b,off+i*10,none⟩ (n+1-i) sc (cs.drop (i*10)) und35 info78 (by rw [hdl];congr 1;simp only [Nat.min_def];split<;>omega)
   (fun j v hj=>by rw [Addr.add_lit,Nat.add_assoc];exact hcs (i*10+j) v (by rwa [qak] at hj))
   (fun j hj=>by rw [Nat.add_assoc];exact hsp _ (by omega)) (fun j hj=>by rw [Nat.add_assoc];exact hfz _ (by omega)) (fun v hv=>h1c v (List.mem_of_mem_drop hv))
 obtain ⟨W1,hW1⟩:∃W1,W1=w.drew.setCells b (off+(i+1)*10) (cs.drop (i*10)):=⟨_,rfl⟩;have hsp1:∀k,k<(n+1)*10->(W1.cell? ⟨b,off+k,none⟩).isSome=true:=fun k hk=>by rw [hW1];exact isSome_setCells b _ _ _ (fun j hj=>by rw [Nat.add_assoc];exact hsp _ (by omega)) _ (hsp k hk)
 have hcp2:∀(W:World),(∀x,W.cell? x=W1.cell? x)->(∀x,W.frozen? x=W1.frozen? x)->∀ty dc,(Builtin.copy_ #[39,39] ty #[.slice (some ⟨b,off+i*10,none⟩) (n+1-i) dc,.slice (some ⟨vb,voff,none⟩) 1 vc]).run Tryz.prog W=.ok (goInt (Nat.min 1 (n+1-i))) (W.setCells b (off+i*10) vs):=fun W hWc hWf ty dc=>
  run_copy_k W _ _ ty 33 10 b (off+i*10) (n+1-i) dc ⟨vb,voff,none⟩ 1 vc vs und35 info78 (by rw [hvl];simp only [Nat.min_def];split<;>omega)
   (fun j v hj=>by
    have hj':j<10:=by rw [<-hvl];exact (qah.1 hj).1
    rw [Addr.add_lit,hWc,hW1,World.cell?_setCells_out b _ _ _ _ (fun h _=>by
     dsimp only at h ⊢;have h5:=hdis j (voff+j-off) hj';by_cases h6:off<=voff+j/\voff+j-off<(n+1)*10;·exact absurd (by omega) (h5 h6.2 h)
     omega)]
    exact hvs j v hj)
   (fun j hj=>by rw [hWc,Nat.add_assoc];exact hsp1 _ (by omega)) (fun j hj=>by rw [hWf,hW1,World.frozen?_setCells,Nat.add_assoc];exact hfz _ (by omega)) h1v
 rw [<-hW1] at hcp1;have mixed:Tryz.prog.follows .mixedOrders=true:=by kernel_rfl
 go_enter Tryz.func206,Tryz.ntmps206
 go_wp2_with (simp only [hov])
 go_region_law_o (refine step_copy_runI rfl _ _ 39 39 rfl _ _ (by simp [Act.eval,Act.put]) (by simp [Act.eval,Act.put]) (hcp1 _ _ _) ?_)
 go_wp2_with (at_builtin;refine wpList_copy_runI _ rfl _ _ 39 39 rfl _ _ rfl rfl (hcp2 _ (fun _=>rfl) (fun _=>rfl) _ _) ?_)
 go_ret
 first|exact ⟨rfl,rfl⟩|exact ⟨rfl,by rw [hW1]⟩
set_option maxHeartbeats 4000000 in
set_option maxRecDepth 100000 in
theorem ins_end (ob:Option Addr)(n c vb voff vc:Nat)(w w1:World)(v:Value)(hnc:n<=c)(hn3:n<=2000000)(hnil:ob=none->n=0/\c=0)
  (hrun:∀ty,(Builtin.append_ #[39,39] ty #[.slice ob n c,.slice (some ⟨vb,voff,none⟩) 1 vc]).run Tryz.prog w=.ok v w1):
  Calls Tryz.prog 206 #[.slice ob n c,.int .i64 n,.slice (some ⟨vb,voff,none⟩) 1 vc] w fun e w'=>e=.returned v/\w'=w1:=by
 have mixed:Tryz.prog.follows .mixedOrders=true:=by kernel_rfl
 go_enter Tryz.func206,Tryz.ntmps206
 cases ob with
 |none=>
  obtain ⟨rfl,rfl⟩:=hnil rfl
  go_wp2_with (at_builtin;refine Lib.wpList_append_run _ rfl _ _ _ _ rfl _ _ rfl rfl _ _ (hrun _) ?_)
  go_ret
  exact ⟨rfl,rfl⟩
 |some a=>
  obtain ⟨ab,ao,asp⟩:=a
  go_wp2_with (at_builtin;refine Lib.wpList_append_run _ rfl _ _ _ _ rfl _ _ rfl rfl _ _ (hrun _) ?_)
  all_goals (go_ret;exact ⟨rfl,rfl⟩)
def IsRow (r:Array Value)(l:List Value):Prop:=r=l.toArray
theorem info78b:(Tryz.prog.info? 33).map (fun i=>(i.zero.map (·.cells.size),i.size,i.bytes))=some (some 10,10,152):=by kernel_rfl
theorem und3:Tryz.prog.underlying 3=some (.int .i64):=by kernel_rfl
set_option maxHeartbeats 4000000 in
set_option maxRecDepth 100000 in
theorem ins_grow (b off n c i vb voff vc:Nat)(cs vs:List Value)(w:World)(hi:i<n)(hnc:n<=c)(hroom:c<n+1)(hc63:c<=4000000)
  (hcl:cs.length=n*10) (hvl:vs.length=10)
  (hcs:∀j v,cs[j]?=some v->w.cell? ⟨b,off+j,none⟩=some v)
  (hvs:∀j v,vs[j]?=some v->w.cell? ⟨vb,voff+j,none⟩=some v) (h1c:∀v∈cs,v.oneCell'=true) (h1v:∀v∈vs,v.oneCell'=true):
  Calls Tryz.prog 206 #[.slice (some ⟨b,off,none⟩) n c,.int .i64 i,.slice (some ⟨vb,voff,none⟩) 1 vc] w fun e w'=>
   ∃(G:Nat) (tl:List Value),n+1<=G/\e=.returned (.slice (some ⟨w.heap.size,0,none⟩) (n+1) G)/\tl.length=(G-i)*10/\
   w'=(((w.alloc (.cells ((cs.take (i*10))++tl).toArray 33)).drew.setCells w.heap.size (i*10) vs).drew).setCells w.heap.size ((i+1)*10) (cs.drop (i*10)):=by
 obtain ⟨i0,hi0,hz0,hzs,hzb⟩:∃i0,Tryz.prog.info? 33=some i0/\i0.zero.map (·.cells.size)=some 10/\i0.size=10/\i0.bytes=152:=by obtain ⟨i0,h1,h2⟩:=qaf.1 info78b;simp only [qab] at h2;exact ⟨i0,h1,h2.1,h2.2.1,h2.2.2⟩
 obtain ⟨zv,hz0,hzc⟩:=qaf.1 hz0;have hz2:¬((i:Int)=(n:Int)):=by omega
 have hz3:(c:Int)<(n:Int)+1:=by omega
 have hbw:b<w.heap.size:=block_lt_of_cell (hcs 0 _ (qad (by omega)));have hvw:vb<w.heap.size:=block_lt_of_cell (hvs 0 _ (qad (by omega)));have hkk:(n:Int)+1-(i:Int)=((n+1-i:Nat):Int):=by omega
 have hik:i+(n+1-i)=n+1:=by omega
 have hold:(Builtin.firstCells i0.size i (.slice (some ⟨b,off,none⟩) i c)).run Tryz.prog w.drew=.ok (cs.take (i*10)).toArray w.drew:=by
  rw [hzs];exact run_firstCells_some w.drew 10 i ⟨b,off,none⟩ i c (cs.take (i*10)) (by rw [qac];omega) (fun j v hj=>by
   rw [Addr.add_lit];rw [qaq] at hj;split at hj;·exact hcs j v hj
   cases hj)
 have hrz:∀ty,(Builtin.append_ #[39,3] ty #[.slice (some ⟨b,off,none⟩) i c,.int .i64 ((n:Int)+1-(i:Int))]).run Tryz.prog w=
   .ok (.slice (some ⟨w.heap.size,0,none⟩) (n+1) (grownCap w (n+1) c 33)) (w.drew.alloc (.cells ((cs.take (i*10)).toArray++Builtin.zeroCells zv.cells (n+1-i)++Builtin.zeroCells zv.cells (grownCap w (n+1) c 33-(n+1))) 33)):=fun ty=>by
  have h:=Lib.run_append_grow_zeros w 39 3 ty 33 i0 zv .i64 .i64 und35 und3 hi0 hz0 (some ⟨b,off,none⟩) i c (cs.take (i*10)) hold (n+1-i) (by omega) (by omega) (by omega) (by omega) (by rw [hzb];omega) (by rw [hzb,hik];exact growslice_fits hroom (by omega));rw [hik] at h;rw [hkk];exact h
 have hGn:n+1<=grownCap w (n+1) c 33:=grownCap_ge w _ _ _;have hG63:grownCap w (n+1) c 33<=9223372036854775807:=by have:=grownCap_le_maxLen w (n+1) c 33 (by unfold maxLen;omega);unfold maxLen at this;omega
 generalize grownCap w (n+1) c 33=G at hrz hGn hG63;have hzl:∀k,(Builtin.zeroCells zv.cells k).size=k*10:=fun k=>by simp [Builtin.zeroCells,hzc]
 obtain ⟨tl,htl⟩:∃tl:List Value,(cs.take (i*10)).toArray++Builtin.zeroCells zv.cells (n+1-i)++Builtin.zeroCells zv.cells (G-(n+1))=((cs.take (i*10))++tl).toArray/\tl.length=(G-i)*10:=by
  refine ⟨(Builtin.zeroCells zv.cells (n+1-i)).toList++(Builtin.zeroCells zv.cells (G-(n+1))).toList,?_,?_⟩;·apply Array.toList_inj.1;simp
  rw [qae,Array.length_toList,Array.length_toList,hzl,hzl];omega
 obtain ⟨htl,htll⟩:=htl;rw [htl] at hrz;obtain ⟨ROW,hROW⟩:∃ROW:Array Value,ROW=((cs.take (i*10))++tl).toArray:=⟨_,rfl⟩;have hRl:(n+1)*10<=ROW.size:=by rw [hROW];simp only [List.size_toArray,qae,qac,htll];omega
 rw [<-hROW] at hrz;obtain ⟨W1,hW1⟩:∃W1,W1=w.drew.alloc (.cells ROW 33):=⟨_,rfl⟩;rw [<-hW1] at hrz;have hN:∀j,j<(n+1)*10->(W1.cell? ⟨w.heap.size,j,none⟩).isSome=true:=fun j hj=>by rw [hW1,World.cell?_alloc_at (w:=w.drew) ROW _ w.heap.size j rfl,qao (by omega)];rfl
 have hNf:∀j,W1.frozen? ⟨w.heap.size,j,none⟩=false:=fun j=>by rw [hW1];exact World.frozen?_alloc_at (w:=w.drew) ROW _ w.heap.size j rfl
 have hOb:∀j v,w.cell? ⟨b,j,none⟩=some v->W1.cell? ⟨b,j,none⟩=some v:=fun j v h=>by rw [hW1,World.cell?_alloc_past (w:=w.drew) _ b j hbw];exact h
 have hOv:∀j v,w.cell? ⟨vb,j,none⟩=some v->W1.cell? ⟨vb,j,none⟩=some v:=fun j v h=>by rw [hW1,World.cell?_alloc_past (w:=w.drew) _ vb j hvw];exact h
 have hcpA:∀(W:World),(∀x,W.cell? x=W1.cell? x)->(∀x,W.frozen? x=W1.frozen? x)->∀ty dc,(Builtin.copy_ #[39,39] ty #[.slice (some ⟨w.heap.size,i*10,none⟩) (n+1-i) dc,.slice (some ⟨vb,voff,none⟩) 1 vc]).run Tryz.prog W=.ok (goInt (Nat.min 1 (n+1-i))) (W.setCells w.heap.size (i*10) vs):=fun W hWc hWf ty dc=>
  run_copy_k W _ _ ty 33 10 w.heap.size (i*10) (n+1-i) dc ⟨vb,voff,none⟩ 1 vc vs und35 info78 (by rw [hvl];simp only [Nat.min_def];split<;>omega)
   (fun j v hj=>by rw [Addr.add_lit,hWc];exact hOv _ v (hvs j v hj))
   (fun j hj=>by rw [hWc];exact hN _ (by omega)) (fun j hj=>by rw [hWf];exact hNf _) h1v
 have hGi:¬(G=i):=by omega
 have hGim:¬(G=i+1):=by omega
 have hci:¬(c=i):=by omega
 have hbN:b≠w.heap.size:=by omega
 have hdl:(cs.drop (i*10)).length=(n-i)*10:=by rw [qaj,hcl];omega
 have hcpB:∀(W:World),(∀x,W.cell? x=(W1.setCells w.heap.size (i*10) vs).cell? x)->(∀x,W.frozen? x=(W1.setCells w.heap.size (i*10) vs).frozen? x)->∀ty dc sc,(Builtin.copy_ #[39,39] ty #[.slice (some ⟨w.heap.size,(i+1)*10,none⟩) (n-i) dc,.slice (some ⟨b,off+i*10,none⟩) (n-i) sc]).run Tryz.prog W=.ok (goInt (Nat.min (n-i) (n-i))) (W.setCells w.heap.size ((i+1)*10) (cs.drop (i*10))):=fun W hWc hWf ty dc sc=>
  run_copy_k W _ _ ty 33 10 w.heap.size ((i+1)*10) (n-i) dc ⟨b,off+i*10,none⟩ (n-i) sc (cs.drop (i*10)) und35 info78 (by rw [hdl];simp)
   (fun j v hj=>by rw [Addr.add_lit,hWc,World.cell?_setCells_out _ _ _ _ _ (fun h _=>absurd h hbN),Nat.add_assoc];exact hOb _ v (hcs (i*10+j) v (by rwa [qak] at hj)))
   (fun j hj=>by rw [hWc];exact isSome_setCells _ _ _ _ (fun t ht=>hN _ (by omega)) _ (hN _ (by omega)))
   (fun j hj=>by rw [hWf,World.frozen?_setCells];exact hNf _) (fun v hv=>h1c v (List.mem_of_mem_drop hv))
 subst hW1;have hE1:∀x,((w.alloc (.cells ROW 33)).drew).cell? x=(w.drew.alloc (.cells ROW 33)).cell? x:=fun x=>rfl;have hE2:∀x,((w.alloc (.cells ROW 33)).drew).frozen? x=(w.drew.alloc (.cells ROW 33)).frozen? x:=fun x=>rfl;have hF1:∀x,(((w.alloc (.cells ROW 33)).drew.setCells w.heap.size (i*10) vs).drew).cell? x=((w.drew.alloc (.cells ROW 33)).setCells w.heap.size (i*10) vs).cell? x:=fun x=>rfl;have hF2:∀x,(((w.alloc (.cells ROW 33)).drew.setCells w.heap.size (i*10) vs).drew).frozen? x=((w.drew.alloc (.cells ROW 33)).setCells w.heap.size (i*10) vs).frozen? x:=fun x=>rfl;have hw1:IntKind.i64.wrap ((i:Int)+1)=(i:Int)+1:=by rw [IntKind.wrap_i64];omega
 have hb1:(0:Int)<=(i:Int)+1:=by omega
 have hin:i<=n:=by omega
 have htn:((i:Int)+1).toNat=i+1:=by omega
 have hb3:(i:Int)<=(n:Int):=by omega
 have mixed:Tryz.prog.follows .mixedOrders=true:=by kernel_rfl
 have hkeep:IsRow ROW ((cs.take (i*10))++tl):=hROW;clear hkk hik hold hRl htl hROW
 go_enter Tryz.func206,Tryz.ntmps206
 go_wp2_with (first
  |(at_builtin;refine Lib.wpList_append_run _ rfl _ _ _ _ rfl _ _ rfl rfl _ _ (hrz _) ?_)
  |(at_builtin;refine wpList_copy_runI _ rfl _ _ 39 39 rfl _ _ rfl rfl (hcpA _ hE1 hE2 _ _) ?_)
  |(at_builtin;refine wpList_copy_runI _ rfl _ _ 39 39 rfl _ _ rfl rfl (hcpB _ (fun _=>rfl) (fun _=>rfl) _ _ _) ?_))
 go_region_law_o (refine step_copy_runI rfl _ _ 39 39 rfl (.slice (some ⟨w.heap.size,(i+1)*10,none⟩) (n-i) (G-(i+1))) (.slice (some ⟨b,off+i*10,none⟩) (n-i) (c-i)) (by simp [Act.eval,Act.put]) (by simp [Act.eval,Act.put]) (hcpB _ hF1 hF2 3 (G-(i+1)) (c-i)) ?_)
 go_wp2
 go_ret
 exact ⟨G,tl,hGn,rfl,htll,by unfold IsRow at hkeep;rw [<-hkeep]⟩
end Go.Proofs.YtonnphbfclaigaaGreatDoor.Im
