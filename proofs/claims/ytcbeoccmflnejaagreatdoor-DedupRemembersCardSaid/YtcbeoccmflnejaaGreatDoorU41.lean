/-.-/
import Derived.Shelf.Strings.Repeat
import Derived.Shelf.Strconv.AtoiAll
import Derived.Shelf.Unicode.DecodeAny
import Derived.Shelf.Strings.Search2
import Derived.Lib.AppendIntMem
import Derived.Lib.SmallJoins
import Derived.Shelf.Strings.BuilderRune
import Derived.Shelf.Strings.BuilderK
import Derived.Laws.IdiomStrings
import Derived.Shelf.Slices.Clone
import Derived.Shelf.Unicode.ValidAny
import Derived.LaidMore
import Derived.LaidSub
import Derived.Test.YtcbeoccmflnejaaGreatDoorRows
import Derived.Lay
import Derived.OpenShut
import Derived.SevenTiedAt
import Derived.Stop.Joined
import Derived.Test.YtcbeoccmflnejaaGreatDoorU40
set_option linter.all false
namespace Go.Proofs
open Go.Shelf
namespace YtcbeoccmflnejaaGreatDoor
open Go.RowKit Go.Em
section
variable {P:Program} {R:CodeRel}
theorem jG {f:FuncId}{args:List X}{inb:List Bx}{y:X}(h:∀(cargs:Array Value) (w:World) (K:Kn) (C:List CB),Inv P R K C inb w->ArgsRep K C args cargs->Calls P f cargs w fun e w'=>∃u,e=.returned u/\(∀K C,Rep K C y u)/\Below w.heap.size w w'):FSem P R f args inb y inb:=by
 intro K C w cargs j m;refine (h cargs w K C j m).mono ?_
 rintro e w' ⟨u,rfl,q,a⟩
 have l:=frame_of_below a;exact ⟨u,K,[],rfl,owns_same (j.still l),q _ _,KLe.refl _,fun b o v e=>.inl e,fun b o E=>.inl (by grind),l.mono (fun b o _ A=>A.elim),fun i B a n=>⟨B,a,n⟩⟩
theorem Ie {K:Kn}{C:List CB}{u:Value}{cargs:Array Value}(ha:ArgsRep K C [.v u] cargs):cargs=#[u]:=by
 have a:cargs.size=1:=ha.1;have f:=rep_v (ha.2 0 _ cargs[0] rfl (qaC (by omega)))
 grind
theorem BJ {K:Kn}{C:List CB}{u v:Value}{cargs:Array Value}(ha:ArgsRep K C [.v u,.v v] cargs):cargs=#[u,v]:=by
 have a:cargs.size=2:=ha.1;have f:=rep_v (ha.2 0 _ cargs[0] rfl (qaC (by omega)));have h:=rep_v (ha.2 1 _ cargs[1] rfl (qaC (by omega)))
 grind
theorem qY {K:Kn}{C:List CB}{x y:X}{u v:Value}(h1:Rep K C x u)(h2:Rep K C y v):Rep K C (.tup [x,y]) (.tuple #[u,v]):=by
 refine .tup rfl fun j a b f h=>?_
 grind
end
theorem xJ {R:CodeRel}(hR:R.gl=gl){K:Kn}{C:List CB}{bx:List Bx}{w:World}(hI:Inv Tryz.prog R K C bx w){g:Nat}{cs:List X}(hg:gl g=some cs){j:Nat}{x:X}(hj:cs[j]?=some x):∃v,w.cell? ⟨g,j,none⟩=some v/\Rep K [] x v:=by
 have h:=hI.glob g cs (by simp_all);cases h with
 |dp vals hcell hk hr=>have a:=hI.known _ _ _ (hk j _ hj)<;>grind
theorem zfK {R:CodeRel}(hR:R.gl=gl){K:Kn}{C:List CB}{bx:List Bx}{w:World}(hI:Inv Tryz.prog R K C bx w):GY (Tryz.lX.g 17) w:=by
 rw [show Tryz.lX.g 17=3 by kernel_rfl];intro i h;obtain ⟨v,a,f⟩:=xJ hR hI (g:=3) rfl (j:=i) (x:=.v (.int .u64 ((10^i:Nat):Int))) (by grind)
 grind[rep_v]
theorem W9 {R:CodeRel}(hR:R.gl=gl)(z:Int)(h0:-9223372036854775808<=z)(h1:z<=9223372036854775807)(inb:List Bx):FSem Tryz.prog R 82 [.v (.int .i64 z)] inb (.v (.string ⟨(Lib.itoa z).toArray⟩)) inb:=by
 refine jG fun a w K C f h=>?_;rw [Ie h];refine (ZV.strconv_Itoa Tryz.laysItoa z h0 h1 w (zfK hR f)).mono ?_
 rintro e w' ⟨rfl,k,j,rfl⟩
 exact ⟨_,rfl,fun _ _=>.v rfl,Lib.below_grow _ _ (Nat.le_refl _) _ _⟩
theorem EW:Builder.Extra Tryz.prog Tryz.wY:={
 sizeBuilder:=by kernel_rfl
 liesBuilder:=by kernel_rfl
 t5:=Tryz.wZ.t5
 a5:=Tryz.wZ.a5
 z5:=Tryz.wZ.z5
 v5:=Tryz.wZ.v5
 infoByte:=by kernel_rfl
 cellsByte:=by kernel_rfl
 sizeByte:=by kernel_rfl
 neB5:=by decide}
theorem NG {R:CodeRel}(s:qaX)(c:Int)(h0:0<=c)(h1:c<=1000000)(h2:s.size<=1000000)(inb:List Bx):FSem Tryz.prog R 271 [.v (.string s),.v (.int .i64 c)] inb (.v (.string ⟨(Lib.repeatL s.data.toList c.toNat).toArray⟩)) inb:=by
 refine jG fun a w K C l h=>?_;rw [BJ h];obtain ⟨n,rfl⟩:∃n:Nat,c=n:=⟨c.toNat,by omega⟩;have j:n<=1000000:=by omega
 have m:=Nat.mul_le_mul h2 j;refine (Any.strings_Repeat Tryz.wZ EW s n w (by omega) (by omega)).mono ?_
 rintro e w' ⟨rfl,f⟩
 exact ⟨_,rfl,fun _ _=>.v rfl,f⟩
theorem Vz {R:CodeRel}(hR:R.gl=gl){K:Kn}{C:List CB}{bx:List Bx}{w:World}(hI:Inv Tryz.prog R K C bx w):Lib.Utf8Tabs (Tryz.jf.g 3) (Tryz.jf.g 4) w:=by
 have cell:∀(g:Nat) (cs:List X),gl g=some cs->∀(j:Nat) (v:Value),cs[j]?=some (.v v)->w.cell? ⟨g,j,none⟩=some v:=fun g cs n j v q=>by grind[xJ,rep_v]
 rw [show Tryz.jf.g 3=0 by kernel_rfl,show Tryz.jf.g 4=1 by kernel_rfl];constructor
 ·intro c l;have a:((List.range 256).all fun c=>match (mW Go.Pinned.utf8FirstZ)[c]? with
   |some (.v (.int .u8 z))=>z==Lib.firstT c
   |_=>false)=true:=by kernel_rfl
  have f:=qas.1 a c (List.mem_range.2 l);split at f;next z hz=>rw [cell 0 _ rfl c _ hz,eq_of_beq f]
  grind
 intro i m;have a:((List.range 16).all fun i=>(match (mW ([128,191,160,191,128,159,144,191,128,143]++List.replicate 22 0))[2*i]? with
  |some (.v (.int .u8 z))=>z==Lib.accLo i
  |_=>false)&&(match (mW ([128,191,160,191,128,159,144,191,128,143]++List.replicate 22 0))[2*i+1]? with
  |some (.v (.int .u8 z))=>z==Lib.accHi i
  |_=>false))=true:=by kernel_rfl
 have f:=qas.1 a i (List.mem_range.2 m);rw [qab] at f;obtain ⟨f,h⟩:=f;constructor
 ·split at f;next z hz=>rw [cell 1 _ rfl (2*i) _ hz,eq_of_beq f]
  grind
 split at h;next z hz=>rw [cell 1 _ rfl (2*i+1) _ hz,eq_of_beq h]
 grind
theorem OC {R:CodeRel}(hR:R.gl=gl)(s:qaX)(inb:List Bx):FSem Tryz.prog R 267 [.v (.string s)] inb (.tup [.v (.int .i32 (qB s).1),.v (.int .i64 (qB s).2)]) inb:=by
 refine jG fun a w K C h j=>?_;rw [Ie j];refine (Any.utf8_DecodeRuneInString Tryz.zbD s w (Vz hR h)).mono ?_
 rintro e w' ⟨rfl,f⟩
 exact ⟨_,rfl,fun _ _=>qY (.v rfl) (.v rfl),f⟩
theorem Ls {R:CodeRel}(hR:R.gl=gl){K:Kn}{C:List CB}{bx:List Bx}{w:World}(hI:Inv Tryz.prog R K C bx w){g:Nat}(hg:gl g=some [.ifc]):∃v,w.cell? ⟨g,0,none⟩=some v/\(v=.nilIface\/∃te pe,v=.iface te pe):=by obtain ⟨v,f,a⟩:=xJ hR hI hg (j:=0) (x:=.ifc) rfl;cases a<;>simp_all
def D9 (s:qaX):X:=match Lib.atoiAll s.data.toList with
 |.ok v=>.tup [.v (.int .i64 v),.v .nilIface]
 |.range=>.tup [.v (.int .i64 (Lib.atoiSat s.data.toList)),.ifc]
 |_=>.tup [.v (.int .i64 0),.ifc]
theorem YQ {R:CodeRel}(hR:R.gl=gl)(s:qaX)(hs:s.size<=281474976710656)(inb:List Bx):FSem Tryz.prog R 222 [.v (.string s)] inb (D9 s) inb:=by
 refine jG fun f w K C l n=>?_;rw [Ie n];unfold D9;cases h:Lib.atoiAll s.data.toList with
 |ok v=>
  refine (Any.strconv_Atoi_ok Tryz.laysAtoi s (by omega) v h w).mono ?_
  rintro e w' ⟨rfl,a⟩
  refine ⟨_,rfl,fun _ _=>qY (.v rfl) (.v rfl),?_⟩;rcases a with rfl|⟨t,rfl⟩<;>simp_all[Below.refl,Go.Joins.below_bytesWorld]
 |range=>
  obtain ⟨v,m,j⟩:=Ls hR l (g:=7) rfl;refine (Any.strconv_Atoi_range Tryz.laysAtoi s hs h v w (by rw [show Tryz.lY.g 16=7 by kernel_rfl]<;>grind) j).mono ?_
  rintro e w' ⟨N,rfl,_,_,a⟩
  exact ⟨_,rfl,fun _ _=>qY (.v rfl) .ifc,a⟩
 |_=>
  obtain ⟨v,m,j⟩:=Ls hR l (g:=6) rfl;refine (Any.strconv_Atoi_syntax Tryz.laysAtoi s hs h v w (by rw [show Tryz.lY.g 15=6 by kernel_rfl]<;>grind) j).mono ?_
  rintro e w' ⟨N,rfl,_,_,a⟩
  exact ⟨_,rfl,fun _ _=>qY (.v rfl) .ifc,a⟩
theorem Ob {R:CodeRel}(s c:qaX)(b:UInt8)(hc:c.data.toList=[b])(inb:List Bx):FSem Tryz.prog R 283 [.v (.string s),.v (.string c)] inb (.v (.int .i64 (Lib.indexByte s.data.toList b))) inb:=by
 refine jG fun a w K C l h=>?_;rw [BJ h];have f:c=⟨#[b]⟩:=by
  obtain ⟨d⟩:=c
  congr
  apply Array.toList_inj.1;exact hc
 rw [f];refine (Any.stringslite_Index_one Tryz.zbC s b w).mono ?_
 rintro e w' ⟨rfl,j⟩
 exact ⟨_,rfl,fun _ _=>.v rfl,j▸Below.refl _ _⟩
theorem Ba (s:qaX):∀(f pos:Nat),jR s marks f pos=Mk.Hz s f pos
 |0,_=>rfl
 |f+1,pos=>by unfold jR Mk.Hz;rw [Ba s f];rfl
theorem Rf {R:CodeRel}(s:qaX)(hs:s.size<4294967281)(inb:List Bx):FSem Tryz.prog R 219 [.v (.string s),.v (.string marks)] inb (.v (.int .i64 (if s.size<=8 then jR s marks s.size 0 else Lib.indexAny s.data.toList marks.data.toList))) inb:=by
 refine jG fun a w K C u m=>?_;rw [BJ m];by_cases f:s.size<=8
 ·rw [if_pos f,Ba];refine (Mk.zh {Tryz.Ir with} s w f).mono ?_
  rintro e w' ⟨rfl,l⟩
  exact ⟨_,rfl,fun _ _=>.v rfl,l⟩
 rw [if_neg f];have hz:(Tryz.prog.info? (Tryz.xg.t 116)).map (fun i=>(i.zero,i.size))=some (some (.agg (Array.replicate 256 (.bool false))),256):=by kernel_rfl
 refine (Any.strings_IndexAny_long Tryz.Ir (zero_of_info hz).1 (zero_of_info hz).2 s marks w (by decide) (by omega) hs (by decide) (fun j b n=>?_)).mono ?_
 ·have h:∀b∈[46,91,63],(b:UInt8).toNat<128:=by decide
  exact h b (qap n)
 rintro e w' ⟨rfl,q⟩
 refine ⟨_,rfl,fun _ _=>.v rfl,?_⟩;rw [q];exact ((Below.refl _ _).alloc (Nat.le_refl _) _).alloc (by simp) _
theorem xC:∀{es:qaW} {zs:List Int},intsOf es=some zs->es.length=zs.length/\∀j,j<zs.length->es[j]?=some [.v (.int .i64 (zs.getD j 0))]
 |[],zs,h=>by simp_all[intsOf]
 |e::r,zs,h=>by
  unfold intsOf at h;split at h
  ·grind
  ·rename_i z r' heq;obtain ⟨rfl,rfl⟩:=List.cons.inj heq;split at h;next l hl=>simp at h;subst h;obtain ⟨h1,h2⟩:=xC hl<;>grind
   grind
  grind
end YtcbeoccmflnejaaGreatDoor
namespace YtcbeoccmflnejaaGreatDoor
open Go.RowKit Go.Em
theorem UW:Builder.Extra Tryz.prog Tryz.Ak:={
 sizeBuilder:=by kernel_rfl
 liesBuilder:=by kernel_rfl
 t5:=Tryz.pX.t5
 a5:=Tryz.pX.a5
 z5:=Tryz.pX.z5
 v5:=Tryz.pX.v5
 infoByte:=by kernel_rfl
 cellsByte:=by kernel_rfl
 sizeByte:=by kernel_rfl
 neB5:=by decide}
theorem YL:Builder.Extra Tryz.prog Tryz.Am:={
 sizeBuilder:=by kernel_rfl
 liesBuilder:=by kernel_rfl
 t5:=Tryz.pX.t5
 a5:=Tryz.pX.a5
 z5:=Tryz.pX.z5
 v5:=Tryz.pX.v5
 infoByte:=by kernel_rfl
 cellsByte:=by kernel_rfl
 sizeByte:=by kernel_rfl
 neB5:=by decide}
set_option maxHeartbeats 1000000 in
set_option maxRecDepth 100000 in
theorem qh (z:Int)(w:World):Calls Tryz.prog 234 #[.int .i64 z] w fun e w'=>e=.returned (.bool (jL z))/\w'=w:=by
 have e:jL z=(decide (0<=z)&&decide (z<=1114111)&&(decide (z<55296)||decide (57343<z))):=by unfold jL;rw [Bool.eq_iff_iff];simp;omega
 rw [e]
 go_enter Tryz.func234,Tryz.ntmps234
 go_wp2
 all_goals (go_ret;refine ⟨?_,rfl⟩;simp_all<;>omega)
theorem X4 (zs:List Int):(zs.flatMap Lib.encodeRune).length<=4*zs.length:=by
 induction zs with
 |nil=>grind
 |cons z r ih=>grind[Lib.encodeRuneZ_length,Lib.encodeRune]
theorem byteCells_append (a b:List UInt8):Lib.byteCells (a++b)=Lib.byteCells a++Lib.byteCells b:=by simp [Lib.byteCells]
def NH (zs:List Int):Value:=if zs.all jL then .tuple #[.string ⟨(zs.flatMap Lib.encodeRune).toArray⟩,.int .i64 0] else .tuple #[.string ⟨#[]⟩,.int .i64 2]
set_option maxHeartbeats 4000000 in
set_option maxRecDepth 100000 in
theorem EZ (zs:List Int)(hz:zs.length<=1000000)(v:Value)(w:World)(hv:(∃ob,v=.slice ob 0 0/\zs=[])\/∃b o cap,v=.slice (some ⟨b,o,none⟩) zs.length cap/\∀j,j<zs.length->w.cell? ⟨b,o+j,none⟩=some (.int .i64 (zs.getD j 0))):
  Calls Tryz.prog 191 #[v] w fun e w'=>e=.returned (NH zs)/\Below w.heap.size w w':=by
 have hstr:∀(l:List UInt8) (wx:World),Lib.IsBuilderF 300 5 w.heap.size w.heap.size (Lib.byteCells l) wx->w.heap.size<=wx.heap.size->Calls Tryz.prog 236 #[.pointer (some ⟨w.heap.size,0,none⟩)] wx fun e w'=>e=.returned (.string ⟨l.toArray⟩)/\Below w.heap.size wx w':=fun l wx h hs=>by refine (Any.Builder_String_any_k Tryz.zf4 YL w.heap.size w.heap.size l wx h hs).mono ?_<;>grind
 have hb0:=Lib.IsBuilderF.of (Lib.fresh_isBuilder 300 5 w);have hB0:Below w.heap.size w (w.alloc (Obj.cells #[Value.pointer none,Value.slice none 0 0] 300)):=(Below.refl _ _).alloc (Nat.le_refl _) _;rcases hv with ⟨ob,rfl,rfl⟩|⟨b,o,cap,rfl,hc⟩
 ·go_enter Tryz.func191,Tryz.ntmps191
  go_wp2
  go_loopg [6,9] 0 (fun g _ s9 wx=>s9=.int .i64 0/\Lib.IsBuilderF 300 5 w.heap.size w.heap.size (Lib.byteCells []) wx/\Below w.heap.size w wx)
  case atStart=>exact ⟨rfl,hb0,hB0⟩
  case round=>
   obtain ⟨rfl,hb,hB⟩:=hrel;have hl:=hstr [] _ hb hB.size;have HL:=Lib.hid hl;clear hl hstr
   go_wp2_with (go_at_call 236;refine HL.out.mono ?_;rintro e w2 ⟨rfl,hB2⟩)
   go_ret2
   exact ⟨rfl,hB.trans hB2⟩
 have hcells:∀wx,Below w.heap.size w wx->∀j,j<zs.length->wx.cell? ⟨b,o+j,none⟩=some (.int .i64 (zs.getD j 0)):=fun wx hB j hj=>by
  have h1:=hc j hj;have hlt:b<w.heap.size:=by
   rcases Nat.lt_or_ge b w.heap.size with h'|h'
   ·grind
   ·grind[World.cell?]
  unfold World.cell? at h1 ⊢;rw [hB.block b hlt]<;>grind
 clear hc
 go_enter Tryz.func191,Tryz.ntmps191
 go_wp2
 go_loopg [6,9] zs.length (fun g _ s9 wx=>∃i:Nat,i+g=zs.length/\s9=.int .i64 i/\Lib.IsBuilderF 300 5 w.heap.size w.heap.size (Lib.byteCells ((zs.take i).flatMap Lib.encodeRune)) wx/\Below w.heap.size w wx/\Aside ((zs.take i).all jL=true))
 case atStart=>exact ⟨0,by omega,rfl,hb0,hB0,rfl⟩
 case round=>
  obtain ⟨i,hig,rfl,hb,hB,A⟩:=hrel;cases gk with
  |zero=>
   obtain rfl:i=zs.length:=by omega
   have hiz:¬((zs.length:Int)<(zs.length:Int)):=by omega
   have hl:=hstr ((zs.take zs.length).flatMap Lib.encodeRune) _ hb hB.size;have HL:=Lib.hid hl;clear hcells hl hstr
   go_wp2_with (go_at_call 236;refine HL.out.mono ?_;rintro e w2 ⟨rfl,hB2⟩)
   go_ret2
   have hA:=A.out;rw [List.take_length] at hA;refine ⟨?_,hB.trans hB2⟩;have hr:NH zs=.tuple #[.string ⟨(zs.flatMap Lib.encodeRune).toArray⟩,.int .i64 0]:=by unfold NH;rw [hA];rfl
   rw [hr];rfl
  |succ g=>
   have hi:i<zs.length:=by omega
   have hiz:(i:Int)<(zs.length:Int):=by omega
   have hcell:=hcells wr hB i hi;clear hcells;have hstep:zs.take (i+1)=zs.take i++[zs.getD i 0]:=by rw [List.take_add_one,qad hi,qav,qad hi];rfl
   have hmem:zs.getD i 0∈zs:=by rw [qav,qad hi];exact qae hi
   have H1:Aside (zs.take (i+1)=zs.take i++[zs.getD i 0]):=hstep;have H2:Aside (zs.getD i 0∈zs):=hmem;clear hstep hmem;obtain ⟨z,hz'⟩:∃z,zs.getD i 0=z:=⟨_,rfl⟩;rw [hz'] at hcell;have H3:Aside (zs.getD i 0=z):=hz';clear hz';cases hp:jL z with
   |false=>
    go_wp2_with (go_at_call 234;refine (qh z _).mono ?_;rintro e w' ⟨rfl,hw⟩;rw [hw,hp])
    go_ret2
    have hall:zs.all jL=false:=by rw [List.all_eq_false];exact ⟨z,by rw [<-H3.out]<;>grind,by grind⟩
    have hr:NH zs=.tuple #[.string ⟨#[]⟩,.int .i64 2]:=by unfold NH;rw [hall];rfl
    exact ⟨by rw [hr];rfl,hB⟩
   |true=>
    have hp':=of_decide_eq_true hp;have hwr:IntKind.i32.wrap z=z:=by unfold IntKind.wrap;simp [IntKind.bits,IntKind.signed];omega
    have hlen:(Lib.byteCells ((zs.take i).flatMap Lib.encodeRune)).length+4<=140737488355328:=by have:=X4 (zs.take i);rw [qag] at this;simp only [Lib.byteCells,qaB];omega
    have hw:=Any.Builder_WriteRune_k Tryz.pX UW w.heap.size w.heap.size _ z (by omega) (by omega) wr hb hlen hB.size;have HW:=Lib.hid hw;clear hlen hw hstr
    go_wp2_with (first
     |(go_at_call 234;refine (qh z _).mono ?_;rintro e w' ⟨rfl,hw⟩;rw [hw,hp])
     |(go_at_call 235;refine HW.out.mono ?_;rintro e w2 ⟨rfl,hb2,hB2,_⟩))
    go_roundg g
    case measure=>omega
    case rel=>
     refine ⟨i+1,by omega,rfl,.inr ?_,hB.trans hB2,?_⟩
     ·rw [H1.out,List.flatMap_append,byteCells_append,H3.out];have:Lib.byteCells ([z].flatMap Lib.encodeRune)=Lib.runeCells z:=by rw [List.flatMap_cons,List.flatMap_nil,List.append_nil,Lib.byteCells_encodeRune]
      rw [this];exact hb2
     show _=_;rw [H1.out,List.all_append,A.out,H3.out]<;>grind
theorem NI {R:CodeRel}(t:Bool)(es:qaW)(zs:List Int)(h:intsOf es=some zs)(hz:zs.length<=1000000)(inb:List Bx):
  FSem Tryz.prog R 191 [.sl t 1 es] inb (if zs.all jL then .tup [.v (.string ⟨(zs.flatMap Lib.encodeRune).toArray⟩),.v (.int .i64 0)] else .tup [.v (.string ⟨#[]⟩),.v (.int .i64 2)]) inb:=by
 refine jG fun a w K C B q=>?_;obtain ⟨f,l⟩:=xC h;have L:a.size=1:=q.1;have n:=q.2 0 _ a[0] rfl (qaC (by omega));have m:a=#[a[0]]:=by
  refine Array.ext (by grind) fun i f l=>?_
  match i,f,l with
  |0,_,_=>rfl
  |i+1,f,_=>omega
 rw [m];generalize a[0]=v at n;have F:(∃ob,v=.slice ob 0 0/\zs=[])\/∃b o cap,v=.slice (some ⟨b,o,none⟩) zs.length cap/\∀j,j<zs.length->w.cell? ⟨b,o+j,none⟩=some (.int .i64 (zs.getD j 0)):=by
  generalize H:X.sl t 1 es=x at n;cases n<;>try cases H
  case slNil ob=>grind
  case sl b o cap vals hcap hcell hr htight hlen hk=>
   refine .inr ⟨b,o,cap,by rw [f],fun j E=>?_⟩;have u:=l j E;have y:at2 es j 0=some (.v (.int .i64 (zs.getD j 0))):=by simp [at2,u]
   have J:=B.known _ _ _ (hk j 0 _ y)<;>grind[rep_v]
 refine (EZ zs hz v w F).mono ?_
 rintro e w' ⟨rfl,A⟩
 refine ⟨_,rfl,fun _ _=>?_,A⟩;unfold NH;split;·exact qY (.v rfl) (.v rfl)
 exact qY (.v rfl) (.v rfl)
end YtcbeoccmflnejaaGreatDoor
namespace YtcbeoccmflnejaaGreatDoor
open Go.RowKit Go.Em
def BytesAt (w:World)(b:Nat)(l:List UInt8)(n:Nat):Prop:=∀j,j<n->w.cell? ⟨b,j,none⟩=some (.int .u8 ((l.getD j 0).toNat:Int))/\w.frozen? ⟨b,j,none⟩=false
theorem Uf {w:World}{b n i:Nat}{l:List UInt8}(h:BytesAt w b l n)(hi:i<n)(hn:n=l.length)(v:UInt8):BytesAt (w.setCell ⟨b,i,none⟩ (.int .u8 (v.toNat:Int))) b (l.set i v) n:=fun j a=>by obtain ⟨f,m⟩:=h j a<;>grind[World.frozen?_setCell,World.cell?_setCell_same,World.cell?_setCell_other]
def fG (c d:Int)(l:List UInt8)(i:Nat):List UInt8:=(l.take i).map (shB c d)++l.drop i
theorem zS (c d:Int)(l:List UInt8)(i:Nat):(fG c d l i).length=l.length:=by grind[fG]
theorem ER {c d:Int}{l:List UInt8}{i:Nat}(hi:i<l.length):(fG c d l i).getD i 0=l.getD i 0:=by grind[fG]
theorem wH {c d:Int}{l:List UInt8}{i:Nat}(hi:i<l.length):fG c d l (i+1)=(fG c d l i).set i (shB c d (l.getD i 0)):=by
 unfold fG;rw [List.take_add_one,qad hi,Option.toList_some,List.map_append,qaR,List.map_nil];rw [List.drop_eq_getElem_cons hi];rw [List.set_append_right _ _ (by grind)];have:i-((l.take i).map (shB c d)).length=0:=by simp;omega
 grind
theorem Nu (c d:Int)(l:List UInt8):fG c d l l.length=l.map (shB c d):=by grind[fG]
set_option maxHeartbeats 4000000 in
set_option maxRecDepth 100000 in
theorem BN (s:qaX)(c d:Int)(hc0:0<=c)(hc1:c<=97)(hd0:-32<=d)(hd1:d<=32)(hcd:0<=c+d)(hs:s.size<=1000000)(w:World):
  Calls Tryz.prog 243 #[.string s,.int .u8 c,.int .i64 d] w fun e w'=>e=.returned (.string ⟨(s.data.toList.map (shB c d)).toArray⟩)/\Below w.heap.size w w':=by
 have hcv:=run_bytes_of_string (P:=Tryz.prog) w 9 227 5 s Tryz.underlying9 Tryz.underlying227 Tryz.underlying5;have hlen:s.data.toList.length=s.size:=Array.length_toList ..;obtain ⟨l,hl⟩:∃l,l=s.data.toList:=⟨_,rfl⟩;rw [<-hl] at hlen ⊢;obtain ⟨W0,hW0⟩:∃W0,W0=w.drew.alloc (.cells (bytesRow s (grownCap w s.size 0 5)) 5 ((bytesRow s (grownCap w s.size 0 5)).size,(bytesRow s (grownCap w s.size 0 5)).size+1)):=⟨_,rfl⟩;obtain ⟨cap,hcap⟩:∃cap,cap=grownCap w s.size 0 5:=⟨_,rfl⟩;rw [<-hW0,<-hcap] at hcv;have hB0:Below w.heap.size w W0:=by rw [hW0];exact (Below.refl _ w).drew.alloc (Nat.le_refl _) _
 have hA0:BytesAt W0 w.heap.size l s.size:=fun j hj=>by
  have hj':j<s.data.size:=hj;rw [hW0];have e1:=World.cell?_alloc_mark w.drew (bytesRow s (grownCap w s.size 0 5)) 5 ((bytesRow s (grownCap w s.size 0 5)).size,(bytesRow s (grownCap w s.size 0 5)).size+1) j;have e2:=World.frozen?_alloc_mark w.drew (bytesRow s (grownCap w s.size 0 5)) 5 (bytesRow s (grownCap w s.size 0 5)).size ((bytesRow s (grownCap w s.size 0 5)).size+1) j;have hh:w.drew.heap.size=w.heap.size:=rfl
  grind[bytesRow]
 have hback:∀wx,BytesAt wx w.heap.size (fG c d l s.size) s.size->(convert 227 9 (.slice (some ⟨w.heap.size,0,none⟩) s.size cap)).run Tryz.prog wx=.ok (.string ⟨(l.map (shB c d)).toArray⟩) wx:=fun wx h=>by
  have e1:fG c d l s.size=l.map (shB c d):=by rw [<-hlen];exact Nu c d l
  rw [e1] at h;have hlm:(l.map (shB c d)).length=s.size:=by rw [qaB,hlen]
  have:=run_convert_bytes_back (P:=Tryz.prog) wx 227 9 5 ⟨w.heap.size,0,none⟩ cap (l.map (shB c d)) Tryz.underlying227 Tryz.underlying5 Tryz.underlying9 (fun j hj=>by rw [Addr.add_lit,Nat.zero_add,(h j (by omega)).1,qav,qad hj];rfl)
  grind
 have HB:Hid (∀wx,BytesAt wx w.heap.size (fG c d l s.size) s.size->(convert 227 9 (.slice (some ⟨w.heap.size,0,none⟩) s.size cap)).run Tryz.prog wx=.ok (.string ⟨(l.map (shB c d)).toArray⟩) wx):=hback;have HL:Aside (l.length=s.size):=hlen;have HA0:Hid (BytesAt W0 w.heap.size l s.size):=hA0;clear hback hlen hA0 hW0 hcap hl
 go_enter Tryz.func243,Tryz.ntmps243
 go_wp2
 go_loopg [8,9,14] s.size (fun g _ _ s14 wx=>∃i:Nat,i+g=s.size/\s14=.int .i64 i/\Hid (BytesAt wx w.heap.size (fG c d l i) s.size)/\Below w.heap.size w wx)
 case atStart=>exact ⟨0,by omega,rfl,HA0,hB0⟩
 case round=>
  obtain ⟨i,hig,rfl,hA,hB⟩:=hrel;cases gk with
  |zero=>
   obtain rfl:i=s.size:=by omega
   have hiz:¬((s.size:Int)<(s.size:Int)):=by omega
   have hb:=HB.out _ hA.out
   go_wp2
   go_ret
   exact ⟨rfl,hB⟩
  |succ g=>
   have hi:i<s.size:=by omega
   have hiz:(i:Int)<(s.size:Int):=by omega
   obtain ⟨h1,h2⟩:=hA.out i hi;rw [ER (by rw [HL.out];omega)] at h1;obtain ⟨b,hb⟩:∃b,l.getD i 0=b:=⟨_,rfl⟩;rw [hb] at h1;have HN2:Aside (shB c d b=b->BytesAt wr w.heap.size (fG c d l (i+1)) s.size):=fun e=>by
    have hi':i<(fG c d l i).length:=by rw [zS,HL.out];exact hi
    have e2:(fG c d l i).set i b=fG c d l i:=by have e3:=ER (c:=c) (d:=d) (l:=l) (i:=i) (by rw [HL.out];omega);rw [qav,qad hi',hb] at e3;have e4:(fG c d l i)[i]=b:=e3;rw [<-e4];exact List.set_getElem_self hi'
    rw [wH (by rw [HL.out];omega),hb,e,e2];exact hA.out
   have HN:Aside (BytesAt (wr.setCell ⟨w.heap.size,i,none⟩ (.int .u8 ((shB c d b).toNat:Int))) w.heap.size (fG c d l (i+1)) s.size):=by show BytesAt _ _ _ _;rw [wH (by rw [HL.out];omega),hb];exact Uf hA.out hi (by rw [zS];exact HL.out.symm) _
   have hb8:(b.toNat:Int)<256:=by have:=b.toNat_lt;omega
   have hb0:(0:Int)<=(b.toNat:Int):=by omega
   have HS:Aside (shB c d b=if c<=(b.toNat:Int)/\(b.toNat:Int)<c+26 then UInt8.ofNat ((b.toNat:Int)+d).toNat else b):=rfl;clear hb;obtain ⟨z,hz⟩:∃z:Int,z=(b.toNat:Int):=⟨_,rfl⟩;rw [<-hz] at h1 hb8 hb0
   go_wp2
   ·have e:shB c d b=UInt8.ofNat ((b.toNat:Int)+d).toNat:=by rw [HS.out,if_pos (by omega)]
    have e2:((shB c d b).toNat:Int)=(b.toNat:Int)+d:=by rw [e,UInt8.toNat_ofNat'];omega
    have hN:BytesAt (wr.setCell ⟨w.heap.size,i,none⟩ (.int .u8 ((b.toNat:Int)+d))) w.heap.size (fG c d l (i+1)) s.size:=by rw [<-e2];exact HN.out
    go_roundg g
    case measure=>omega
    case rel=>exact ⟨i+1,by omega,rfl,hN,hB.setCell (Nat.le_refl _) _⟩
   ·have hN:=HN2.out (by rw [HS.out,if_neg (by omega)])
    go_roundg g
    case measure=>omega
    case rel=>exact ⟨i+1,by omega,rfl,hN,hB⟩
   have hN:=HN2.out (by rw [HS.out,if_neg (by omega)])
   go_roundg g
   case measure=>omega
   case rel=>exact ⟨i+1,by omega,rfl,hN,hB⟩
theorem MO {K:Kn}{C:List CB}{u v x:Value}{cargs:Array Value}(ha:ArgsRep K C [.v u,.v v,.v x] cargs):cargs=#[u,v,x]:=by
 have a:cargs.size=3:=ha.1;have f:=rep_v (ha.2 0 _ cargs[0] rfl (qaC (by omega)));have h:=rep_v (ha.2 1 _ cargs[1] rfl (qaC (by omega)));have j:=rep_v (ha.2 2 _ cargs[2] rfl (qaC (by omega)))
 grind
theorem Qo {R:CodeRel}(s:qaX)(c d:Int)(hc0:0<=c)(hc1:c<=97)(hd0:-32<=d)(hd1:d<=32)(hcd:0<=c+d)(hs:s.size<=1000000)(inb:List Bx):FSem Tryz.prog R 243 [.v (.string s),.v (.int .u8 c),.v (.int .i64 d)] inb (.v (.string ⟨(s.data.toList.map (shB c d)).toArray⟩)) inb:=by
 refine jG fun a w K C j h=>?_;rw [MO h];refine (BN s c d hc0 hc1 hd0 hd1 hcd hs w).mono ?_
 rintro e w' ⟨rfl,f⟩
 exact ⟨_,rfl,fun _ _=>.v rfl,f⟩
end YtcbeoccmflnejaaGreatDoor
def Tryz.CG:Go.Shelf.Ren:=⟨fun|15=>79|n=>n,fun|22=>32|3=>3|4=>4|n=>n,fun|n=>n⟩
theorem Tryz.laysClone:Go.Proofs.Lays2.n15 Tryz.prog Tryz.CG:={
 mixed:=by kernel_rfl
 f15:=Tryz.func79.trans (congrArg some (by kernel_rfl))
 t3:=Tryz.underlying3
 a3:=Tryz.isAgg3
 z3:=Tryz.sizeOf3
 v3:=Tryz.zeroValue3
 t4:=Tryz.underlying4
 a4:=Tryz.isAgg4
 z4:=Tryz.sizeOf4
 v4:=Tryz.zeroValue4
 t22:=Tryz.underlying32
 a22:=Tryz.isAgg32
 z22:=Tryz.sizeOf32
 v22:=Tryz.zeroValue32
 i3:=by kernel_rfl}
def Tryz.laysValid_ren:Go.Shelf.Ren:=⟨fun|196=>110|259=>158|n=>n,fun|9=>9|4=>4|3=>3|5=>5|12=>12|119=>223|0=>0|46=>220|139=>226|138=>225|53=>273|n=>n,fun|3=>0|4=>1|n=>n⟩
theorem Tryz.laysValid:Go.Proofs.Lays.n196 Tryz.prog Tryz.laysValid_ren:={
 mixed:=by kernel_rfl
 f196:=Tryz.func110.trans (congrArg some (by kernel_rfl))
 f259:=Tryz.func158.trans (congrArg some (by kernel_rfl))
 t0:=Tryz.underlying0
 a0:=Tryz.isAgg0
 z0:=Tryz.sizeOf0
 v0:=Tryz.zeroValue0
 t3:=Tryz.underlying3
 a3:=Tryz.isAgg3
 z3:=Tryz.sizeOf3
 v3:=Tryz.zeroValue3
 t4:=Tryz.underlying4
 a4:=Tryz.isAgg4
 z4:=Tryz.sizeOf4
 v4:=Tryz.zeroValue4
 t5:=Tryz.underlying5
 a5:=Tryz.isAgg5
 z5:=Tryz.sizeOf5
 v5:=Tryz.zeroValue5
 t9:=Tryz.underlying9
 a9:=Tryz.isAgg9
 z9:=Tryz.sizeOf9
 v9:=Tryz.zeroValue9
 t12:=Tryz.underlying12
 a12:=Tryz.isAgg12
 z12:=Tryz.sizeOf12
 v12:=Tryz.zeroValue12
 t46:=Tryz.underlying220
 a46:=Tryz.isAgg220
 z46:=Tryz.sizeOf220
 v46:=Tryz.zeroValue220
 t53:=Tryz.underlying273
 a53:=Tryz.isAgg273
 z53:=Tryz.sizeOf273
 v53:=Tryz.zeroValue273
 t119:=Tryz.underlying223
 a119:=Tryz.isAgg223
 z119:=Tryz.sizeOf223
 t138:=Tryz.underlying225
 a138:=Tryz.isAgg225
 z138:=Tryz.sizeOf225
 v138:=Tryz.zeroValue225
 t139:=Tryz.underlying226
 a139:=Tryz.isAgg226
 z139:=Tryz.sizeOf226
 v139:=Tryz.zeroValue226
 g3:=by kernel_rfl
 g4:=by kernel_rfl}
namespace YtcbeoccmflnejaaGreatDoor
open Go.RowKit Go.Em
set_option maxHeartbeats 1000000 in
set_option maxRecDepth 100000 in
theorem DV (a b:qaX)(w:World):
  Calls Tryz.prog 120 #[.string a,.string b] w fun e w'=>e=.returned (.int .i64 (Lib.compareBytes a.data.toList b.data.toList))/\w'=w:=by
 go_enter Tryz.func120,Tryz.ntmps120
 go_wp2
 rw [run_callFunc_extern Tryz.func160 (by kernel_rfl) (by kernel_rfl) (by kernel_rfl) (e:=Extern.BytealgCompare.compare) (by kernel_rfl),Lib.run_compareString];simp only [Result.andThen];rw [Oper.upon_value]
 go_wp2
 go_ret
 exact ⟨rfl,rfl⟩
section
variable {P:Program} {R:CodeRel}
theorem F5 {f:FuncId}{args:List X}{inb:List Bx}{u:Value}(hu:okV u=true)(h:∀(cargs:Array Value) (w:World) (K:Kn) (C:List CB),Inv P R K C inb w->ArgsRep K C args cargs->Calls P f cargs w fun e w'=>e=.returned u/\Below w.heap.size w w'):FSem P R f args inb (.v u) inb:=by
 intro K C w cargs j n;refine (h cargs w K C j n).mono ?_
 rintro e w' ⟨rfl,a⟩
 have l:=frame_of_below a;exact ⟨u,K,[],rfl,owns_same (j.still l),.v hu,KLe.refl _,fun b o v e=>.inl e,fun b o m=>.inl (by rw [List.append_nil] at m;exact m),l.mono (fun b o _ y=>y.elim),fun i B a q=>⟨B,a,q⟩⟩
end
theorem ql:∀{es:qaW} {zs:List Int},intsOf es=some zs->es.length=zs.length/\∀j,j<zs.length->es[j]?=some [.v (.int .i64 (zs.getD j 0))]
 |[],zs,h=>by simp only [intsOf,qah] at h;subst h;exact ⟨rfl,fun j hj=>by simp at hj⟩
 |e::r,zs,h=>by
  unfold intsOf at h;split at h;next heq=>cases heq
  ·rename_i z r' heq;obtain ⟨rfl,rfl⟩:=List.cons.inj heq;split at h
   ·rename_i l hl;cases h;obtain ⟨h1,h2⟩:=ql hl;refine ⟨by simp [h1],fun j hj=>?_⟩;cases j with
    |zero=>rfl
    |succ j=>have:=h2 j (by simpa using hj);simpa using this
   cases h
  cases h
theorem TV {R:CodeRel}(t:Bool)(es:qaW)(zs:List Int)(h:intsOf es=some zs)(hz:zs.length<=1000000)(inb:List Bx):FSem Tryz.prog R 79 [.sl t 1 es] inb (.bs inb.length 0 zs.length) (inb++[.row 1 (intRow zs)]):=by
 refine fsem_ints (el:=3) zs fun f w K C M F=>?_;obtain ⟨m,q⟩:=ql h;have O:f.size=1:=F.1;have A:=F.2 0 _ f[0] rfl (qaC (by omega));have y:f=#[f[0]]:=by
  refine Array.ext (by simp [O]) fun i m q=>?_
  match i,m,q with
  |0,_,_=>rfl
  |i+1,m,_=>omega
 rw [y];generalize f[0]=v at A;generalize P:X.sl t 1 es=x at A;cases A<;>try cases P
 case slNil Q=>
  simp only [intsOf,qah] at h;subst h;cases Q with
  |none=>
   refine (Any.slices_Clone_int_nil Tryz.laysClone 0 0 w).mono ?_
   rintro e w' ⟨rfl,rfl⟩
   exact ⟨_,rfl,⟨rfl,.inl ⟨rfl,rfl⟩⟩,Below.refl _ _⟩
  |some a=>
   refine (Any.slices_Clone_int_zero Tryz.laysClone a 0 w).mono ?_
   rintro e w' ⟨B,rfl,n,_,u⟩
   exact ⟨B,rfl,n,u⟩
 case sl b o cap vals hcap hcell hr htight hlen hk=>
  have l:∀j,j<zs.length->w.cell? ⟨b,o+j,none⟩=some (.int .i64 (zs.getD j 0)):=fun j N=>by
   have H:=q j N;have E:at2 es j 0=some (.v (.int .i64 (zs.getD j 0))):=by simp [at2,H]
   have J:=M.known _ _ _ (hk j 0 _ E);have L:=rep_v (hr j 0 _ E);rw [<-L];simpa using J
  refine (Any.slices_Clone_int Tryz.laysClone b o es.length cap zs w (by omega) (by omega) l).mono ?_
  rintro e w' ⟨B,rfl,n,_,u⟩
  refine ⟨B,rfl,?_,u⟩;rw [m,List.take_length] at n;exact n
theorem zaw {R:CodeRel}(hR:R.gl=gl){K:Kn}{C:List CB}{bx:List Bx}{w:World}(hI:Inv Tryz.prog R K C bx w):Lib.Utf8Tabs (Tryz.laysValid_ren.g 3) (Tryz.laysValid_ren.g 4) w:=by
 have cell:∀(g:Nat) (cs:List X),gl g=some cs->∀(j:Nat) (v:Value),cs[j]?=some (.v v)->w.cell? ⟨g,j,none⟩=some v:=fun g cs A j v m=>by
  have h:=hI.glob g cs (by rw [hR];exact A);cases h with
  |dp vals hcell hk hr=>have n:=hI.known _ _ _ (hk j _ m);rw [<-rep_v (hr j _ m)];simpa using n
 have q:Tryz.laysValid_ren.g 3=0:=by kernel_rfl
 have u:Tryz.laysValid_ren.g 4=1:=by kernel_rfl
 rw [q,u];constructor
 ·intro c y;have a:((List.range 256).all fun c=>match (mW Go.Pinned.utf8FirstZ)[c]? with
   |some (.v (.int .u8 z))=>z==Lib.firstT c
   |_=>false)=true:=by kernel_rfl
  have f:=qas.1 a c (List.mem_range.2 y);split at f;next z hz=>rw [cell 0 _ rfl c _ hz,eq_of_beq f]
  cases f
 intro i B;have a:((List.range 16).all fun i=>(match (mW ([128,191,160,191,128,159,144,191,128,143]++List.replicate 22 0))[2*i]? with
  |some (.v (.int .u8 z))=>z==Lib.accLo i
  |_=>false)&&(match (mW ([128,191,160,191,128,159,144,191,128,143]++List.replicate 22 0))[2*i+1]? with
  |some (.v (.int .u8 z))=>z==Lib.accHi i
  |_=>false))=true:=by kernel_rfl
 have f:=qas.1 a i (List.mem_range.2 B);rw [qab] at f;obtain ⟨f,l⟩:=f;constructor
 ·split at f;next z hz=>rw [cell 1 _ rfl (2*i) _ hz,eq_of_beq f]
  cases f
 split at l;next z hz=>rw [cell 1 _ rfl (2*i+1) _ hz,eq_of_beq l]
 cases l
theorem Pg {R:CodeRel}(hR:R.gl=gl)(s:qaX)(hs:s.size<=9223372036854775807)(inb:List Bx):FSem Tryz.prog R 110 [.v (.string s)] inb (.v (.bool (Lib.validD s.data.toList))) inb:=by
 refine F5 rfl fun a w K C l j=>?_;have f:a=#[.string s]:=by
  have hs:a.size=1:=j.1;have m:=rep_v (j.2 0 _ a[0] rfl (qaC (by omega)));refine Array.ext (by simp [hs]) fun i h f=>?_
  match i,h,f with
  |0,_,_=>simpa using m
  |i+1,h,_=>omega
 rw [f];exact Any.utf8_ValidString Tryz.laysValid s w hs (zaw hR l)
theorem GU {s:qaX}(h:AZ s=true)(j:Nat)(b:UInt8)(hb:s.data.toList[j]?=some b):b.toNat<128:=by have a:=qas.1 h b (qap hb);exact of_decide_eq_true a
theorem zd8 {R:CodeRel}(s t:qaX)(hs:s.size<4294967281)(ht:t.size<4294967281)(ha:AZ s=true)(hb:AZ t=true)(inb:List Bx):FSem Tryz.prog R 219 [.v (.string s),.v (.string t)] inb (.v (.int .i64 (Lib.indexAny s.data.toList t.data.toList))) inb:=by
 refine F5 rfl fun a w K C n h=>?_;have f:a=#[.string s,.string t]:=by
  have hs:a.size=2:=h.1;have l:=rep_v (h.2 0 _ a[0] rfl (qaC (by omega)));have m:=rep_v (h.2 1 _ a[1] rfl (qaC (by omega)));refine Array.ext (by simp [hs]) fun i j f=>?_
  match i,j,f with
  |0,_,_=>simpa using l
  |1,_,_=>simpa using m
  |i+2,j,_=>omega
 rw [f];exact Any.strings_IndexAny_laid Tryz.Ir (by kernel_rfl) s t w hs ht (GU ha) (GU hb)
theorem dP {α:Type}{c:Bool}{a g:α}{b:Option α}(h:(if c=true then some a else b)=some g):(c=true/\a=g)\/(c=false/\b=some g):=by
 cases c with
 |true=>exact .inl ⟨rfl,Option.some.inj h⟩
 |false=>exact .inr ⟨rfl,h⟩
theorem zie:TabOk Tryz.prog gl tab:=by
 intro f a h;unfold tab at h;split at h;·exact ⟨_,h⟩
 cases h
theorem zjO:ExtOk Tryz.prog gl ext:=by
 intro f g hg pk u pf F h;unfold ext at hg;rcases dP hg with ⟨m,l⟩|⟨_,Q⟩
 ·have j:f=120:=by simpa using m
  subst j;subst l;unfold tC at h;split at h
  ·rename_i a b;cases h;refine ⟨fnOk Tryz.func120 (fun e=>absurd e (of_decide_eq_false (by kernel_rfl))) (fun e=>by simpa [e] using (show Tryz.f120.body.isSome=true by kernel_rfl)),fsem_pure rfl fun y w K C P=>?_⟩;have E:y=#[.string a,.string b]:=by
    have hs:y.size=2:=P.1;have r0:=rep_v (P.2 0 _ y[0] rfl (qaC (by omega)));have r1:=rep_v (P.2 1 _ y[1] rfl (qaC (by omega)));refine Array.ext (by simp [hs]) fun i A E=>?_
    match i,A,E with
    |0,_,_=>simpa using r0
    |1,_,_=>simpa using r1
    |i+2,A,_=>omega
   rw [E];exact DV a b w
  cases h
 rcases dP Q with ⟨m,l⟩|⟨_,S⟩
 ·have j:f=110:=by simpa using m
  subst j;subst l;unfold mY at h;split at h
  ·split at h;next a pe=>cases h;exact ⟨fnOk Tryz.func110 (fun e=>absurd e (of_decide_eq_false (by kernel_rfl))) (fun e=>by simpa [e] using (show Tryz.f110.body.isSome=true by kernel_rfl)),Pg rfl a pe u⟩
   cases h
  cases h
 rcases dP S with ⟨m,l⟩|⟨_,U⟩
 ·have j:f=79:=by simpa using m
  subst j;subst l;unfold vJ at h;split at h
  ·split at h
   ·rename_i zs J;split at h;next H=>cases h;exact ⟨fnOk Tryz.func79 (fun e=>absurd e (of_decide_eq_false (by kernel_rfl))) (fun e=>by simpa [e] using (show Tryz.f79.body.isSome=true by kernel_rfl)),TV _ _ zs J H u⟩
    cases h
   cases h
  cases h
 rcases dP U with ⟨m,l⟩|⟨_,V⟩
 ·have j:f=219:=by simpa using m
  subst j;subst l;unfold jg at h;split at h
  ·split at h;next a b q=>obtain ⟨A,E,O,M⟩:=q;cases h;exact ⟨fnOk Tryz.func219 (fun e=>absurd e (of_decide_eq_false (by kernel_rfl))) (fun e=>by simpa [e] using (show Tryz.f219.body.isSome=true by kernel_rfl)),zd8 a b A E O M u⟩
   split at h;next a b _ q=>obtain ⟨A,rfl⟩:=q;cases h;exact ⟨fnOk Tryz.func219 (fun e=>absurd e (of_decide_eq_false (by kernel_rfl))) (fun e=>by simpa [e] using (show Tryz.f219.body.isSome=true by kernel_rfl)),Rf a A u⟩
   cases h
  cases h
 rcases dP V with ⟨m,l⟩|⟨_,W⟩
 ·have j:f=93:=by simpa using m
  subst j;subst l;unfold Ru at h;split at h
  ·split at h
   ·rename_i n z t k1 x k2 rows q;obtain ⟨pd,B,A,E,O,M⟩:=q;subst pd;subst B;cases h;have e:z=Int.ofNat z.toNat:=by simp only [qaq];omega
    have:=zbJ (R:=RCode Tryz.prog gl) n z.toNat t x rows M A E;rw [<-e] at this;exact ⟨fnOk Tryz.func93 (fun e=>absurd e (of_decide_eq_false (by kernel_rfl))) (fun e=>by simpa [e] using (show Tryz.f93.body.isSome=true by kernel_rfl)),this⟩
   cases h
  cases h
 rcases dP W with ⟨m,l⟩|⟨_,Y⟩
 ·have j:f=88:=by simpa using m
  subst j;subst l;unfold TN at h;split at h
  ·split at h
   ·rename_i n z1 z2 k2 rows q;obtain ⟨B,A,E,O,M,h5⟩:=q;subst B;cases h;have e1:z1=Int.ofNat z1.toNat:=by simp only [qaq];omega
    have e2:z2=Int.ofNat z2.toNat:=by simp only [qaq];omega
    have:=zds (R:=RCode Tryz.prog gl) n z1.toNat z2.toNat rows (by omega) h5 A E;rw [<-e1,<-e2] at this;exact ⟨fnOk Tryz.func88 (fun e=>absurd e (of_decide_eq_false (by kernel_rfl))) (fun e=>by simpa [e] using (show Tryz.f88.body.isSome=true by kernel_rfl)),this⟩
   cases h
  cases h
 rcases dP Y with ⟨m,l⟩|⟨_,Z⟩
 ·have j:f=52:=by simpa using m
  subst j;subst l;unfold yI at h;split at h
  ·split at h;next t k2 N q=>obtain ⟨B,A⟩:=q;subst B;cases h;exact ⟨fnOk Tryz.func52 (fun e=>absurd e (of_decide_eq_false (by kernel_rfl))) (fun e=>by simpa [e] using (show Tryz.f52.body.isSome=true by kernel_rfl)),Yu t N A⟩
   cases h
  cases h
 rcases dP Z with ⟨m,l⟩|⟨_,pa⟩
 ·have j:f=82:=by simpa using m
  subst j;subst l;unfold rH at h;split at h
  ·split at h;next z q=>cases h;exact ⟨fnOk Tryz.func82 (fun e=>absurd e (of_decide_eq_false (by kernel_rfl))) (fun e=>by simpa [e] using (show Tryz.f82.body.isSome=true by kernel_rfl)),W9 rfl z q.1 q.2 u⟩
   cases h
  cases h
 rcases dP pa with ⟨m,l⟩|⟨_,pb⟩
 ·have j:f=271:=by simpa using m
  subst j;subst l;unfold jZ at h;split at h
  ·split at h;next s c q=>cases h;exact ⟨fnOk Tryz.func271 (fun e=>absurd e (of_decide_eq_false (by kernel_rfl))) (fun e=>by simpa [e] using (show Tryz.f271.body.isSome=true by kernel_rfl)),NG s c q.1 q.2.1 q.2.2 u⟩
   cases h
  cases h
 rcases dP pb with ⟨m,l⟩|⟨_,pc⟩
 ·have j:f=267:=by simpa using m
  subst j;subst l;unfold yg at h;split at h;next s=>cases h;exact ⟨fnOk Tryz.func267 (fun e=>absurd e (of_decide_eq_false (by kernel_rfl))) (fun e=>by simpa [e] using (show Tryz.f267.body.isSome=true by kernel_rfl)),OC rfl s u⟩
  cases h
 rcases dP pc with ⟨m,l⟩|⟨_,pj⟩
 ·have j:f=222:=by simpa using m
  subst j;subst l;unfold oM at h;split at h
  ·split at h
   ·rename_i s q;have L:pf=D9 s/\F=u:=by unfold D9;cases l:Lib.atoiAll s.data.toList<;>(rw [l] at h;simp only [qah,qaM] at h;exact ⟨h.1.symm,h.2.symm⟩)
    obtain ⟨rfl,rfl⟩:=L;exact ⟨fnOk Tryz.func222 (fun e=>absurd e (of_decide_eq_false (by kernel_rfl))) (fun e=>by simpa [e] using (show Tryz.f222.body.isSome=true by kernel_rfl)),YQ rfl s q F⟩
   cases h
  cases h
 rcases dP pj with ⟨m,l⟩|⟨_,pi⟩
 ·have j:f=283:=by simpa using m
  subst j;subst l;unfold l9 at h;split at h
  ·split at h
   ·rename_i s c _ b hb;split at h;·cases h;exact ⟨fnOk Tryz.func283 (fun e=>absurd e (of_decide_eq_false (by kernel_rfl))) (fun e=>by simpa [e] using (show Tryz.f283.body.isSome=true by kernel_rfl)),Ob s c b hb u⟩
    cases h
   cases h
  cases h
 rcases dP pi with ⟨m,l⟩|⟨_,ph⟩
 ·have j:f=191:=by simpa using m
  subst j;subst l;unfold lN at h;split at h
  ·rename_i t N;split at h
   ·rename_i zs J;split at h
    ·rename_i H;have:=NI (R:=RCode Tryz.prog gl) t N zs J H u;split at h;next hp=>rw [if_pos hp] at this;cases h;exact ⟨fnOk Tryz.func191 (fun e=>absurd e (of_decide_eq_false (by kernel_rfl))) (fun e=>by simpa [e] using (show Tryz.f191.body.isSome=true by kernel_rfl)),this⟩
     rename_i hp;rw [if_neg hp] at this;cases h;exact ⟨fnOk Tryz.func191 (fun e=>absurd e (of_decide_eq_false (by kernel_rfl))) (fun e=>by simpa [e] using (show Tryz.f191.body.isSome=true by kernel_rfl)),this⟩
    cases h
   cases h
  cases h
 rcases dP ph with ⟨m,l⟩|⟨_,pg⟩
 ·have j:f=243:=by simpa using m
  subst j;subst l;unfold uX at h;split at h
  ·split at h;next s c d q=>cases h;exact ⟨fnOk Tryz.func243 (fun e=>absurd e (of_decide_eq_false (by kernel_rfl))) (fun e=>by simpa [e] using (show Tryz.f243.body.isSome=true by kernel_rfl)),Qo s c d q.1 q.2.1 q.2.2.1 q.2.2.2.1 q.2.2.2.2.1 q.2.2.2.2.2 u⟩
   cases h
  cases h
 cases pg
theorem machine (n:Nat):GamOk Tryz.prog (RCode Tryz.prog gl) (callF tab ext n):=callF_ok zie zjO n
end YtcbeoccmflnejaaGreatDoor
end Go.Proofs
namespace Go.Proofs.YtcbeoccmflnejaaGreatDoor
open Go.Em Go.ChangeShapes Go.WideShapes Go.ChangeAt Go.RowKit
set_option maxRecDepth 100000
variable {g:Nat}{P:Program}{W:World}
def laid2:List (String×DataW Unit):=[("internal/strconv.uint64pow10",Rows.laid_internal_strconv_uint64pow10),("unicode/utf8.acceptRanges",Rows.laid_unicode_utf8_acceptRanges),("strconv.ErrRange",Rows.laid_strconv_ErrRange),("strconv.ErrSyntax",Rows.laid_strconv_ErrSyntax),("unicode/utf8.first",Rows.laid_unicode_utf8_first)]
def pY:List (String×DataW Unit):=[("math/bits.deBruijn32tab",Rows.laid_math_bits_deBruijn32tab),("math/bits.deBruijn64tab",Rows.laid_math_bits_deBruijn64tab),("internal/strconv.uint64pow10",Rows.laid_internal_strconv_uint64pow10),("unicode/utf8.acceptRanges",Rows.laid_unicode_utf8_acceptRanges),("strconv.ErrRange",Rows.laid_strconv_ErrRange),("strconv.ErrSyntax",Rows.laid_strconv_ErrSyntax),("unicode/utf8.first",Rows.laid_unicode_utf8_first)]
def zf6 (x:String×DataW Unit):Bool:=x.1== "unicode/utf8.acceptRanges"||x.1== "unicode/utf8.first"||x.1== "internal/strconv.uint64pow10"||x.1== "strconv.ErrRange"||x.1== "strconv.ErrSyntax"
theorem Ri:pY.filter zf6=laid2:=by kernel_rfl
def xO (P:Program)(t:TypeId):Array Field:=match P.underlying t with
 |some (.struct fs)=>fs
 |_=>#[]
theorem Zl:Tryz.prog.underlying 5=some (.int .u8):=by kernel_rfl
theorem Vl:Tryz.prog.underlying 223=some (.array 256 5):=by kernel_rfl
theorem Vj:Tryz.prog.underlying 226=some (.array 16 225):=by kernel_rfl
theorem Vk:Tryz.prog.underlying 225=some (.struct (xO Tryz.prog 225)):=by kernel_rfl
theorem zgm:((xO Tryz.prog 225)[0]?).map (fun f=>(f.type,f.offset))=some (5,0):=by kernel_rfl
theorem field1:((xO Tryz.prog 225)[1]?).map (fun f=>(f.type,f.offset))=some (5,1):=by kernel_rfl
theorem EX {l:List Nat}(h:∀j z,l[j]?=some z->W.cell? ⟨g,j,none⟩=some (.int .u8 (Int.ofNat z))):Rep (Kw W) [] (.dp (mW l)) (.pointer (some ⟨g,0,none⟩)):=by
 have a:∀(j:Nat) (x:X),(mW l)[j]?=some x->∃z,l[j]?=some z/\x=.v (.int .u8 (Int.ofNat z)):=fun j x e=>by unfold mW at e;rw [qaA,qac] at e;obtain ⟨z,hz,rfl⟩:=e;exact ⟨z,hz,rfl⟩
 refine .dp (fun j=>.int .u8 (Int.ofNat (l.getD j 0))) (fun j x e=>?_) (fun j x e=>?_) (fun j x e=>?_);·obtain ⟨z,_,rfl⟩:=a j x e;rfl
 ·obtain ⟨z,hz,rfl⟩:=a j x e;show W.cell? ⟨g,0+j,none⟩=_;rw [Nat.zero_add,h j z hz,qav,hz];rfl
 obtain ⟨z,hz,rfl⟩:=a j x e;rw [qav,hz];exact .v rfl
theorem Vg:Tryz.prog.underlying 317=some (.array 20 273):=by kernel_rfl
theorem Vh:Tryz.prog.underlying 273=some (.int .u64):=by kernel_rfl
theorem J3:Tryz.prog.underlying 287=some (.interface #[("Error",302)]):=by kernel_rfl
theorem J5 {H:Type}{enc:TypeId×Value->H}{w:World}{base:Nat}{spare:Nat->Bool}{held:Bool}{fuel:Nat}{t:TypeId}{ms:Array (String×TypeId)}{cs:List Value}{nm:String}{x:DataW H}{q:List MemPlace}(ht:P.underlying t=some (.interface ms))(h:DataW.trod enc P w base spare held fuel t cs=some (.iface nm x,q)):∃u v,cs=[.iface u v]:=by
 cases fuel with
 |zero=>cases h
 |succ f=>
  unfold DataW.trod at h;rw [ht] at h;split at h<;>first
   |exact ⟨_,_,rfl⟩
   |(exfalso;clear h;simp_all;done)
   |(exfalso;simp_all;done)
theorem globs (h:laidMetH Tryz.prog laid2 W):(∀j z,Go.Pinned.utf8FirstZ[j]?=some z->W.cell? ⟨0,j,none⟩=some (.int .u8 (Int.ofNat z)))/\(∀j z,([128,191,160,191,128,159,144,191,128,143]++List.replicate 22 0)[j]?=some z->W.cell? ⟨1,j,none⟩=some (.int .u8 (Int.ofNat z)))/\(∀j,j<20->W.cell? ⟨3,j,none⟩=some (.int .u64 ((10^j:Nat):Int)))/\(∃u v,W.cell? ⟨7,0,none⟩=some (.iface u v))/\∃u v,W.cell? ⟨6,0,none⟩=some (.iface u v):=by
 rw [MakeChecks.laidMetH_plain _ _ _ (by kernel_rfl)] at h;obtain ⟨ps,⟨g3,t3,cs3,zn3,p3,q3,hg3,ht3,hv3,hd3,⟨g,t,cs,fuel,p,q,hg,ht,hv,hd,⟨g7,t7,cs7,zn1,p7,q7,hg7,ht7,hv7,hd7,⟨g6,t6,cs6,zn2,p6,q6,hg6,ht6,hv6,hd6,⟨g',t',cs',fuel',p',q',hg',ht',hv',hd',_,_⟩,_⟩,_⟩,_⟩,_⟩,_,_⟩:=h;obtain rfl:=Option.some.inj ((show Tryz.prog.globalNamed "internal/strconv.uint64pow10"=some 3 by kernel_rfl).symm.trans hg3);obtain rfl:=Option.some.inj ((show (Tryz.prog.globals[3]?).map (·.type)=some 317 by kernel_rfl).symm.trans ht3);obtain rfl:=Option.some.inj ((show Tryz.prog.globalNamed "unicode/utf8.acceptRanges"=some 1 by kernel_rfl).symm.trans hg);obtain rfl:=Option.some.inj ((show (Tryz.prog.globals[1]?).map (·.type)=some 226 by kernel_rfl).symm.trans ht);obtain rfl:=Option.some.inj ((show Tryz.prog.globalNamed "strconv.ErrRange"=some 7 by kernel_rfl).symm.trans hg7);obtain rfl:=Option.some.inj ((show (Tryz.prog.globals[7]?).map (·.type)=some 287 by kernel_rfl).symm.trans ht7);obtain rfl:=Option.some.inj ((show Tryz.prog.globalNamed "strconv.ErrSyntax"=some 6 by kernel_rfl).symm.trans hg6);obtain rfl:=Option.some.inj ((show (Tryz.prog.globals[6]?).map (·.type)=some 287 by kernel_rfl).symm.trans ht6);obtain rfl:=Option.some.inj ((show Tryz.prog.globalNamed "unicode/utf8.first"=some 0 by kernel_rfl).symm.trans hg');obtain rfl:=Option.some.inj ((show (Tryz.prog.globals[0]?).map (·.type)=some 223 by kernel_rfl).symm.trans ht');have c5:Tryz.prog.cellsOf 5=1:=by kernel_rfl
 have zod:Tryz.prog.cellsOf 225=2:=by kernel_rfl
 have zoc:Tryz.prog.cellsOf 273=1:=by kernel_rfl
 refine ⟨?_,?_,?_,?_,?_⟩
 ·intro j z hz;obtain ⟨xs,m,_,ex,_,hl,hel⟩:=DataW.trod_array Vl hd';have hlen:Go.Pinned.utf8FirstZ.length=256:=by kernel_rfl
  have hj:j<256:=by rw [<-hlen];exact (qak.1 hz).1
  have hE:=hel j hj;rw [c5,Nat.mul_one,qad (by omega)] at hE;obtain ⟨y,e1,e2,_⟩:=DataW.trod_int Zl hE;have e3:(xs.map (·.1))=Go.Pinned.utf8FirstZ.map fun (n:Nat)=>.lit (.int .u8 (Int.ofNat n)):=(DataW.agg.inj (Prod.mk.inj ex).1).symm;have e4:(xs.map (·.1))[j]?=(Go.Pinned.utf8FirstZ.map fun (n:Nat)=>(DataW.lit (.int .u8 (Int.ofNat n)):DataW Unit))[j]?:=by rw [e3]
  rw [qaA,qaA,qad (by omega:j<xs.length),hz,e2] at e4;simp only [qao,qah,DataW.lit.injEq,Lit.int.injEq,true_and] at e4;subst e4;rw [World.var?_cell hg' hv' j];have:cs'.toList[j]?=some (.int .u8 (Int.ofNat z)):=by
   have h0:((cs'.toList.drop j).take 1)[0]?=some (.int .u8 (Int.ofNat z)):=by rw [e1];rfl
   simpa using h0
  simpa using this
 ·intro j z hz;obtain ⟨xs,m,_,ex,_,hl,hel⟩:=DataW.trod_array Vj hd;have hlen:([128,191,160,191,128,159,144,191,128,143]++List.replicate 22 0).length=32:=by kernel_rfl
  have hj:j<32:=by rw [<-hlen];exact (qak.1 hz).1
  have hE:=hel (j /2) (by omega);rw [zod,qad (by omega)] at hE;obtain ⟨ys,m2,_,ey,_,hl2,zmP⟩:=DataW.trod_struct Vk hE;have f2:(xO Tryz.prog 225).size=2:=by kernel_rfl
  have hk:j%2<2:=Nat.mod_lt _ (by omega);have hfo:∀k,k<2->((xO Tryz.prog 225)[k]?).map (fun f=>(f.type,f.offset))=some (5,k):=fun k hk=>by
   match k,hk with
   |0,_=>exact zgm
   |1,_=>exact field1
  obtain ⟨f,hf,hf2⟩:=qac.1 (hfo (j%2) hk);have hE2:=zmP (j%2) f hf;obtain ⟨hft,zmO⟩:=Prod.mk.inj hf2;rw [hft,zmO,c5,qad (by omega)] at hE2;obtain ⟨y,e1,e2,_⟩:=DataW.trod_int Zl hE2;have hall:((List.range 32).all fun j=>match (Rows.laid_unicode_utf8_acceptRanges:DataW Unit) with
   |.agg l=>match l[j /2]? with
    |some (.agg r)=>match r[j%2]?,([128,191,160,191,128,159,144,191,128,143]++List.replicate 22 0)[j]? with
     |some (.lit (.int .u8 z)),some z'=>z==Int.ofNat z'
     |_,_=>false
    |_=>false
   |_=>false)=true:=by kernel_rfl
  have h1:=qas.1 hall j (List.mem_range.2 hj);have e3:(Rows.laid_unicode_utf8_acceptRanges:DataW Unit)=.agg (xs.map (·.1)):=(Prod.mk.inj ex).1;have e5:(xs.map (·.1))[j /2]?=some (.agg (ys.map (·.1))):=by rw [qaA,qad (by omega:j /2<xs.length),ey];rfl
  have e6:(ys.map (·.1))[j%2]?=some (.lit (.int .u8 y)):=by rw [qaA,qad (by omega:j%2<ys.length),e2];rfl
  rw [e3] at h1;dsimp only at h1;rw [e5] at h1;dsimp only at h1;rw [e6,hz] at h1;have hy:y=Int.ofNat z:=eq_of_beq h1;subst hy;rw [World.var?_cell hg hv j];have:cs.toList[j]?=some (.int .u8 (Int.ofNat z)):=by
   have h0:((((cs.toList.drop (j /2*2)).take 2).drop (j%2)).take 1)[0]?=some (.int .u8 (Int.ofNat z)):=by rw [e1];rfl
   rw [qax,if_pos (by omega),qaw,qax,if_pos (by omega),qaw] at h0;have:j /2*2+(j%2+0)=j:=by omega
   rw [this] at h0;exact h0
  simpa using this
 ·intro j hj;obtain ⟨xs,m,_,ex,_,hl,hel⟩:=DataW.trod_array Vg hd3;have hE:=hel j hj;rw [zoc,Nat.mul_one,qad (by omega)] at hE;obtain ⟨y,e1,e2,_⟩:=DataW.trod_int Vh hE;have e3:(Rows.laid_internal_strconv_uint64pow10:DataW Unit)=.agg (xs.map (·.1)):=(Prod.mk.inj ex).1;have hall:((List.range 20).all fun j=>match (Rows.laid_internal_strconv_uint64pow10:DataW Unit) with
   |.agg l=>match l[j]? with
    |some (.lit (.int .u64 z))=>z==((10^j:Nat):Int)
    |_=>false
   |_=>false)=true:=by kernel_rfl
  have h1:=qas.1 hall j (List.mem_range.2 hj);have e6:(xs.map (·.1))[j]?=some (.lit (.int .u64 y)):=by rw [qaA,qad (by omega:j<xs.length),e2];rfl
  rw [e3] at h1;dsimp only at h1;rw [e6] at h1;have hy:y=((10^j:Nat):Int):=eq_of_beq h1;subst hy;rw [World.var?_cell hg3 hv3 j];have:cs3.toList[j]?=some (.int .u64 ((10^j:Nat):Int)):=by
   have h0:((cs3.toList.drop j).take 1)[0]?=some (.int .u64 ((10^j:Nat):Int)):=by rw [e1];rfl
   simpa using h0
  simpa using this
 ·obtain ⟨u,v,e⟩:=J5 J3 hd7;refine ⟨u,v,?_⟩;rw [World.var?_cell hg7 hv7 0];have:cs7.toList[0]?=some (.iface u v):=by rw [e];rfl
  simpa using this
 obtain ⟨u,v,e⟩:=J5 J3 hd6;refine ⟨u,v,?_⟩;rw [World.var?_cell hg6 hv6 0];have:cs6.toList[0]?=some (.iface u v):=by rw [e];rfl
 simpa using this
theorem QA {u:TypeId}{v:Value}(h:W.cell? ⟨g,0,none⟩=some (.iface u v)):Rep (Kw W) [] (.dp [.ifc]) (.pointer (some ⟨g,0,none⟩)):=by
 refine .dp (fun _=>.iface u v) (fun j x e=>?_) (fun j x e=>?_) (fun j x e=>?_)
 all_goals
  match j,e with
  |0,e=>?_
  |j+1,e=>cases e
 ·cases e;rfl
 ·cases e;exact h
 cases e;exact .ifc
theorem za7 (h:∀j,j<20->W.cell? ⟨g,j,none⟩=some (.int .u64 ((10^j:Nat):Int))):Rep (Kw W) [] (.dp ((List.range 20).map fun i=>.v (.int .u64 ((10^i:Nat):Int)))) (.pointer (some ⟨g,0,none⟩)):=by
 have f:∀(j:Nat) (x:X),((List.range 20).map fun i:Nat=>(X.v (.int .u64 ((10^i:Nat):Int))))[j]?=some x->j<20/\x=.v (.int .u64 ((10^j:Nat):Int)):=fun j x e=>by rw [qaA,qac] at e;obtain ⟨i,a,rfl⟩:=e;obtain ⟨m,a⟩:=qak.1 a;rw [List.getElem_range] at a;subst a;exact ⟨by simpa using m,rfl⟩
 refine .dp (fun j=>.int .u64 ((10^j:Nat):Int)) (fun j x e=>?_) (fun j x e=>?_) (fun j x e=>?_);·obtain ⟨_,rfl⟩:=f j x e;rfl
 ·obtain ⟨l,rfl⟩:=f j x e;show W.cell? ⟨g,0+j,none⟩=_;rw [Nat.zero_add,h j l]
 obtain ⟨_,rfl⟩:=f j x e;exact .v rfl
theorem Sl (h7:laidMetH Tryz.prog pY W):GlobOk (RCode Tryz.prog gl) (Kw W):=by
 have h:=h7.filter zf6;rw [Ri] at h;obtain ⟨j,l,m,⟨u,v,n⟩,⟨w,y,q⟩⟩:=globs h;intro g f e;change gl g=some f at e;unfold gl at e;split at e
 ·rename_i a;obtain rfl:g=0:=by simpa using a
  cases e;exact EX j
 split at e
 ·rename_i a;obtain rfl:g=1:=by simpa using a
  cases e;exact EX l
 split at e
 ·rename_i a;obtain rfl:g=3:=by simpa using a
  cases e;exact za7 m
 split at e
 ·rename_i a;obtain rfl:g=6:=by simpa using a
  cases e;exact QA q
 split at e
 ·rename_i a;obtain rfl:g=7:=by simpa using a
  cases e;exact QA n
 cases e
open Go.ChangeShapes Go.WideShapes Go.ChangeAt Go.RowKit Go.Em
theorem xu {f:FuncId}{fn:Func}{s:ChangeSpec}{c:OpenClaim}(p1:laidOutB P=true)(p2:mapsRowed P=true)(p3:((P.stops==[])&&(P.stopKnobs==[]))=true)
  (p4:P.stopsHeard=true) (p5:P.mayEnter=true)
  (a1:(c.inPlace==P.inPlace f)=true) (a2:(c.unfollowed==P.unfollowed f)=true) (a3:(c.recurses==P.recurses f)=true) (a4:(c.named==P.varsNamed f)=true)
  (b1:(c.wf (OpenSpec.ofChange s)&&fn.params.all (P.readableRec ·)&&namedTie P c.named s.vars&&(c.stops==[])&&(c.knobs==[]))=true)
  (b2:((c.maps==(fn.params.toList++s.plain.varTypes P).any (P.mapsRec ·))&&(c.ifaces==(fn.params.toList++s.plain.varTypes P).any (P.ifacesRec ·))&&(c.mapsOut==P.mapsAmong fn.resultTypes.toList)&&
   (c.loops==(fn.params.toList++s.plain.varTypes P).any (P.loopsFrom ·))&&(c.wideKeys==(fn.params.toList++s.plain.varTypes P++fn.resultTypes.toList).any (P.wideKeysFrom ·)))=true)
  (b3:(s.vars.all (P.varReadable ·)&&fn.resultTypes.all (fun t=>P.readableRec t&&decide (t<P.types.size))&&(c.ifacesOut==fn.resultTypes.toList.any (P.ifacesRec ·))&&(c.loopsOut==fn.resultTypes.toList.any (P.loopsFrom ·))&&c.shortTexts.isNone)=true)
  (c1:(c.plainKeys==P.plainKeys)=true) (c2:(c.lifted==P.liftsFinal)=true) (c3:(P.make==some c.make)=true)
  (b4:((c.kinds==(if c.domain.isEmpty then [] else fn.params.toList.map fun t=>match P.underlying t with|some (.int k)=>some k|_=>none))&&(c.pinned==c.pinnedBy)&&
   (c.veiled==(fn.params.toList++s.plain.varTypes P++fn.resultTypes.toList).any (P.veiledRec ·))&&c.veiledFits P fn.params.toList (fn.params.toList++s.plain.varTypes P++fn.resultTypes.toList))=true):
  joinedFacts P f fn s c=true:=by
 simp only [qab] at p3 b1 b2 b3 b4;obtain ⟨a,h⟩:=p3;obtain ⟨⟨⟨⟨j,l⟩,m⟩,n⟩,q⟩:=b1;obtain ⟨⟨⟨⟨u,w⟩,y⟩,A⟩,B⟩:=b2;obtain ⟨⟨⟨⟨E,F⟩,H⟩,J⟩,L⟩:=b3;obtain ⟨⟨⟨M,N⟩,O⟩,Q⟩:=b4;simp only [joinedFacts,qab];exact ⟨⟨⟨⟨⟨⟨⟨⟨⟨⟨⟨⟨⟨⟨⟨⟨⟨⟨⟨⟨⟨⟨⟨⟨⟨⟨⟨⟨⟨⟨⟨j,p1⟩,p2⟩,l⟩,m⟩,n⟩,a⟩,q⟩,h⟩,a1⟩,a2⟩,a3⟩,a4⟩,u⟩,w⟩,y⟩,A⟩,B⟩,E⟩,F⟩,H⟩,J⟩,c1⟩,L⟩,p4⟩,p5⟩,c2⟩,c3⟩,M⟩,N⟩,O⟩,Q⟩
theorem CJ:((Tryz.prog.stops==[])&&(Tryz.prog.stopKnobs==[]))=true:=by kernel_rfl
theorem CQ:Tryz.prog.stopsHeard=true:=by kernel_rfl
theorem CS:Tryz.prog.mayEnter=true:=by kernel_rfl
theorem CP:true=Tryz.prog.looks []:=by kernel_rfl
theorem Iw:Tryz.pinned.checked.prog.mainIs=some (true,"7dec813ea5a7da48e77a1b2854200b391007d9a1ecddbeea581343831613540c".toList):=by kernel_rfl
theorem CO:Tryz.prog.plainKeys=Rows.dedupStepsRow.plainKeys:=by kernel_rfl
theorem xw:Tryz.prog.liftsFinal=Rows.dedupStepsRow.lifted:=by kernel_rfl
theorem Iu:(Tryz.prog.make==some Rows.dedupStepsRow.make)=true:=by kernel_rfl
end Go.Proofs.YtcbeoccmflnejaaGreatDoor
