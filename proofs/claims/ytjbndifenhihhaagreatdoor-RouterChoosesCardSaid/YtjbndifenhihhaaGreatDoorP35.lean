/- Functions of the library that are not walked: numbers' texts, repetitions, code points. -/
import Derived.WalkKit
import Derived.Deep.LoopGhost
import Derived.Shelf.Strings.Repeat
import Derived.Shelf.Strconv.AtoiAll
import Derived.Shelf.Unicode.DecodeAny
import Derived.Shelf.Strings.Search2
import Derived.Lib.AppendIntMem
import Derived.Lib.SmallJoins
import Derived.Shelf.Strings.BuilderRune
import Derived.Shelf.Strings.BuilderK
import Derived.Lib.OthersKept
import Derived.Laws.IdiomStrings
import Derived.Shelf.Slices.Clone
import Derived.Shelf.Unicode.ValidAny
import Derived.Shelf.Strings.IndexAnyAll
import Derived.LaidMore
import Derived.LaidSub
import Derived.Test.YtjbndifenhihhaaGreatDoorRows
import Derived.Lay
import Derived.OpenShut
import Derived.ProofKit
import Derived.SevenTiedAt
import Derived.Stop.Joined
import Derived.Test.YtjbndifenhihhaaGreatDoorEmP7
import Derived.Test.YtjbndifenhihhaaGreatDoorEmP8
import Derived.Test.YtjbndifenhihhaaGreatDoorP13
import Derived.Test.YtjbndifenhihhaaGreatDoorP17
import Derived.Test.YtjbndifenhihhaaGreatDoorP33
import Derived.Test.YtjbndifenhihhaaGreatDoorP34
namespace Go.Proofs
open Go.Shelf
namespace YtjbndifenhihhaaGreatDoor
open Go.RowKit Go.Em
section
variable {P:Program} {R:aN}
theorem lF {f:FuncId}{args:List X}{inb:List Bx}{y:X}(h:∀(aK:Array Value) (w:World) (K:Kn) (C:List CB),Inv P R K C inb w→bU K C args aK→Calls P f aK w fun e w'=>∃u,e=.returned u∧(∀K C,Rep K C y u)∧Below w.heap.size w w'):FX P R f args inb y inb:=by
 intro K C w aK hI ha
 refine (h aK w K C hI ha).mono ?_
 rintro e w' ⟨u,rfl,hr,hB⟩
 have hf:=lS hB
 exact ⟨u,K,[],rfl,y8 (hI.still hf),hr _ _,KLe.refl _,fun b o v e=>.inl e,fun b o ho=>.inl (by rw [List.append_nil] at ho;exact ho),hf.mono (fun b o _ hs=>hs.elim),fun i B hB hl=>⟨B,hB,hl⟩⟩
theorem Kr {K:Kn}{C:List CB}{u:Value}{aK:Array Value}(ha:bU K C [.v u] aK):aK=#[u]:=by
 have hs:aK.size=1:=ha.1
 have r0:=eH (ha.2 0 _ aK[0] rfl (Array.getElem?_eq_getElem (by omega)))
 refine Array.ext (by simp [hs]) fun i h1 h2=>?_
 match i,h1,h2 with
 |0,_,_=>simpa using r0
 |i+1,h1,_=>omega
theorem Ec {K:Kn}{C:List CB}{u v:Value}{aK:Array Value}(ha:bU K C [.v u,.v v] aK):aK=#[u,v]:=by
 have hs:aK.size=2:=ha.1
 have r0:=eH (ha.2 0 _ aK[0] rfl (Array.getElem?_eq_getElem (by omega)))
 have r1:=eH (ha.2 1 _ aK[1] rfl (Array.getElem?_eq_getElem (by omega)))
 refine Array.ext (by simp [hs]) fun i h1 h2=>?_
 match i,h1,h2 with
 |0,_,_=>simpa using r0
 |1,_,_=>simpa using r1
 |i+2,h1,_=>omega
theorem uT {K:Kn}{C:List CB}{x y:X}{u v:Value}(h1:Rep K C x u)(h2:Rep K C y v):Rep K C (.tup [x,y]) (.tuple #[u,v]):=by
 refine .tup rfl fun j a b ha hb=>?_
 match j,ha,hb with
 |0,ha,hb=>cases ha;cases hb;exact h1
 |1,ha,hb=>cases ha;cases hb;exact h2
end
theorem zN {R:aN}(hR:R.gl=gl){K:Kn}{C:List CB}{bx:List Bx}{w:World}(hI:Inv Tryz.prog R K C bx w){g:Nat}{cs:List X}(hg:gl g=some cs){j:Nat}{x:X}(hj:cs[j]?=some x):∃v,w.cell? ⟨g,j,none⟩=some v∧Rep K [] x v:=by
 have h:=hI.glob g cs (by rw [hR];exact hg)
 cases h with
 |dp vals hcell hk hr=>
  have e3:=hI.known _ _ _ (hk j _ hj)
  exact ⟨_,by simpa using e3,hr j _ hj⟩
theorem zgW {R:aN}(hR:R.gl=gl){K:Kn}{C:List CB}{bx:List Bx}{w:World}(hI:Inv Tryz.prog R K C bx w):Ju (Tryz.oV.g 17) w:=by
 rw [show Tryz.oV.g 17=3 by kernel_rfl]
 intro i hi
 obtain ⟨v,h1,h2⟩:=zN hR hI (g:=3) rfl (j:=i) (x:=.v (.int .u64 ((10^i:Nat):Int))) (by rw [List.getElem?_map,List.getElem?_range hi];rfl)
 rw [h1,eH h2]
theorem Zi {R:aN}(hR:R.gl=gl)(z:Int)(h0:-9223372036854775808≤z)(h1:z≤9223372036854775807)(inb:List Bx):FX Tryz.prog R 87 [.v (.int .i64 z)] inb (.v (.string ⟨(Lib.itoa z).toArray⟩)) inb:=by
 refine lF fun aK w K C hI ha=>?_
 rw [Kr ha]
 refine (zbD.strconv_Itoa Tryz.laysItoa z h0 h1 w (zgW hR hI)).mono ?_
 rintro e w' ⟨rfl,k,os,rfl⟩
 exact ⟨_,rfl,fun _ _=>.v rfl,Lib.below_grow _ _ (Nat.le_refl _) _ _⟩
theorem Hr:Builder.Extra Tryz.prog Tryz.zy:={
 sizeBuilder:=by kernel_rfl
 liesBuilder:=by kernel_rfl
 t5:=Tryz.zA.t5
 a5:=Tryz.zA.a5
 z5:=Tryz.zA.z5
 v5:=Tryz.zA.v5
 infoByte:=by kernel_rfl
 cellsByte:=by kernel_rfl
 sizeByte:=by kernel_rfl
 neB5:=by decide}
theorem Qw {R:aN}(s:ByteArray)(c:Int)(h0:0≤c)(h1:c≤1000000)(h2:s.size≤1000000)(inb:List Bx):FX Tryz.prog R 333 [.v (.string s),.v (.int .i64 c)] inb (.v (.string ⟨(Lib.repeatL s.data.toList c.toNat).toArray⟩)) inb:=by
 refine lF fun aK w K C hI ha=>?_
 rw [Ec ha]
 obtain ⟨n,rfl⟩:∃n:Nat,c=n:=⟨c.toNat,by omega⟩
 have hn:n≤1000000:=by omega
 have hm:s.size*n≤1000000*1000000:=Nat.mul_le_mul h2 hn
 refine (Any.strings_Repeat Tryz.zA Hr s n w (by omega) (by omega)).mono ?_
 rintro e w' ⟨rfl,hB⟩
 exact ⟨_,rfl,fun _ _=>.v rfl,hB⟩
theorem Yp {R:aN}(hR:R.gl=gl){K:Kn}{C:List CB}{bx:List Bx}{w:World}(hI:Inv Tryz.prog R K C bx w):Lib.Utf8Tabs (Tryz.kF.g 3) (Tryz.kF.g 4) w:=by
 have cell:∀(g:Nat) (cs:List X),gl g=some cs→∀(j:Nat) (v:Value),cs[j]?=some (.v v)→w.cell? ⟨g,j,none⟩=some v:=fun g cs hg j v hj=>by
  obtain ⟨u,h1,h2⟩:=zN hR hI hg hj
  rw [h1,eH h2]
 rw [show Tryz.kF.g 3=0 by kernel_rfl,show Tryz.kF.g 4=1 by kernel_rfl]
 constructor
 ·intro c hc
  have hall:((List.range 256).all fun c=>match (pK Go.Pinned.utf8FirstZ)[c]? with
   |some (.v (.int .u8 z))=>z==Lib.firstT c
   |_=>false)=true:=by kernel_rfl
  have h1:=List.all_eq_true.1 hall c (List.mem_range.2 hc)
  split at h1
  ·rename_i z hz
   rw [cell 0 _ rfl c _ hz,eq_of_beq h1]
  ·cases h1
 ·intro i hi
  have hall:((List.range 16).all fun i=>(match (pK ([128,191,160,191,128,159,144,191,128,143]++List.replicate 22 0))[2*i]? with
   |some (.v (.int .u8 z))=>z==Lib.accLo i
   |_=>false)&&(match (pK ([128,191,160,191,128,159,144,191,128,143]++List.replicate 22 0))[2*i+1]? with
   |some (.v (.int .u8 z))=>z==Lib.accHi i
   |_=>false))=true:=by kernel_rfl
  have h1:=List.all_eq_true.1 hall i (List.mem_range.2 hi)
  rw [Bool.and_eq_true] at h1
  obtain ⟨h1,h2⟩:=h1
  constructor
  ·split at h1
   ·rename_i z hz
    rw [cell 1 _ rfl (2*i) _ hz,eq_of_beq h1]
   ·cases h1
  ·split at h2
   ·rename_i z hz
    rw [cell 1 _ rfl (2*i+1) _ hz,eq_of_beq h2]
   ·cases h2
theorem Ry {R:aN}(hR:R.gl=gl)(s:ByteArray)(inb:List Bx):FX Tryz.prog R 329 [.v (.string s)] inb (.tup [.v (.int .i32 (uj s).1),.v (.int .i64 (uj s).2)]) inb:=by
 refine lF fun aK w K C hI ha=>?_
 rw [Kr ha]
 refine (Any.utf8_DecodeRuneInString Tryz.zdb s w (Yp hR hI)).mono ?_
 rintro e w' ⟨rfl,hB⟩
 exact ⟨_,rfl,fun _ _=>uT (.v rfl) (.v rfl),hB⟩
theorem OV {R:aN}(hR:R.gl=gl){K:Kn}{C:List CB}{bx:List Bx}{w:World}(hI:Inv Tryz.prog R K C bx w){g:Nat}(hg:gl g=some [.ifc]):∃v,w.cell? ⟨g,0,none⟩=some v∧(v=.nilIface∨∃te pe,v=.iface te pe):=by
 obtain ⟨v,h1,h2⟩:=zN hR hI hg (j:=0) (x:=.ifc) rfl
 cases h2
 exact ⟨_,h1,.inr ⟨_,_,rfl⟩⟩
def FV (s:ByteArray):X:=match Lib.atoiAll s.data.toList with
 |.ok v=>.tup [.v (.int .i64 v),.v .nilIface]
 |.range=>.tup [.v (.int .i64 (Lib.atoiSat s.data.toList)),.ifc]
 |_=>.tup [.v (.int .i64 0),.ifc]
theorem zaL {R:aN}(hR:R.gl=gl)(s:ByteArray)(hs:s.size≤281474976710656)(inb:List Bx):FX Tryz.prog R 268 [.v (.string s)] inb (FV s) inb:=by
 refine lF fun aK w K C hI ha=>?_
 rw [Kr ha]
 unfold FV
 cases h:Lib.atoiAll s.data.toList with
 |ok v=>
  refine (Any.strconv_Atoi_ok Tryz.laysAtoi s (by omega) v h w).mono ?_
  rintro e w' ⟨rfl,hB⟩
  refine ⟨_,rfl,fun _ _=>uT (.v rfl) (.v rfl),?_⟩
  rcases hB with rfl|⟨t,rfl⟩
  ·exact Below.refl _ _
  ·exact Go.Joins.below_bytesWorld _ _ _ _ (Nat.le_refl _)
 |range=>
  obtain ⟨v,h1,h2⟩:=OV hR hI (g:=7) rfl
  refine (Any.strconv_Atoi_range Tryz.laysAtoi s hs h v w (by rw [show Tryz.oW.g 16=7 by kernel_rfl];exact h1) h2).mono ?_
  rintro e w' ⟨N,rfl,_,_,hB⟩
  exact ⟨_,rfl,fun _ _=>uT (.v rfl) .ifc,hB⟩
 |_=>
  obtain ⟨v,h1,h2⟩:=OV hR hI (g:=6) rfl
  refine (Any.strconv_Atoi_syntax Tryz.laysAtoi s hs h v w (by rw [show Tryz.oW.g 15=6 by kernel_rfl];exact h1) h2).mono ?_
  rintro e w' ⟨N,rfl,_,_,hB⟩
  exact ⟨_,rfl,fun _ _=>uT (.v rfl) .ifc,hB⟩
theorem QV {R:aN}(s c:ByteArray)(b:UInt8)(hc:c.data.toList=[b])(inb:List Bx):FX Tryz.prog R 357 [.v (.string s),.v (.string c)] inb (.v (.int .i64 (Lib.indexByte s.data.toList b))) inb:=by
 refine lF fun aK w K C hI ha=>?_
 rw [Ec ha]
 have hc':c=⟨#[b]⟩:=by
  obtain ⟨d⟩:=c
  congr
  apply Array.toList_inj.1
  exact hc
 rw [hc']
 refine (Any.stringslite_Index_one Tryz.zda s b w).mono ?_
 rintro e w' ⟨rfl,hw⟩
 exact ⟨_,rfl,fun _ _=>.v rfl,hw▸Below.refl _ _⟩
theorem DI (s:ByteArray):∀(f pos:Nat),lT s marks f pos=Mk.JO s f pos
 |0,_=>rfl
 |f+1,pos=>by
  unfold lT Mk.JO
  rw [DI s f]
  rfl
theorem Vo {R:aN}(s:ByteArray)(hs:s.size<4294967281)(inb:List Bx):FX Tryz.prog R 265 [.v (.string s),.v (.string marks)] inb (.v (.int .i64 (if s.size≤8 then lT s marks s.size 0 else Lib.indexAny s.data.toList marks.data.toList))) inb:=by
 refine lF fun aK w K C hI ha=>?_
 rw [Ec ha]
 by_cases h8:s.size≤8
 ·rw [if_pos h8,DI]
  refine (Mk.Bf {Tryz.KD with} s w h8).mono ?_
  rintro e w' ⟨rfl,hB⟩
  exact ⟨_,rfl,fun _ _=>.v rfl,hB⟩
 ·rw [if_neg h8]
  have hz:(Tryz.prog.info? (Tryz.zB.t 116)).map (fun i=>(i.zero,i.size))=some (some (.agg (Array.replicate 256 (.bool false))),256):=by kernel_rfl
  refine (Any.strings_IndexAny_long Tryz.KD (zero_of_info hz).1 (zero_of_info hz).2 s marks w (by decide) (by omega) hs (by decide) (fun j b hb=>?_)).mono ?_
  ·have h3:∀b∈[46,91,63],(b:UInt8).toNat<128:=by decide
   exact h3 b (List.mem_of_getElem? hb)
  ·rintro e w' ⟨rfl,hw⟩
   refine ⟨_,rfl,fun _ _=>.v rfl,?_⟩
   rw [hw]
   exact ((Below.refl _ _).alloc (Nat.le_refl _) _).alloc (by simp) _
theorem zG:∀{es:List (List X)} {zs:List Int},intsOf es=some zs→es.length=zs.length∧∀j,j<zs.length→es[j]?=some [.v (.int .i64 (zs.getD j 0))]
 |[],zs,h=>by
  simp only [intsOf,Option.some.injEq] at h;subst h
  exact ⟨rfl,fun j hj=>by simp at hj⟩
 |e::r,zs,h=>by
  unfold intsOf at h
  split at h
  ·rename_i heq;cases heq
  ·rename_i z r' heq
   obtain ⟨rfl,rfl⟩:=List.cons.inj heq
   split at h
   ·rename_i l hl
    simp only [Option.some.injEq] at h;subst h
    obtain ⟨h1,h2⟩:=zG hl
    refine ⟨by simp [h1],fun j hj=>?_⟩
    cases j with
    |zero=>rfl
    |succ j=>
     have:=h2 j (by simpa using hj)
     simpa using this
   ·cases h
  ·cases h
end YtjbndifenhihhaaGreatDoor
end Go.Proofs
namespace Go.Proofs
open Go.Shelf
namespace YtjbndifenhihhaaGreatDoor
open Go.RowKit Go.Em
theorem XL:Builder.Extra Tryz.prog Tryz.C9:={
 sizeBuilder:=by kernel_rfl
 liesBuilder:=by kernel_rfl
 t5:=Tryz.tH.t5
 a5:=Tryz.tH.a5
 z5:=Tryz.tH.z5
 v5:=Tryz.tH.v5
 infoByte:=by kernel_rfl
 cellsByte:=by kernel_rfl
 sizeByte:=by kernel_rfl
 neB5:=by decide}
theorem zaH:Builder.Extra Tryz.prog Tryz.Dc:={
 sizeBuilder:=by kernel_rfl
 liesBuilder:=by kernel_rfl
 t5:=Tryz.tH.t5
 a5:=Tryz.tH.a5
 z5:=Tryz.tH.z5
 v5:=Tryz.tH.v5
 infoByte:=by kernel_rfl
 cellsByte:=by kernel_rfl
 sizeByte:=by kernel_rfl
 neB5:=by decide}
set_option maxHeartbeats 1000000 in
set_option maxRecDepth 100000 in
theorem tN (z:Int)(w:World):Calls Tryz.prog 280 #[.int .i64 z] w fun e w'=>e=.returned (.bool (lK z))∧w'=w:=by
 have e:lK z=(decide (0≤z)&&decide (z≤1114111)&&(decide (z<55296)||decide (57343<z))):=by
  unfold lK
  rw [Bool.eq_iff_iff]
  simp
  omega
 rw [e]
 go_enter Tryz.func280,Tryz.ntmps280
 go_wp2
 all_goals (go_ret;refine ⟨?_,rfl⟩;simp_all<;>omega)
theorem Z8 (zs:List Int):(zs.flatMap Lib.encodeRune).length≤4*zs.length:=by
 induction zs with
 |nil=>exact Nat.le_refl _
 |cons z r ih=>
  have:=(Lib.encodeRuneZ_length z).2
  rw [List.flatMap_cons,List.length_append,List.length_cons]
  unfold Lib.encodeRune at ih ⊢
  rw [List.length_map]
  omega
theorem byteCells_append (a b:List UInt8):Lib.byteCells (a++b)=Lib.byteCells a++Lib.byteCells b:=by simp [Lib.byteCells]
def Qy (zs:List Int):Value:=if zs.all lK then .tuple #[.string ⟨(zs.flatMap Lib.encodeRune).toArray⟩,.int .i64 0] else .tuple #[.string ⟨#[]⟩,.int .i64 2]
set_option maxHeartbeats 4000000 in
set_option maxRecDepth 100000 in
theorem Hz (zs:List Int)(hz:zs.length≤1000000)(v:Value)(w:World)(hv:(∃ob,v=.slice ob 0 0∧zs=[])∨∃b o cap,v=.slice (some ⟨b,o,none⟩) zs.length cap∧∀j,j<zs.length→w.cell? ⟨b,o+j,none⟩=some (.int .i64 (zs.getD j 0))):
  Calls Tryz.prog 220 #[v] w fun e w'=>e=.returned (Qy zs)∧Below w.heap.size w w':=by
 have hstr:∀(l:List UInt8) (wx:World),Lib.IsBuilderF 344 5 w.heap.size w.heap.size (Lib.byteCells l) wx→w.heap.size≤wx.heap.size→Calls Tryz.prog 282 #[.pointer (some ⟨w.heap.size,0,none⟩)] wx fun e w'=>e=.returned (.string ⟨l.toArray⟩)∧Below w.heap.size wx w':=fun l wx h hs=>by
  refine (Any.Builder_String_any_k Tryz.zhn zaH w.heap.size w.heap.size l wx h hs).mono ?_
  rintro e w' ⟨h1,h2⟩
  exact ⟨h1,by first|exact h2|exact h2.2|exact h2.2.1|exact h2.1⟩
 have hb0:=Lib.IsBuilderF.of (Lib.fresh_isBuilder 344 5 w)
 have hB0:Below w.heap.size w (w.alloc (Obj.cells #[Value.pointer none,Value.slice none 0 0] 344)):=(Below.refl _ _).alloc (Nat.le_refl _) _
 rcases hv with ⟨ob,rfl,rfl⟩|⟨b,o,cap,rfl,hc⟩
 ·go_enter Tryz.func220,Tryz.ntmps220
  go_wp2
  go_loopg [6,9] 0 (fun g _ s9 wx=>s9=.int .i64 0∧Lib.IsBuilderF 344 5 w.heap.size w.heap.size (Lib.byteCells []) wx∧Below w.heap.size w wx)
  case atStart=>exact ⟨rfl,hb0,hB0⟩
  case round=>
   obtain ⟨rfl,hb,hB⟩:=hrel
   have hl:=hstr [] _ hb hB.size
   have HL:=Lib.hid hl
   clear hl hstr
   go_wp2_with (go_at_call 282;refine HL.out.mono ?_;rintro e w2 ⟨rfl,hB2⟩)
   go_ret2
   exact ⟨rfl,hB.trans hB2⟩
 ·have hcells:∀wx,Below w.heap.size w wx→∀j,j<zs.length→wx.cell? ⟨b,o+j,none⟩=some (.int .i64 (zs.getD j 0)):=fun wx hB j hj=>by
   have h1:=hc j hj
   have hlt:b<w.heap.size:=by
    rcases Nat.lt_or_ge b w.heap.size with h'|h'
    ·exact h'
    ·unfold World.cell? at h1
     rw [Array.getElem?_eq_none h'] at h1
     cases h1
   unfold World.cell? at h1 ⊢
   rw [hB.block b hlt]
   exact h1
  clear hc
  go_enter Tryz.func220,Tryz.ntmps220
  go_wp2
  go_loopg [6,9] zs.length (fun g _ s9 wx=>∃i:Nat,i+g=zs.length∧s9=.int .i64 i∧Lib.IsBuilderF 344 5 w.heap.size w.heap.size (Lib.byteCells ((zs.take i).flatMap Lib.encodeRune)) wx∧Below w.heap.size w wx∧Aside ((zs.take i).all lK=true))
  case atStart=>exact ⟨0,by omega,rfl,hb0,hB0,rfl⟩
  case round=>
   obtain ⟨i,hig,rfl,hb,hB,A⟩:=hrel
   cases gk with
   |zero=>
    obtain rfl:i=zs.length:=by omega
    have hiz:¬((zs.length:Int)<(zs.length:Int)):=by omega
    have hl:=hstr ((zs.take zs.length).flatMap Lib.encodeRune) _ hb hB.size
    have HL:=Lib.hid hl
    clear hcells hl hstr
    go_wp2_with (go_at_call 282;refine HL.out.mono ?_;rintro e w2 ⟨rfl,hB2⟩)
    go_ret2
    have hA:=A.out
    rw [List.take_length] at hA
    refine ⟨?_,hB.trans hB2⟩
    have hr:Qy zs=.tuple #[.string ⟨(zs.flatMap Lib.encodeRune).toArray⟩,.int .i64 0]:=by unfold Qy;rw [hA];rfl
    rw [hr]
    rfl
   |succ g=>
    have hi:i<zs.length:=by omega
    have hiz:(i:Int)<(zs.length:Int):=by omega
    have hcell:=hcells wr hB i hi
    clear hcells
    have hstep:zs.take (i+1)=zs.take i++[zs.getD i 0]:=by
     rw [List.take_add_one,List.getElem?_eq_getElem hi,List.getD_eq_getElem?_getD,List.getElem?_eq_getElem hi];rfl
    have hmem:zs.getD i 0∈zs:=by rw [List.getD_eq_getElem?_getD,List.getElem?_eq_getElem hi];exact List.getElem_mem hi
    have H1:Aside (zs.take (i+1)=zs.take i++[zs.getD i 0]):=hstep
    have H2:Aside (zs.getD i 0∈zs):=hmem
    clear hstep hmem
    obtain ⟨z,hz'⟩:∃z,zs.getD i 0=z:=⟨_,rfl⟩
    rw [hz'] at hcell
    have H3:Aside (zs.getD i 0=z):=hz'
    clear hz'
    cases hp:lK z with
    |false=>
     go_wp2_with (go_at_call 280;refine (tN z _).mono ?_;rintro e w' ⟨rfl,hw⟩;rw [hw,hp])
     go_ret2
     have hall:zs.all lK=false:=by
      rw [List.all_eq_false]
      exact ⟨z,by rw [←H3.out];exact H2.out,by rw [hp];simp⟩
     have hr:Qy zs=.tuple #[.string ⟨#[]⟩,.int .i64 2]:=by unfold Qy;rw [hall];rfl
     exact ⟨by rw [hr];rfl,hB⟩
    |true=>
     have hp':0≤z∧z≤1114111∧(z<55296∨57343<z):=of_decide_eq_true hp
     have hwr:IntKind.i32.wrap z=z:=by unfold IntKind.wrap;simp [IntKind.bits,IntKind.signed];omega
     have hlen:(Lib.byteCells ((zs.take i).flatMap Lib.encodeRune)).length+4≤140737488355328:=by
      have:=Z8 (zs.take i)
      rw [List.length_take] at this
      simp only [Lib.byteCells,List.length_map]
      omega
     have hw:=Any.Builder_WriteRune_k Tryz.tH XL w.heap.size w.heap.size _ z (by omega) (by omega) wr hb hlen hB.size
     have HW:=Lib.hid hw
     clear hlen hw hstr
     go_wp2_with (first
      |(go_at_call 280;refine (tN z _).mono ?_;rintro e w' ⟨rfl,hw⟩;rw [hw,hp])
      |(go_at_call 281;refine HW.out.mono ?_;rintro e w2 ⟨rfl,hb2,hB2,_⟩))
     go_roundg g
     case measure=>omega
     case rel=>
      refine ⟨i+1,by omega,rfl,.inr ?_,hB.trans hB2,?_⟩
      ·rw [H1.out,List.flatMap_append,byteCells_append,H3.out]
       have:Lib.byteCells ([z].flatMap Lib.encodeRune)=Lib.runeCells z:=by rw [List.flatMap_cons,List.flatMap_nil,List.append_nil,Lib.byteCells_encodeRune]
       rw [this]
       exact hb2
      ·show _=_
       rw [H1.out,List.all_append,A.out,H3.out]
       simp [hp]
theorem Qz {R:aN}(t:Bool)(es:List (List X))(zs:List Int)(h:intsOf es=some zs)(hz:zs.length≤1000000)(inb:List Bx):
  FX Tryz.prog R 220 [.sl t 1 es] inb (if zs.all lK then .tup [.v (.string ⟨(zs.flatMap Lib.encodeRune).toArray⟩),.v (.int .i64 0)] else .tup [.v (.string ⟨#[]⟩),.v (.int .i64 2)]) inb:=by
 refine lF fun aK w K C hI ha=>?_
 obtain ⟨h1,h2⟩:=zG h
 have hs:aK.size=1:=ha.1
 have r0:=ha.2 0 _ aK[0] rfl (Array.getElem?_eq_getElem (by omega))
 have hca:aK=#[aK[0]]:=by
  refine Array.ext (by simp [hs]) fun i h1 h2=>?_
  match i,h1,h2 with
  |0,_,_=>rfl
  |i+1,h1,_=>omega
 rw [hca]
 generalize aK[0]=v at r0
 have hv:(∃ob,v=.slice ob 0 0∧zs=[])∨∃b o cap,v=.slice (some ⟨b,o,none⟩) zs.length cap∧∀j,j<zs.length→w.cell? ⟨b,o+j,none⟩=some (.int .i64 (zs.getD j 0)):=by
  generalize hx:X.sl t 1 es=x at r0
  cases r0<;>try cases hx
  case fE ob=>
   simp only [intsOf,Option.some.injEq] at h;subst h
   exact .inl ⟨ob,rfl,rfl⟩
  case sl b o cap vals hcap hcell hr zbp hlen hk=>
   refine .inr ⟨b,o,cap,by rw [h1],fun j hj=>?_⟩
   have e1:=h2 j hj
   have e2:at2 es j 0=some (.v (.int .i64 (zs.getD j 0))):=by simp [at2,e1]
   have e3:=hI.known _ _ _ (hk j 0 _ e2)
   have e4:=eH (hr j 0 _ e2)
   rw [←e4]
   simpa using e3
 refine (Hz zs hz v w hv).mono ?_
 rintro e w' ⟨rfl,hB⟩
 refine ⟨_,rfl,fun _ _=>?_,hB⟩
 unfold Qy
 split
 ·exact uT (.v rfl) (.v rfl)
 ·exact uT (.v rfl) (.v rfl)
end YtjbndifenhihhaaGreatDoor
end Go.Proofs
namespace Go.Proofs
open Go.Shelf
namespace YtjbndifenhihhaaGreatDoor
open Go.RowKit Go.Em
def BytesAt (w:World)(b:Nat)(l:List UInt8)(n:Nat):Prop:=∀j,j<n→w.cell? ⟨b,j,none⟩=some (.int .u8 ((l.getD j 0).toNat:Int))∧w.frozen? ⟨b,j,none⟩=false
theorem Xl {w:World}{b n i:Nat}{l:List UInt8}(h:BytesAt w b l n)(hi:i<n)(hn:n=l.length)(v:UInt8):BytesAt (w.setCell ⟨b,i,none⟩ (.int .u8 (v.toNat:Int))) b (l.set i v) n:=fun j hj=>by
 obtain ⟨h1,h2⟩:=h j hj
 refine ⟨?_,by rw [World.frozen?_setCell];exact h2⟩
 by_cases e:i=j
 ·subst e
  rw [World.cell?_setCell_same _ _ _ h1]
  rw [List.getD_eq_getElem?_getD,List.getElem?_set_self (by omega)]
  rfl
 ·rw [World.cell?_setCell_other _ _ _ _ (by intro h;apply e;cases h;rfl),h1]
  rw [List.getD_eq_getElem?_getD,List.getD_eq_getElem?_getD,List.getElem?_set_ne e]
def gW (c d:Int)(l:List UInt8)(i:Nat):List UInt8:=(l.take i).map (shB c d)++l.drop i
theorem BX (c d:Int)(l:List UInt8)(i:Nat):(gW c d l i).length=l.length:=by
 unfold gW
 simp
 omega
theorem G7 {c d:Int}{l:List UInt8}{i:Nat}(hi:i<l.length):(gW c d l i).getD i 0=l.getD i 0:=by
 unfold gW
 rw [List.getD_eq_getElem?_getD,List.getD_eq_getElem?_getD,List.getElem?_append_right (by simp;omega)]
 simp
 congr 2
 omega
theorem yP {c d:Int}{l:List UInt8}{i:Nat}(hi:i<l.length):gW c d l (i+1)=(gW c d l i).set i (shB c d (l.getD i 0)):=by
 unfold gW
 rw [List.take_add_one,List.getElem?_eq_getElem hi,Option.toList_some,List.map_append,List.map_cons,List.map_nil]
 rw [List.drop_eq_getElem_cons hi]
 rw [List.set_append_right _ _ (by simp;omega)]
 have:i-((l.take i).map (shB c d)).length=0:=by simp;omega
 rw [this,List.set_cons_zero,List.append_assoc,List.singleton_append,List.getD_eq_getElem?_getD,List.getElem?_eq_getElem hi]
 rfl
theorem Qo (c d:Int)(l:List UInt8):gW c d l l.length=l.map (shB c d):=by
 unfold gW
 simp
set_option maxHeartbeats 4000000 in
set_option maxRecDepth 100000 in
theorem Eh (s:ByteArray)(c d:Int)(hc0:0≤c)(hc1:c≤97)(hd0:-32≤d)(hd1:d≤32)(hcd:0≤c+d)(hs:s.size≤1000000)(w:World):
  Calls Tryz.prog 289 #[.string s,.int .u8 c,.int .i64 d] w fun e w'=>e=.returned (.string ⟨(s.data.toList.map (shB c d)).toArray⟩)∧Below w.heap.size w w':=by
 have hcv:=run_bytes_of_string (P:=Tryz.prog) w 9 254 5 s Tryz.underlying9 Tryz.underlying254 Tryz.underlying5
 have hlen:s.data.toList.length=s.size:=Array.length_toList ..
 obtain ⟨l,hl⟩:∃l,l=s.data.toList:=⟨_,rfl⟩
 rw [←hl] at hlen ⊢
 obtain ⟨W0,hW0⟩:∃W0,W0=w.drew.alloc (.cells (bytesRow s (grownCap w s.size 0 5)) 5 ((bytesRow s (grownCap w s.size 0 5)).size,(bytesRow s (grownCap w s.size 0 5)).size+1)):=⟨_,rfl⟩
 obtain ⟨cap,hcap⟩:∃cap,cap=grownCap w s.size 0 5:=⟨_,rfl⟩
 rw [←hW0,←hcap] at hcv
 have hB0:Below w.heap.size w W0:=by rw [hW0];exact (Below.refl _ w).drew.alloc (Nat.le_refl _) _
 have hA0:BytesAt W0 w.heap.size l s.size:=fun j hj=>by
  have hj':j<s.data.size:=hj
  rw [hW0]
  have e1:=World.cell?_alloc_mark w.drew (bytesRow s (grownCap w s.size 0 5)) 5 ((bytesRow s (grownCap w s.size 0 5)).size,(bytesRow s (grownCap w s.size 0 5)).size+1) j
  have e2:=World.frozen?_alloc_mark w.drew (bytesRow s (grownCap w s.size 0 5)) 5 (bytesRow s (grownCap w s.size 0 5)).size ((bytesRow s (grownCap w s.size 0 5)).size+1) j
  have hh:w.drew.heap.size=w.heap.size:=rfl
  rw [hh] at e1 e2
  refine ⟨?_,?_⟩
  ·rw [e1,bytesRow_at s _ j hj',hl]
   rw [List.getD_eq_getElem?_getD,Array.getElem?_toList,Array.getElem?_eq_getElem hj']
   rfl
  ·rw [e2]
   have:j<(bytesRow s (grownCap w s.size 0 5)).size:=by simp [bytesRow];omega
   have h3:decide ((bytesRow s (grownCap w s.size 0 5)).size≤j)=false:=by simp;omega
   rw [h3];rfl
 have hback:∀wx,BytesAt wx w.heap.size (gW c d l s.size) s.size→(convert 254 9 (.slice (some ⟨w.heap.size,0,none⟩) s.size cap)).run Tryz.prog wx=.ok (.string ⟨(l.map (shB c d)).toArray⟩) wx:=fun wx h=>by
  have e1:gW c d l s.size=l.map (shB c d):=by rw [←hlen];exact Qo c d l
  rw [e1] at h
  have hlm:(l.map (shB c d)).length=s.size:=by rw [List.length_map,hlen]
  have:=run_convert_bytes_back (P:=Tryz.prog) wx 254 9 5 ⟨w.heap.size,0,none⟩ cap (l.map (shB c d)) Tryz.underlying254 Tryz.underlying5 Tryz.underlying9 (fun j hj=>by
   rw [Addr.add_lit,Nat.zero_add,(h j (by omega)).1,List.getD_eq_getElem?_getD,List.getElem?_eq_getElem hj]
   rfl)
  rwa [hlm] at this
 have HB:Hid (∀wx,BytesAt wx w.heap.size (gW c d l s.size) s.size→(convert 254 9 (.slice (some ⟨w.heap.size,0,none⟩) s.size cap)).run Tryz.prog wx=.ok (.string ⟨(l.map (shB c d)).toArray⟩) wx):=hback
 have HL:Aside (l.length=s.size):=hlen
 have HA0:Hid (BytesAt W0 w.heap.size l s.size):=hA0
 clear hback hlen hA0 hW0 hcap hl
 go_enter Tryz.func289,Tryz.ntmps289
 go_wp2
 go_loopg [8,9,14] s.size (fun g _ _ s14 wx=>∃i:Nat,i+g=s.size∧s14=.int .i64 i∧Hid (BytesAt wx w.heap.size (gW c d l i) s.size)∧Below w.heap.size w wx)
 case atStart=>exact ⟨0,by omega,rfl,HA0,hB0⟩
 case round=>
  obtain ⟨i,hig,rfl,hA,hB⟩:=hrel
  cases gk with
  |zero=>
   obtain rfl:i=s.size:=by omega
   have hiz:¬((s.size:Int)<(s.size:Int)):=by omega
   have hb:=HB.out _ hA.out
   go_wp2
   go_ret
   exact ⟨rfl,hB⟩
  |succ g=>
   have hi:i<s.size:=by omega
   have hiz:(i:Int)<(s.size:Int):=by omega
   obtain ⟨h1,h2⟩:=hA.out i hi
   rw [G7 (by rw [HL.out];exact hi)] at h1
   obtain ⟨b,hb⟩:∃b,l.getD i 0=b:=⟨_,rfl⟩
   rw [hb] at h1
   have HN2:Aside (shB c d b=b→BytesAt wr w.heap.size (gW c d l (i+1)) s.size):=fun e=>by
    have hi':i<(gW c d l i).length:=by rw [BX,HL.out];exact hi
    have e2:(gW c d l i).set i b=gW c d l i:=by
     have e3:=G7 (c:=c) (d:=d) (l:=l) (i:=i) (by rw [HL.out];exact hi)
     rw [List.getD_eq_getElem?_getD,List.getElem?_eq_getElem hi',hb] at e3
     have e4:(gW c d l i)[i]=b:=e3
     rw [←e4]
     exact List.set_getElem_self hi'
    rw [yP (by rw [HL.out];exact hi),hb,e,e2]
    exact hA.out
   have HN:Aside (BytesAt (wr.setCell ⟨w.heap.size,i,none⟩ (.int .u8 ((shB c d b).toNat:Int))) w.heap.size (gW c d l (i+1)) s.size):=by
    show BytesAt _ _ _ _
    rw [yP (by rw [HL.out];exact hi),hb]
    exact Xl hA.out hi (by rw [BX];exact HL.out.symm) _
   have hb8:(b.toNat:Int)<256:=by have:=b.toNat_lt;omega
   have hb0:(0:Int)≤(b.toNat:Int):=by omega
   have HS:Aside (shB c d b=if c≤(b.toNat:Int)∧(b.toNat:Int)<c+26 then UInt8.ofNat ((b.toNat:Int)+d).toNat else b):=rfl
   clear hb
   obtain ⟨z,hz⟩:∃z:Int,z=(b.toNat:Int):=⟨_,rfl⟩
   rw [←hz] at h1 hb8 hb0
   go_wp2
   ·have e:shB c d b=UInt8.ofNat ((b.toNat:Int)+d).toNat:=by rw [HS.out,if_pos (by omega)]
    have e2:((shB c d b).toNat:Int)=(b.toNat:Int)+d:=by
     rw [e,UInt8.toNat_ofNat']
     omega
    have hN:BytesAt (wr.setCell ⟨w.heap.size,i,none⟩ (.int .u8 ((b.toNat:Int)+d))) w.heap.size (gW c d l (i+1)) s.size:=by
     rw [←e2];exact HN.out
    go_roundg g
    case measure=>omega
    case rel=>exact ⟨i+1,by omega,rfl,hN,hB.setCell (Nat.le_refl _) _⟩
   ·have hN:=HN2.out (by rw [HS.out,if_neg (by omega)])
    go_roundg g
    case measure=>omega
    case rel=>exact ⟨i+1,by omega,rfl,hN,hB⟩
   ·have hN:=HN2.out (by rw [HS.out,if_neg (by omega)])
    go_roundg g
    case measure=>omega
    case rel=>exact ⟨i+1,by omega,rfl,hN,hB⟩
theorem PU {K:Kn}{C:List CB}{u v x:Value}{aK:Array Value}(ha:bU K C [.v u,.v v,.v x] aK):aK=#[u,v,x]:=by
 have hs:aK.size=3:=ha.1
 have r0:=eH (ha.2 0 _ aK[0] rfl (Array.getElem?_eq_getElem (by omega)))
 have r1:=eH (ha.2 1 _ aK[1] rfl (Array.getElem?_eq_getElem (by omega)))
 have r2:=eH (ha.2 2 _ aK[2] rfl (Array.getElem?_eq_getElem (by omega)))
 refine Array.ext (by simp [hs]) fun i h1 h2=>?_
 match i,h1,h2 with
 |0,_,_=>simpa using r0
 |1,_,_=>simpa using r1
 |2,_,_=>simpa using r2
 |i+3,h1,_=>omega
theorem UC {R:aN}(s:ByteArray)(c d:Int)(hc0:0≤c)(hc1:c≤97)(hd0:-32≤d)(hd1:d≤32)(hcd:0≤c+d)(hs:s.size≤1000000)(inb:List Bx):FX Tryz.prog R 289 [.v (.string s),.v (.int .u8 c),.v (.int .i64 d)] inb (.v (.string ⟨(s.data.toList.map (shB c d)).toArray⟩)) inb:=by
 refine lF fun aK w K C hI ha=>?_
 rw [PU ha]
 refine (Eh s c d hc0 hc1 hd0 hd1 hcd hs w).mono ?_
 rintro e w' ⟨rfl,hB⟩
 exact ⟨_,rfl,fun _ _=>.v rfl,hB⟩
end YtjbndifenhihhaaGreatDoor
end Go.Proofs
namespace Go.Proofs
open Go.Shelf
def Tryz.EJ:Go.Shelf.Ren:=⟨fun|15=>84|n=>n,fun|22=>32|3=>3|4=>4|n=>n,fun|n=>n⟩
theorem Tryz.laysClone:Go.Proofs.Lays2.n15 Tryz.prog Tryz.EJ:={
 mixed:=by kernel_rfl
 f15:=Tryz.func84.trans (congrArg some (by kernel_rfl))
 t3:=Tryz.underlying3
 a3:=Tryz.isAgg3
 z3:=Tryz.sizeOf3
 v3:=Tryz.zeroValue3
 t4:=Tryz.underlying4
 a4:=Tryz.isAgg4
 z4:=Tryz.sizeOf4
 v4:=Tryz.zeroValue4
 t22:=Tryz.underlying32
 a22:=Tryz.isAgg32
 z22:=Tryz.sizeOf32
 v22:=Tryz.zeroValue32
 i3:=by kernel_rfl}
def Tryz.laysValid_ren:Go.Shelf.Ren:=⟨fun|196=>126|259=>187|n=>n,fun|9=>9|4=>4|3=>3|5=>5|12=>12|119=>250|0=>0|46=>247|139=>253|138=>252|53=>317|n=>n,fun|3=>0|4=>1|n=>n⟩
theorem Tryz.laysValid:Go.Proofs.Lays.n196 Tryz.prog Tryz.laysValid_ren:={
 mixed:=by kernel_rfl
 f196:=Tryz.func126.trans (congrArg some (by kernel_rfl))
 f259:=Tryz.func187.trans (congrArg some (by kernel_rfl))
 t0:=Tryz.underlying0
 a0:=Tryz.isAgg0
 z0:=Tryz.sizeOf0
 v0:=Tryz.zeroValue0
 t3:=Tryz.underlying3
 a3:=Tryz.isAgg3
 z3:=Tryz.sizeOf3
 v3:=Tryz.zeroValue3
 t4:=Tryz.underlying4
 a4:=Tryz.isAgg4
 z4:=Tryz.sizeOf4
 v4:=Tryz.zeroValue4
 t5:=Tryz.underlying5
 a5:=Tryz.isAgg5
 z5:=Tryz.sizeOf5
 v5:=Tryz.zeroValue5
 t9:=Tryz.underlying9
 a9:=Tryz.isAgg9
 z9:=Tryz.sizeOf9
 v9:=Tryz.zeroValue9
 t12:=Tryz.underlying12
 a12:=Tryz.isAgg12
 z12:=Tryz.sizeOf12
 v12:=Tryz.zeroValue12
 t46:=Tryz.underlying247
 a46:=Tryz.isAgg247
 z46:=Tryz.sizeOf247
 v46:=Tryz.zeroValue247
 t53:=Tryz.underlying317
 a53:=Tryz.isAgg317
 z53:=Tryz.sizeOf317
 v53:=Tryz.zeroValue317
 t119:=Tryz.underlying250
 a119:=Tryz.isAgg250
 z119:=Tryz.sizeOf250
 t138:=Tryz.underlying252
 a138:=Tryz.isAgg252
 z138:=Tryz.sizeOf252
 v138:=Tryz.zeroValue252
 t139:=Tryz.underlying253
 a139:=Tryz.isAgg253
 z139:=Tryz.sizeOf253
 v139:=Tryz.zeroValue253
 g3:=by kernel_rfl
 g4:=by kernel_rfl}
namespace YtjbndifenhihhaaGreatDoor
open Go.RowKit Go.Em
set_option maxHeartbeats 1000000 in
set_option maxRecDepth 100000 in
theorem FN (a b:ByteArray)(w:World):
  Calls Tryz.prog 136 #[.string a,.string b] w fun e w'=>e=.returned (.int .i64 (Lib.compareBytes a.data.toList b.data.toList))∧w'=w:=by
 go_enter Tryz.func136,Tryz.ntmps136
 go_wp2
 rw [run_callFunc_extern Tryz.func189 (by kernel_rfl) (by kernel_rfl) (by kernel_rfl) (e:=Extern.BytealgCompare.compare) (by kernel_rfl),Lib.run_compareString]
 simp only [Result.andThen]
 rw [Oper.upon_value]
 go_wp2
 go_ret
 exact ⟨rfl,rfl⟩
section
variable {P:Program} {R:aN}
theorem IW {f:FuncId}{args:List X}{inb:List Bx}{u:Value}(hu:okV u=true)(h:∀(aK:Array Value) (w:World) (K:Kn) (C:List CB),Inv P R K C inb w→bU K C args aK→Calls P f aK w fun e w'=>e=.returned u∧Below w.heap.size w w'):FX P R f args inb (.v u) inb:=by
 intro K C w aK hI ha
 refine (h aK w K C hI ha).mono ?_
 rintro e w' ⟨rfl,hB⟩
 have hf:=lS hB
 exact ⟨u,K,[],rfl,y8 (hI.still hf),.v hu,KLe.refl _,fun b o v e=>.inl e,fun b o ho=>.inl (by rw [List.append_nil] at ho;exact ho),hf.mono (fun b o _ hs=>hs.elim),fun i B hB hl=>⟨B,hB,hl⟩⟩
end
theorem tX:∀{es:List (List X)} {zs:List Int},intsOf es=some zs→es.length=zs.length∧∀j,j<zs.length→es[j]?=some [.v (.int .i64 (zs.getD j 0))]
 |[],zs,h=>by
  simp only [intsOf,Option.some.injEq] at h;subst h
  exact ⟨rfl,fun j hj=>by simp at hj⟩
 |e::r,zs,h=>by
  unfold intsOf at h
  split at h
  ·rename_i heq;cases heq
  ·rename_i z r' heq
   obtain ⟨rfl,rfl⟩:=List.cons.inj heq
   split at h
   ·rename_i l hl
    simp only [Option.some.injEq] at h;subst h
    obtain ⟨h1,h2⟩:=tX hl
    refine ⟨by simp [h1],fun j hj=>?_⟩
    cases j with
    |zero=>rfl
    |succ j=>
     have:=h2 j (by simpa using hj)
     simpa using this
   ·cases h
  ·cases h
theorem Xe {R:aN}(t:Bool)(es:List (List X))(zs:List Int)(h:intsOf es=some zs)(hz:zs.length≤1000000)(inb:List Bx):FX Tryz.prog R 84 [.sl t 1 es] inb (.bs inb.length 0 zs.length) (inb++[.row 1 (intRow zs)]):=by
 refine Ws (el:=3) zs fun aK w K C hI ha=>?_
 obtain ⟨h1,h2⟩:=tX h
 have hs:aK.size=1:=ha.1
 have r0:=ha.2 0 _ aK[0] rfl (Array.getElem?_eq_getElem (by omega))
 have hca:aK=#[aK[0]]:=by
  refine Array.ext (by simp [hs]) fun i h1 h2=>?_
  match i,h1,h2 with
  |0,_,_=>rfl
  |i+1,h1,_=>omega
 rw [hca]
 generalize aK[0]=v at r0
 generalize hx:X.sl t 1 es=x at r0
 cases r0<;>try cases hx
 case fE ob=>
  simp only [intsOf,Option.some.injEq] at h;subst h
  cases ob with
  |none=>
   refine (Any.slices_Clone_int_nil Tryz.laysClone 0 0 w).mono ?_
   rintro e w' ⟨rfl,rfl⟩
   exact ⟨_,rfl,⟨rfl,.inl ⟨rfl,rfl⟩⟩,Below.refl _ _⟩
  |some a=>
   refine (Any.slices_Clone_int_zero Tryz.laysClone a 0 w).mono ?_
   rintro e w' ⟨v',rfl,ho,_,hB⟩
   exact ⟨v',rfl,ho,hB⟩
 case sl b o cap vals hcap hcell hr zbp hlen hk=>
  have hcells:∀j,j<zs.length→w.cell? ⟨b,o+j,none⟩=some (.int .i64 (zs.getD j 0)):=fun j hj=>by
   have e1:=h2 j hj
   have e2:at2 es j 0=some (.v (.int .i64 (zs.getD j 0))):=by simp [at2,e1]
   have e3:=hI.known _ _ _ (hk j 0 _ e2)
   have e4:=eH (hr j 0 _ e2)
   rw [←e4]
   simpa using e3
  refine (Any.slices_Clone_int Tryz.laysClone b o es.length cap zs w (by omega) (by omega) hcells).mono ?_
  rintro e w' ⟨v',rfl,ho,_,hB⟩
  refine ⟨v',rfl,?_,hB⟩
  rw [h1,List.take_length] at ho
  exact ho
theorem zb2 {R:aN}(hR:R.gl=gl){K:Kn}{C:List CB}{bx:List Bx}{w:World}(hI:Inv Tryz.prog R K C bx w):Lib.Utf8Tabs (Tryz.laysValid_ren.g 3) (Tryz.laysValid_ren.g 4) w:=by
 have cell:∀(g:Nat) (cs:List X),gl g=some cs→∀(j:Nat) (v:Value),cs[j]?=some (.v v)→w.cell? ⟨g,j,none⟩=some v:=fun g cs hg j v hj=>by
  have h:=hI.glob g cs (by rw [hR];exact hg)
  cases h with
  |dp vals hcell hk hr=>
   have e3:=hI.known _ _ _ (hk j _ hj)
   rw [←eH (hr j _ hj)]
   simpa using e3
 have g3:Tryz.laysValid_ren.g 3=0:=by kernel_rfl
 have g4:Tryz.laysValid_ren.g 4=1:=by kernel_rfl
 rw [g3,g4]
 constructor
 ·intro c hc
  have hall:((List.range 256).all fun c=>match (pK Go.Pinned.utf8FirstZ)[c]? with
   |some (.v (.int .u8 z))=>z==Lib.firstT c
   |_=>false)=true:=by kernel_rfl
  have h1:=List.all_eq_true.1 hall c (List.mem_range.2 hc)
  split at h1
  ·rename_i z hz
   rw [cell 0 _ rfl c _ hz,eq_of_beq h1]
  ·cases h1
 ·intro i hi
  have hall:((List.range 16).all fun i=>(match (pK ([128,191,160,191,128,159,144,191,128,143]++List.replicate 22 0))[2*i]? with
   |some (.v (.int .u8 z))=>z==Lib.accLo i
   |_=>false)&&(match (pK ([128,191,160,191,128,159,144,191,128,143]++List.replicate 22 0))[2*i+1]? with
   |some (.v (.int .u8 z))=>z==Lib.accHi i
   |_=>false))=true:=by kernel_rfl
  have h1:=List.all_eq_true.1 hall i (List.mem_range.2 hi)
  rw [Bool.and_eq_true] at h1
  obtain ⟨h1,h2⟩:=h1
  constructor
  ·split at h1
   ·rename_i z hz
    rw [cell 1 _ rfl (2*i) _ hz,eq_of_beq h1]
   ·cases h1
  ·split at h2
   ·rename_i z hz
    rw [cell 1 _ rfl (2*i+1) _ hz,eq_of_beq h2]
   ·cases h2
theorem Tv {R:aN}(hR:R.gl=gl)(s:ByteArray)(hs:s.size≤9223372036854775807)(inb:List Bx):FX Tryz.prog R 126 [.v (.string s)] inb (.v (.bool (Lib.validD s.data.toList))) inb:=by
 refine IW rfl fun aK w K C hI ha=>?_
 have h2:aK=#[.string s]:=by
  have hs:aK.size=1:=ha.1
  have r0:=eH (ha.2 0 _ aK[0] rfl (Array.getElem?_eq_getElem (by omega)))
  refine Array.ext (by simp [hs]) fun i h1 h2=>?_
  match i,h1,h2 with
  |0,_,_=>simpa using r0
  |i+1,h1,_=>omega
 rw [h2]
 exact Any.utf8_ValidString Tryz.laysValid s w hs (zb2 hR hI)
theorem Jr {s:ByteArray}(h:Dz s=true)(j:Nat)(b:UInt8)(hb:s.data.toList[j]?=some b):b.toNat<128:=by
 have h1:=List.all_eq_true.1 h b (List.mem_of_getElem? hb)
 exact of_decide_eq_true h1
theorem zfy {R:aN}(s t:ByteArray)(hs:s.size<4294967281)(ht:t.size<4294967281)(ha:Dz s=true)(hb:Dz t=true)(inb:List Bx):FX Tryz.prog R 265 [.v (.string s),.v (.string t)] inb (.v (.int .i64 (Lib.indexAny s.data.toList t.data.toList))) inb:=by
 refine IW rfl fun aK w K C hI hc=>?_
 have h2:aK=#[.string s,.string t]:=by
  have hs:aK.size=2:=hc.1
  have r0:=eH (hc.2 0 _ aK[0] rfl (Array.getElem?_eq_getElem (by omega)))
  have r1:=eH (hc.2 1 _ aK[1] rfl (Array.getElem?_eq_getElem (by omega)))
  refine Array.ext (by simp [hs]) fun i h1 h2=>?_
  match i,h1,h2 with
  |0,_,_=>simpa using r0
  |1,_,_=>simpa using r1
  |i+2,h1,_=>omega
 rw [h2]
 exact Any.strings_IndexAny_laid Tryz.KD (by kernel_rfl) s t w hs ht (Jr ha) (Jr hb)
theorem iE {α:Type}{c:Bool}{a g:α}{b:Option α}(h:(if c=true then some a else b)=some g):(c=true∧a=g)∨(c=false∧b=some g):=by
 cases c with
 |true=>exact .inl ⟨rfl,Option.some.inj h⟩
 |false=>exact .inr ⟨rfl,h⟩
theorem zjw:zih Tryz.prog gl tab:=by
 intro f fd h
 unfold tab at h
 split at h
 ·exact ⟨_,h⟩
 ·cases h
theorem zlp:zix Tryz.prog gl ext:=by
 intro f g hg args inb res outb h
 unfold ext at hg
 rcases iE hg with ⟨hf,hq⟩|⟨_,hg0⟩
 ·have hf':f=136:=by simpa using hf
  subst hf'
  subst hq
  unfold compareExt at h
  split at h
  ·rename_i a b
   simp only [Option.some.injEq,Prod.mk.injEq] at h
   obtain ⟨rfl,rfl⟩:=h
   refine ⟨OJ Tryz.func136 (fun e=>absurd e (of_decide_eq_false (by kernel_rfl))) (fun e=>by simpa [e] using (show Tryz.f136.body.isSome=true by kernel_rfl)),Wq rfl fun aK w K C ha=>?_⟩
   have h2:aK=#[.string a,.string b]:=by
    have hs:aK.size=2:=ha.1
    have r0:=eH (ha.2 0 _ aK[0] rfl (Array.getElem?_eq_getElem (by omega)))
    have r1:=eH (ha.2 1 _ aK[1] rfl (Array.getElem?_eq_getElem (by omega)))
    refine Array.ext (by simp [hs]) fun i h1 h2=>?_
    match i,h1,h2 with
    |0,_,_=>simpa using r0
    |1,_,_=>simpa using r1
    |i+2,h1,_=>omega
   rw [h2]
   exact FN a b w
  ·cases h
 ·rcases iE hg0 with ⟨hf,hq⟩|⟨_,hg1⟩
  ·have hf':f=126:=by simpa using hf
   subst hf'
   subst hq
   unfold pR at h
   split at h
   ·split at h
    ·rename_i a hsz
     simp only [Option.some.injEq,Prod.mk.injEq] at h
     obtain ⟨rfl,rfl⟩:=h
     exact ⟨OJ Tryz.func126 (fun e=>absurd e (of_decide_eq_false (by kernel_rfl))) (fun e=>by simpa [e] using (show Tryz.f126.body.isSome=true by kernel_rfl)),Tv rfl a hsz inb⟩
    ·cases h
   ·cases h
  ·rcases iE hg1 with ⟨hf,hq⟩|⟨_,hg2⟩
   ·have hf':f=84:=by simpa using hf
    subst hf'
    subst hq
    unfold yw at h
    split at h
    ·split at h
     ·rename_i zs hzs
      split at h
      ·rename_i hle
       simp only [Option.some.injEq,Prod.mk.injEq] at h
       obtain ⟨rfl,rfl⟩:=h
       exact ⟨OJ Tryz.func84 (fun e=>absurd e (of_decide_eq_false (by kernel_rfl))) (fun e=>by simpa [e] using (show Tryz.f84.body.isSome=true by kernel_rfl)),Xe _ _ zs hzs hle inb⟩
      ·cases h
     ·cases h
    ·cases h
   ·rcases iE hg2 with ⟨hf,hq⟩|⟨_,hg3⟩
    ·have hf':f=265:=by simpa using hf
     subst hf'
     subst hq
     unfold kH at h
     split at h
     ·split at h
      ·rename_i a b hc
       obtain ⟨h1,h2,h3,h4⟩:=hc
       simp only [Option.some.injEq,Prod.mk.injEq] at h
       obtain ⟨rfl,rfl⟩:=h
       exact ⟨OJ Tryz.func265 (fun e=>absurd e (of_decide_eq_false (by kernel_rfl))) (fun e=>by simpa [e] using (show Tryz.f265.body.isSome=true by kernel_rfl)),zfy a b h1 h2 h3 h4 inb⟩
      ·split at h
       ·rename_i a b _ hc
        obtain ⟨h1,rfl⟩:=hc
        simp only [Option.some.injEq,Prod.mk.injEq] at h
        obtain ⟨rfl,rfl⟩:=h
        exact ⟨OJ Tryz.func265 (fun e=>absurd e (of_decide_eq_false (by kernel_rfl))) (fun e=>by simpa [e] using (show Tryz.f265.body.isSome=true by kernel_rfl)),Vo a h1 inb⟩
       ·cases h
     ·cases h
    ·rcases iE hg3 with ⟨hf,hq⟩|⟨_,hg4⟩
     ·have hf':f=87:=by simpa using hf
      subst hf'
      subst hq
      unfold uZ at h
      split at h
      ·split at h
       ·rename_i z hc
        simp only [Option.some.injEq,Prod.mk.injEq] at h
        obtain ⟨rfl,rfl⟩:=h
        exact ⟨OJ Tryz.func87 (fun e=>absurd e (of_decide_eq_false (by kernel_rfl))) (fun e=>by simpa [e] using (show Tryz.f87.body.isSome=true by kernel_rfl)),Zi rfl z hc.1 hc.2 inb⟩
       ·cases h
      ·cases h
     ·rcases iE hg4 with ⟨hf,hq⟩|⟨_,hg5⟩
      ·have hf':f=333:=by simpa using hf
       subst hf'
       subst hq
       unfold l9 at h
       split at h
       ·split at h
        ·rename_i s c hc
         simp only [Option.some.injEq,Prod.mk.injEq] at h
         obtain ⟨rfl,rfl⟩:=h
         exact ⟨OJ Tryz.func333 (fun e=>absurd e (of_decide_eq_false (by kernel_rfl))) (fun e=>by simpa [e] using (show Tryz.f333.body.isSome=true by kernel_rfl)),Qw s c hc.1 hc.2.1 hc.2.2 inb⟩
        ·cases h
       ·cases h
      ·rcases iE hg5 with ⟨hf,hq⟩|⟨_,hg6⟩
       ·have hf':f=329:=by simpa using hf
        subst hf'
        subst hq
        unfold Ac at h
        split at h
        ·rename_i s
         simp only [Option.some.injEq,Prod.mk.injEq] at h
         obtain ⟨rfl,rfl⟩:=h
         exact ⟨OJ Tryz.func329 (fun e=>absurd e (of_decide_eq_false (by kernel_rfl))) (fun e=>by simpa [e] using (show Tryz.f329.body.isSome=true by kernel_rfl)),Ry rfl s inb⟩
        ·cases h
       ·rcases iE hg6 with ⟨hf,hq⟩|⟨_,hg7⟩
        ·have hf':f=268:=by simpa using hf
         subst hf'
         subst hq
         unfold rD at h
         split at h
         ·split at h
          ·rename_i s hc
           have hres:res=FV s∧outb=inb:=by
            unfold FV
            cases hq:Lib.atoiAll s.data.toList<;>(rw [hq] at h;simp only [Option.some.injEq,Prod.mk.injEq] at h;exact ⟨h.1.symm,h.2.symm⟩)
           obtain ⟨rfl,rfl⟩:=hres
           exact ⟨OJ Tryz.func268 (fun e=>absurd e (of_decide_eq_false (by kernel_rfl))) (fun e=>by simpa [e] using (show Tryz.f268.body.isSome=true by kernel_rfl)),zaL rfl s hc outb⟩
          ·cases h
         ·cases h
        ·rcases iE hg7 with ⟨hf,hq⟩|⟨_,hg8⟩
         ·have hf':f=357:=by simpa using hf
          subst hf'
          subst hq
          unfold o8 at h
          split at h
          ·split at h
           ·rename_i s c _ b hb
            split at h
            ·simp only [Option.some.injEq,Prod.mk.injEq] at h
             obtain ⟨rfl,rfl⟩:=h
             exact ⟨OJ Tryz.func357 (fun e=>absurd e (of_decide_eq_false (by kernel_rfl))) (fun e=>by simpa [e] using (show Tryz.f357.body.isSome=true by kernel_rfl)),QV s c b hb inb⟩
            ·cases h
           ·cases h
          ·cases h
         ·rcases iE hg8 with ⟨hf,hq⟩|⟨_,hg9⟩
          ·have hf':f=220:=by simpa using hf
           subst hf'
           subst hq
           unfold oN at h
           split at h
           ·rename_i t es
            split at h
            ·rename_i zs hzs
             split at h
             ·rename_i hle
              have:=Qz (R:=iW Tryz.prog gl) t es zs hzs hle inb
              split at h
              ·rename_i hp
               rw [if_pos hp] at this
               simp only [Option.some.injEq,Prod.mk.injEq] at h
               obtain ⟨rfl,rfl⟩:=h
               exact ⟨OJ Tryz.func220 (fun e=>absurd e (of_decide_eq_false (by kernel_rfl))) (fun e=>by simpa [e] using (show Tryz.f220.body.isSome=true by kernel_rfl)),this⟩
              ·rename_i hp
               rw [if_neg hp] at this
               simp only [Option.some.injEq,Prod.mk.injEq] at h
               obtain ⟨rfl,rfl⟩:=h
               exact ⟨OJ Tryz.func220 (fun e=>absurd e (of_decide_eq_false (by kernel_rfl))) (fun e=>by simpa [e] using (show Tryz.f220.body.isSome=true by kernel_rfl)),this⟩
             ·cases h
            ·cases h
           ·cases h
          ·rcases iE hg9 with ⟨hf,hq⟩|⟨_,zow⟩
           ·have hf':f=289:=by simpa using hf
            subst hf'
            subst hq
            unfold xW at h
            split at h
            ·split at h
             ·rename_i s c d hc
              simp only [Option.some.injEq,Prod.mk.injEq] at h
              obtain ⟨rfl,rfl⟩:=h
              exact ⟨OJ Tryz.func289 (fun e=>absurd e (of_decide_eq_false (by kernel_rfl))) (fun e=>by simpa [e] using (show Tryz.f289.body.isSome=true by kernel_rfl)),UC s c d hc.1 hc.2.1 hc.2.2.1 hc.2.2.2.1 hc.2.2.2.2.1 hc.2.2.2.2.2 inb⟩
             ·cases h
            ·cases h
           ·cases zow
theorem machine (n:Nat):qF Tryz.prog (iW Tryz.prog gl) (callF tab ext n):=O9 zjw zlp n
end YtjbndifenhihhaaGreatDoor
end Go.Proofs
namespace Go.Proofs.YtjbndifenhihhaaGreatDoor
open Go.Em Go.ChangeShapes Go.WideShapes Go.ChangeAt Go.RowKit
set_option maxRecDepth 100000
def laid2:List (String×DataW Unit):=[("internal/strconv.uint64pow10",Rows.laid_internal_strconv_uint64pow10),("unicode/utf8.acceptRanges",Rows.laid_unicode_utf8_acceptRanges),("strconv.ErrRange",Rows.laid_strconv_ErrRange),("strconv.ErrSyntax",Rows.laid_strconv_ErrSyntax),("unicode/utf8.first",Rows.laid_unicode_utf8_first)]
def Ba:List (String×DataW Unit):=[("math/bits.deBruijn32tab",Rows.laid_math_bits_deBruijn32tab),("math/bits.deBruijn64tab",Rows.laid_math_bits_deBruijn64tab),("internal/strconv.uint64pow10",Rows.laid_internal_strconv_uint64pow10),("unicode/utf8.acceptRanges",Rows.laid_unicode_utf8_acceptRanges),("strconv.ErrRange",Rows.laid_strconv_ErrRange),("strconv.ErrSyntax",Rows.laid_strconv_ErrSyntax),("unicode/utf8.first",Rows.laid_unicode_utf8_first)]
def zho (x:String×DataW Unit):Bool:=x.1== "unicode/utf8.acceptRanges"||x.1== "unicode/utf8.first"||x.1== "internal/strconv.uint64pow10"||x.1== "strconv.ErrRange"||x.1== "strconv.ErrSyntax"
theorem Vs:Ba.filter zho=laid2:=by kernel_rfl
def zZ (P:Program)(t:TypeId):Array Field:=match P.underlying t with
 |some (.struct fs)=>fs
 |_=>#[]
theorem za5:Tryz.prog.underlying 5=some (.int .u8):=by kernel_rfl
theorem Yc:Tryz.prog.underlying 250=some (.array 256 5):=by kernel_rfl
theorem Ya:Tryz.prog.underlying 253=some (.array 16 252):=by kernel_rfl
theorem Yb:Tryz.prog.underlying 252=some (.struct (zZ Tryz.prog 252)):=by kernel_rfl
theorem zhH:((zZ Tryz.prog 252)[0]?).map (fun f=>(f.type,f.offset))=some (5,0):=by kernel_rfl
theorem field1:((zZ Tryz.prog 252)[1]?).map (fun f=>(f.type,f.offset))=some (5,1):=by kernel_rfl
theorem Hu {W:World}{g:Nat}{l:List Nat}(h:∀j z,l[j]?=some z→W.cell? ⟨g,j,none⟩=some (.int .u8 (Int.ofNat z))):Rep (Kw W) [] (.dp (pK l)) (.pointer (some ⟨g,0,none⟩)):=by
 have hx:∀(j:Nat) (x:X),(pK l)[j]?=some x→∃z,l[j]?=some z∧x=.v (.int .u8 (Int.ofNat z)):=fun j x e=>by
  unfold pK at e
  rw [List.getElem?_map,Option.map_eq_some_iff] at e
  obtain ⟨z,hz,rfl⟩:=e
  exact ⟨z,hz,rfl⟩
 refine .dp (fun j=>.int .u8 (Int.ofNat (l.getD j 0))) (fun j x e=>?_) (fun j x e=>?_) (fun j x e=>?_)
 ·obtain ⟨z,_,rfl⟩:=hx j x e;rfl
 ·obtain ⟨z,hz,rfl⟩:=hx j x e
  show W.cell? ⟨g,0+j,none⟩=_
  rw [Nat.zero_add,h j z hz,List.getD_eq_getElem?_getD,hz];rfl
 ·obtain ⟨z,hz,rfl⟩:=hx j x e
  rw [List.getD_eq_getElem?_getD,hz]
  exact .v rfl
theorem X8:Tryz.prog.underlying 380=some (.array 20 317):=by kernel_rfl
theorem X9:Tryz.prog.underlying 317=some (.int .u64):=by kernel_rfl
theorem Nl:Tryz.prog.underlying 331=some (.interface #[("Error",346)]):=by kernel_rfl
theorem Nr {H:Type}{enc:TypeId×Value→H}{P:Program}{w:World}{base:Nat}{spare:Nat→Bool}{held:Bool}{fuel:Nat}{t:TypeId}{ms:Array (String×TypeId)}{cs:List Value}{nm:String}{x:DataW H}{q:List MemPlace}(ht:P.underlying t=some (.interface ms))(h:DataW.trod enc P w base spare held fuel t cs=some (.iface nm x,q)):∃u v,cs=[.iface u v]:=by
 cases fuel with
 |zero=>cases h
 |succ f=>
  unfold DataW.trod at h
  rw [ht] at h
  split at h<;>first
   |exact ⟨_,_,rfl⟩
   |(exfalso;clear h;simp_all;done)
   |(exfalso;simp_all;done)
theorem globs {W:World}(h:laidMetH Tryz.prog laid2 W):(∀j z,Go.Pinned.utf8FirstZ[j]?=some z→W.cell? ⟨0,j,none⟩=some (.int .u8 (Int.ofNat z)))∧(∀j z,([128,191,160,191,128,159,144,191,128,143]++List.replicate 22 0)[j]?=some z→W.cell? ⟨1,j,none⟩=some (.int .u8 (Int.ofNat z)))∧(∀j,j<20→W.cell? ⟨3,j,none⟩=some (.int .u64 ((10^j:Nat):Int)))∧(∃u v,W.cell? ⟨7,0,none⟩=some (.iface u v))∧∃u v,W.cell? ⟨6,0,none⟩=some (.iface u v):=by
 rw [MakeChecks.laidMetH_plain _ _ _ (by kernel_rfl)] at h
 obtain ⟨ps,⟨g3,t3,cs3,zoN,p3,q3,hg3,ht3,hv3,hd3,⟨g,t,cs,fuel,p,q,hg,ht,hv,hd,⟨g7,t7,cs7,zoL,p7,q7,hg7,ht7,hv7,hd7,⟨g6,t6,cs6,zoM,p6,q6,hg6,ht6,hv6,hd6,⟨g',t',cs',fuel',p',q',hg',ht',hv',hd',_,_⟩,_⟩,_⟩,_⟩,_⟩,_,_⟩:=h
 obtain rfl:=Option.some.inj ((show Tryz.prog.globalNamed "internal/strconv.uint64pow10"=some 3 by kernel_rfl).symm.trans hg3)
 obtain rfl:=Option.some.inj ((show (Tryz.prog.globals[3]?).map (·.type)=some 380 by kernel_rfl).symm.trans ht3)
 obtain rfl:=Option.some.inj ((show Tryz.prog.globalNamed "unicode/utf8.acceptRanges"=some 1 by kernel_rfl).symm.trans hg)
 obtain rfl:=Option.some.inj ((show (Tryz.prog.globals[1]?).map (·.type)=some 253 by kernel_rfl).symm.trans ht)
 obtain rfl:=Option.some.inj ((show Tryz.prog.globalNamed "strconv.ErrRange"=some 7 by kernel_rfl).symm.trans hg7)
 obtain rfl:=Option.some.inj ((show (Tryz.prog.globals[7]?).map (·.type)=some 331 by kernel_rfl).symm.trans ht7)
 obtain rfl:=Option.some.inj ((show Tryz.prog.globalNamed "strconv.ErrSyntax"=some 6 by kernel_rfl).symm.trans hg6)
 obtain rfl:=Option.some.inj ((show (Tryz.prog.globals[6]?).map (·.type)=some 331 by kernel_rfl).symm.trans ht6)
 obtain rfl:=Option.some.inj ((show Tryz.prog.globalNamed "unicode/utf8.first"=some 0 by kernel_rfl).symm.trans hg')
 obtain rfl:=Option.some.inj ((show (Tryz.prog.globals[0]?).map (·.type)=some 250 by kernel_rfl).symm.trans ht')
 have c5:Tryz.prog.cellsOf 5=1:=by kernel_rfl
 have zoV:Tryz.prog.cellsOf 252=2:=by kernel_rfl
 have zoU:Tryz.prog.cellsOf 317=1:=by kernel_rfl
 refine ⟨?_,?_,?_,?_,?_⟩
 ·intro j z hz
  obtain ⟨xs,m,_,ex,_,hl,hel⟩:=DataW.trod_array Yc hd'
  have hlen:Go.Pinned.utf8FirstZ.length=256:=by kernel_rfl
  have hj:j<256:=by rw [←hlen];exact (List.getElem?_eq_some_iff.1 hz).1
  have hE:=hel j hj
  rw [c5,Nat.mul_one,List.getElem?_eq_getElem (by omega)] at hE
  obtain ⟨y,e1,e2,_⟩:=DataW.trod_int za5 hE
  have e3:(xs.map (·.1))=Go.Pinned.utf8FirstZ.map fun (n:Nat)=>.lit (.int .u8 (Int.ofNat n)):=(DataW.agg.inj (Prod.mk.inj ex).1).symm
  have e4:(xs.map (·.1))[j]?=(Go.Pinned.utf8FirstZ.map fun (n:Nat)=>(DataW.lit (.int .u8 (Int.ofNat n)):DataW Unit))[j]?:=by rw [e3]
  rw [List.getElem?_map,List.getElem?_map,List.getElem?_eq_getElem (by omega:j<xs.length),hz,e2] at e4
  simp only [Option.map_some,Option.some.injEq,DataW.lit.injEq,Lit.int.injEq,true_and] at e4
  subst e4
  rw [World.var?_cell hg' hv' j]
  have:cs'.toList[j]?=some (.int .u8 (Int.ofNat z)):=by
   have h0:((cs'.toList.drop j).take 1)[0]?=some (.int .u8 (Int.ofNat z)):=by rw [e1];rfl
   simpa using h0
  simpa using this
 ·intro j z hz
  obtain ⟨xs,m,_,ex,_,hl,hel⟩:=DataW.trod_array Ya hd
  have hlen:([128,191,160,191,128,159,144,191,128,143]++List.replicate 22 0).length=32:=by kernel_rfl
  have hj:j<32:=by rw [←hlen];exact (List.getElem?_eq_some_iff.1 hz).1
  have hE:=hel (j /2) (by omega)
  rw [zoV,List.getElem?_eq_getElem (by omega)] at hE
  obtain ⟨ys,m2,_,ey,_,hl2,zoz⟩:=DataW.trod_struct Yb hE
  have f2:(zZ Tryz.prog 252).size=2:=by kernel_rfl
  have hk:j%2<2:=Nat.mod_lt _ (by omega)
  have hfo:∀k,k<2→((zZ Tryz.prog 252)[k]?).map (fun f=>(f.type,f.offset))=some (5,k):=fun k hk=>by
   match k,hk with
   |0,_=>exact zhH
   |1,_=>exact field1
  obtain ⟨f,hf,hf2⟩:=Option.map_eq_some_iff.1 (hfo (j%2) hk)
  have hE2:=zoz (j%2) f hf
  obtain ⟨hft,zox⟩:=Prod.mk.inj hf2
  rw [hft,zox,c5,List.getElem?_eq_getElem (by omega)] at hE2
  obtain ⟨y,e1,e2,_⟩:=DataW.trod_int za5 hE2
  have hall:((List.range 32).all fun j=>match (Rows.laid_unicode_utf8_acceptRanges:DataW Unit) with
   |.agg l=>match l[j /2]? with
    |some (.agg r)=>match r[j%2]?,([128,191,160,191,128,159,144,191,128,143]++List.replicate 22 0)[j]? with
     |some (.lit (.int .u8 z)),some z'=>z==Int.ofNat z'
     |_,_=>false
    |_=>false
   |_=>false)=true:=by kernel_rfl
  have h1:=List.all_eq_true.1 hall j (List.mem_range.2 hj)
  have e3:(Rows.laid_unicode_utf8_acceptRanges:DataW Unit)=.agg (xs.map (·.1)):=(Prod.mk.inj ex).1
  have e5:(xs.map (·.1))[j /2]?=some (.agg (ys.map (·.1))):=by
   rw [List.getElem?_map,List.getElem?_eq_getElem (by omega:j /2<xs.length),ey];rfl
  have e6:(ys.map (·.1))[j%2]?=some (.lit (.int .u8 y)):=by
   rw [List.getElem?_map,List.getElem?_eq_getElem (by omega:j%2<ys.length),e2];rfl
  rw [e3] at h1
  dsimp only at h1
  rw [e5] at h1
  dsimp only at h1
  rw [e6,hz] at h1
  have hy:y=Int.ofNat z:=eq_of_beq h1
  subst hy
  rw [World.var?_cell hg hv j]
  have:cs.toList[j]?=some (.int .u8 (Int.ofNat z)):=by
   have h0:((((cs.toList.drop (j /2*2)).take 2).drop (j%2)).take 1)[0]?=some (.int .u8 (Int.ofNat z)):=by rw [e1];rfl
   rw [List.getElem?_take,if_pos (by omega),List.getElem?_drop,List.getElem?_take,if_pos (by omega),List.getElem?_drop] at h0
   have:j /2*2+(j%2+0)=j:=by omega
   rw [this] at h0
   exact h0
  simpa using this
 ·intro j hj
  obtain ⟨xs,m,_,ex,_,hl,hel⟩:=DataW.trod_array X8 hd3
  have hE:=hel j hj
  rw [zoU,Nat.mul_one,List.getElem?_eq_getElem (by omega)] at hE
  obtain ⟨y,e1,e2,_⟩:=DataW.trod_int X9 hE
  have e3:(Rows.laid_internal_strconv_uint64pow10:DataW Unit)=.agg (xs.map (·.1)):=(Prod.mk.inj ex).1
  have hall:((List.range 20).all fun j=>match (Rows.laid_internal_strconv_uint64pow10:DataW Unit) with
   |.agg l=>match l[j]? with
    |some (.lit (.int .u64 z))=>z==((10^j:Nat):Int)
    |_=>false
   |_=>false)=true:=by kernel_rfl
  have h1:=List.all_eq_true.1 hall j (List.mem_range.2 hj)
  have e6:(xs.map (·.1))[j]?=some (.lit (.int .u64 y)):=by
   rw [List.getElem?_map,List.getElem?_eq_getElem (by omega:j<xs.length),e2];rfl
  rw [e3] at h1
  dsimp only at h1
  rw [e6] at h1
  have hy:y=((10^j:Nat):Int):=eq_of_beq h1
  subst hy
  rw [World.var?_cell hg3 hv3 j]
  have:cs3.toList[j]?=some (.int .u64 ((10^j:Nat):Int)):=by
   have h0:((cs3.toList.drop j).take 1)[0]?=some (.int .u64 ((10^j:Nat):Int)):=by rw [e1];rfl
   simpa using h0
  simpa using this
 ·obtain ⟨u,v,e⟩:=Nr Nl hd7
  refine ⟨u,v,?_⟩
  rw [World.var?_cell hg7 hv7 0]
  have:cs7.toList[0]?=some (.iface u v):=by rw [e];rfl
  simpa using this
 ·obtain ⟨u,v,e⟩:=Nr Nl hd6
  refine ⟨u,v,?_⟩
  rw [World.var?_cell hg6 hv6 0]
  have:cs6.toList[0]?=some (.iface u v):=by rw [e];rfl
  simpa using this
theorem UM {W:World}{g:Nat}{u:TypeId}{v:Value}(h:W.cell? ⟨g,0,none⟩=some (.iface u v)):Rep (Kw W) [] (.dp [.ifc]) (.pointer (some ⟨g,0,none⟩)):=by
 refine .dp (fun _=>.iface u v) (fun j x e=>?_) (fun j x e=>?_) (fun j x e=>?_)
 all_goals
  match j,e with
  |0,e=>?_
  |j+1,e=>cases e
 ·cases e;rfl
 ·cases e;exact h
 ·cases e;exact .ifc
theorem zcx {W:World}{g:Nat}(h:∀j,j<20→W.cell? ⟨g,j,none⟩=some (.int .u64 ((10^j:Nat):Int))):Rep (Kw W) [] (.dp ((List.range 20).map fun i=>.v (.int .u64 ((10^i:Nat):Int)))) (.pointer (some ⟨g,0,none⟩)):=by
 have hx:∀(j:Nat) (x:X),((List.range 20).map fun i:Nat=>(X.v (.int .u64 ((10^i:Nat):Int))))[j]?=some x→j<20∧x=.v (.int .u64 ((10^j:Nat):Int)):=fun j x e=>by
  rw [List.getElem?_map,Option.map_eq_some_iff] at e
  obtain ⟨i,hi,rfl⟩:=e
  obtain ⟨hl,hi⟩:=List.getElem?_eq_some_iff.1 hi
  rw [List.getElem_range] at hi
  subst hi
  exact ⟨by simpa using hl,rfl⟩
 refine .dp (fun j=>.int .u64 ((10^j:Nat):Int)) (fun j x e=>?_) (fun j x e=>?_) (fun j x e=>?_)
 ·obtain ⟨_,rfl⟩:=hx j x e;rfl
 ·obtain ⟨hj,rfl⟩:=hx j x e
  show W.cell? ⟨g,0+j,none⟩=_
  rw [Nat.zero_add,h j hj]
 ·obtain ⟨_,rfl⟩:=hx j x e
  exact .v rfl
theorem zbr {W:World}(h7:laidMetH Tryz.prog Ba W):nV (iW Tryz.prog gl) (Kw W):=by
 have h:=h7.filter zho
 rw [Vs] at h
 obtain ⟨h0,h1,h3,⟨u,v,hr⟩,⟨u',v',hs⟩⟩:=globs h
 intro g cs e
 change gl g=some cs at e
 unfold gl at e
 split at e
 ·rename_i hg
  obtain rfl:g=0:=by simpa using hg
  cases e
  exact Hu h0
 ·split at e
  ·rename_i hg
   obtain rfl:g=1:=by simpa using hg
   cases e
   exact Hu h1
  ·split at e
   ·rename_i hg
    obtain rfl:g=3:=by simpa using hg
    cases e
    exact zcx h3
   ·split at e
    ·rename_i hg
     obtain rfl:g=6:=by simpa using hg
     cases e
     exact UM hs
    ·split at e
     ·rename_i hg
      obtain rfl:g=7:=by simpa using hg
      cases e
      exact UM hr
     ·cases e
end Go.Proofs.YtjbndifenhihhaaGreatDoor
namespace Go.Proofs.YtjbndifenhihhaaGreatDoor
open Go.ChangeShapes Go.WideShapes Go.ChangeAt Go.RowKit Go.Em
set_option maxRecDepth 100000
theorem Iz {P:Program}{f:FuncId}{fn:Func}{s:ChangeSpec}{c:OpenClaim}(p1:laidOutB P=true)(p2:mapsRowed P=true)(p3:((P.stops==[])&&(P.stopKnobs==[]))=true)
  (p4:P.stopsHeard=true) (p5:P.mayEnter=true)
  (a1:(c.inPlace==P.inPlace f)=true) (a2:(c.unfollowed==P.unfollowed f)=true) (a3:(c.recurses==P.recurses f)=true) (a4:(c.named==P.varsNamed f)=true)
  (b1:(c.wf (OpenSpec.ofChange s)&&fn.params.all (P.readableRec ·)&&namedTie P c.named s.vars&&(c.stops==[])&&(c.knobs==[]))=true)
  (b2:((c.maps==(fn.params.toList++s.plain.varTypes P).any (P.mapsRec ·))&&(c.ifaces==(fn.params.toList++s.plain.varTypes P).any (P.ifacesRec ·))&&(c.mapsOut==P.mapsAmong fn.resultTypes.toList)&&
   (c.loops==(fn.params.toList++s.plain.varTypes P).any (P.loopsFrom ·))&&(c.wideKeys==(fn.params.toList++s.plain.varTypes P++fn.resultTypes.toList).any (P.wideKeysFrom ·)))=true)
  (b3:(s.vars.all (P.varReadable ·)&&fn.resultTypes.all (fun t=>P.readableRec t&&decide (t<P.types.size))&&(c.ifacesOut==fn.resultTypes.toList.any (P.ifacesRec ·))&&(c.loopsOut==fn.resultTypes.toList.any (P.loopsFrom ·))&&c.shortTexts.isNone)=true)
  (c1:(c.plainKeys==P.plainKeys)=true) (c2:(c.lifted==P.liftsFinal)=true) (c3:(P.make==some c.make)=true)
  (b4:((c.kinds==(if c.domain.isEmpty then [] else fn.params.toList.map fun t=>match P.underlying t with|some (.int k)=>some k|_=>none))&&(c.pinned==c.pinnedBy)&&
   (c.veiled==(fn.params.toList++s.plain.varTypes P++fn.resultTypes.toList).any (P.veiledRec ·))&&c.veiledFits P fn.params.toList (fn.params.toList++s.plain.varTypes P++fn.resultTypes.toList))=true):
  joinedFacts P f fn s c=true:=by
 simp only [Bool.and_eq_true] at p3 b1 b2 b3 b4
 obtain ⟨q1,q2⟩:=p3
 obtain ⟨⟨⟨⟨r1,r2⟩,r3⟩,r4⟩,r5⟩:=b1
 obtain ⟨⟨⟨⟨s1,s2⟩,s3⟩,s4⟩,s5⟩:=b2
 obtain ⟨⟨⟨⟨t1,t2⟩,t3⟩,t4⟩,t5⟩:=b3
 obtain ⟨⟨⟨u1,u2⟩,u3⟩,u4⟩:=b4
 simp only [joinedFacts,Bool.and_eq_true]
 exact ⟨⟨⟨⟨⟨⟨⟨⟨⟨⟨⟨⟨⟨⟨⟨⟨⟨⟨⟨⟨⟨⟨⟨⟨⟨⟨⟨⟨⟨⟨⟨r1,p1⟩,p2⟩,r2⟩,r3⟩,r4⟩,q1⟩,r5⟩,q2⟩,a1⟩,a2⟩,a3⟩,a4⟩,s1⟩,s2⟩,s3⟩,s4⟩,s5⟩,t1⟩,t2⟩,t3⟩,t4⟩,c1⟩,t5⟩,p4⟩,p5⟩,c2⟩,c3⟩,u1⟩,u2⟩,u3⟩,u4⟩
theorem Oq:((Tryz.prog.stops==[])&&(Tryz.prog.stopKnobs==[]))=true:=by kernel_rfl
theorem Ov:Tryz.prog.stopsHeard=true:=by kernel_rfl
theorem Ox:Tryz.prog.mayEnter=true:=by kernel_rfl
theorem Ou:true=Tryz.prog.looks []:=by kernel_rfl
theorem Vy:Tryz.pinned.checked.prog.mainIs=some (true,"d55d1976533ba272207557dd33c6f4875155e8b8270e105401bbeec58c252d02".toList):=by kernel_rfl
theorem Ot:Tryz.prog.plainKeys=Rows.routerFiltersRow.plainKeys:=by kernel_rfl
theorem IB:Tryz.prog.liftsFinal=Rows.routerFiltersRow.lifted:=by kernel_rfl
theorem Vx:(Tryz.prog.make==some Rows.routerFiltersRow.make)=true:=by kernel_rfl
end Go.Proofs.YtjbndifenhihhaaGreatDoor
