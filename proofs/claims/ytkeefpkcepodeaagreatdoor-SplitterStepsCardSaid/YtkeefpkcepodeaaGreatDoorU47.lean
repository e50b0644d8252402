/-.-/
import Derived.Shelf.Strings.Repeat
import Derived.Shelf.Strconv.AtoiAll
import Derived.Shelf.Unicode.DecodeAny
import Derived.Shelf.Strings.Search2
import Derived.Lib.AppendIntMem
import Derived.Lib.SmallJoins
import Derived.Shelf.Strings.BuilderRune
import Derived.Shelf.Strings.BuilderK
import Derived.Shelf.Spec.SlicesInsertGrow
import Derived.Laws.IdiomStrings
import Derived.Shelf.Slices.Clone
import Derived.Shelf.Unicode.ValidAny
import Derived.Test.YtkeefpkcepodeaaGreatDoorU46
set_option linter.all false
namespace Go.Proofs
open Go.Shelf
namespace YtkeefpkcepodeaaGreatDoor
open Go.RowKit Go.Em
section
variable {P:Program} {R:aP}
theorem nP {f:FuncId}{args:List X}{inb:List Bx}{y:X}(h:∀(aN:Array Value) (w:World) (K:Kn) (C:List CB),Inv P R K C inb w->cO K C args aN->Calls P f aN w fun e w'=>∃u,e=.returned u/\(∀K C,Rep K C y u)/\Below w.heap.size w w'):JF P R f args inb y inb:=by
 intro K C w aN j m;refine (h aN w K C j m).mono ?_
 rintro e w' ⟨u,rfl,q,a⟩
 have l:=jM a;exact ⟨u,K,[],rfl,EX (j.still l),q _ _,KLe.refl _,fun b o v e=>.inl e,fun b o E=>.inl (by grind),l.mono (fun b o _ A=>A.elim),fun i B a n=>⟨B,a,n⟩⟩
theorem Qv {K:Kn}{C:List CB}{u:Value}{aN:Array Value}(ha:cO K C [.v u] aN):aN=#[u]:=by
 have a:aN.size=1:=ha.1;have f:=fJ (ha.2 0 _ aN[0] rfl (qaD (by omega)))
 grind
theorem JZ {K:Kn}{C:List CB}{u v:Value}{aN:Array Value}(ha:cO K C [.v u,.v v] aN):aN=#[u,v]:=by
 have a:aN.size=2:=ha.1;have f:=fJ (ha.2 0 _ aN[0] rfl (qaD (by omega)));have h:=fJ (ha.2 1 _ aN[1] rfl (qaD (by omega)))
 grind
theorem AA {K:Kn}{C:List CB}{x y:X}{u v:Value}(h1:Rep K C x u)(h2:Rep K C y v):Rep K C (.tup [x,y]) (.tuple #[u,v]):=by
 refine .tup rfl fun j a b f h=>?_
 grind
end
theorem FZ {R:aP}(hR:R.gl=gl){K:Kn}{C:List CB}{bx:List Bx}{w:World}(hI:Inv Tryz.prog R K C bx w){g:Nat}{cs:List X}(hg:gl g=some cs){j:Nat}{x:X}(hj:cs[j]?=some x):∃v,w.cell? ⟨g,j,none⟩=some v/\Rep K [] x v:=by
 have h:=hI.glob g cs (by simp_all);cases h with
 |dp vals hcell hk hr=>have a:=hI.known _ _ _ (hk j _ hj)<;>grind
theorem zn3 {R:aP}(hR:R.gl=gl){K:Kn}{C:List CB}{bx:List Bx}{w:World}(hI:Inv Tryz.prog R K C bx w):Po (Tryz.tJ.g 17) w:=by
 rw [show Tryz.tJ.g 17=3 by kernel_rfl];intro i h;obtain ⟨v,a,f⟩:=FZ hR hI (g:=3) rfl (j:=i) (x:=.v (.int .u64 ((10^i:Nat):Int))) (by grind)
 grind[fJ]
theorem zeF {R:aP}(hR:R.gl=gl)(z:Int)(h0:-9223372036854775808<=z)(h1:z<=9223372036854775807)(inb:List Bx):JF Tryz.prog R 82 [.v (.int .i64 z)] inb (.v (.string ⟨(Lib.itoa z).toArray⟩)) inb:=by
 refine nP fun h w K C a f=>?_;rw [Qv f];refine (zhq.strconv_Itoa Tryz.laysItoa z h0 h1 w (zn3 hR a)).mono ?_
 rintro e w' ⟨rfl,k,j,rfl⟩
 exact ⟨_,rfl,fun _ _=>.v rfl,Lib.below_grow _ _ (Nat.le_refl _) _ _⟩
theorem NH:Builder.Extra Tryz.prog Tryz.Fz:={
 sizeBuilder:=by kernel_rfl
 liesBuilder:=by kernel_rfl
 t5:=Tryz.FB.t5
 a5:=Tryz.FB.a5
 z5:=Tryz.FB.z5
 v5:=Tryz.FB.v5
 infoByte:=by kernel_rfl
 cellsByte:=by kernel_rfl
 sizeByte:=by kernel_rfl
 neB5:=by decide}
theorem WC {R:aP}(s:qaW)(c:Int)(h0:0<=c)(h1:c<=1000000)(h2:s.size<=1000000)(inb:List Bx):JF Tryz.prog R 303 [.v (.string s),.v (.int .i64 c)] inb (.v (.string ⟨(Lib.repeatL s.data.toList c.toNat).toArray⟩)) inb:=by
 refine nP fun j w K C l f=>?_;rw [JZ f];obtain ⟨n,rfl⟩:∃n:Nat,c=n:=⟨c.toNat,by omega⟩;have h:n<=1000000:=by omega
 have m:=Nat.mul_le_mul h2 h;refine (Any.strings_Repeat Tryz.FB NH s n w (by omega) (by omega)).mono ?_
 rintro e w' ⟨rfl,a⟩
 exact ⟨_,rfl,fun _ _=>.v rfl,a⟩
theorem zdv {R:aP}(hR:R.gl=gl){K:Kn}{C:List CB}{bx:List Bx}{w:World}(hI:Inv Tryz.prog R K C bx w):Lib.Utf8Tabs (Tryz.l7.g 3) (Tryz.l7.g 4) w:=by
 have cell:∀(g:Nat) (cs:List X),gl g=some cs->∀(j:Nat) (v:Value),cs[j]?=some (.v v)->w.cell? ⟨g,j,none⟩=some v:=fun g cs n j v q=>by grind[FZ,fJ]
 rw [show Tryz.l7.g 3=1 by kernel_rfl,show Tryz.l7.g 4=2 by kernel_rfl];constructor
 ·intro c l;have a:((List.range 256).all fun c=>match (uy Go.Pinned.utf8FirstZ)[c]? with
   |some (.v (.int .u8 z))=>z==Lib.firstT c
   |_=>false)=true:=by kernel_rfl
  have f:=qao.1 a c (List.mem_range.2 l);split at f;next z hz=>rw [cell 1 _ rfl c _ hz,eq_of_beq f]
  grind
 intro i m;have a:((List.range 16).all fun i=>(match (uy ([128,191,160,191,128,159,144,191,128,143]++List.replicate 22 0))[2*i]? with
  |some (.v (.int .u8 z))=>z==Lib.accLo i
  |_=>false)&&(match (uy ([128,191,160,191,128,159,144,191,128,143]++List.replicate 22 0))[2*i+1]? with
  |some (.v (.int .u8 z))=>z==Lib.accHi i
  |_=>false))=true:=by kernel_rfl
 have f:=qao.1 a i (List.mem_range.2 m);rw [qab] at f;obtain ⟨f,h⟩:=f;constructor
 ·split at f;next z hz=>rw [cell 2 _ rfl (2*i) _ hz,eq_of_beq f]
  grind
 split at h;next z hz=>rw [cell 2 _ rfl (2*i+1) _ hz,eq_of_beq h]
 grind
theorem XG {R:aP}(hR:R.gl=gl)(s:qaW)(inb:List Bx):JF Tryz.prog R 299 [.v (.string s)] inb (.tup [.v (.int .i32 (zD s).1),.v (.int .i64 (zD s).2)]) inb:=by
 refine nP fun j w K C f h=>?_;rw [Qv h];refine (Any.utf8_DecodeRuneInString Tryz.zjo s w (zdv hR f)).mono ?_
 rintro e w' ⟨rfl,a⟩
 exact ⟨_,rfl,fun _ _=>AA (.v rfl) (.v rfl),a⟩
theorem UW {R:aP}(hR:R.gl=gl){K:Kn}{C:List CB}{bx:List Bx}{w:World}(hI:Inv Tryz.prog R K C bx w){g:Nat}(hg:gl g=some [.ifc]):∃v,w.cell? ⟨g,0,none⟩=some v/\(v=.nilIface\/∃te pe,v=.iface te pe):=by obtain ⟨v,f,a⟩:=FZ hR hI hg (j:=0) (x:=.ifc) rfl;cases a<;>simp_all
def LZ (s:qaW):X:=match Lib.atoiAll s.data.toList with
 |.ok v=>.tup [.v (.int .i64 v),.v .nilIface]
 |.range=>.tup [.v (.int .i64 (Lib.atoiSat s.data.toList)),.ifc]
 |_=>.tup [.v (.int .i64 0),.ifc]
theorem zgb {R:aP}(hR:R.gl=gl)(s:qaW)(hs:s.size<=281474976710656)(inb:List Bx):JF Tryz.prog R 121 [.v (.string s)] inb (LZ s) inb:=by
 refine nP fun n w K C j m=>?_;rw [Qv m];unfold LZ;cases h:Lib.atoiAll s.data.toList with
 |ok v=>
  refine (Any.strconv_Atoi_ok Tryz.laysAtoi s (by omega) v h w).mono ?_
  rintro e w' ⟨rfl,a⟩
  refine ⟨_,rfl,fun _ _=>AA (.v rfl) (.v rfl),?_⟩;rcases a with rfl|⟨t,rfl⟩<;>simp_all[Below.refl,Go.Joins.below_bytesWorld]
 |range=>
  obtain ⟨v,l,f⟩:=UW hR j (g:=5) rfl;refine (Any.strconv_Atoi_range Tryz.laysAtoi s hs h v w (by rw [show Tryz.tK.g 16=5 by kernel_rfl]<;>grind) f).mono ?_
  rintro e w' ⟨N,rfl,_,_,a⟩
  exact ⟨_,rfl,fun _ _=>AA (.v rfl) .ifc,a⟩
 |_=>
  obtain ⟨v,l,f⟩:=UW hR j (g:=4) rfl;refine (Any.strconv_Atoi_syntax Tryz.laysAtoi s hs h v w (by rw [show Tryz.tK.g 15=4 by kernel_rfl]<;>grind) f).mono ?_
  rintro e w' ⟨N,rfl,_,_,a⟩
  exact ⟨_,rfl,fun _ _=>AA (.v rfl) .ifc,a⟩
theorem Xj {R:aP}(s c:qaW)(b:UInt8)(hc:c.data.toList=[b])(inb:List Bx):JF Tryz.prog R 222 [.v (.string s),.v (.string c)] inb (.v (.int .i64 (Lib.indexByte s.data.toList b))) inb:=by
 refine nP fun j w K C l f=>?_;rw [JZ f];have a:c=⟨#[b]⟩:=by
  obtain ⟨d⟩:=c
  congr
  apply Array.toList_inj.1;exact hc
 rw [a];refine (Any.stringslite_Index_one Tryz.zjn s b w).mono ?_
 rintro e w' ⟨rfl,h⟩
 exact ⟨_,rfl,fun _ _=>.v rfl,h▸Below.refl _ _⟩
theorem JC (s:qaW):∀(f pos:Nat),oh s marks f pos=Mk.Qc s f pos
 |0,_=>rfl
 |f+1,pos=>by unfold oh Mk.Qc;rw [JC s f];rfl
theorem zat {R:aP}(s:qaW)(hs:s.size<4294967281)(inb:List Bx):JF Tryz.prog R 118 [.v (.string s),.v (.string marks)] inb (.v (.int .i64 (if s.size<=8 then oh s marks s.size 0 else Lib.indexAny s.data.toList marks.data.toList))) inb:=by
 refine nP fun q w K C u l=>?_;rw [JZ l];by_cases a:s.size<=8
 ·rw [if_pos a,JC];refine (Mk.HY {Tryz.QD with} s w a).mono ?_
  rintro e w' ⟨rfl,h⟩
  exact ⟨_,rfl,fun _ _=>.v rfl,h⟩
 rw [if_neg a];have hz:(Tryz.prog.info? (Tryz.FC.t 116)).map (fun i=>(i.zero,i.size))=some (some (.agg (Array.replicate 256 (.bool false))),256):=by kernel_rfl
 refine (Any.strings_IndexAny_long Tryz.QD (zero_of_info hz).1 (zero_of_info hz).2 s marks w (by decide) (by omega) hs (by decide) (fun j b m=>?_)).mono ?_
 ·have f:∀b∈[46,91,63],(b:UInt8).toNat<128:=by decide
  exact f b (qan m)
 rintro e w' ⟨rfl,n⟩
 refine ⟨_,rfl,fun _ _=>.v rfl,?_⟩;rw [n];exact ((Below.refl _ _).alloc (Nat.le_refl _) _).alloc (by simp) _
theorem FQ:∀{es:qaV} {zs:List Int},intsOf es=some zs->es.length=zs.length/\∀j,j<zs.length->es[j]?=some [.v (.int .i64 (zs.getD j 0))]
 |[],zs,h=>by simp_all[intsOf]
 |e::r,zs,h=>by
  unfold intsOf at h;split at h
  ·grind
  ·rename_i z r' heq;obtain ⟨rfl,rfl⟩:=List.cons.inj heq;split at h;next l hl=>simp at h;subst h;obtain ⟨h1,h2⟩:=FQ hl<;>grind
   grind
  grind
end YtkeefpkcepodeaaGreatDoor
namespace YtkeefpkcepodeaaGreatDoor
open Go.RowKit Go.Em
theorem zcS:Builder.Extra Tryz.prog Tryz.Jc:={
 sizeBuilder:=by kernel_rfl
 liesBuilder:=by kernel_rfl
 t5:=Tryz.yV.t5
 a5:=Tryz.yV.a5
 z5:=Tryz.yV.z5
 v5:=Tryz.yV.v5
 infoByte:=by kernel_rfl
 cellsByte:=by kernel_rfl
 sizeByte:=by kernel_rfl
 neB5:=by decide}
theorem zf7:Builder.Extra Tryz.prog Tryz.Jd:={
 sizeBuilder:=by kernel_rfl
 liesBuilder:=by kernel_rfl
 t5:=Tryz.yV.t5
 a5:=Tryz.yV.a5
 z5:=Tryz.yV.z5
 v5:=Tryz.yV.v5
 infoByte:=by kernel_rfl
 cellsByte:=by kernel_rfl
 sizeByte:=by kernel_rfl
 neB5:=by decide}
set_option maxHeartbeats 1000000 in
set_option maxRecDepth 100000 in
theorem zk (z:Int)(w:World):Calls Tryz.prog 279 #[.int .i64 z] w fun e w'=>e=.returned (.bool (nY z))/\w'=w:=by
 have e:nY z=(decide (0<=z)&&decide (z<=1114111)&&(decide (z<55296)||decide (57343<z))):=by unfold nY;rw [Bool.eq_iff_iff];simp;omega
 rw [e]
 go_enter Tryz.func279,Tryz.ntmps279
 go_wp2
 all_goals (go_ret;refine ⟨?_,rfl⟩;simp_all<;>omega)
theorem zfu (zs:List Int):(zs.flatMap Lib.encodeRune).length<=4*zs.length:=by
 induction zs with
 |nil=>grind
 |cons z r ih=>grind[Lib.encodeRuneZ_length,Lib.encodeRune]
theorem byteCells_append (a b:List UInt8):Lib.byteCells (a++b)=Lib.byteCells a++Lib.byteCells b:=by simp [Lib.byteCells]
def WG (zs:List Int):Value:=if zs.all nY then .tuple #[.string ⟨(zs.flatMap Lib.encodeRune).toArray⟩,.int .i64 0] else .tuple #[.string ⟨#[]⟩,.int .i64 2]
set_option maxHeartbeats 4000000 in
set_option maxRecDepth 100000 in
theorem NP (zs:List Int)(hz:zs.length<=1000000)(v:Value)(w:World)(hv:(∃ob,v=.slice ob 0 0/\zs=[])\/∃b o cap,v=.slice (some ⟨b,o,none⟩) zs.length cap/\∀j,j<zs.length->w.cell? ⟨b,o+j,none⟩=some (.int .i64 (zs.getD j 0))):
  Calls Tryz.prog 250 #[v] w fun e w'=>e=.returned (WG zs)/\Below w.heap.size w w':=by
 have hstr:∀(l:List UInt8) (wx:World),Lib.IsBuilderF 340 5 w.heap.size w.heap.size (Lib.byteCells l) wx->w.heap.size<=wx.heap.size->Calls Tryz.prog 281 #[.pointer (some ⟨w.heap.size,0,none⟩)] wx fun e w'=>e=.returned (.string ⟨l.toArray⟩)/\Below w.heap.size wx w':=fun l wx h hs=>by refine (Any.Builder_String_any_k Tryz.zos zf7 w.heap.size w.heap.size l wx h hs).mono ?_<;>grind
 have hb0:=Lib.IsBuilderF.of (Lib.fresh_isBuilder 340 5 w);have hB0:Below w.heap.size w (w.alloc (Obj.cells #[Value.pointer none,Value.slice none 0 0] 340)):=(Below.refl _ _).alloc (Nat.le_refl _) _;rcases hv with ⟨ob,rfl,rfl⟩|⟨b,o,cap,rfl,hc⟩
 ·go_enter Tryz.func250,Tryz.ntmps250
  go_wp2
  go_loopg [6,9] 0 (fun g _ s9 wx=>s9=.int .i64 0/\Lib.IsBuilderF 340 5 w.heap.size w.heap.size (Lib.byteCells []) wx/\Below w.heap.size w wx)
  case atStart=>exact ⟨rfl,hb0,hB0⟩
  case round=>
   obtain ⟨rfl,hb,hB⟩:=hrel;have hl:=hstr [] _ hb hB.size;have HL:=Lib.hid hl;clear hl hstr
   go_wp2_with (go_at_call 281;refine HL.out.mono ?_;rintro e w2 ⟨rfl,hB2⟩)
   go_ret2
   exact ⟨rfl,hB.trans hB2⟩
 have hcells:∀wx,Below w.heap.size w wx->∀j,j<zs.length->wx.cell? ⟨b,o+j,none⟩=some (.int .i64 (zs.getD j 0)):=fun wx hB j hj=>by
  have h1:=hc j hj;have hlt:b<w.heap.size:=by
   rcases Nat.lt_or_ge b w.heap.size with h'|h'
   ·grind
   ·grind[World.cell?]
  unfold World.cell? at h1 ⊢;rw [hB.block b hlt]<;>grind
 clear hc
 go_enter Tryz.func250,Tryz.ntmps250
 go_wp2
 go_loopg [6,9] zs.length (fun g _ s9 wx=>∃i:Nat,i+g=zs.length/\s9=.int .i64 i/\Lib.IsBuilderF 340 5 w.heap.size w.heap.size (Lib.byteCells ((zs.take i).flatMap Lib.encodeRune)) wx/\Below w.heap.size w wx/\Aside ((zs.take i).all nY=true))
 case atStart=>exact ⟨0,by omega,rfl,hb0,hB0,rfl⟩
 case round=>
  obtain ⟨i,hig,rfl,hb,hB,A⟩:=hrel;cases gk with
  |zero=>
   obtain rfl:i=zs.length:=by omega
   have hiz:¬((zs.length:Int)<(zs.length:Int)):=by omega
   have hl:=hstr ((zs.take zs.length).flatMap Lib.encodeRune) _ hb hB.size;have HL:=Lib.hid hl;clear hcells hl hstr
   go_wp2_with (go_at_call 281;refine HL.out.mono ?_;rintro e w2 ⟨rfl,hB2⟩)
   go_ret2
   have hA:=A.out;rw [List.take_length] at hA;refine ⟨?_,hB.trans hB2⟩;have hr:WG zs=.tuple #[.string ⟨(zs.flatMap Lib.encodeRune).toArray⟩,.int .i64 0]:=by unfold WG;rw [hA];rfl
   rw [hr];rfl
  |succ g=>
   have hi:i<zs.length:=by omega
   have hiz:(i:Int)<(zs.length:Int):=by omega
   have hcell:=hcells wr hB i hi;clear hcells;have hstep:zs.take (i+1)=zs.take i++[zs.getD i 0]:=by rw [List.take_add_one,qad hi,qaF,qad hi];rfl
   have hmem:zs.getD i 0∈zs:=by rw [qaF,qad hi];exact qaf hi
   have H1:Aside (zs.take (i+1)=zs.take i++[zs.getD i 0]):=hstep;have H2:Aside (zs.getD i 0∈zs):=hmem;clear hstep hmem;obtain ⟨z,hz'⟩:∃z,zs.getD i 0=z:=⟨_,rfl⟩;rw [hz'] at hcell;have H3:Aside (zs.getD i 0=z):=hz';clear hz';cases hp:nY z with
   |false=>
    go_wp2_with (go_at_call 279;refine (zk z _).mono ?_;rintro e w' ⟨rfl,hw⟩;rw [hw,hp])
    go_ret2
    have hall:zs.all nY=false:=by rw [List.all_eq_false];exact ⟨z,by rw [<-H3.out]<;>grind,by grind⟩
    have hr:WG zs=.tuple #[.string ⟨#[]⟩,.int .i64 2]:=by unfold WG;rw [hall];rfl
    exact ⟨by rw [hr];rfl,hB⟩
   |true=>
    have hp':=of_decide_eq_true hp;have hwr:IntKind.i32.wrap z=z:=by unfold IntKind.wrap;simp [IntKind.bits,IntKind.signed];omega
    have hlen:(Lib.byteCells ((zs.take i).flatMap Lib.encodeRune)).length+4<=140737488355328:=by have:=zfu (zs.take i);rw [qai] at this;simp only [Lib.byteCells,qaB];omega
    have hw:=Any.Builder_WriteRune_k Tryz.yV zcS w.heap.size w.heap.size _ z (by omega) (by omega) wr hb hlen hB.size;have HW:=Lib.hid hw;clear hlen hw hstr
    go_wp2_with (first
     |(go_at_call 279;refine (zk z _).mono ?_;rintro e w' ⟨rfl,hw⟩;rw [hw,hp])
     |(go_at_call 280;refine HW.out.mono ?_;rintro e w2 ⟨rfl,hb2,hB2,_⟩))
    go_roundg g
    case measure=>omega
    case rel=>
     refine ⟨i+1,by omega,rfl,.inr ?_,hB.trans hB2,?_⟩
     ·rw [H1.out,List.flatMap_append,byteCells_append,H3.out];have:Lib.byteCells ([z].flatMap Lib.encodeRune)=Lib.runeCells z:=by rw [List.flatMap_cons,List.flatMap_nil,List.append_nil,Lib.byteCells_encodeRune]
      rw [this];exact hb2
     show _=_;rw [H1.out,List.all_append,A.out,H3.out]<;>grind
theorem WH {R:aP}(t:Bool)(es:qaV)(zs:List Int)(h:intsOf es=some zs)(hz:zs.length<=1000000)(inb:List Bx):
  JF Tryz.prog R 250 [.sl t 1 es] inb (if zs.all nY then .tup [.v (.string ⟨(zs.flatMap Lib.encodeRune).toArray⟩),.v (.int .i64 0)] else .tup [.v (.string ⟨#[]⟩),.v (.int .i64 2)]) inb:=by
 refine nP fun a w K C B q=>?_;obtain ⟨f,l⟩:=FQ h;have L:a.size=1:=q.1;have n:=q.2 0 _ a[0] rfl (qaD (by omega));have m:a=#[a[0]]:=by
  refine Array.ext (by grind) fun i f l=>?_
  match i,f,l with
  |0,_,_=>rfl
  |i+1,f,_=>omega
 rw [m];generalize a[0]=v at n;have F:(∃ob,v=.slice ob 0 0/\zs=[])\/∃b o cap,v=.slice (some ⟨b,o,none⟩) zs.length cap/\∀j,j<zs.length->w.cell? ⟨b,o+j,none⟩=some (.int .i64 (zs.getD j 0)):=by
  generalize H:X.sl t 1 es=x at n;cases n<;>try cases H
  case iJ ob=>grind
  case sl b o cap vals hcap hcell hr zg7 hlen hk=>
   refine .inr ⟨b,o,cap,by rw [f],fun j E=>?_⟩;have u:=l j E;have y:at2 es j 0=some (.v (.int .i64 (zs.getD j 0))):=by simp [at2,u]
   have J:=B.known _ _ _ (hk j 0 _ y)<;>grind[fJ]
 refine (NP zs hz v w F).mono ?_
 rintro e w' ⟨rfl,A⟩
 refine ⟨_,rfl,fun _ _=>?_,A⟩;unfold WG;split;·exact AA (.v rfl) (.v rfl)
 exact AA (.v rfl) (.v rfl)
end YtkeefpkcepodeaaGreatDoor
end Go.Proofs
namespace Go.Proofs.YtkeefpkcepodeaaGreatDoor.If
open Go.Em Go.RowKit Go.Lib
variable {rows:qaV}{cs vs:List Value}{v:Value}
theorem uM {P:Program}(w:World)(dT sT ty elem:TypeId)(k:Nat)(b o dLen dCap:Nat)(a:Addr)(sLen sCap:Nat)(cs:List Value)
  (hu:P.underlying dT=some (.slice elem)) (hs:(P.info? elem).map (·.size)=some k) (hn:cs.length=Nat.min sLen dLen*k)
  (hsrc:∀j v,cs[j]?=some v->w.cell? (a.add j)=some v) (hc:∀j,j<cs.length->(w.cell? ⟨b,o+j,none⟩).isSome=true) (hf:∀j,j<cs.length->w.frozen? ⟨b,o+j,none⟩=false) (h1:∀v∈cs,v.oneCell'=true):
  (Builtin.copy_ #[dT,sT] ty #[.slice (some ⟨b,o,none⟩) dLen dCap,.slice (some a) sLen sCap]).run P w=.ok (goInt (Nat.min sLen dLen)) (w.setCells b o cs):=by
 have m:=run_loadCells_list (P:=P) w a cs hsrc;have h:=run_storeCells_cells (P:=P) b o cs 0 w (by simpa using hc) (by simpa using hf) h1;cases f:P.info? elem with
 |none=>simp [f] at hs
 |some i=>
  have l:i.size=k:=by simpa [f] using hs
  simp [Builtin.copy_,run_underlying hu,Builtin.lenOf,Builtin.firstCells,sizeOf,typeInfo,f,l,<-hn,m,h]
theorem Dq {P:Program}(w:World)(tS tR e:TypeId)(ht:P.underlying tS=some (.slice e))(size:Nat)(hz:∀w,(Go.sizeOf e).run P w=.ok size w)
  (a b:Addr) (la ca lb cb:Nat) (hne:a.block≠b.block) (tA tB:TypeId) (kA kB:Nat)
  (hsa:w.shape? a.block=some (tA,kA)) (hsb:w.shape? b.block=some (tB,kB)) (hkB:kB≠0) (hkA:kA≠0)
  (hfb:w.frozen? b=false) (hfe:w.frozen? {block:=b.block,off:=kB}=false):
  (Extern.SlicesOverlaps.overlaps #[tS,tS] #[tR] #[.slice (some a) la ca,.slice (some b) lb cb]).run P w=.ok (.bool false) w:=by
 have hnb:(a.block !=b.block)=true:=by simpa using hne
 have hnb':(a.block==b.block)=false:=by simpa using hne
 change Sem.run P (α:=Value) (do
  let some t:=(#[tS,tS]:Array TypeId)[0]?|stuck "slices.overlaps: no parameter types"
  let .slice elem <-underlying t|stuck "slices.overlaps: slice type expected"
  let size <-sizeOf elem
  match (some a:Option Addr),(some b:Option Addr) with
  |some a,some b=>
   if la=0\/lb=0\/size=0 then pure (Value.bool false)
   else if a.block !=b.block&&(<-frozen a)&&(<-frozen b) then unsupported .addressObserved
   else do
    if a.block !=b.block then do
     noView a;noView b
     if <-mayBeOne a b then return Value.bool ((<-choose (.extern "sameAddr.stringBytes" 2))==1)
    pure (Value.bool (a.block==b.block&&a.off<b.off+lb*size&&b.off<a.off+la*size))
  |_,_=>pure (Value.bool false)) w=_
 by_cases h0:la=0\/lb=0\/size=0;·simp [run_underlying ht,hz,h0]
 cases kB with
 |zero=>exact absurd rfl hkB
 |succ kB=>
  obtain ⟨kA,rfl⟩:∃k,kA=k+1:=⟨kA-1,by omega⟩;cases hfa:w.frozen? a with
  |true=>simp [run_underlying ht,hz,h0,hnb,hnb',frozen,noView,viewAt,mayBeOne,stringish,shape,Sem.run,hsa,hsb,hfb,hfe,hfa]
  |false=>
   cases hfx:w.frozen? {block:=a.block,off:=kA+1} with
   |true=>simp [run_underlying ht,hz,h0,hnb,hnb',frozen,noView,viewAt,mayBeOne,stringish,shape,Sem.run,hsa,hsb,hfb,hfe,hfa,hfx]
   |false=>simp [run_underlying ht,hz,h0,hnb,hnb',frozen,noView,viewAt,mayBeOne,stringish,shape,Sem.run,hsa,hsb,hfb,hfe,hfa,hfx]
theorem Au {P:Program}(w:World)(tS tR e:TypeId)(ht:P.underlying tS=some (.slice e))(size:Nat)(hz:∀w,(Go.sizeOf e).run P w=.ok size w)
  (a b:Addr) (la ca lb cb:Nat) (hsame:a.block=b.block) (hd:¬(a.off<b.off+lb*size/\b.off<a.off+la*size)):
  (Extern.SlicesOverlaps.overlaps #[tS,tS] #[tR] #[.slice (some a) la ca,.slice (some b) lb cb]).run P w=.ok (.bool false) w:=by
 have hnb:(a.block !=b.block)=false:=by simpa using hsame
 have hnb':(a.block==b.block)=true:=by simpa using hsame
 have hd':(decide (a.off<b.off+lb*size)&&decide (b.off<a.off+la*size))=false:=by
  cases h:(decide (a.off<b.off+lb*size)&&decide (b.off<a.off+la*size)) with
  |false=>rfl
  |true=>exact absurd (by simpa using h) hd
 change Sem.run P (α:=Value) (do
  let some t:=(#[tS,tS]:Array TypeId)[0]?|stuck "slices.overlaps: no parameter types"
  let .slice elem <-underlying t|stuck "slices.overlaps: slice type expected"
  let size <-sizeOf elem
  match (some a:Option Addr),(some b:Option Addr) with
  |some a,some b=>
   if la=0\/lb=0\/size=0 then pure (Value.bool false)
   else if a.block !=b.block&&(<-frozen a)&&(<-frozen b) then unsupported .addressObserved
   else do
    if a.block !=b.block then do
     noView a;noView b
     if <-mayBeOne a b then return Value.bool ((<-choose (.extern "sameAddr.stringBytes" 2))==1)
    pure (Value.bool (a.block==b.block&&a.off<b.off+lb*size&&b.off<a.off+la*size))
  |_,_=>pure (Value.bool false)) w=_
 by_cases h0:la=0\/lb=0\/size=0;·simp [run_underlying ht,hz,h0]
 simp [run_underlying ht,hz,h0,hnb,hnb',hd',frozen,Sem.run]
theorem En:Tryz.prog.underlying 38=some (.slice 103):=by kernel_rfl
theorem info78:(Tryz.prog.info? 103).map (·.size)=some 7:=by kernel_rfl
theorem zgL:∀w,(Go.sizeOf 103).run Tryz.prog w=.ok 7 w:=Tryz.sizeOf103
set_option maxHeartbeats 4000000 in
set_option maxRecDepth 100000 in
theorem zaI (b off n c i vb voff vc:Nat)(cs vs:List Value)(w:World)(hi:i<n)(hroom:n+1<=c)(hn3:n<=2000000)(hdis:∀j k,j<7->k<(n+1)*7->vb=b->voff+j≠off+k)
  (hcl:cs.length=n*7) (hvl:vs.length=7)
  (hcs:∀j v,cs[j]?=some v->w.cell? ⟨b,off+j,none⟩=some v) (hsp:∀j,j<(n+1)*7->(w.cell? ⟨b,off+j,none⟩).isSome=true) (hfz:∀j,j<(n+1)*7->w.frozen? ⟨b,off+j,none⟩=false)
  (hvs:∀j v,vs[j]?=some v->w.cell? ⟨vb,voff+j,none⟩=some v) (h1c:∀v∈cs,v.oneCell'=true) (h1v:∀v∈vs,v.oneCell'=true)
  (tA tB:TypeId) (kA kB:Nat) (hsa:w.shape? vb=some (tA,kA)) (hsb:w.shape? b=some (tB,kB)) (hkB:kB≠0) (hkA:kA≠0) (hfb:∀o,w.frozen? ⟨b,o,none⟩=false):
  Calls Tryz.prog 149 #[.slice (some ⟨b,off,none⟩) n c,.int .i64 i,.slice (some ⟨vb,voff,none⟩) 1 vc] w fun e w'=>
   e=.returned (.slice (some ⟨b,off,none⟩) (n+1) c)/\w'=(w.drew.setCells b (off+(i+1)*7) (cs.drop (i*7))).setCells b (off+i*7) vs:=by
 have hz2:¬((i:Int)=(n:Int)):=by omega
 have hov:∀cb,(callFunc 204 #[.slice (some ⟨vb,voff,none⟩) 1 vc,.slice (some ⟨b,off+(i+1)*7,none⟩) (n-i) cb]).run Tryz.prog w=.ok (.value (.bool false)) w:=fun cb=>by
  rw [run_callFunc_extern Tryz.func204 (by kernel_rfl) (by kernel_rfl) (by kernel_rfl) (e:=Extern.SlicesOverlaps.overlaps #[38,38] #[4]) (by kernel_rfl)];by_cases hvb:vb=b
  ·rw [Au w 38 4 103 En 7 zgL ⟨vb,voff,none⟩ ⟨b,off+(i+1)*7,none⟩ 1 vc (n-i) cb hvb (fun h=>by
    obtain ⟨h1,h2⟩:=h;dsimp only at h1 h2;by_cases hlo:off+(i+1)*7<=voff;·exact hdis 0 (voff-off) (by omega) (by omega) hvb (by omega)
    exact hdis (off+(i+1)*7-voff) ((i+1)*7) (by omega) (by omega) hvb (by omega))]
   rfl
  rw [Dq w 38 4 103 En 7 zgL ⟨vb,voff,none⟩ ⟨b,off+(i+1)*7,none⟩ 1 vc (n-i) cb hvb tA tB kA kB hsa hsb hkB hkA (hfb _) (hfb _)];rfl
 have hdl:(cs.drop (i*7)).length=(n-i)*7:=by rw [qaK,hcl];omega
 have hw1:IntKind.i64.wrap ((i:Int)+1)=(i:Int)+1:=by rw [IntKind.wrap_i64];omega
 have hb1:(0:Int)<=(i:Int)+1:=by omega
 have hin:i<=n:=by omega
 have htn:((i:Int)+1).toNat=i+1:=by omega
 have hb2:¬(c=i+1):=by omega
 have hb3:(i:Int)<=(n:Int)+1:=by omega
 have hb4:¬(c=i):=by omega
 have hcp1:∀ty dc sc,(Builtin.copy_ #[38,38] ty #[.slice (some ⟨b,off+(i+1)*7,none⟩) (n-i) dc,.slice (some ⟨b,off+i*7,none⟩) (n+1-i) sc]).run Tryz.prog w.drew=.ok (goInt (Nat.min (n+1-i) (n-i))) (w.drew.setCells b (off+(i+1)*7) (cs.drop (i*7))):=fun ty dc sc=>
  uM w.drew _ _ ty 103 7 b (off+(i+1)*7) (n-i) dc ⟨b,off+i*7,none⟩ (n+1-i) sc (cs.drop (i*7)) En info78 (by rw [hdl];congr 1;simp only [Nat.min_def];split<;>omega)
   (fun j v hj=>by rw [Addr.add_lit,Nat.add_assoc];exact hcs (i*7+j) v (by rwa [qat] at hj))
   (fun j hj=>by rw [Nat.add_assoc];exact hsp _ (by omega)) (fun j hj=>by rw [Nat.add_assoc];exact hfz _ (by omega)) (fun v hv=>h1c v (List.mem_of_mem_drop hv))
 obtain ⟨W1,hW1⟩:∃W1,W1=w.drew.setCells b (off+(i+1)*7) (cs.drop (i*7)):=⟨_,rfl⟩;have hsp1:∀k,k<(n+1)*7->(W1.cell? ⟨b,off+k,none⟩).isSome=true:=fun k hk=>by rw [hW1];exact isSome_setCells b _ _ _ (fun j hj=>by rw [Nat.add_assoc];exact hsp _ (by omega)) _ (hsp k hk)
 have hcp2:∀(W:World),(∀x,W.cell? x=W1.cell? x)->(∀x,W.frozen? x=W1.frozen? x)->∀ty dc,(Builtin.copy_ #[38,38] ty #[.slice (some ⟨b,off+i*7,none⟩) (n+1-i) dc,.slice (some ⟨vb,voff,none⟩) 1 vc]).run Tryz.prog W=.ok (goInt (Nat.min 1 (n+1-i))) (W.setCells b (off+i*7) vs):=fun W hWc hWf ty dc=>
  uM W _ _ ty 103 7 b (off+i*7) (n+1-i) dc ⟨vb,voff,none⟩ 1 vc vs En info78 (by rw [hvl];simp only [Nat.min_def];split<;>omega)
   (fun j v hj=>by
    have hj':j<7:=by rw [<-hvl];exact (qak.1 hj).1
    rw [Addr.add_lit,hWc,hW1,World.cell?_setCells_out b _ _ _ _ (fun h _=>by
     dsimp only at h ⊢;have h5:=hdis j (voff+j-off) hj';by_cases h6:off<=voff+j/\voff+j-off<(n+1)*7;·exact absurd (by omega) (h5 h6.2 h)
     omega)]
    exact hvs j v hj)
   (fun j hj=>by rw [hWc,Nat.add_assoc];exact hsp1 _ (by omega)) (fun j hj=>by rw [hWf,hW1,World.frozen?_setCells,Nat.add_assoc];exact hfz _ (by omega)) h1v
 rw [<-hW1] at hcp1;have mixed:Tryz.prog.follows .mixedOrders=true:=by kernel_rfl
 go_enter Tryz.func149,Tryz.ntmps149
 go_wp2_with (simp only [hov])
 go_region_law_o (refine step_copy_runI rfl _ _ 38 38 rfl _ _ (by simp [Act.eval,Act.put]) (by simp [Act.eval,Act.put]) (hcp1 _ _ _) ?_)
 go_wp2_with (at_builtin;refine wpList_copy_runI _ rfl _ _ 38 38 rfl _ _ rfl rfl (hcp2 _ (fun _=>rfl) (fun _=>rfl) _ _) ?_)
 go_ret
 first|exact ⟨rfl,rfl⟩|exact ⟨rfl,by rw [hW1]⟩
set_option maxHeartbeats 4000000 in
set_option maxRecDepth 100000 in
theorem zaJ (ob:Option Addr)(n c vb voff vc:Nat)(w w1:World)(v:Value)(hnc:n<=c)(hn3:n<=2000000)(hnil:ob=none->n=0/\c=0)
  (hrun:∀ty,(Builtin.append_ #[38,38] ty #[.slice ob n c,.slice (some ⟨vb,voff,none⟩) 1 vc]).run Tryz.prog w=.ok v w1):
  Calls Tryz.prog 149 #[.slice ob n c,.int .i64 n,.slice (some ⟨vb,voff,none⟩) 1 vc] w fun e w'=>e=.returned v/\w'=w1:=by
 have mixed:Tryz.prog.follows .mixedOrders=true:=by kernel_rfl
 go_enter Tryz.func149,Tryz.ntmps149
 cases ob with
 |none=>
  obtain ⟨rfl,rfl⟩:=hnil rfl
  go_wp2_with (at_builtin;refine Lib.wpList_append_run _ rfl _ _ _ _ rfl _ _ rfl rfl _ _ (hrun _) ?_)
  go_ret
  exact ⟨rfl,rfl⟩
 |some a=>
  obtain ⟨ab,ao,asp⟩:=a
  go_wp2_with (at_builtin;refine Lib.wpList_append_run _ rfl _ _ _ _ rfl _ _ rfl rfl _ _ (hrun _) ?_)
  all_goals (go_ret;exact ⟨rfl,rfl⟩)
def zpM (r:Array Value)(l:List Value):Prop:=r=l.toArray
theorem zjw:(Tryz.prog.info? 103).map (fun i=>(i.zero.map (·.cells.size),i.size,i.bytes))=some (some 7,7,104):=by kernel_rfl
theorem zwi:Tryz.prog.underlying 3=some (.int .i64):=by kernel_rfl
set_option maxHeartbeats 4000000 in
set_option maxRecDepth 100000 in
theorem zeX (b off n c i vb voff vc:Nat)(cs vs:List Value)(w:World)(hi:i<n)(hnc:n<=c)(hroom:c<n+1)(hc63:c<=4000000)
  (hcl:cs.length=n*7) (hvl:vs.length=7)
  (hcs:∀j v,cs[j]?=some v->w.cell? ⟨b,off+j,none⟩=some v)
  (hvs:∀j v,vs[j]?=some v->w.cell? ⟨vb,voff+j,none⟩=some v) (h1c:∀v∈cs,v.oneCell'=true) (h1v:∀v∈vs,v.oneCell'=true):
  Calls Tryz.prog 149 #[.slice (some ⟨b,off,none⟩) n c,.int .i64 i,.slice (some ⟨vb,voff,none⟩) 1 vc] w fun e w'=>
   ∃(G:Nat) (tl:List Value),n+1<=G/\e=.returned (.slice (some ⟨w.heap.size,0,none⟩) (n+1) G)/\tl.length=(G-i)*7/\
   w'=(((w.alloc (.cells ((cs.take (i*7))++tl).toArray 103)).drew.setCells w.heap.size (i*7) vs).drew).setCells w.heap.size ((i+1)*7) (cs.drop (i*7)):=by
 obtain ⟨i0,hi0,hz0,hzs,hzb⟩:∃i0,Tryz.prog.info? 103=some i0/\i0.zero.map (·.cells.size)=some 7/\i0.size=7/\i0.bytes=104:=by obtain ⟨i0,h1,h2⟩:=qac.1 zjw;simp only [qaI] at h2;exact ⟨i0,h1,h2.1,h2.2.1,h2.2.2⟩
 obtain ⟨zv,hz0,hzc⟩:=qac.1 hz0;have hz2:¬((i:Int)=(n:Int)):=by omega
 have hz3:(c:Int)<(n:Int)+1:=by omega
 have hbw:b<w.heap.size:=block_lt_of_cell (hcs 0 _ (qad (by omega)));have hvw:vb<w.heap.size:=block_lt_of_cell (hvs 0 _ (qad (by omega)));have hkk:(n:Int)+1-(i:Int)=((n+1-i:Nat):Int):=by omega
 have hik:i+(n+1-i)=n+1:=by omega
 have hold:(Builtin.firstCells i0.size i (.slice (some ⟨b,off,none⟩) i c)).run Tryz.prog w.drew=.ok (cs.take (i*7)).toArray w.drew:=by
  rw [hzs];exact run_firstCells_some w.drew 7 i ⟨b,off,none⟩ i c (cs.take (i*7)) (by rw [qai];omega) (fun j v hj=>by
   rw [Addr.add_lit];rw [qau] at hj;split at hj;·exact hcs j v hj
   cases hj)
 have hrz:∀ty,(Builtin.append_ #[38,3] ty #[.slice (some ⟨b,off,none⟩) i c,.int .i64 ((n:Int)+1-(i:Int))]).run Tryz.prog w=
   .ok (.slice (some ⟨w.heap.size,0,none⟩) (n+1) (grownCap w (n+1) c 103)) (w.drew.alloc (.cells ((cs.take (i*7)).toArray++Builtin.zeroCells zv.cells (n+1-i)++Builtin.zeroCells zv.cells (grownCap w (n+1) c 103-(n+1))) 103)):=fun ty=>by
  have h:=Lib.run_append_grow_zeros w 38 3 ty 103 i0 zv .i64 .i64 En zwi hi0 hz0 (some ⟨b,off,none⟩) i c (cs.take (i*7)) hold (n+1-i) (by omega) (by omega) (by omega) (by omega) (by rw [hzb];omega) (by rw [hzb,hik];exact growslice_fits hroom (by omega));rw [hik] at h;rw [hkk];exact h
 have hGn:n+1<=grownCap w (n+1) c 103:=grownCap_ge w _ _ _;have hG63:grownCap w (n+1) c 103<=9223372036854775807:=by have:=grownCap_le_maxLen w (n+1) c 103 (by unfold maxLen;omega);unfold maxLen at this;omega
 generalize grownCap w (n+1) c 103=G at hrz hGn hG63;have hzl:∀k,(Builtin.zeroCells zv.cells k).size=k*7:=fun k=>by simp [Builtin.zeroCells,hzc]
 obtain ⟨tl,htl⟩:∃tl:List Value,(cs.take (i*7)).toArray++Builtin.zeroCells zv.cells (n+1-i)++Builtin.zeroCells zv.cells (G-(n+1))=((cs.take (i*7))++tl).toArray/\tl.length=(G-i)*7:=by
  refine ⟨(Builtin.zeroCells zv.cells (n+1-i)).toList++(Builtin.zeroCells zv.cells (G-(n+1))).toList,?_,?_⟩;·apply Array.toList_inj.1;simp
  rw [qaw,Array.length_toList,Array.length_toList,hzl,hzl];omega
 obtain ⟨htl,zuE⟩:=htl;rw [htl] at hrz;obtain ⟨ROW,hROW⟩:∃ROW:Array Value,ROW=((cs.take (i*7))++tl).toArray:=⟨_,rfl⟩;have hRl:(n+1)*7<=ROW.size:=by rw [hROW];simp only [List.size_toArray,qaw,qai,zuE];omega
 rw [<-hROW] at hrz;obtain ⟨W1,hW1⟩:∃W1,W1=w.drew.alloc (.cells ROW 103):=⟨_,rfl⟩;rw [<-hW1] at hrz;have hN:∀j,j<(n+1)*7->(W1.cell? ⟨w.heap.size,j,none⟩).isSome=true:=fun j hj=>by rw [hW1,World.cell?_alloc_at (w:=w.drew) ROW _ w.heap.size j rfl,qaD (by omega)];rfl
 have hNf:∀j,W1.frozen? ⟨w.heap.size,j,none⟩=false:=fun j=>by rw [hW1];exact World.frozen?_alloc_at (w:=w.drew) ROW _ w.heap.size j rfl
 have hOb:∀j v,w.cell? ⟨b,j,none⟩=some v->W1.cell? ⟨b,j,none⟩=some v:=fun j v h=>by rw [hW1,World.cell?_alloc_past (w:=w.drew) _ b j hbw];exact h
 have hOv:∀j v,w.cell? ⟨vb,j,none⟩=some v->W1.cell? ⟨vb,j,none⟩=some v:=fun j v h=>by rw [hW1,World.cell?_alloc_past (w:=w.drew) _ vb j hvw];exact h
 have hcpA:∀(W:World),(∀x,W.cell? x=W1.cell? x)->(∀x,W.frozen? x=W1.frozen? x)->∀ty dc,(Builtin.copy_ #[38,38] ty #[.slice (some ⟨w.heap.size,i*7,none⟩) (n+1-i) dc,.slice (some ⟨vb,voff,none⟩) 1 vc]).run Tryz.prog W=.ok (goInt (Nat.min 1 (n+1-i))) (W.setCells w.heap.size (i*7) vs):=fun W hWc hWf ty dc=>
  uM W _ _ ty 103 7 w.heap.size (i*7) (n+1-i) dc ⟨vb,voff,none⟩ 1 vc vs En info78 (by rw [hvl];simp only [Nat.min_def];split<;>omega)
   (fun j v hj=>by rw [Addr.add_lit,hWc];exact hOv _ v (hvs j v hj))
   (fun j hj=>by rw [hWc];exact hN _ (by omega)) (fun j hj=>by rw [hWf];exact hNf _) h1v
 have hGi:¬(G=i):=by omega
 have hGim:¬(G=i+1):=by omega
 have hci:¬(c=i):=by omega
 have hbN:b≠w.heap.size:=by omega
 have hdl:(cs.drop (i*7)).length=(n-i)*7:=by rw [qaK,hcl];omega
 have hcpB:∀(W:World),(∀x,W.cell? x=(W1.setCells w.heap.size (i*7) vs).cell? x)->(∀x,W.frozen? x=(W1.setCells w.heap.size (i*7) vs).frozen? x)->∀ty dc sc,(Builtin.copy_ #[38,38] ty #[.slice (some ⟨w.heap.size,(i+1)*7,none⟩) (n-i) dc,.slice (some ⟨b,off+i*7,none⟩) (n-i) sc]).run Tryz.prog W=.ok (goInt (Nat.min (n-i) (n-i))) (W.setCells w.heap.size ((i+1)*7) (cs.drop (i*7))):=fun W hWc hWf ty dc sc=>
  uM W _ _ ty 103 7 w.heap.size ((i+1)*7) (n-i) dc ⟨b,off+i*7,none⟩ (n-i) sc (cs.drop (i*7)) En info78 (by rw [hdl];simp)
   (fun j v hj=>by rw [Addr.add_lit,hWc,World.cell?_setCells_out _ _ _ _ _ (fun h _=>absurd h hbN),Nat.add_assoc];exact hOb _ v (hcs (i*7+j) v (by rwa [qat] at hj)))
   (fun j hj=>by rw [hWc];exact isSome_setCells _ _ _ _ (fun t ht=>hN _ (by omega)) _ (hN _ (by omega)))
   (fun j hj=>by rw [hWf,World.frozen?_setCells];exact hNf _) (fun v hv=>h1c v (List.mem_of_mem_drop hv))
 subst hW1;have hE1:∀x,((w.alloc (.cells ROW 103)).drew).cell? x=(w.drew.alloc (.cells ROW 103)).cell? x:=fun x=>rfl;have hE2:∀x,((w.alloc (.cells ROW 103)).drew).frozen? x=(w.drew.alloc (.cells ROW 103)).frozen? x:=fun x=>rfl;have hF1:∀x,(((w.alloc (.cells ROW 103)).drew.setCells w.heap.size (i*7) vs).drew).cell? x=((w.drew.alloc (.cells ROW 103)).setCells w.heap.size (i*7) vs).cell? x:=fun x=>rfl;have hF2:∀x,(((w.alloc (.cells ROW 103)).drew.setCells w.heap.size (i*7) vs).drew).frozen? x=((w.drew.alloc (.cells ROW 103)).setCells w.heap.size (i*7) vs).frozen? x:=fun x=>rfl;have hw1:IntKind.i64.wrap ((i:Int)+1)=(i:Int)+1:=by rw [IntKind.wrap_i64];omega
 have hb1:(0:Int)<=(i:Int)+1:=by omega
 have hin:i<=n:=by omega
 have htn:((i:Int)+1).toNat=i+1:=by omega
 have hb3:(i:Int)<=(n:Int):=by omega
 have mixed:Tryz.prog.follows .mixedOrders=true:=by kernel_rfl
 have hkeep:zpM ROW ((cs.take (i*7))++tl):=hROW;clear hkk hik hold hRl htl hROW
 go_enter Tryz.func149,Tryz.ntmps149
 go_wp2_with (first
  |(at_builtin;refine Lib.wpList_append_run _ rfl _ _ _ _ rfl _ _ rfl rfl _ _ (hrz _) ?_)
  |(at_builtin;refine wpList_copy_runI _ rfl _ _ 38 38 rfl _ _ rfl rfl (hcpA _ hE1 hE2 _ _) ?_)
  |(at_builtin;refine wpList_copy_runI _ rfl _ _ 38 38 rfl _ _ rfl rfl (hcpB _ (fun _=>rfl) (fun _=>rfl) _ _ _) ?_))
 go_region_law_o (refine step_copy_runI rfl _ _ 38 38 rfl (.slice (some ⟨w.heap.size,(i+1)*7,none⟩) (n-i) (G-(i+1))) (.slice (some ⟨b,off+i*7,none⟩) (n-i) (c-i)) (by simp [Act.eval,Act.put]) (by simp [Act.eval,Act.put]) (hcpB _ hF1 hF2 3 (G-(i+1)) (c-i)) ?_)
 go_wp2
 go_ret
 exact ⟨G,tl,hGn,rfl,zuE,by unfold zpM at hkeep;rw [<-hkeep]⟩
section
variable {P:Program} {R:aP} {K:Kn}
theorem yL {w w':World}{c0 c':CB}{sz:Nat}{new:qaV}{res:X}(hI:Inv P R K [c0] [.row sz rows] w)(hf:aK c0.owns w w')(hown:∀b o,c'.owns b o->c0.owns b o\/w.heap.size<=b)
  (hB:BoxOk P R K ([c0]++[c']) w' (.row sz new) c') (hres:Rep K ([c0]++[c']) res v):Post P R K [c0] [.row sz rows] w res [.dead,.row sz new] (.returned v) w':=by
 have m:∀b o,¬kT [c0] [Bx.dead] b o:=by
  rintro b o ⟨i,c,B,j,a,n,A⟩
  cases i with
  |zero=>simp at a;subst a;simp [Bx.live] at n
  |succ i=>simp at a
 have f:∀b o,c0.owns b o->kT [c0] [Bx.row sz rows] b o:=fun b o h=>⟨0,c0,.row sz rows,rfl,rfl,rfl,h⟩;have q:=hI.kill 0;have y:Inv P R K [c0] [.dead] w':=Inv.frame q hf (fun b o v e l=>by have:=hI.apart b o (f b o l);rw [this] at e;cases e) (fun b o l=>absurd l (m b o));refine ⟨v,K,[c'],rfl,⟨y.push hB (fun b o l=>?_) (fun b o _=>m b o),hres,KLe.refl _,fun b o u e=>.inl e,fun b o l=>?_,hf.mono fun b o _ h=>f b o h,fun i B e E=>?_⟩⟩
 ·rcases hown b o l with h|h;·exact hI.apart b o (f b o h)
  cases q:K b o with
  |none=>rfl
  |some u=>have:=hI.yY q;omega
 ·obtain ⟨i,c,B,j,a,n,A⟩:=l
  match i,j,a with
  |0,j,a=>simp at a;subst a;simp [Bx.live] at n
  |1,j,a=>
   simp at j;subst j;rcases hown b o A with h|h;·exact .inl (f b o h)
   exact .inr h
  |i+2,j,a=>simp at a
 cases i with
 |zero=>simp at e;subst e;cases E
 |succ i=>simp at e
theorem oz (l vs:List Value)(o q:Nat)(h:o+vs.length<=l.length):(l.take o++vs++l.drop (o+vs.length)).toArray[q]?=if q<o then l[q]? else if q<o+vs.length then vs[q-o]? else l[q]?:=by
 have j:(l.take o).length=o:=by rw [qai];omega
 rw [List.getElem?_toArray];by_cases a:q<o;·rw [if_pos a,qaM,qap (by omega),qau,if_pos a]
 rw [if_neg a,qaM,qax (by omega),j];by_cases f:q<o+vs.length;·rw [if_pos f,qap (by omega)]
 rw [if_neg f,qax (by omega),qat]
 congr 1;omega
theorem nH (W:World)(b o:Nat)(arr:Array Value)(el:TypeId)(vs:List Value)(hb:W.heap[b]?=some (.cells arr el (0,0)))(hl:o+vs.length<=arr.size)(h1:∀v∈vs,v.oneCell'=true):
  W.setCells b o vs=W.setRow b (arr.toList.take o++vs++arr.toList.drop (o+vs.length)).toArray:=by
 have h:∀j,j<vs.length->(W.cell? ⟨b,o+j,none⟩).isSome=true:=fun j m=>by simp only [World.cell?,hb];rw [qaD (by omega)];rfl
 have l:∀j,j<vs.length->W.frozen? ⟨b,o+j,none⟩=false:=fun j m=>by simp [World.frozen?,hb]
 have f:=run_storeCells_cells (P:=Tryz.prog) b o vs 0 W (by simpa using h) (by simpa using l) h1;have a:=run_storeCells_at Tryz.prog b o el vs 0 arr W hb (by omega) h1;rw [f] at a;simp only [Nat.add_zero] at a;injection a
theorem zeY {K:Kn}{x:List X}(hf:Flat K 7 rows cs)(hv:Flat K 7 [x] vs)(i:Nat):Flat K 7 (rows.take i++[x]++rows.drop i) (cs.take (i*7)++vs++cs.drop (i*7)):=
 ((hf.take i).append hv).append (hf.drop i)
theorem QG {n i k:Nat}(hcl:cs.length=n*7)(hvl:vs.length=7)(hi:i<=n)(h:(cs.take (i*7)++vs++cs.drop (i*7))[k]?=some v):
  (k<i*7/\cs[k]?=some v)\/(i*7<=k/\k<(i+1)*7/\vs[k-i*7]?=some v)\/((i+1)*7<=k/\k<(n+1)*7/\cs[k-7]?=some v):=by
 have j:(cs.take (i*7)).length=i*7:=by rw [qai];omega
 by_cases a:k<i*7;·rw [qaM,qap (by omega),qau,if_pos a] at h;exact .inl ⟨a,h⟩
 rw [qaM,qax (by omega),j] at h;by_cases f:k<(i+1)*7;·rw [qap (by omega)] at h;exact .inr (.inl ⟨by omega,f,h⟩)
 rw [qax (by omega),qat] at h;have e:i*7+(k-i*7-vs.length)=k-7:=by omega
 rw [e] at h;have:=(qak.1 h).1;exact .inr (.inr ⟨by omega,by omega,h⟩)
set_option maxRecDepth 100000 in
theorem zju {R:aP}(n i:Nat)(t:Bool)(x:List X)(rows:qaV)(hi:i<=n)(hn:n=rows.length)(hn2:n<=2000000):
  JF Tryz.prog R 149 [.bs 0 0 n,.v (.int .i64 (Int.ofNat i)),.sl t 7 [x]] [.row 7 rows] (.bs 1 0 (n+1)) [.dead,.row 7 (rows.take i++[x]++rows.drop i)]:=by
 intro K C w O hI ha;have hs:O.size=3:=ha.1;have r0:=ha.2 0 _ O[0] rfl (qaD (by omega));have r1:=ha.2 1 _ O[1] rfl (qaD (by omega));have r2:=ha.2 2 _ O[2] rfl (qaD (by omega));have qa:O=#[O[0],O[1],O[2]]:=by
  refine Array.ext (by simp [hs]) fun j J l=>?_
  match j,J,l with
  |0,_,_=>rfl
  |1,_,_=>rfl
  |2,_,_=>rfl
  |j+3,J,_=>omega
 rw [qa];generalize O[0]=v0 at r0;generalize O[1]=v1 at r1;generalize O[2]=v2 at r2;obtain rfl:=fJ r1;obtain ⟨c0,hC⟩:∃c0,C=[c0]:=by
  have:=hI.size
  match C,this with
  |[c0],_=>exact ⟨c0,rfl⟩
 subst hC;obtain ⟨vb,vo,c2,rfl⟩:∃vb vo c2,v2=.slice (some ⟨vb,vo,none⟩) 1 c2:=by
  generalize hx:X.sl t 7 [x]=y at r2;cases r2<;>try cases hx
  exact ⟨_,_,_,rfl⟩
 obtain ⟨f,hv,pv⟩:=r2.flat;have N:f.length=7:=by simpa using hv.len
 have pe:∀j v,f[j]?=some v->w.cell? ⟨vb,vo+j,none⟩=some v:=fun j v h=>hI.known _ _ _ (pv j v h);have Q:=hv.oneCell;obtain ⟨tA,kA,ra,qn⟩:∃tA kA,w.shape? vb=some (tA,kA)/\kA≠0:=by
  have h0:=pe 0 _ (qad (by omega));unfold World.cell? at h0;split at h0;next a el fr hh=>refine ⟨el,a.size,by simp [World.shape?,hh],fun e=>?_⟩;have:=(qaS.1 h0).1;omega
  cases h0
 have px:∀w':World,w'.heap=w.heap->(Builtin.firstCells 7 1 (.slice (some ⟨vb,vo,none⟩) 1 c2)).run Tryz.prog w'=.ok f.toArray w':=fun w' hw=>by refine run_firstCells_some w' 7 1 ⟨vb,vo,none⟩ 1 c2 f (by omega) (fun j u hu=>?_);rw [Addr.add_lit];have:=pe j u hu;simp only [World.cell?,hw] at this ⊢;exact this
 have pl:(pK Tryz.prog 103).isSome=true:=by kernel_rfl
 obtain ⟨rk,pl⟩:=Option.isSome_iff_exists.1 pl;have py:eF Tryz.prog 103=some 7:=by kernel_rfl
 have rh:vY Tryz.prog 103=some 104:=by kernel_rfl
 have pw:∀(ob:Option Addr) (c:Nat) (olds:List Value),i=n->n<=c->c<n+1->(ob=none->n=0/\c=0)->Flat K 7 rows olds->(∀w':World,w'.heap=w.heap->(Builtin.firstCells 7 n (.slice ob n c)).run Tryz.prog w'=.ok olds.toArray w')->
   Calls Tryz.prog 149 #[.slice ob n c,.int .i64 (Int.ofNat i),.slice (some ⟨vb,vo,none⟩) 1 c2] w (Post Tryz.prog R K [c0] [.row 7 rows] w (.bs 1 0 (n+1)) [.dead,.row 7 (rows.take i++[x]++rows.drop i)]):=by
  intro ob c olds pd qs qd ps po rg;subst pd;have qf:∃rest:List Value,(∀ty,(Builtin.append_ #[38,38] ty #[.slice ob i c,.slice (some ⟨vb,vo,none⟩) 1 c2]).run Tryz.prog w=.ok (.slice (some ⟨w.heap.size,0,none⟩) (i+1) (grownCap w (i+1) c 103)) (w.drew.alloc (.cells (olds++f++rest).toArray 103)))/\rest.length=(grownCap w (i+1) c 103-(i+1))*7:=by obtain ⟨rest,J,l⟩:=sJ (P:=Tryz.prog) (w:=w) (ty:=0) (ob:=ob) (oc:=some ⟨vb,vo,none⟩) (n:=i) (cap:=c) (m:=1) (c:=c2) En En py rh pl olds f rg px qd (by omega) (by omega) (by omega);exact ⟨rest,fun ty=>J,l⟩
  obtain ⟨rest,M,pt⟩:=qf;have hm:=grownCap_ge w (i+1) c 103;generalize grownCap w (i+1) c 103=m at M pt hm;refine (zaJ ob i c vb vo c2 w _ _ qs hn2 ps M).mono ?_
  rintro e w' ⟨rfl,rfl⟩
  have qi:=po.append hv;have e1:rows.take i++[x]++rows.drop i=rows++[x]:=by rw [hn,List.take_length,List.drop_length,List.append_nil]
  rw [e1];have qv:olds.length=i*7:=by rw [po.len,<-hn]
  have rj:(olds++f++rest).toArray.size=m*7:=by simp only [List.size_toArray,qaw,qv,N,pt];omega
  refine yL (c':=.at w.heap.size 0 (m*7) 7) hI (aK.trans (aK.drew _ w) (aK.alloc (S:=c0.owns) _ _) (fun _ _ _ h=>h)) (fun b o h=>.inr (by rw [h.1];exact Nat.le_refl _)) (qi.box (kD w.drew _) (fun k v hk=>?_) (by simp only [qaw,List.length_singleton];omega) (by omega)) ?_;·rw [Nat.zero_add,List.getElem?_toArray,qap (qak.1 hk).1];exact hk
  have:=@Rep.bs K ([c0]++[.at w.heap.size 0 (m*7) 7]) 1 0 (i+1) w.heap.size 0 (m*7) 7 m rfl (by omega) (by omega);simpa using this
 generalize re:X.bs 0 0 n=y0 at r0;cases r0<;>try cases re
 case mM ob hc=>
  have e0:c0=.ghost:=by simpa using hc
  subst e0;have qm:i=0:=by omega
  have qz:rows=[]:=qaL hn.symm;refine pw ob 0 [] qm (Nat.le_refl _) (by omega) (fun _=>⟨rfl,rfl⟩) (by rw [qz];exact Flat.nil) (fun w' _=>?_);cases ob<;>simp [Builtin.firstCells,loadCells,loadCellsFrom]
 case bs b base hi' sz cap hc hcap hlen=>
  have e0:c0=.at b base hi' sz:=by simpa using hc
  subst e0;obtain ⟨a,el,g1,g2,g3,B,Y⟩:=(hI.box 0 _ _ rfl rfl).flat;subst g1;simp only [Nat.zero_mul,Nat.zero_add,Nat.add_zero] at hcap ⊢;generalize qb:(a.toList.drop base).take (rows.length*7)=cs at Y;have L:cs.length=n*7:=by rw [Y.len,<-hn]
  have W:∀j v,cs[j]?=some v->a[base+j]?=some v:=fun j v h=>by
   rw [<-qb,qau] at h;split at h;·rw [qat] at h;simpa using h
   cases h
  have pi:∀j v,cs[j]?=some v->w.cell? ⟨b,base+j,none⟩=some v:=fun j v h=>by simp only [World.cell?,B];exact W j v h
  have pc:=Y.oneCell;have qu:∀o,base<=o->o<hi'->K b o=none:=fun o J l=>hI.apart b o ⟨0,_,_,rfl,rfl,rfl,⟨rfl,J,l⟩⟩;have pp:∀o,w.frozen? ⟨b,o,none⟩=false:=fun o=>by simp [World.frozen?,B]
  have pb:=zeY Y hv i;by_cases pd:i=n
  ·by_cases E:n+1<=cap
   ·subst pd;have pu:=run_storeCells_at Tryz.prog b (base+i*7) el f 0 a w B (by omega) Q;simp only [Nat.add_zero] at pu;have M:∀ty,(Builtin.append_ #[38,38] ty #[.slice (some ⟨b,base,none⟩) i cap,.slice (some ⟨vb,vo,none⟩) 1 c2]).run Tryz.prog w=.ok (.slice (some ⟨b,base,none⟩) (i+1) cap) (w.setRow b (a.toList.take (base+i*7)++f++a.toList.drop (base+i*7+f.length)).toArray):=fun ty=>qx (P:=Tryz.prog) (ty:=ty) (ob:=some ⟨b,base,none⟩) En En py f _ (px w rfl) E (fun ad e=>by cases e;rw [Addr.add_lit];exact pu) (fun e=>by cases e);refine (zaJ _ i cap vb vo c2 w _ _ (by omega) hn2 (fun e=>by cases e) M).mono ?_
    rintro e w' ⟨rfl,rfl⟩
    have Z:∀q,(a.toList.take (base+i*7)++f++a.toList.drop (base+i*7+f.length)).toArray[q]?=if q<base+i*7 then a[q]? else if q<base+i*7+f.length then f[q-(base+i*7)]? else a[q]?:=fun q=>by rw [oz _ _ _ _ (by have:a.toList.length=a.size:=Array.length_toList;omega)];simp
    have pa:(a.toList.take (base+i*7)++f++a.toList.drop (base+i*7+f.length)).toArray.size=a.size:=by simp;omega
    generalize (a.toList.take (base+i*7)++f++a.toList.drop (base+i*7+f.length)).toArray=arr' at Z pa;refine yL (c':=.at b base hi' 7) hI (aK.setRow B pa fun q hq=>?_) (fun b' o' h=>.inl h) (pb.box (setRow_heap w b a arr' el _ B) (fun k v hk=>?_) (by rw [pb.len.symm.trans (by simp;omega:_=(i+1)*7)];omega) (by omega)) ?_
    ·rw [Z];have pf:¬(base<=q/\q<hi'):=fun hh=>hq ⟨rfl,hh.1,hh.2⟩;by_cases h5:q<base+i*7;·rw [if_pos h5]
     rw [if_neg h5,if_neg (by omega)]
    ·rw [Z];rcases QG L N (Nat.le_refl _) hk with ⟨J,l⟩|⟨J,l,h3⟩|⟨J,l,h3⟩;·rw [if_pos (by omega)];exact W k v l
     ·rw [if_neg (by omega),if_pos (by omega),<-h3];congr 1;omega
     omega
    have:=@Rep.bs K ([.at b base hi' 7]++[.at b base hi' 7]) 1 0 (i+1) b base hi' 7 cap rfl (by omega) E;simpa using this
   refine pw (some ⟨b,base,none⟩) cap cs pd (by omega) (by omega) (fun e=>by cases e) Y (fun w' hw=>?_);refine run_firstCells_some w' 7 n ⟨b,base,none⟩ n cap cs (by omega) (fun j u hu=>?_);rw [Addr.add_lit];have:=pi j u hu;simp only [World.cell?,hw] at this ⊢;exact this
  have pq:i<n:=by omega
  by_cases E:n+1<=cap
  ·have qr:a.toList.length=a.size:=Array.length_toList;have rb:w.shape? b=some (el,a.size):=by simp [World.shape?,B]
   refine (zaI b base n cap i vb vo c2 cs f w pq E hn2 (fun j k hj hk e qt=>?_) L N pi (fun j hj=>?_) (fun j _=>pp _) pe pc Q tA el kA a.size ra rb (by omega) qn pp).mono ?_;·have pr:=pv j _ (qad (by omega));rw [e,qt,qu _ (by omega) (by omega)] at pr;cases pr
   ·simp only [World.cell?,B];rw [qaD (by omega)];rfl
   rintro e w' ⟨rfl,rfl⟩
   have qe:(cs.drop (i*7)).length=(n-i)*7:=by rw [qaK,L];omega
   have pn:w.drew.heap[b]?=some (.cells a el (0,0)):=B;rw [nH w.drew b _ a el _ pn (by omega) (fun v pj=>pc v (List.mem_of_mem_drop pj))];have Dt:=fun q=>oz a.toList (cs.drop (i*7)) (base+(i+1)*7) q (by omega);have F:(a.toList.take (base+(i+1)*7)++cs.drop (i*7)++a.toList.drop (base+(i+1)*7+(cs.drop (i*7)).length)).toArray.size=a.size:=by simp only [List.size_toArray,qaw,qai,qaK,qr];omega
   generalize (a.toList.take (base+(i+1)*7)++cs.drop (i*7)++a.toList.drop (base+(i+1)*7+(cs.drop (i*7)).length)).toArray=arr1 at Dt F ⊢;have U:=setRow_heap w.drew b a arr1 el (0,0) pn;have pk:arr1.toList.length=arr1.size:=Array.length_toList;rw [nH _ b _ arr1 el _ U (by omega) Q];have Ot:=fun q=>oz arr1.toList f (base+i*7) q (by omega);have H:(arr1.toList.take (base+i*7)++f++arr1.toList.drop (base+i*7+f.length)).toArray.size=arr1.size:=by simp only [List.size_toArray,qaw,qai,qaK,pk];omega
   generalize (arr1.toList.take (base+i*7)++f++arr1.toList.drop (base+i*7+f.length)).toArray=zmU at Ot H ⊢;have ph:=setRow_heap _ b arr1 zmU el (0,0) U;simp only [Array.getElem?_toList] at Dt Ot;refine yL (c':=.at b base hi' 7) hI (aK.trans (aK.drew _ w) (aK.trans (aK.setRow pn F fun q hq=>?_) (aK.setRow (S:=(CB.at b base hi' 7).owns) U H fun q hq=>?_) (fun _ _ _ h=>h)) (fun _ _ _ h=>h)) (fun b' o' h=>.inl h) (pb.box ph (fun k v hk=>?_) ?_ (by omega)) ?_
   ·rw [Dt];have pf:¬(base<=q/\q<hi'):=fun hh=>hq ⟨rfl,hh.1,hh.2⟩;by_cases h5:q<base+(i+1)*7;·rw [if_pos h5]
    rw [if_neg h5,if_neg (by omega)]
   ·rw [Ot];have pf:¬(base<=q/\q<hi'):=fun hh=>hq ⟨rfl,hh.1,hh.2⟩;by_cases h5:q<base+i*7;·rw [if_pos h5]
    rw [if_neg h5,if_neg (by omega)]
   ·rw [Ot];rcases QG L N hi hk with ⟨J,l⟩|⟨J,l,h3⟩|⟨J,l,h3⟩;·rw [if_pos (by omega),Dt,if_pos (by omega)];exact W k v l
    ·rw [if_neg (by omega),if_pos (by omega),<-h3];congr 1;omega
    rw [if_neg (by omega),if_neg (by omega),Dt,if_neg (by omega),if_pos (by omega),qat,<-h3];congr 1;omega
   ·have:=pb.len;simp only [qaw,qai,qaK,List.length_singleton];omega
   have:=@Rep.bs K ([.at b base hi' 7]++[.at b base hi' 7]) 1 0 (n+1) b base hi' 7 cap rfl (by omega) E;simpa using this
  refine (zeX b base n cap i vb vo c2 cs f w pq (by omega) (by omega) (by omega) L N pi pe pc Q).mono ?_
  rintro e w' ⟨G,tl,hG,rfl,rd,rfl⟩
  have qe:(cs.drop (i*7)).length=(n-i)*7:=by rw [qaK,L];omega
  have pz:(cs.take (i*7)).length=i*7:=by rw [qai];omega
  generalize hA:(cs.take (i*7)++tl).toArray=A;have ri:A.size=G*7:=by rw [<-hA,List.size_toArray,qaw,pz,rd];omega
  have qq:A.toList.length=A.size:=Array.length_toList;have pg:(w.alloc (.cells A 103)).drew.heap[w.heap.size]?=some (.cells A 103 (0,0)):=kD w _;rw [nH _ _ _ A 103 _ pg (by omega) Q];have Dt:=fun q=>oz A.toList f (i*7) q (by omega);have F:(A.toList.take (i*7)++f++A.toList.drop (i*7+f.length)).toArray.size=A.size:=by simp only [List.size_toArray,qaw,qai,qaK,qq];omega
  generalize (A.toList.take (i*7)++f++A.toList.drop (i*7+f.length)).toArray=arr1 at Dt F ⊢;have U:=setRow_heap _ w.heap.size A arr1 103 (0,0) pg;have pk:arr1.toList.length=arr1.size:=Array.length_toList;have V:((w.alloc (.cells A 103)).drew.setRow w.heap.size arr1).drew.heap[w.heap.size]?=some (.cells arr1 103 (0,0)):=U;rw [nH _ _ _ arr1 103 _ V (by omega) (fun v pj=>pc v (List.mem_of_mem_drop pj))];have Ot:=fun q=>oz arr1.toList (cs.drop (i*7)) ((i+1)*7) q (by omega);have H:(arr1.toList.take ((i+1)*7)++cs.drop (i*7)++arr1.toList.drop ((i+1)*7+(cs.drop (i*7)).length)).toArray.size=arr1.size:=by simp only [List.size_toArray,qaw,qai,qaK,pk];omega
  generalize (arr1.toList.take ((i+1)*7)++cs.drop (i*7)++arr1.toList.drop ((i+1)*7+(cs.drop (i*7)).length)).toArray=zmU at Ot H ⊢;have ph:=setRow_heap _ w.heap.size arr1 zmU 103 (0,0) V;simp only [Array.getElem?_toList] at Dt Ot;have qk:aK (CB.at b base hi' 7).owns w (((w.alloc (.cells A 103)).drew.setRow w.heap.size arr1).drew.setRow w.heap.size zmU):=by
   have f1:aK (fun p _=>p=w.heap.size) w (((w.alloc (.cells A 103)).drew.setRow w.heap.size arr1).drew.setRow w.heap.size zmU):=
    aK.trans (aK.alloc (S:=fun p _=>p=w.heap.size) w _) (aK.trans (aK.drew _ _) (aK.trans (aK.setRow pg F fun q hq=>absurd rfl hq) (aK.trans (aK.drew _ _) (aK.setRow V H fun q hq=>absurd rfl hq) (fun _ _ _ h=>h)) (fun _ _ _ h=>h)) (fun _ _ _ h=>h)) (fun _ _ _ h=>h)
   exact f1.mono fun p o hp h=>by omega
  refine yL (c':=.at w.heap.size 0 (G*7) 7) hI qk (fun b' o' h=>.inr (by rw [h.1];exact Nat.le_refl _)) (pb.box ph (fun k v hk=>?_) ?_ (by omega)) ?_
  ·rw [Nat.zero_add,Ot];rcases QG L N hi hk with ⟨J,l⟩|⟨J,l,h3⟩|⟨J,l,h3⟩;·rw [if_pos (by omega),Dt,if_pos (by omega),<-hA,List.getElem?_toArray,qap (by omega),qau,if_pos J];exact l
   ·rw [if_pos (by omega),Dt,if_neg (by omega),if_pos (by omega)];exact h3
   rw [if_neg (by omega),if_pos (by omega),qat,<-h3];congr 1;omega
  ·simp only [qaw,qai,qaK,List.length_singleton];omega
  have:=@Rep.bs K ([.at b base hi' 7]++[.at w.heap.size 0 (G*7) 7]) 1 0 (n+1) w.heap.size 0 (G*7) 7 G rfl (by omega) (by omega);simpa using this
end
end Go.Proofs.YtkeefpkcepodeaaGreatDoor.If
namespace Go.Proofs.YtkeefpkcepodeaaGreatDoor
open Go.Em Go.RowKit Go.Lib
theorem znd:zmr Tryz.prog gl tab:=by
 intro f a h;unfold tab at h;split at h;·exact ⟨_,h⟩
 cases h
def zyl:Ext:=fun _=>none
theorem zp7 (n:Nat):uz Tryz.prog (ji Tryz.prog gl) (callF tab zyl n):=LW znd (fun _ _ h=>by cases h) n
theorem zww {n b:Nat}(h:n<=1000000)(hb:b<=1000):cZ n b=true:=by have:n*b<=1000000*1000:=Nat.mul_le_mul h hb;simp only [cZ,qab,qaC];omega
section
noncomputable def tab1:FuncId->Option Fun:=fun f=>if f==289 then zdp Tryz.prog gl ⟨look [(3,[2]),(2,[2]),(1,[0,4]),(0,[0])],look [],[7],[],[],[]⟩ f else none
theorem tabOk1:zmr Tryz.prog gl tab1:=by
 intro f a h;unfold tab1 at h;split at h;·exact ⟨_,h⟩
 cases h
theorem machine1 (n:Nat):uz Tryz.prog (ji Tryz.prog gl) (callF tab1 zyl n):=LW tabOk1 (fun _ _ h=>by cases h) n
theorem clI289:(Tryz.prog.info? 9).map (fun i=>(i.zero.map (·.cells.size),i.size,i.bytes))=some (some 1,1,16):=by kernel_rfl
theorem clU289:Tryz.prog.underlying 22=some (.slice 9):=by kernel_rfl
set_option maxHeartbeats 1000000 in
theorem clN289 (n c:Nat)(w:World):Calls Tryz.prog 289 #[.slice none n c] w fun e w'=>e=.returned (.slice none 0 0)/\w'=w:=by
 have mixed:Tryz.prog.follows .mixedOrders=true:=by kernel_rfl
 have q:∀(w:World) (a:Option Addr) (n c n' c':Nat),(binOp .eql 22 (.slice a n c) (.slice none n' c')).run Tryz.prog w=.ok (.bool a.isNone) w:=fun w a n c n' c'=>Lib.run_eql_slice_nil w _ _ a n c n' c' clU289
 go_enter Tryz.func289,Tryz.ntmps289
 go_wp2
 go_ret
 exact ⟨rfl,rfl⟩
set_option maxHeartbeats 2000000 in
set_option maxRecDepth 100000 in
theorem clZ289 (a:Addr)(c:Nat)(w:World):Calls Tryz.prog 289 #[.slice (some a) 0 c] w fun e w'=>∃v',e=.returned v'/\w'.ownsRow w.heap.size 9 1 v' 0 []/\Below w.heap.size w w':=by
 have mixed:Tryz.prog.follows .mixedOrders=true:=by kernel_rfl
 obtain ⟨i0,hi,hzz⟩:=qac.1 clI289;simp only [qaI] at hzz;obtain ⟨hz0,hz1,hz2⟩:=hzz;obtain ⟨z,hz,hzs⟩:=qac.1 hz0;have q:∀(w:World) (a:Option Addr) (n c n' c':Nat),(binOp .eql 22 (.slice a n c) (.slice none n' c')).run Tryz.prog w=.ok (.bool a.isNone) w:=fun w a n c n' c'=>Lib.run_eql_slice_nil w _ _ a n c n' c' clU289;have u:∀w,Sem.run Tryz.prog (underlying 22) w=.ok (TypeDesc.slice 9) w:=run_underlying clU289
 go_enter Tryz.func289,Tryz.ntmps289
 go_wp2_with (at_builtin;refine wpList_append_own _ rfl _ _ 22 rfl w.heap.size 9 i0 z 1 16 clU289 hi hz hz1 hz2 hzs (by decide) _ _ _ rfl (World.ownsRow_made w #[] 0 (Nat.le_refl _) (Nat.zero_le _) rfl) a 0 c [] rfl rfl (by intro j u hj;simp at hj) (by intro u hu;cases hu) (by unfold maxLen;omega) (by omega) (by simp) ?_)
 intro v' w1 hown hgrow hnil
 go_wp2
 go_ret
 refine ⟨v',rfl,by simpa using hown,?_⟩;exact ((Below.refl _ w).alloc (Nat.le_refl _) _).grown hgrow (by simp) (by intro k hk;simp [Value.ownBlock] at hk;omega)
theorem clM289 (e:List X)(r:qaV)(t:Bool)(N:Nat)(h:(e::r).length<=1000000):callF tab1 zyl (N+1) (.fn 289) [.sl t 1 (e::r)] []=some (.bs 0 0 (e::r).length,[.row 1 (e::r)]):=by have:=zqy (T:=tab1) (ext:=zyl) (N:=N) (f:=289) (args:=[.sl t 1 (e::r)]) (inb:=[]) (r:=some (.bs 0 0 (0+(e::r).length),[.row 1 ([]++(e::r))])) [(7,.fresh)] [] (pf1 (a:=(e::r).isEmpty=false/\cZ (0+(e::r).length) 16=true) ⟨rfl,by rw [Nat.zero_add];exact zww h (by decide)⟩) (by kernel_rfl);rw [Nat.zero_add,List.nil_append] at this;exact this
theorem zpd (t:Bool)(es:qaV)(h:es.length<=1000000):JF Tryz.prog (ji Tryz.prog gl) 289 [.sl t 1 es] [] (.bs 0 0 es.length) [.row 1 es]:=by
 cases es with
 |cons e r=>exact ((machine1 1).fn _ _ _ _ _ (clM289 e r t 0 h)).2
 |nil=>
  intro K C w f A u;have B:f.size=1:=u.1;have m:=u.2 0 _ f[0] rfl (qaD (by omega));have j:f=#[f[0]]:=by
   refine Array.ext (by simp [B]) fun i q y=>?_
   match i,q,y with
   |0,_,_=>rfl
   |i+1,q,_=>omega
  rw [j];generalize f[0]=v at m;have l:Calls Tryz.prog 289 #[v] w fun e n=>∃v',e=.returned v'/\n.ownsRow w.heap.size 9 1 v' 0 []/\Below w.heap.size w n:=by
   generalize E:X.sl t 1 []=x at m;cases m<;>try cases E
   case iJ F=>
    cases F with
    |none=>
     refine (clN289 0 0 w).mono ?_
     rintro e n ⟨rfl,rfl⟩
     exact ⟨_,rfl,World.ownsRow_nil _ _ _ _,Below.refl _ _⟩
    |some a=>exact clZ289 a 0 w
   case sl=>exact clZ289 _ _ w
  exact zoJ (inb:=[]) (args:=[]) A l
end
end Go.Proofs.YtkeefpkcepodeaaGreatDoor
namespace Go.Proofs
open Go.Shelf
namespace YtkeefpkcepodeaaGreatDoor
open Go.RowKit Go.Em
def BytesAt (w:World)(b:Nat)(l:List UInt8)(n:Nat):Prop:=∀j,j<n->w.cell? ⟨b,j,none⟩=some (.int .u8 ((l.getD j 0).toNat:Int))/\w.frozen? ⟨b,j,none⟩=false
theorem zcc {w:World}{b n i:Nat}{l:List UInt8}(h:BytesAt w b l n)(hi:i<n)(hn:n=l.length)(v:UInt8):BytesAt (w.setCell ⟨b,i,none⟩ (.int .u8 (v.toNat:Int))) b (l.set i v) n:=fun j a=>by obtain ⟨f,m⟩:=h j a<;>grind[World.frozen?_setCell,World.cell?_setCell_same,World.cell?_setCell_other]
def iY (c d:Int)(l:List UInt8)(i:Nat):List UInt8:=(l.take i).map (shB c d)++l.drop i
theorem IK (c d:Int)(l:List UInt8)(i:Nat):(iY c d l i).length=l.length:=by grind[iY]
theorem Nv {c d:Int}{l:List UInt8}{i:Nat}(hi:i<l.length):(iY c d l i).getD i 0=l.getD i 0:=by grind[iY]
theorem EJ {c d:Int}{l:List UInt8}{i:Nat}(hi:i<l.length):iY c d l (i+1)=(iY c d l i).set i (shB c d (l.getD i 0)):=by
 unfold iY;rw [List.take_add_one,qad hi,Option.toList_some,List.map_append,qaT,List.map_nil];rw [List.drop_eq_getElem_cons hi];rw [List.set_append_right _ _ (by grind)];have:i-((l.take i).map (shB c d)).length=0:=by simp;omega
 grind
theorem Wj (c d:Int)(l:List UInt8):iY c d l l.length=l.map (shB c d):=by grind[iY]
set_option maxHeartbeats 4000000 in
set_option maxRecDepth 100000 in
theorem J5 (s:qaW)(c d:Int)(hc0:0<=c)(hc1:c<=97)(hd0:-32<=d)(hd1:d<=32)(hcd:0<=c+d)(hs:s.size<=1000000)(w:World):
  Calls Tryz.prog 288 #[.string s,.int .u8 c,.int .i64 d] w fun e w'=>e=.returned (.string ⟨(s.data.toList.map (shB c d)).toArray⟩)/\Below w.heap.size w w':=by
 have hcv:=run_bytes_of_string (P:=Tryz.prog) w 9 249 5 s Tryz.underlying9 Tryz.underlying249 Tryz.underlying5;have hlen:s.data.toList.length=s.size:=Array.length_toList ..;obtain ⟨l,hl⟩:∃l,l=s.data.toList:=⟨_,rfl⟩;rw [<-hl] at hlen ⊢;obtain ⟨W0,hW0⟩:∃W0,W0=w.drew.alloc (.cells (bytesRow s (grownCap w s.size 0 5)) 5 ((bytesRow s (grownCap w s.size 0 5)).size,(bytesRow s (grownCap w s.size 0 5)).size+1)):=⟨_,rfl⟩;obtain ⟨cap,hcap⟩:∃cap,cap=grownCap w s.size 0 5:=⟨_,rfl⟩;rw [<-hW0,<-hcap] at hcv;have hB0:Below w.heap.size w W0:=by rw [hW0];exact (Below.refl _ w).drew.alloc (Nat.le_refl _) _
 have hA0:BytesAt W0 w.heap.size l s.size:=fun j hj=>by
  have hj':j<s.data.size:=hj;rw [hW0];have e1:=World.cell?_alloc_mark w.drew (bytesRow s (grownCap w s.size 0 5)) 5 ((bytesRow s (grownCap w s.size 0 5)).size,(bytesRow s (grownCap w s.size 0 5)).size+1) j;have e2:=World.frozen?_alloc_mark w.drew (bytesRow s (grownCap w s.size 0 5)) 5 (bytesRow s (grownCap w s.size 0 5)).size ((bytesRow s (grownCap w s.size 0 5)).size+1) j;have hh:w.drew.heap.size=w.heap.size:=rfl
  grind[bytesRow]
 have hback:∀wx,BytesAt wx w.heap.size (iY c d l s.size) s.size->(convert 249 9 (.slice (some ⟨w.heap.size,0,none⟩) s.size cap)).run Tryz.prog wx=.ok (.string ⟨(l.map (shB c d)).toArray⟩) wx:=fun wx h=>by
  have e1:iY c d l s.size=l.map (shB c d):=by rw [<-hlen];exact Wj c d l
  rw [e1] at h;have hlm:(l.map (shB c d)).length=s.size:=by rw [qaB,hlen]
  have:=run_convert_bytes_back (P:=Tryz.prog) wx 249 9 5 ⟨w.heap.size,0,none⟩ cap (l.map (shB c d)) Tryz.underlying249 Tryz.underlying5 Tryz.underlying9 (fun j hj=>by rw [Addr.add_lit,Nat.zero_add,(h j (by omega)).1,qaF,qad hj];rfl)
  grind
 have HB:Hid (∀wx,BytesAt wx w.heap.size (iY c d l s.size) s.size->(convert 249 9 (.slice (some ⟨w.heap.size,0,none⟩) s.size cap)).run Tryz.prog wx=.ok (.string ⟨(l.map (shB c d)).toArray⟩) wx):=hback;have HL:Aside (l.length=s.size):=hlen;have HA0:Hid (BytesAt W0 w.heap.size l s.size):=hA0;clear hback hlen hA0 hW0 hcap hl
 go_enter Tryz.func288,Tryz.ntmps288
 go_wp2
 go_loopg [8,9,14] s.size (fun g _ _ s14 wx=>∃i:Nat,i+g=s.size/\s14=.int .i64 i/\Hid (BytesAt wx w.heap.size (iY c d l i) s.size)/\Below w.heap.size w wx)
 case atStart=>exact ⟨0,by omega,rfl,HA0,hB0⟩
 case round=>
  obtain ⟨i,hig,rfl,hA,hB⟩:=hrel;cases gk with
  |zero=>
   obtain rfl:i=s.size:=by omega
   have hiz:¬((s.size:Int)<(s.size:Int)):=by omega
   have hb:=HB.out _ hA.out
   go_wp2
   go_ret
   exact ⟨rfl,hB⟩
  |succ g=>
   have hi:i<s.size:=by omega
   have hiz:(i:Int)<(s.size:Int):=by omega
   obtain ⟨h1,h2⟩:=hA.out i hi;rw [Nv (by rw [HL.out];omega)] at h1;obtain ⟨b,hb⟩:∃b,l.getD i 0=b:=⟨_,rfl⟩;rw [hb] at h1;have HN2:Aside (shB c d b=b->BytesAt wr w.heap.size (iY c d l (i+1)) s.size):=fun e=>by
    have hi':i<(iY c d l i).length:=by rw [IK,HL.out];exact hi
    have e2:(iY c d l i).set i b=iY c d l i:=by have e3:=Nv (c:=c) (d:=d) (l:=l) (i:=i) (by rw [HL.out];omega);rw [qaF,qad hi',hb] at e3;have e4:(iY c d l i)[i]=b:=e3;rw [<-e4];exact List.set_getElem_self hi'
    rw [EJ (by rw [HL.out];omega),hb,e,e2];exact hA.out
   have HN:Aside (BytesAt (wr.setCell ⟨w.heap.size,i,none⟩ (.int .u8 ((shB c d b).toNat:Int))) w.heap.size (iY c d l (i+1)) s.size):=by show BytesAt _ _ _ _;rw [EJ (by rw [HL.out];omega),hb];exact zcc hA.out hi (by rw [IK];exact HL.out.symm) _
   have hb8:(b.toNat:Int)<256:=by have:=b.toNat_lt;omega
   have hb0:(0:Int)<=(b.toNat:Int):=by omega
   have HS:Aside (shB c d b=if c<=(b.toNat:Int)/\(b.toNat:Int)<c+26 then UInt8.ofNat ((b.toNat:Int)+d).toNat else b):=rfl;clear hb;obtain ⟨z,hz⟩:∃z:Int,z=(b.toNat:Int):=⟨_,rfl⟩;rw [<-hz] at h1 hb8 hb0
   go_wp2
   ·have e:shB c d b=UInt8.ofNat ((b.toNat:Int)+d).toNat:=by rw [HS.out,if_pos (by omega)]
    have e2:((shB c d b).toNat:Int)=(b.toNat:Int)+d:=by rw [e,UInt8.toNat_ofNat'];omega
    have hN:BytesAt (wr.setCell ⟨w.heap.size,i,none⟩ (.int .u8 ((b.toNat:Int)+d))) w.heap.size (iY c d l (i+1)) s.size:=by rw [<-e2];exact HN.out
    go_roundg g
    case measure=>omega
    case rel=>exact ⟨i+1,by omega,rfl,hN,hB.setCell (Nat.le_refl _) _⟩
   ·have hN:=HN2.out (by rw [HS.out,if_neg (by omega)])
    go_roundg g
    case measure=>omega
    case rel=>exact ⟨i+1,by omega,rfl,hN,hB⟩
   have hN:=HN2.out (by rw [HS.out,if_neg (by omega)])
   go_roundg g
   case measure=>omega
   case rel=>exact ⟨i+1,by omega,rfl,hN,hB⟩
theorem VH {K:Kn}{C:List CB}{u v x:Value}{aN:Array Value}(ha:cO K C [.v u,.v v,.v x] aN):aN=#[u,v,x]:=by
 have a:aN.size=3:=ha.1;have f:=fJ (ha.2 0 _ aN[0] rfl (qaD (by omega)));have h:=fJ (ha.2 1 _ aN[1] rfl (qaD (by omega)));have j:=fJ (ha.2 2 _ aN[2] rfl (qaD (by omega)))
 grind
theorem Zy {R:aP}(s:qaW)(c d:Int)(hc0:0<=c)(hc1:c<=97)(hd0:-32<=d)(hd1:d<=32)(hcd:0<=c+d)(hs:s.size<=1000000)(inb:List Bx):JF Tryz.prog R 288 [.v (.string s),.v (.int .u8 c),.v (.int .i64 d)] inb (.v (.string ⟨(s.data.toList.map (shB c d)).toArray⟩)) inb:=by
 refine nP fun h w K C j f=>?_;rw [VH f];refine (J5 s c d hc0 hc1 hd0 hd1 hcd hs w).mono ?_
 rintro e w' ⟨rfl,a⟩
 exact ⟨_,rfl,fun _ _=>.v rfl,a⟩
end YtkeefpkcepodeaaGreatDoor
def Tryz.KF:Go.Shelf.Ren:=⟨fun|15=>34|n=>n,fun|22=>32|3=>3|4=>4|n=>n,fun|n=>n⟩
theorem Tryz.laysClone:Go.Proofs.Lays2.n15 Tryz.prog Tryz.KF:={
 mixed:=by kernel_rfl
 f15:=Tryz.func34.trans (congrArg some (by kernel_rfl))
 t3:=Tryz.underlying3
 a3:=Tryz.isAgg3
 z3:=Tryz.sizeOf3
 v3:=Tryz.zeroValue3
 t4:=Tryz.underlying4
 a4:=Tryz.isAgg4
 z4:=Tryz.sizeOf4
 v4:=Tryz.zeroValue4
 t22:=Tryz.underlying32
 a22:=Tryz.isAgg32
 z22:=Tryz.sizeOf32
 v22:=Tryz.zeroValue32
 i3:=by kernel_rfl}
def Tryz.laysValid_ren:Go.Shelf.Ren:=⟨fun|196=>163|259=>212|n=>n,fun|9=>9|4=>4|3=>3|5=>5|12=>12|119=>278|0=>0|46=>176|139=>281|138=>280|53=>218|n=>n,fun|3=>1|4=>2|n=>n⟩
theorem Tryz.laysValid:Go.Proofs.Lays.n196 Tryz.prog Tryz.laysValid_ren:={
 mixed:=by kernel_rfl
 f196:=Tryz.func163.trans (congrArg some (by kernel_rfl))
 f259:=Tryz.func212.trans (congrArg some (by kernel_rfl))
 t0:=Tryz.underlying0
 a0:=Tryz.isAgg0
 z0:=Tryz.sizeOf0
 v0:=Tryz.zeroValue0
 t3:=Tryz.underlying3
 a3:=Tryz.isAgg3
 z3:=Tryz.sizeOf3
 v3:=Tryz.zeroValue3
 t4:=Tryz.underlying4
 a4:=Tryz.isAgg4
 z4:=Tryz.sizeOf4
 v4:=Tryz.zeroValue4
 t5:=Tryz.underlying5
 a5:=Tryz.isAgg5
 z5:=Tryz.sizeOf5
 v5:=Tryz.zeroValue5
 t9:=Tryz.underlying9
 a9:=Tryz.isAgg9
 z9:=Tryz.sizeOf9
 v9:=Tryz.zeroValue9
 t12:=Tryz.underlying12
 a12:=Tryz.isAgg12
 z12:=Tryz.sizeOf12
 v12:=Tryz.zeroValue12
 t46:=Tryz.underlying176
 a46:=Tryz.isAgg176
 z46:=Tryz.sizeOf176
 v46:=Tryz.zeroValue176
 t53:=Tryz.underlying218
 a53:=Tryz.isAgg218
 z53:=Tryz.sizeOf218
 v53:=Tryz.zeroValue218
 t119:=Tryz.underlying278
 a119:=Tryz.isAgg278
 z119:=Tryz.sizeOf278
 t138:=Tryz.underlying280
 a138:=Tryz.isAgg280
 z138:=Tryz.sizeOf280
 v138:=Tryz.zeroValue280
 t139:=Tryz.underlying281
 a139:=Tryz.isAgg281
 z139:=Tryz.sizeOf281
 v139:=Tryz.zeroValue281
 g3:=by kernel_rfl
 g4:=by kernel_rfl}
namespace YtkeefpkcepodeaaGreatDoor
open Go.RowKit Go.Em
set_option maxHeartbeats 1000000 in
set_option maxRecDepth 100000 in
theorem LH (a b:qaW)(w:World):
  Calls Tryz.prog 99 #[.string a,.string b] w fun e w'=>e=.returned (.int .i64 (Lib.compareBytes a.data.toList b.data.toList))/\w'=w:=by
 go_enter Tryz.func99,Tryz.ntmps99
 go_wp2
 rw [run_callFunc_extern Tryz.func141 (by kernel_rfl) (by kernel_rfl) (by kernel_rfl) (e:=Extern.BytealgCompare.compare) (by kernel_rfl),Lib.run_compareString];simp only [Result.andThen];rw [Oper.upon_value]
 go_wp2
 go_ret
 exact ⟨rfl,rfl⟩
section
variable {P:Program} {R:aP}
theorem OE {f:FuncId}{args:List X}{inb:List Bx}{u:Value}(hu:okV u=true)(h:∀(aN:Array Value) (w:World) (K:Kn) (C:List CB),Inv P R K C inb w->cO K C args aN->Calls P f aN w fun e w'=>e=.returned u/\Below w.heap.size w w'):JF P R f args inb (.v u) inb:=by
 intro K C w aN j n;refine (h aN w K C j n).mono ?_
 rintro e w' ⟨rfl,a⟩
 have l:=jM a;exact ⟨u,K,[],rfl,EX (j.still l),.v hu,KLe.refl _,fun b o v e=>.inl e,fun b o m=>.inl (by rw [List.append_nil] at m;exact m),l.mono (fun b o _ y=>y.elim),fun i B a q=>⟨B,a,q⟩⟩
end
theorem zn:∀{es:qaV} {zs:List Int},intsOf es=some zs->es.length=zs.length/\∀j,j<zs.length->es[j]?=some [.v (.int .i64 (zs.getD j 0))]
 |[],zs,h=>by simp only [intsOf,qag] at h;subst h;exact ⟨rfl,fun j hj=>by simp at hj⟩
 |e::r,zs,h=>by
  unfold intsOf at h;split at h;next heq=>cases heq
  ·rename_i z r' heq;obtain ⟨rfl,rfl⟩:=List.cons.inj heq;split at h
   ·rename_i l hl;cases h;obtain ⟨h1,h2⟩:=zn hl;refine ⟨by simp [h1],fun j hj=>?_⟩;cases j with
    |zero=>rfl
    |succ j=>have:=h2 j (by simpa using hj);simpa using this
   cases h
  cases h
theorem zb6 {R:aP}(t:Bool)(es:qaV)(zs:List Int)(h:intsOf es=some zs)(hz:zs.length<=1000000)(inb:List Bx):JF Tryz.prog R 34 [.sl t 1 es] inb (.bs inb.length 0 zs.length) (inb++[.row 1 (intRow zs)]):=by
 refine zbt (el:=3) zs fun l w K C M F=>?_;obtain ⟨m,q⟩:=zn h;have O:l.size=1:=F.1;have A:=F.2 0 _ l[0] rfl (qaD (by omega));have y:l=#[l[0]]:=by
  refine Array.ext (by simp [O]) fun i m q=>?_
  match i,m,q with
  |0,_,_=>rfl
  |i+1,m,_=>omega
 rw [y];generalize l[0]=v at A;generalize P:X.sl t 1 es=x at A;cases A<;>try cases P
 case iJ Q=>
  simp only [intsOf,qag] at h;subst h;cases Q with
  |none=>
   refine (Any.slices_Clone_int_nil Tryz.laysClone 0 0 w).mono ?_
   rintro e w' ⟨rfl,rfl⟩
   exact ⟨_,rfl,⟨rfl,.inl ⟨rfl,rfl⟩⟩,Below.refl _ _⟩
  |some a=>
   refine (Any.slices_Clone_int_zero Tryz.laysClone a 0 w).mono ?_
   rintro e w' ⟨B,rfl,n,_,u⟩
   exact ⟨B,rfl,n,u⟩
 case sl b o cap vals hcap hcell hr zg7 hlen hk=>
  have f:∀j,j<zs.length->w.cell? ⟨b,o+j,none⟩=some (.int .i64 (zs.getD j 0)):=fun j N=>by
   have H:=q j N;have E:at2 es j 0=some (.v (.int .i64 (zs.getD j 0))):=by simp [at2,H]
   have J:=M.known _ _ _ (hk j 0 _ E);have L:=fJ (hr j 0 _ E);rw [<-L];simpa using J
  refine (Any.slices_Clone_int Tryz.laysClone b o es.length cap zs w (by omega) (by omega) f).mono ?_
  rintro e w' ⟨B,rfl,n,_,u⟩
  refine ⟨B,rfl,?_,u⟩;rw [m,List.take_length] at n;exact n
theorem zhX {R:aP}(hR:R.gl=gl){K:Kn}{C:List CB}{bx:List Bx}{w:World}(hI:Inv Tryz.prog R K C bx w):Lib.Utf8Tabs (Tryz.laysValid_ren.g 3) (Tryz.laysValid_ren.g 4) w:=by
 have cell:∀(g:Nat) (cs:List X),gl g=some cs->∀(j:Nat) (v:Value),cs[j]?=some (.v v)->w.cell? ⟨g,j,none⟩=some v:=fun g cs A j v m=>by
  have h:=hI.glob g cs (by rw [hR];exact A);cases h with
  |dp vals hcell hk hr=>have n:=hI.known _ _ _ (hk j _ m);rw [<-fJ (hr j _ m)];simpa using n
 have q:Tryz.laysValid_ren.g 3=1:=by kernel_rfl
 have u:Tryz.laysValid_ren.g 4=2:=by kernel_rfl
 rw [q,u];constructor
 ·intro c y;have a:((List.range 256).all fun c=>match (uy Go.Pinned.utf8FirstZ)[c]? with
   |some (.v (.int .u8 z))=>z==Lib.firstT c
   |_=>false)=true:=by kernel_rfl
  have f:=qao.1 a c (List.mem_range.2 y);split at f;next z hz=>rw [cell 1 _ rfl c _ hz,eq_of_beq f]
  cases f
 intro i B;have a:((List.range 16).all fun i=>(match (uy ([128,191,160,191,128,159,144,191,128,143]++List.replicate 22 0))[2*i]? with
  |some (.v (.int .u8 z))=>z==Lib.accLo i
  |_=>false)&&(match (uy ([128,191,160,191,128,159,144,191,128,143]++List.replicate 22 0))[2*i+1]? with
  |some (.v (.int .u8 z))=>z==Lib.accHi i
  |_=>false))=true:=by kernel_rfl
 have f:=qao.1 a i (List.mem_range.2 B);rw [qab] at f;obtain ⟨f,l⟩:=f;constructor
 ·split at f;next z hz=>rw [cell 2 _ rfl (2*i) _ hz,eq_of_beq f]
  cases f
 split at l;next z hz=>rw [cell 2 _ rfl (2*i+1) _ hz,eq_of_beq l]
 cases l
theorem YF {R:aP}(hR:R.gl=gl)(s:qaW)(hs:s.size<=9223372036854775807)(inb:List Bx):JF Tryz.prog R 163 [.v (.string s)] inb (.v (.bool (Lib.validD s.data.toList))) inb:=by
 refine OE rfl fun a w K C l j=>?_;have f:a=#[.string s]:=by
  have hs:a.size=1:=j.1;have m:=fJ (j.2 0 _ a[0] rfl (qaD (by omega)));refine Array.ext (by simp [hs]) fun i h f=>?_
  match i,h,f with
  |0,_,_=>simpa using m
  |i+1,h,_=>omega
 rw [f];exact Any.utf8_ValidString Tryz.laysValid s w hs (zhX hR l)
theorem Pm {s:qaW}(h:Jz s=true)(j:Nat)(b:UInt8)(hb:s.data.toList[j]?=some b):b.toNat<128:=by have a:=qao.1 h b (qan hb);exact of_decide_eq_true a
theorem zmd {R:aP}(s t:qaW)(hs:s.size<4294967281)(ht:t.size<4294967281)(ha:Jz s=true)(hb:Jz t=true)(inb:List Bx):JF Tryz.prog R 118 [.v (.string s),.v (.string t)] inb (.v (.int .i64 (Lib.indexAny s.data.toList t.data.toList))) inb:=by
 refine OE rfl fun a w K C n h=>?_;have f:a=#[.string s,.string t]:=by
  have hs:a.size=2:=h.1;have l:=fJ (h.2 0 _ a[0] rfl (qaD (by omega)));have m:=fJ (h.2 1 _ a[1] rfl (qaD (by omega)));refine Array.ext (by simp [hs]) fun i j f=>?_
  match i,j,f with
  |0,_,_=>simpa using l
  |1,_,_=>simpa using m
  |i+2,j,_=>omega
 rw [f];exact Any.strings_IndexAny_laid Tryz.QD (by kernel_rfl) s t w hs ht (Pm ha) (Pm hb)
theorem iy {α:Type}{c:Bool}{a g:α}{b:Option α}(h:(if c=true then some a else b)=some g):(c=true/\a=g)\/(c=false/\b=some g):=by
 cases c with
 |true=>exact .inl ⟨rfl,Option.some.inj h⟩
 |false=>exact .inr ⟨rfl,h⟩
theorem zqV:zmr Tryz.prog gl tab:=by
 intro f a h;unfold tab at h;split at h;·exact ⟨_,h⟩
 cases h
theorem ztc:zpN Tryz.prog gl ext:=by
 intro f g hg pi u pe A h;unfold ext at hg;rcases iy hg with ⟨m,l⟩|⟨_,P⟩
 ·have j:f=99:=by simpa using m
  subst j;subst l;unfold Bq at h;split at h
  ·rename_i a b;cases h;refine ⟨PD Tryz.func99 (fun e=>absurd e (of_decide_eq_false (by kernel_rfl))) (fun e=>by simpa [e] using (show Tryz.f99.body.isSome=true by kernel_rfl)),zbs rfl fun L w K C O=>?_⟩;have B:L=#[.string a,.string b]:=by
    have hs:L.size=2:=O.1;have r0:=fJ (O.2 0 _ L[0] rfl (qaD (by omega)));have r1:=fJ (O.2 1 _ L[1] rfl (qaD (by omega)));refine Array.ext (by simp [hs]) fun i y B=>?_
    match i,y,B with
    |0,_,_=>simpa using r0
    |1,_,_=>simpa using r1
    |i+2,y,_=>omega
   rw [B];exact LH a b w
  cases h
 rcases iy P with ⟨m,l⟩|⟨_,Q⟩
 ·have j:f=163:=by simpa using m
  subst j;subst l;unfold pR at h;split at h
  ·split at h;next a pd=>cases h;exact ⟨PD Tryz.func163 (fun e=>absurd e (of_decide_eq_false (by kernel_rfl))) (fun e=>by simpa [e] using (show Tryz.f163.body.isSome=true by kernel_rfl)),YF rfl a pd u⟩
   cases h
  cases h
 rcases iy Q with ⟨m,l⟩|⟨_,S⟩
 ·have j:f=34:=by simpa using m
  subst j;subst l;unfold D8 at h;split at h
  ·split at h
   ·rename_i zs H;split at h;next F=>cases h;exact ⟨PD Tryz.func34 (fun e=>absurd e (of_decide_eq_false (by kernel_rfl))) (fun e=>by simpa [e] using (show Tryz.f34.body.isSome=true by kernel_rfl)),zb6 _ _ zs H F u⟩
    cases h
   cases h
  cases h
 rcases iy S with ⟨m,l⟩|⟨_,U⟩
 ·have j:f=118:=by simpa using m
  subst j;subst l;unfold l9 at h;split at h
  ·split at h;next a b q=>obtain ⟨y,B,h3,N⟩:=q;cases h;exact ⟨PD Tryz.func118 (fun e=>absurd e (of_decide_eq_false (by kernel_rfl))) (fun e=>by simpa [e] using (show Tryz.f118.body.isSome=true by kernel_rfl)),zmd a b y B h3 N u⟩
   split at h;next a b _ q=>obtain ⟨y,rfl⟩:=q;cases h;exact ⟨PD Tryz.func118 (fun e=>absurd e (of_decide_eq_false (by kernel_rfl))) (fun e=>by simpa [e] using (show Tryz.f118.body.isSome=true by kernel_rfl)),zat a y u⟩
   cases h
  cases h
 rcases iy U with ⟨m,l⟩|⟨_,V⟩
 ·have j:f=149:=by simpa using m
  subst j;subst l;unfold zaK at h;split at h
  ·split at h
   ·rename_i n z t k1 x k2 rows q;obtain ⟨pc,E,y,B,h3,N⟩:=q;subst pc;subst E;cases h;have e:z=Int.ofNat z.toNat:=by simp only [qaJ];omega
    have:=If.zju (R:=ji Tryz.prog gl) n z.toNat t x rows N y B;rw [<-e] at this;exact ⟨PD Tryz.func149 (fun e=>absurd e (of_decide_eq_false (by kernel_rfl))) (fun e=>by simpa [e] using (show Tryz.f149.body.isSome=true by kernel_rfl)),this⟩
   cases h
  cases h
 rcases iy V with ⟨m,l⟩|⟨_,W⟩
 ·have j:f=289:=by simpa using m
  subst j;subst l;unfold GV at h;split at h
  ·split at h;next t k2 M q=>obtain ⟨E,y⟩:=q;subst E;cases h;exact ⟨PD Tryz.func289 (fun e=>absurd e (of_decide_eq_false (by kernel_rfl))) (fun e=>by simpa [e] using (show Tryz.f289.body.isSome=true by kernel_rfl)),zpd t M y⟩
   cases h
  cases h
 rcases iy W with ⟨m,l⟩|⟨_,Y⟩
 ·have j:f=82:=by simpa using m
  subst j;subst l;unfold AU at h;split at h
  ·split at h;next z q=>cases h;exact ⟨PD Tryz.func82 (fun e=>absurd e (of_decide_eq_false (by kernel_rfl))) (fun e=>by simpa [e] using (show Tryz.f82.body.isSome=true by kernel_rfl)),zeF rfl z q.1 q.2 u⟩
   cases h
  cases h
 rcases iy Y with ⟨m,l⟩|⟨_,Z⟩
 ·have j:f=303:=by simpa using m
  subst j;subst l;unfold oM at h;split at h
  ·split at h;next s c q=>cases h;exact ⟨PD Tryz.func303 (fun e=>absurd e (of_decide_eq_false (by kernel_rfl))) (fun e=>by simpa [e] using (show Tryz.f303.body.isSome=true by kernel_rfl)),WC s c q.1 q.2.1 q.2.2 u⟩
   cases h
  cases h
 rcases iy Z with ⟨m,l⟩|⟨_,pa⟩
 ·have j:f=299:=by simpa using m
  subst j;subst l;unfold Gs at h;split at h;next s=>cases h;exact ⟨PD Tryz.func299 (fun e=>absurd e (of_decide_eq_false (by kernel_rfl))) (fun e=>by simpa [e] using (show Tryz.f299.body.isSome=true by kernel_rfl)),XG rfl s u⟩
  cases h
 rcases iy pa with ⟨m,l⟩|⟨_,pb⟩
 ·have j:f=121:=by simpa using m
  subst j;subst l;unfold xI at h;split at h
  ·split at h
   ·rename_i s q;have J:pe=LZ s/\A=u:=by unfold LZ;cases l:Lib.atoiAll s.data.toList<;>(rw [l] at h;simp only [qag,qaI] at h;exact ⟨h.1.symm,h.2.symm⟩)
    obtain ⟨rfl,rfl⟩:=J;exact ⟨PD Tryz.func121 (fun e=>absurd e (of_decide_eq_false (by kernel_rfl))) (fun e=>by simpa [e] using (show Tryz.f121.body.isSome=true by kernel_rfl)),zgb rfl s q A⟩
   cases h
  cases h
 rcases iy pb with ⟨m,l⟩|⟨_,ph⟩
 ·have j:f=222:=by simpa using m
  subst j;subst l;unfold ug at h;split at h
  ·split at h
   ·rename_i s c _ b hb;split at h;·cases h;exact ⟨PD Tryz.func222 (fun e=>absurd e (of_decide_eq_false (by kernel_rfl))) (fun e=>by simpa [e] using (show Tryz.f222.body.isSome=true by kernel_rfl)),Xj s c b hb u⟩
    cases h
   cases h
  cases h
 rcases iy ph with ⟨m,l⟩|⟨_,pg⟩
 ·have j:f=250:=by simpa using m
  subst j;subst l;unfold sO at h;split at h
  ·rename_i t M;split at h
   ·rename_i zs H;split at h
    ·rename_i F;have:=WH (R:=ji Tryz.prog gl) t M zs H F u;split at h;next hp=>rw [if_pos hp] at this;cases h;exact ⟨PD Tryz.func250 (fun e=>absurd e (of_decide_eq_false (by kernel_rfl))) (fun e=>by simpa [e] using (show Tryz.f250.body.isSome=true by kernel_rfl)),this⟩
     rename_i hp;rw [if_neg hp] at this;cases h;exact ⟨PD Tryz.func250 (fun e=>absurd e (of_decide_eq_false (by kernel_rfl))) (fun e=>by simpa [e] using (show Tryz.f250.body.isSome=true by kernel_rfl)),this⟩
    cases h
   cases h
  cases h
 rcases iy pg with ⟨m,l⟩|⟨_,pf⟩
 ·have j:f=288:=by simpa using m
  subst j;subst l;unfold DK at h;split at h
  ·split at h;next s c d q=>cases h;exact ⟨PD Tryz.func288 (fun e=>absurd e (of_decide_eq_false (by kernel_rfl))) (fun e=>by simpa [e] using (show Tryz.f288.body.isSome=true by kernel_rfl)),Zy s c d q.1 q.2.1 q.2.2.1 q.2.2.2.1 q.2.2.2.2.1 q.2.2.2.2.2 u⟩
   cases h
  cases h
 cases pf
theorem machine (n:Nat):uz Tryz.prog (ji Tryz.prog gl) (callF tab ext n):=LW zqV ztc n
end YtkeefpkcepodeaaGreatDoor
end Go.Proofs
