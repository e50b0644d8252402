/-.-/
import Derived.Shelf.Slices.Clone
import Derived.Shelf.Unicode.ValidAny
import Derived.Test.YtonnphbfclaigaaGreatDoorP18
set_option linter.all false
namespace Go.Proofs
open Go.Shelf
def Tryz.laysClone_ren:Go.Shelf.Ren:=⟨fun|15=>86|n=>n,fun|22=>25|3=>3|4=>4|n=>n,fun|n=>n⟩
theorem Tryz.laysClone:Go.Proofs.Lays2.n15 Tryz.prog Tryz.laysClone_ren:={
 mixed:=by kernel_rfl
 f15:=Tryz.func86.trans (congrArg some (by kernel_rfl))
 t3:=Tryz.underlying3
 a3:=Tryz.isAgg3
 z3:=Tryz.sizeOf3
 v3:=Tryz.zeroValue3
 t4:=Tryz.underlying4
 a4:=Tryz.isAgg4
 z4:=Tryz.sizeOf4
 v4:=Tryz.zeroValue4
 t22:=Tryz.underlying25
 a22:=Tryz.isAgg25
 z22:=Tryz.sizeOf25
 v22:=Tryz.zeroValue25
 i3:=by kernel_rfl}
def Tryz.laysValid_ren:Go.Shelf.Ren:=⟨fun|196=>301|259=>378|n=>n,fun|9=>9|4=>4|3=>3|5=>5|12=>12|119=>419|0=>0|46=>337|139=>422|138=>421|53=>366|n=>n,fun|3=>1|4=>2|n=>n⟩
theorem Tryz.laysValid:Go.Proofs.Lays.n196 Tryz.prog Tryz.laysValid_ren:={
 mixed:=by kernel_rfl
 f196:=Tryz.func301.trans (congrArg some (by kernel_rfl))
 f259:=Tryz.func378.trans (congrArg some (by kernel_rfl))
 t0:=Tryz.underlying0
 a0:=Tryz.isAgg0
 z0:=Tryz.sizeOf0
 v0:=Tryz.zeroValue0
 t3:=Tryz.underlying3
 a3:=Tryz.isAgg3
 z3:=Tryz.sizeOf3
 v3:=Tryz.zeroValue3
 t4:=Tryz.underlying4
 a4:=Tryz.isAgg4
 z4:=Tryz.sizeOf4
 v4:=Tryz.zeroValue4
 t5:=Tryz.underlying5
 a5:=Tryz.isAgg5
 z5:=Tryz.sizeOf5
 v5:=Tryz.zeroValue5
 t9:=Tryz.underlying9
 a9:=Tryz.isAgg9
 z9:=Tryz.sizeOf9
 v9:=Tryz.zeroValue9
 t12:=Tryz.underlying12
 a12:=Tryz.isAgg12
 z12:=Tryz.sizeOf12
 v12:=Tryz.zeroValue12
 t46:=Tryz.underlying337
 a46:=Tryz.isAgg337
 z46:=Tryz.sizeOf337
 v46:=Tryz.zeroValue337
 t53:=Tryz.underlying366
 a53:=Tryz.isAgg366
 z53:=Tryz.sizeOf366
 v53:=Tryz.zeroValue366
 t119:=Tryz.underlying419
 a119:=Tryz.isAgg419
 z119:=Tryz.sizeOf419
 t138:=Tryz.underlying421
 a138:=Tryz.isAgg421
 z138:=Tryz.sizeOf421
 v138:=Tryz.zeroValue421
 t139:=Tryz.underlying422
 a139:=Tryz.isAgg422
 z139:=Tryz.sizeOf422
 v139:=Tryz.zeroValue422
 g3:=by kernel_rfl
 g4:=by kernel_rfl}
namespace YtonnphbfclaigaaGreatDoor
open Go.RowKit Go.Em
set_option maxHeartbeats 1000000 in
set_option maxRecDepth 100000 in
theorem compare_calls (a b:qbJ)(w:World):
  Calls Tryz.prog 238 #[.string a,.string b] w fun e w'=>e=.returned (.int .i64 (Lib.compareBytes a.data.toList b.data.toList))/\w'=w:=by
 go_enter Tryz.func238,Tryz.ntmps238
 go_wp2
 rw [run_callFunc_extern Tryz.func316 (by kernel_rfl) (by kernel_rfl) (by kernel_rfl) (e:=Extern.BytealgCompare.compare) (by kernel_rfl),Lib.run_compareString];simp only [Result.andThen];rw [Oper.upon_value]
 go_wp2
 go_ret
 exact ⟨rfl,rfl⟩
section
variable {P:Program} {R:CodeRel}
theorem fsem_word {f:FuncId}{args:List X}{inb:List Bx}{u:Value}(hu:okV u=true)(h:∀(cargs:Array Value) (w:World) (K:Kn) (C:List CB),Inv P R K C inb w->ArgsRep K C args cargs->Calls P f cargs w fun e w'=>e=.returned u/\Below w.heap.size w w'):FSem P R f args inb (.v u) inb:=by
 intro K C w cargs hI ha;refine (h cargs w K C hI ha).mono ?_
 rintro e w' ⟨rfl,hB⟩
 have hf:=frame_of_below hB;exact ⟨u,K,[],rfl,owns_same (hI.still hf),.v hu,KLe.refl _,fun b o v e=>.inl e,fun b o ho=>.inl (by rw [List.append_nil] at ho;exact ho),hf.mono (fun b o _ hs=>hs.elim),fun i B hB hl=>⟨B,hB,hl⟩⟩
end
theorem intsOf_length:∀{es:qbI} {zs:List Int},intsOf es=some zs->es.length=zs.length/\∀j,j<zs.length->es[j]?=some [.v (.int .i64 (zs.getD j 0))]
 |[],zs,h=>by simp only [intsOf,qaE] at h;subst h;exact ⟨rfl,fun j hj=>by simp at hj⟩
 |e::r,zs,h=>by
  unfold intsOf at h;split at h;next heq=>cases heq
  ·rename_i z r' heq;obtain ⟨rfl,rfl⟩:=List.cons.inj heq;split at h
   ·rename_i l hl;simp only [qaE] at h;subst h;obtain ⟨h1,h2⟩:=intsOf_length hl;refine ⟨by simp [h1],fun j hj=>?_⟩;cases j with
    |zero=>rfl
    |succ j=>have:=h2 j (by simpa using hj);simpa using this
   cases h
  cases h
theorem clone_sem {R:CodeRel}(t:Bool)(es:qbI)(zs:List Int)(h:intsOf es=some zs)(hz:zs.length<=1000000)(inb:List Bx):FSem Tryz.prog R 86 [.sl t 1 es] inb (.bs inb.length 0 zs.length) (inb++[.row 1 (intRow zs)]):=by
 refine fsem_ints (el:=3) zs fun cargs w K C hI ha=>?_;obtain ⟨h1,h2⟩:=intsOf_length h;have hs:cargs.size=1:=ha.1;have r0:=ha.2 0 _ cargs[0] rfl (qa7 (by omega));have hca:cargs=#[cargs[0]]:=by
  refine Array.ext (by simp [hs]) fun i h1 h2=>?_
  match i,h1,h2 with
  |0,_,_=>rfl
  |i+1,h1,_=>omega
 rw [hca];generalize cargs[0]=v at r0;generalize hx:X.sl t 1 es=x at r0;cases r0<;>try cases hx
 case slNil ob=>
  simp only [intsOf,qaE] at h;subst h;cases ob with
  |none=>
   refine (Any.slices_Clone_int_nil Tryz.laysClone 0 0 w).mono ?_
   rintro e w' ⟨rfl,rfl⟩
   exact ⟨_,rfl,⟨rfl,.inl ⟨rfl,rfl⟩⟩,Below.refl _ _⟩
  |some a=>
   refine (Any.slices_Clone_int_zero Tryz.laysClone a 0 w).mono ?_
   rintro e w' ⟨v',rfl,ho,_,hB⟩
   exact ⟨v',rfl,ho,hB⟩
 case sl b o cap vals hcap hcell hr htight hlen hk=>
  have hcells:∀j,j<zs.length->w.cell? ⟨b,o+j,none⟩=some (.int .i64 (zs.getD j 0)):=fun j hj=>by
   have e1:=h2 j hj;have e2:at2 es j 0=some (.v (.int .i64 (zs.getD j 0))):=by simp [at2,e1]
   have e3:=hI.known _ _ _ (hk j 0 _ e2);have e4:=rep_v (hr j 0 _ e2);rw [<-e4];simpa using e3
  refine (Any.slices_Clone_int Tryz.laysClone b o es.length cap zs w (by omega) (by omega) hcells).mono ?_
  rintro e w' ⟨v',rfl,ho,_,hB⟩
  refine ⟨v',rfl,?_,hB⟩;rw [h1,List.take_length] at ho;exact ho
theorem tabs_of {R:CodeRel}(hR:R.gl=gl){K:Kn}{C:List CB}{bx:List Bx}{w:World}(hI:Inv Tryz.prog R K C bx w):Lib.Utf8Tabs (Tryz.laysValid_ren.g 3) (Tryz.laysValid_ren.g 4) w:=by
 have cell:∀(g:Nat) (cs:List X),gl g=some cs->∀(j:Nat) (v:Value),cs[j]?=some (.v v)->w.cell? ⟨g,j,none⟩=some v:=fun g cs hg j v hj=>by
  have h:=hI.glob g cs (by rw [hR];exact hg);cases h with
  |dp vals hcell hk hr=>have e3:=hI.known _ _ _ (hk j _ hj);rw [<-rep_v (hr j _ hj)];simpa using e3
 have g3:Tryz.laysValid_ren.g 3=1:=by kernel_rfl
 have g4:Tryz.laysValid_ren.g 4=2:=by kernel_rfl
 rw [g3,g4];constructor
 ·intro c hc;have hall:((List.range 256).all fun c=>match (bytesX Go.Pinned.utf8FirstZ)[c]? with
   |some (.v (.int .u8 z))=>z==Lib.firstT c
   |_=>false)=true:=by kernel_rfl
  have h1:=qbo.1 hall c (List.mem_range.2 hc);split at h1;next z hz=>rw [cell 1 _ rfl c _ hz,eq_of_beq h1]
  cases h1
 intro i hi;have hall:((List.range 16).all fun i=>(match (bytesX ([128,191,160,191,128,159,144,191,128,143]++List.replicate 22 0))[2*i]? with
  |some (.v (.int .u8 z))=>z==Lib.accLo i
  |_=>false)&&(match (bytesX ([128,191,160,191,128,159,144,191,128,143]++List.replicate 22 0))[2*i+1]? with
  |some (.v (.int .u8 z))=>z==Lib.accHi i
  |_=>false))=true:=by kernel_rfl
 have h1:=qbo.1 hall i (List.mem_range.2 hi);rw [qa4] at h1;obtain ⟨h1,h2⟩:=h1;constructor
 ·split at h1;next z hz=>rw [cell 2 _ rfl (2*i) _ hz,eq_of_beq h1]
  cases h1
 split at h2;next z hz=>rw [cell 2 _ rfl (2*i+1) _ hz,eq_of_beq h2]
 cases h2
theorem valid_sem {R:CodeRel}(hR:R.gl=gl)(s:qbJ)(hs:s.size<=9223372036854775807)(inb:List Bx):FSem Tryz.prog R 301 [.v (.string s)] inb (.v (.bool (Lib.validD s.data.toList))) inb:=by
 refine fsem_word rfl fun cargs w K C hI ha=>?_;have h2:cargs=#[.string s]:=by
  have hs:cargs.size=1:=ha.1;have r0:=rep_v (ha.2 0 _ cargs[0] rfl (qa7 (by omega)));refine Array.ext (by simp [hs]) fun i h1 h2=>?_
  match i,h1,h2 with
  |0,_,_=>simpa using r0
  |i+1,h1,_=>omega
 rw [h2];exact Any.utf8_ValidString Tryz.laysValid s w hs (tabs_of hR hI)
theorem ascii_mem {s:qbJ}(h:asciiB s=true)(j:Nat)(b:UInt8)(hb:s.data.toList[j]?=some b):b.toNat<128:=by have h1:=qbo.1 h b (qa5 hb);exact of_decide_eq_true h1
theorem any_sem {R:CodeRel}(s t:qbJ)(hs:s.size<4294967281)(ht:t.size<4294967281)(ha:asciiB s=true)(hb:asciiB t=true)(inb:List Bx):FSem Tryz.prog R 389 [.v (.string s),.v (.string t)] inb (.v (.int .i64 (Lib.indexAny s.data.toList t.data.toList))) inb:=by
 refine fsem_word rfl fun cargs w K C hI hc=>?_;have h2:cargs=#[.string s,.string t]:=by
  have hs:cargs.size=2:=hc.1;have r0:=rep_v (hc.2 0 _ cargs[0] rfl (qa7 (by omega)));have r1:=rep_v (hc.2 1 _ cargs[1] rfl (qa7 (by omega)));refine Array.ext (by simp [hs]) fun i h1 h2=>?_
  match i,h1,h2 with
  |0,_,_=>simpa using r0
  |1,_,_=>simpa using r1
  |i+2,h1,_=>omega
 rw [h2];exact Any.strings_IndexAny_laid Tryz.laysAny (by kernel_rfl) s t w hs ht (ascii_mem ha) (ascii_mem hb)
theorem ite_some {α:Type}{c:Bool}{a g:α}{b:Option α}(h:(if c=true then some a else b)=some g):(c=true/\a=g)\/(c=false/\b=some g):=by
 cases c with
 |true=>exact .inl ⟨rfl,Option.some.inj h⟩
 |false=>exact .inr ⟨rfl,h⟩
theorem tabOk:TabOk Tryz.prog gl tab:=by
 intro f fd h;unfold tab at h;split at h;·exact ⟨_,h⟩
 cases h
theorem extOk:ExtOk Tryz.prog gl ext:=by
 intro f g hg args inb res outb h;unfold ext at hg;rcases ite_some hg with ⟨hf,hq⟩|⟨_,hg0⟩
 ·have hf':f=238:=by simpa using hf
  subst hf';subst hq;unfold compareExt at h;split at h
  ·rename_i a b;simp only [qaE,qaH] at h;obtain ⟨rfl,rfl⟩:=h;refine ⟨fnOk Tryz.func238 (fun e=>absurd e (of_decide_eq_false (by kernel_rfl))) (fun e=>by simpa [e] using (show Tryz.f238.body.isSome=true by kernel_rfl)),fsem_pure rfl fun cargs w K C ha=>?_⟩;have h2:cargs=#[.string a,.string b]:=by
    have hs:cargs.size=2:=ha.1;have r0:=rep_v (ha.2 0 _ cargs[0] rfl (qa7 (by omega)));have r1:=rep_v (ha.2 1 _ cargs[1] rfl (qa7 (by omega)));refine Array.ext (by simp [hs]) fun i h1 h2=>?_
    match i,h1,h2 with
    |0,_,_=>simpa using r0
    |1,_,_=>simpa using r1
    |i+2,h1,_=>omega
   rw [h2];exact compare_calls a b w
  cases h
 rcases ite_some hg0 with ⟨hf,hq⟩|⟨_,hg1⟩
 ·have hf':f=301:=by simpa using hf
  subst hf';subst hq;unfold validExt at h;split at h
  ·split at h;next a hsz=>simp only [qaE,qaH] at h;obtain ⟨rfl,rfl⟩:=h;exact ⟨fnOk Tryz.func301 (fun e=>absurd e (of_decide_eq_false (by kernel_rfl))) (fun e=>by simpa [e] using (show Tryz.f301.body.isSome=true by kernel_rfl)),valid_sem rfl a hsz inb⟩
   cases h
  cases h
 rcases ite_some hg1 with ⟨hf,hq⟩|⟨_,hg2⟩
 ·have hf':f=86:=by simpa using hf
  subst hf';subst hq;unfold cloneExt at h;split at h
  ·split at h
   ·rename_i zs hzs;split at h;next hle=>simp only [qaE,qaH] at h;obtain ⟨rfl,rfl⟩:=h;exact ⟨fnOk Tryz.func86 (fun e=>absurd e (of_decide_eq_false (by kernel_rfl))) (fun e=>by simpa [e] using (show Tryz.f86.body.isSome=true by kernel_rfl)),clone_sem _ _ zs hzs hle inb⟩
    cases h
   cases h
  cases h
 rcases ite_some hg2 with ⟨hf,hq⟩|⟨_,hg3⟩
 ·have hf':f=389:=by simpa using hf
  subst hf';subst hq;unfold indexAnyExt at h;split at h
  ·split at h;next a b hc=>obtain ⟨h1,h2,h3,h4⟩:=hc;simp only [qaE,qaH] at h;obtain ⟨rfl,rfl⟩:=h;exact ⟨fnOk Tryz.func389 (fun e=>absurd e (of_decide_eq_false (by kernel_rfl))) (fun e=>by simpa [e] using (show Tryz.f389.body.isSome=true by kernel_rfl)),any_sem a b h1 h2 h3 h4 inb⟩
   split at h;next a b _ hc=>obtain ⟨h1,rfl⟩:=hc;simp only [qaE,qaH] at h;obtain ⟨rfl,rfl⟩:=h;exact ⟨fnOk Tryz.func389 (fun e=>absurd e (of_decide_eq_false (by kernel_rfl))) (fun e=>by simpa [e] using (show Tryz.f389.body.isSome=true by kernel_rfl)),marks_sem a h1 inb⟩
   cases h
  cases h
 rcases ite_some hg3 with ⟨hf,hq⟩|⟨_,hg4⟩
 ·have hf':f=258:=by simpa using hf
  subst hf';subst hq;unfold insExt at h;split at h
  ·split at h
   ·rename_i n z t k1 x k2 rows hc;obtain ⟨hk1,hk2,h1,h2,h3,h4⟩:=hc;subst hk1;subst hk2;simp only [qaE,qaH] at h;obtain ⟨rfl,rfl⟩:=h;have e:z=Int.ofNat z.toNat:=by simp only [qbs];omega
    have:=ins_sem (R:=RCode Tryz.prog gl) n z.toNat t x rows h4 h1 h2;rw [<-e] at this;exact ⟨fnOk Tryz.func258 (fun e=>absurd e (of_decide_eq_false (by kernel_rfl))) (fun e=>by simpa [e] using (show Tryz.f258.body.isSome=true by kernel_rfl)),this⟩
   cases h
  cases h
 rcases ite_some hg4 with ⟨hf,hq⟩|⟨_,hg5⟩
 ·have hf':f=196:=by simpa using hf
  subst hf';subst hq;unfold delExt at h;split at h
  ·split at h
   ·rename_i n z1 z2 k2 rows hc;obtain ⟨hk2,h1,h2,h3,h4,h5⟩:=hc;subst hk2;simp only [qaE,qaH] at h;obtain ⟨rfl,rfl⟩:=h;have e1:z1=Int.ofNat z1.toNat:=by simp only [qbs];omega
    have e2:z2=Int.ofNat z2.toNat:=by simp only [qbs];omega
    have:=del_sem (R:=RCode Tryz.prog gl) n z1.toNat z2.toNat rows (by omega) h5 h1 h2;rw [<-e1,<-e2] at this;exact ⟨fnOk Tryz.func196 (fun e=>absurd e (of_decide_eq_false (by kernel_rfl))) (fun e=>by simpa [e] using (show Tryz.f196.body.isSome=true by kernel_rfl)),this⟩
   cases h
  cases h
 rcases ite_some hg5 with ⟨hf,hq⟩|⟨_,hg6⟩
 ·have hf':f=206:=by simpa using hf
  subst hf';subst hq;unfold insExt at h;split at h
  ·split at h
   ·rename_i n z t k1 x k2 rows hc;obtain ⟨hk1,hk2,h1,h2,h3,h4⟩:=hc;subst hk1;subst hk2;simp only [qaE,qaH] at h;obtain ⟨rfl,rfl⟩:=h;have e:z=Int.ofNat z.toNat:=by simp only [qbs];omega
    have:=Im.ins_sem (R:=RCode Tryz.prog gl) n z.toNat t x rows h4 h1 h2;rw [<-e] at this;exact ⟨fnOk Tryz.func206 (fun e=>absurd e (of_decide_eq_false (by kernel_rfl))) (fun e=>by simpa [e] using (show Tryz.f206.body.isSome=true by kernel_rfl)),this⟩
   cases h
  cases h
 rcases ite_some hg6 with ⟨hf,hq⟩|⟨_,hg7⟩
 ·have hf':f=207:=by simpa using hf
  subst hf';subst hq;unfold insExt at h;split at h
  ·split at h
   ·rename_i n z t k1 x k2 rows hc;obtain ⟨hk1,hk2,h1,h2,h3,h4⟩:=hc;subst hk1;subst hk2;simp only [qaE,qaH] at h;obtain ⟨rfl,rfl⟩:=h;have e:z=Int.ofNat z.toNat:=by simp only [qbs];omega
    have:=Iv.ins_sem (R:=RCode Tryz.prog gl) n z.toNat t x rows h4 h1 h2;rw [<-e] at this;exact ⟨fnOk Tryz.func207 (fun e=>absurd e (of_decide_eq_false (by kernel_rfl))) (fun e=>by simpa [e] using (show Tryz.f207.body.isSome=true by kernel_rfl)),this⟩
   cases h
  cases h
 rcases ite_some hg7 with ⟨hf,hq⟩|⟨_,hg8⟩
 ·have hf':f=406:=by simpa using hf
  subst hf';subst hq;unfold insExt at h;split at h
  ·split at h
   ·rename_i n z t k1 x k2 rows hc;obtain ⟨hk1,hk2,h1,h2,h3,h4⟩:=hc;subst hk1;subst hk2;simp only [qaE,qaH] at h;obtain ⟨rfl,rfl⟩:=h;have e:z=Int.ofNat z.toNat:=by simp only [qbs];omega
    have:=If.ins_sem (R:=RCode Tryz.prog gl) n z.toNat t x rows h4 h1 h2;rw [<-e] at this;exact ⟨fnOk Tryz.func406 (fun e=>absurd e (of_decide_eq_false (by kernel_rfl))) (fun e=>by simpa [e] using (show Tryz.f406.body.isSome=true by kernel_rfl)),this⟩
   cases h
  cases h
 rcases ite_some hg8 with ⟨hf,hq⟩|⟨_,hg9⟩
 ·have hf':f=276:=by simpa using hf
  subst hf';subst hq;unfold cloneXExt at h;split at h
  ·split at h;next t k2 es hc=>obtain ⟨hk2,h1⟩:=hc;subst hk2;simp only [qaE,qaH] at h;obtain ⟨rfl,rfl⟩:=h;exact ⟨fnOk Tryz.func276 (fun e=>absurd e (of_decide_eq_false (by kernel_rfl))) (fun e=>by simpa [e] using (show Tryz.f276.body.isSome=true by kernel_rfl)),cl_sem276 t es h1⟩
   cases h
  cases h
 rcases ite_some hg9 with ⟨hf,hq⟩|⟨_,hg10⟩
 ·have hf':f=277:=by simpa using hf
  subst hf';subst hq;unfold cloneXExt at h;split at h
  ·split at h;next t k2 es hc=>obtain ⟨hk2,h1⟩:=hc;subst hk2;simp only [qaE,qaH] at h;obtain ⟨rfl,rfl⟩:=h;exact ⟨fnOk Tryz.func277 (fun e=>absurd e (of_decide_eq_false (by kernel_rfl))) (fun e=>by simpa [e] using (show Tryz.f277.body.isSome=true by kernel_rfl)),cl_sem277 t es h1⟩
   cases h
  cases h
 rcases ite_some hg10 with ⟨hf,hq⟩|⟨_,hg11⟩
 ·have hf':f=265:=by simpa using hf
  subst hf';subst hq;unfold cloneXExt at h;split at h
  ·split at h;next t k2 es hc=>obtain ⟨hk2,h1⟩:=hc;subst hk2;simp only [qaE,qaH] at h;obtain ⟨rfl,rfl⟩:=h;exact ⟨fnOk Tryz.func265 (fun e=>absurd e (of_decide_eq_false (by kernel_rfl))) (fun e=>by simpa [e] using (show Tryz.f265.body.isSome=true by kernel_rfl)),cl_sem265 t es h1⟩
   cases h
  cases h
 rcases ite_some hg11 with ⟨hf,hq⟩|⟨_,hg12⟩
 ·have hf':f=555:=by simpa using hf
  subst hf';subst hq;unfold cloneXExt at h;split at h
  ·split at h;next t k2 es hc=>obtain ⟨hk2,h1⟩:=hc;subst hk2;simp only [qaE,qaH] at h;obtain ⟨rfl,rfl⟩:=h;exact ⟨fnOk Tryz.func555 (fun e=>absurd e (of_decide_eq_false (by kernel_rfl))) (fun e=>by simpa [e] using (show Tryz.f555.body.isSome=true by kernel_rfl)),cl_sem555 t es h1⟩
   cases h
  cases h
 rcases ite_some hg12 with ⟨hf,hq⟩|⟨_,hg13⟩
 ·have hf':f=123:=by simpa using hf
  subst hf';subst hq;unfold itoaExt at h;split at h
  ·split at h;next z hc=>simp only [qaE,qaH] at h;obtain ⟨rfl,rfl⟩:=h;exact ⟨fnOk Tryz.func123 (fun e=>absurd e (of_decide_eq_false (by kernel_rfl))) (fun e=>by simpa [e] using (show Tryz.f123.body.isSome=true by kernel_rfl)),itoa_sem rfl z hc.1 hc.2 inb⟩
   cases h
  cases h
 rcases ite_some hg13 with ⟨hf,hq⟩|⟨_,hg14⟩
 ·have hf':f=536:=by simpa using hf
  subst hf';subst hq;unfold repeatExt at h;split at h
  ·split at h;next s c hc=>simp only [qaE,qaH] at h;obtain ⟨rfl,rfl⟩:=h;exact ⟨fnOk Tryz.func536 (fun e=>absurd e (of_decide_eq_false (by kernel_rfl))) (fun e=>by simpa [e] using (show Tryz.f536.body.isSome=true by kernel_rfl)),repeat_sem s c hc.1 hc.2.1 hc.2.2 inb⟩
   cases h
  cases h
 rcases ite_some hg14 with ⟨hf,hq⟩|⟨_,hg15⟩
 ·have hf':f=533:=by simpa using hf
  subst hf';subst hq;unfold decodeExt at h;split at h;next s=>simp only [qaE,qaH] at h;obtain ⟨rfl,rfl⟩:=h;exact ⟨fnOk Tryz.func533 (fun e=>absurd e (of_decide_eq_false (by kernel_rfl))) (fun e=>by simpa [e] using (show Tryz.f533.body.isSome=true by kernel_rfl)),decode_sem rfl s inb⟩
  cases h
 rcases ite_some hg15 with ⟨hf,hq⟩|⟨_,hg16⟩
 ·have hf':f=392:=by simpa using hf
  subst hf';subst hq;unfold atoiExt at h;split at h
  ·split at h
   ·rename_i s hc;have hres:res=atoiRes s/\outb=inb:=by unfold atoiRes;cases hq:Lib.atoiAll s.data.toList<;>(rw [hq] at h;simp only [qaE,qaH] at h;exact ⟨h.1.symm,h.2.symm⟩)
    obtain ⟨rfl,rfl⟩:=hres;exact ⟨fnOk Tryz.func392 (fun e=>absurd e (of_decide_eq_false (by kernel_rfl))) (fun e=>by simpa [e] using (show Tryz.f392.body.isSome=true by kernel_rfl)),atoi_sem rfl s hc outb⟩
   cases h
  cases h
 rcases ite_some hg16 with ⟨hf,hq⟩|⟨_,hg17⟩
 ·have hf':f=517:=by simpa using hf
  subst hf';subst hq;unfold index1Ext at h;split at h
  ·split at h
   ·rename_i s c _ b hb;split at h;·simp only [qaE,qaH] at h;obtain ⟨rfl,rfl⟩:=h;exact ⟨fnOk Tryz.func517 (fun e=>absurd e (of_decide_eq_false (by kernel_rfl))) (fun e=>by simpa [e] using (show Tryz.f517.body.isSome=true by kernel_rfl)),index1_sem s c b hb inb⟩
    cases h
   cases h
  cases h
 rcases ite_some hg17 with ⟨hf,hq⟩|⟨_,hg18⟩
 ·have hf':f=430:=by simpa using hf
  subst hf';subst hq;unfold pointsExt at h;split at h
  ·rename_i t es;split at h
   ·rename_i zs hzs;split at h
    ·rename_i hle;have:=points_sem (R:=RCode Tryz.prog gl) t es zs hzs hle inb;split at h;next hp=>rw [if_pos hp] at this;simp only [qaE,qaH] at h;obtain ⟨rfl,rfl⟩:=h;exact ⟨fnOk Tryz.func430 (fun e=>absurd e (of_decide_eq_false (by kernel_rfl))) (fun e=>by simpa [e] using (show Tryz.f430.body.isSome=true by kernel_rfl)),this⟩
     rename_i hp;rw [if_neg hp] at this;simp only [qaE,qaH] at h;obtain ⟨rfl,rfl⟩:=h;exact ⟨fnOk Tryz.func430 (fun e=>absurd e (of_decide_eq_false (by kernel_rfl))) (fun e=>by simpa [e] using (show Tryz.f430.body.isSome=true by kernel_rfl)),this⟩
    cases h
   cases h
  cases h
 rcases ite_some hg18 with ⟨hf,hq⟩|⟨_,hg19⟩
 ·have hf':f=494:=by simpa using hf
  subst hf';subst hq;unfold shiftExt at h;split at h
  ·split at h;next s c d hc=>simp only [qaE,qaH] at h;obtain ⟨rfl,rfl⟩:=h;exact ⟨fnOk Tryz.func494 (fun e=>absurd e (of_decide_eq_false (by kernel_rfl))) (fun e=>by simpa [e] using (show Tryz.f494.body.isSome=true by kernel_rfl)),shift_sem s c d hc.1 hc.2.1 hc.2.2.1 hc.2.2.2.1 hc.2.2.2.2.1 hc.2.2.2.2.2 inb⟩
   cases h
  cases h
 rcases ite_some hg19 with ⟨hf,hq⟩|⟨_,hg20⟩
 ·have hf':f=83:=by simpa using hf
  subst hf';subst hq;unfold keyExt at h;split at h
  ·rename_i e t es;split at h
   ·rename_i zs hzs;split at h;next hc=>simp only [qaE,qaH] at h;obtain ⟨rfl,rfl⟩:=h;exact ⟨fnOk Tryz.func83 (fun e=>absurd e (of_decide_eq_false (by kernel_rfl))) (fun e=>by simpa [e] using (show Tryz.f83.body.isSome=true by kernel_rfl)),keyA_sem rfl e t es zs hzs (i64_of hc.1) (fun z hz=>i64_of (qbo.1 hc.2.1 z hz)) hc.2.2 inb⟩
    cases h
   cases h
  cases h
 cases hg20
theorem machine (n:Nat):GamOk Tryz.prog (RCode Tryz.prog gl) (callF tab ext n):=callF_ok tabOk extOk n
end YtonnphbfclaigaaGreatDoor
end Go.Proofs
namespace Go.Proofs.YtonnphbfclaigaaGreatDoor.Ba
open Go Go.Em Go.Proofs.YtonnphbfclaigaaGreatDoor
set_option maxRecDepth 100000
structure Okb (s:Stp):Prop where
 e:I64 s.e
 p:∀z,z∈s.p->I64 z
 n:s.p.length<=1000
theorem i64b_of {z:Int}(h:I64 z):i64b z=true:=by unfold i64b;rw [qa4];exact ⟨decide_eq_true h.1,decide_eq_true h.2⟩
theorem key_pure (s:Stp)(h:Okb s)(N:Nat):Gam.pureD (callF tab ext (N+1)) 83 [.agg s.cells]=some (.v (.string (kB s))):=by
 have hk:callF tab ext (N+1) (.fn 83) [.agg s.cells] []=some (.v (.string (kB s)),[]):=by show keyExt [.agg s.cells] []=_;unfold keyExt Stp.cells num;simp only [intsOf_intsC];rw [if_pos ⟨i64b_of h.e,qbo.2 fun z hz=>i64b_of (h.p z hz),h.n⟩];rfl
 simp only [Gam.pureD,hk,X.data]
section
variable (l:qbI) (s:Stp) (z:Int) (n j:Nat)
def s39H:St:=⟨[(3,num z),(6,.sl false 10 l),(7,nat n),(8,nat j)],[]⟩
def s39E:St:=⟨[(3,num z),(6,.sl false 10 l),(7,nat n),(8,nat j),(9,boolX false)],[]⟩
def s44H:St:=⟨[(0,.sl false 10 l),(3,num z),(4,nat j)],[]⟩
def s44E:St:=⟨[(0,.sl false 10 l),(3,num z),(4,nat j),(8,boolX false)],[]⟩
def s45H:St:=⟨[(0,.sl false 10 l),(3,.ptr 0 0 0),(5,nat j)],[.var [num s.e,.sl false 1 (intsC s.p)]]⟩
def s45E:St:=⟨[(0,.sl false 10 l),(3,.ptr 0 0 0),(5,nat j),(9,boolX false)],[.var [num s.e,.sl false 1 (intsC s.p)]]⟩
def s43H:St:=⟨[(0,.sl false 10 l),(3,nat j)],[]⟩
def s43E:St:=⟨[(0,.sl false 10 l),(3,nat j),(7,boolX false)],[]⟩
theorem s39_canon:canon 0 (s39H l z n j)=some (s39H l z n j):=by kernel_rfl
theorem s39_canon' (x:List X):canon 0 ⟨[(3,num z),(6,.sl false 10 l),(7,nat n),(8,nat j)],[.var x]⟩=some (s39H l z n j):=by kernel_rfl
theorem s44_canon:canon 0 (s44H l z j)=some (s44H l z j):=by kernel_rfl
theorem s45_canon:canon 0 (s45H l s j)=some (s45H l s j):=by kernel_rfl
theorem s43_canon:canon 0 (s43H l j)=some (s43H l j):=by kernel_rfl
end
theorem sum_pure (L:List Msg)(hl:L.length<100000)(N:Nat)(hN:L.length<N):Gam.pureD (callF tab ext (N+1)) 39 [.sl false 10 (msgsC L)]=some (num (sumW L)):=by
 have hn:=msgsC_length L;have h:=(loop_fold (Γ:=callF tab ext N) (nIn:=0) (fu:=N) (b:=loopAt 39 0) (fun z j=>s39H (msgsC L) z (msgsC L).length j) (fun z m=>IntKind.i64.wrap (z+m.mass)) (fun _ _=>True) L (e:=.exit 0) (fun z=>s39E (msgsC L) z (msgsC L).length L.length) 0 trivial (fun z j m hg _=>by
  refine ⟨trivial,?_⟩;have hj:=(qaY.1 hg).1;have he:(msgsC L)[(Int.ofNat j).toNat]?=some m.cells:=by show (L.map Msg.cells)[j]?=_;rw [qbe,hg];rfl
  have hw:=next_nat (j:=j) (by omega);have h1:=lt_nat (j:=j) (k:=(msgsC L).length) (by omega);generalize msgsC L=l at*;obtain ⟨⟨a1,a2⟩,a3,a4,a5,a6,a7,a8,a9,a0⟩:=m;exact ⟨_,run_of [(9,.b true),(10,.e (Msg.mk ⟨a1,a2⟩ a3 a4 (.mk a5 a6 a7 a8 a9 a0)).cells),(16,.i (Int.ofNat (j+1)))] [] (pf3 h1 he hw) (lo':=[]) (σ':=⟨[(3,num (IntKind.i64.wrap (z+a3))),(6,.sl false 10 l),(7,nat l.length),(8,nat (j+1))],[.var (Msg.mk ⟨a1,a2⟩ a3 a4 (.mk a5 a6 a7 a8 a9 a0)).cells]⟩) (by kernel_rfl),s39_canon' ..⟩)
  (fun z _=>run_of [(9,.b false)] [] (pf1 (nlt_nat (j:=L.length) (k:=(msgsC L).length) (by omega))) (lo':=[]) (by kernel_rfl)) (by simp) (τ:=s39H (msgsC L) 0 (msgsC L).length 0) (s39_canon ..) hN).1
 rw [show L.foldl (fun z m=>IntKind.i64.wrap (z+m.mass)) 0=sumW L from rfl] at h;generalize sumW L=q at h;exact pure_of [] [(.exit 0,s39E (msgsC L) q (msgsC L).length L.length)] (pf1 h) (x:=num q) (bx:=[]) (by kernel_rfl) rfl
theorem mass_pure (L:List Msg)(hl:L.length<100000)(N:Nat)(hN:L.length<N):Gam.pureD (callF tab ext (N+1)) 44 [.sl false 10 (msgsC L)]=some (num (sumW L)):=by
 have hn:=msgsC_length L;have h:=(loop_fold (Γ:=callF tab ext N) (nIn:=0) (fu:=N) (b:=loopAt 44 0) (fun z j=>s44H (msgsC L) z j) (fun z m=>IntKind.i64.wrap (z+m.mass)) (fun _ _=>True) L (e:=.exit 0) (fun z=>s44E (msgsC L) z L.length) 0 trivial (fun z j m hg _=>by
  refine ⟨trivial,?_⟩;have hj:=(qaY.1 hg).1;have he:(msgsC L)[(Int.ofNat j).toNat]?=some m.cells:=by show (L.map Msg.cells)[j]?=_;rw [qbe,hg];rfl
  have hw:=next_nat (j:=j) (by omega);have h1:=lt_nat (j:=j) (k:=(msgsC L).length) (by omega);generalize msgsC L=l at*;obtain ⟨⟨a1,a2⟩,a3,a4,a5,a6,a7,a8,a9,a0⟩:=m;exact ⟨_,run_of [(8,.b true),(14,.e (Msg.mk ⟨a1,a2⟩ a3 a4 (.mk a5 a6 a7 a8 a9 a0)).cells),(10,.i (Int.ofNat (j+1)))] [] (pf3 h1 he hw) (lo':=[]) (σ':=s44H l (IntKind.i64.wrap (z+a3)) (j+1)) (by kernel_rfl),s44_canon ..⟩)
  (fun z _=>run_of [(8,.b false)] [] (pf1 (nlt_nat (j:=L.length) (k:=(msgsC L).length) (by omega))) (lo':=[]) (by kernel_rfl)) (by simp) (τ:=s44H (msgsC L) 0 0) (s44_canon ..) hN).1
 rw [show L.foldl (fun z m=>IntKind.i64.wrap (z+m.mass)) 0=sumW L from rfl] at h;generalize sumW L=q at h;exact pure_of [] [(.exit 0,s44E (msgsC L) q L.length)] (pf1 h) (x:=num q) (bx:=[]) (by kernel_rfl) rfl
theorem find_pure (L:List Msg)(s:Stp)(hl:L.length<100000)(hok:∀m,m∈L->m.st.ok)(N:Nat)(hN:190000<=N):Gam.pureD (callF tab ext (N+1)) 45 [.sl false 10 (msgsC L),.agg s.cells]=some (num (fixI s L)):=by
 have hn:=msgsC_length L;have hE:∀j m,L[j]?=some m->(msgsC L)[(Int.ofNat j).toNat]?=some m.cells:=fun j m hg=>by show (L.map Msg.cells)[j]?=_;rw [qbe,hg];rfl
 have h:=loop_list (Γ:=callF tab ext N) (nIn:=0) (fu:=N) (b:=loopAt 45 0) (fun _ j=>s45H (msgsC L) s j) (lstep s) (fun _ _=>True) L (e:=.exit 0) (fun _=>s45E (msgsC L) s L.length) (fun _ j _=>⟨[(4,nat j)],[.var [num s.e,.sl false 1 (intsC s.p)]]⟩) () trivial
  (fun q q' j m hg _ hs=>by
   refine ⟨trivial,?_⟩;have hj:=(qaY.1 hg).1;have he:=hE j m hg;have hw:=next_nat (j:=j) (by omega);have h1:=lt_nat (j:=j) (k:=(msgsC L).length) (by omega);have hc:=stp_eq N m.st s (hok m (qa5 hg)) hN;have hq:sEq m.st s=false:=by
    unfold lstep at hs;cases hq:sEq m.st s with
    |true=>rw [hq] at hs;cases hs
    |false=>rfl
   rw [hq] at hc;generalize msgsC L=l at*;obtain ⟨⟨a1,a2⟩,a3,a4,a5,a6,a7,a8,a9,a0⟩:=m;obtain ⟨s1,s2⟩:=s;exact ⟨_,run_of [(9,.b true),(14,.e (Msg.mk ⟨a1,a2⟩ a3 a4 (.mk a5 a6 a7 a8 a9 a0)).cells),(18,.p (boolX false)),(11,.i (Int.ofNat (j+1)))] [] (pf4 h1 he hc hw) (lo':=[]) (σ':=s45H l ⟨s1,s2⟩ (j+1)) (by kernel_rfl),s45_canon ..⟩)
  (fun q j m hg _ hs=>by
   have hj:=(qaY.1 hg).1;have he:=hE j m hg;have h1:=lt_nat (j:=j) (k:=(msgsC L).length) (by omega);have hc:=stp_eq N m.st s (hok m (qa5 hg)) hN;have hq:sEq m.st s=true:=by
    unfold lstep at hs;cases hq:sEq m.st s with
    |true=>rfl
    |false=>rw [hq] at hs;cases hs
   rw [hq] at hc;generalize msgsC L=l at*;obtain ⟨⟨a1,a2⟩,a3,a4,a5,a6,a7,a8,a9,a0⟩:=m;obtain ⟨s1,s2⟩:=s;exact run_of [(9,.b true),(14,.e (Msg.mk ⟨a1,a2⟩ a3 a4 (.mk a5 a6 a7 a8 a9 a0)).cells),(18,.p (boolX true))] [] (pf3 h1 he hc) (lo':=[]) (by kernel_rfl))
  (fun _ _=>run_of [(9,.b false)] [] (pf1 (nlt_nat (j:=L.length) (k:=(msgsC L).length) (by omega))) (lo':=[]) (by kernel_rfl)) (by simp) (τ:=s45H (msgsC L) s 0) (s45_canon ..) (by omega)
 rcases h with ⟨q,h1,_,h2⟩|⟨_,q,j,m,h1,_,h2,h3,h4⟩
 ·have e:fixI s L=-1:=by unfold fixI;rw [fix_none h1]
  rw [e];generalize msgsC L=l at*;obtain ⟨s1,s2⟩:=s;exact pure_of [] [(.exit 0,s45E l ⟨s1,s2⟩ L.length)] (pf1 h2) (x:=num (-1)) (bx:=[]) (by kernel_rfl) rfl
 have hq:sEq m.st s=true:=by
  unfold lstep at h3;cases hq:sEq m.st s with
  |true=>rfl
  |false=>rw [hq] at h3;cases h3
 have e:fixI s L=Int.ofNat j:=by unfold fixI;rw [fix_some h1 h2 hq]
 rw [e];generalize msgsC L=l at*;obtain ⟨s1,s2⟩:=s;exact pure_of [] [(.ret,⟨[(4,nat j)],[.var [num s1,.sl false 1 (intsC s2)]]⟩)] (pf1 h4) (x:=nat j) (bx:=[]) (by kernel_rfl) rfl
theorem diff_pure (L:List Msg)(hl:L.length<100000)(hok:∀m,m∈L->m.st.ok)(N:Nat)(hN:190001<=N):Gam.pureD (callF tab ext (N+1)) 43 [.sl false 10 (msgsC L)]=some (boolX (difB L)):=by
 have hn:=msgsC_length L;have hE:∀j m,L[j]?=some m->(msgsC L)[(Int.ofNat j).toNat]?=some m.cells:=fun j m hg=>by show (L.map Msg.cells)[j]?=_;rw [qbe,hg];rfl
 have hF:∀s,Gam.pureD (callF tab ext N) 45 [.sl false 10 (msgsC L),.agg s.cells]=some (num (fixI s L)):=fun s=>by obtain ⟨M,rfl⟩:∃M,N=M+1:=⟨N-1,by omega⟩;exact find_pure L s hl hok M (by omega)
 have h:=loop_list (Γ:=callF tab ext N) (nIn:=0) (fu:=N) (b:=loopAt 43 0) (fun _ j=>s43H (msgsC L) j) (dstep L) (fun q j=>q=j) L (e:=.exit 0) (fun _=>s43E (msgsC L) L.length) (fun _ j _=>⟨[(2,boolX false)],[]⟩) 0 rfl
  (fun q q' j m hg hI hs=>by
   subst hI;have hq:fixI m.st L=Int.ofNat q/\q'=q+1:=by
    unfold dstep at hs;cases hq:fixI m.st L==Int.ofNat q with
    |true=>rw [hq] at hs;exact ⟨by simpa using hq,by cases hs;rfl⟩
    |false=>rw [hq] at hs;cases hs
   refine ⟨hq.2,?_⟩;have hj:=(qaY.1 hg).1;have he:=hE q m hg;have hw:=next_nat (j:=q) (by omega);have h1:=lt_nat (j:=q) (k:=(msgsC L).length) (by omega);have hc:=hF m.st;rw [hq.1] at hc;have h2:(Int.ofNat q !=Int.ofNat q)=false:=by simp
   generalize msgsC L=l at*;obtain ⟨⟨a1,a2⟩,a3,a4,a5,a6,a7,a8,a9,a0⟩:=m;exact ⟨_,run_of [(7,.b true),(13,.e (Msg.mk ⟨a1,a2⟩ a3 a4 (.mk a5 a6 a7 a8 a9 a0)).cells),(16,.p (nat q)),(18,.b false),(9,.i (Int.ofNat (q+1)))] [] (pf5 h1 he hc h2 hw) (lo':=[]) (σ':=s43H l (q+1)) (by kernel_rfl),s43_canon ..⟩)
  (fun q j m hg hI hs=>by
   subst hI;have hq:(fixI m.st L !=Int.ofNat q)=true:=by
    unfold dstep at hs;cases hq:fixI m.st L==Int.ofNat q with
    |true=>rw [hq] at hs;cases hs
    |false=>simp only [bne,hq,Bool.not_false]
   have hj:=(qaY.1 hg).1;have he:=hE q m hg;have h1:=lt_nat (j:=q) (k:=(msgsC L).length) (by omega);have hc:=hF m.st;generalize fixI m.st L=z at*;generalize msgsC L=l at*;obtain ⟨⟨a1,a2⟩,a3,a4,a5,a6,a7,a8,a9,a0⟩:=m;exact run_of [(7,.b true),(13,.e (Msg.mk ⟨a1,a2⟩ a3 a4 (.mk a5 a6 a7 a8 a9 a0)).cells),(16,.p (num z)),(18,.b true)] [] (pf4 h1 he hc hq) (lo':=[]) (by kernel_rfl))
  (fun _ _=>run_of [(7,.b false)] [] (pf1 (nlt_nat (j:=L.length) (k:=(msgsC L).length) (by omega))) (lo':=[]) (by kernel_rfl)) (by simp) (τ:=s43H (msgsC L) 0) (s43_canon ..) (by omega)
 unfold difB;rcases h with ⟨q,h1,_,h2⟩|⟨h0,q,j,m,h1,_,h2,h3,h4⟩;·rw [h1];generalize msgsC L=l at*;exact pure_of [] [(.exit 0,s43E l L.length)] (pf1 h2) (x:=boolX true) (bx:=[]) (by kernel_rfl) rfl
 rw [h0];generalize msgsC L=l at*;exact pure_of [] [(.ret,⟨[(2,boolX false)],[]⟩)] (pf1 h4) (x:=boolX false) (bx:=[]) (by kernel_rfl) rfl
end Go.Proofs.YtonnphbfclaigaaGreatDoor.Ba
namespace Go.Proofs.YtonnphbfclaigaaGreatDoor
open Go.Em Go.RowKit
set_option maxRecDepth 100000
def stB (s:Stp):Prop:=I64 s.e/\∀z,z∈s.p->I64 z
def stateB (s:Stt):Prop:=∀x,x∈s.slots->∀m,m∈x.items->stB m.st
def outB (o:Oc2):Prop:=stateB o.s/\(∀x,x∈o.outs->stB x.m.st)/\∀f,f∈o.fates->stB f.st/\∀s,s∈f.into->stB s
theorem list_ofP {α:Type}(P:α->Prop)(g:α->List X){es:qbI}(h:∀c,c∈es->∃a,c=g a/\P a):∃l:List α,es=l.map g/\∀a,a∈l->P a:=by
 induction es with
 |nil=>exact ⟨[],rfl,fun _ h=>by cases h⟩
 |cons c es ih=>
  obtain ⟨a,rfl,ha⟩:=h c (by simp);obtain ⟨l,rfl,hl⟩:=ih fun d hd=>h d (by simp [hd]);exact ⟨a::l,rfl,fun x hx=>by
   rcases qbl.1 hx with e|e;·rw [e];exact ha
   exact hl x e⟩
variable {n:Nat} {xs:List X}
theorem shape_numB (h:Shape Tryz.prog n 3 xs):∃z,xs=[num z]/\I64 z:=by obtain ⟨v,rfl,hw⟩:=shape_int under3 h;refine ⟨v,rfl,?_⟩;unfold Lit.wf at hw;rw [qa4,decide_eq_true_iff,decide_eq_true_iff] at hw;exact hw
theorem shape_intsB (h:Shape Tryz.prog n 25 xs):∃l:List Int,xs=[.sl false 1 (intsC l)]/\∀z,z∈l->I64 z:=by obtain ⟨es,rfl,m,_,he⟩:=shape_sl25 h;obtain ⟨l,rfl,hl⟩:=list_ofP I64 (fun z:Int=>[num z]) fun c hc=>shape_numB (he c hc);exact ⟨l,rfl,hl⟩
theorem shape_stpB (h:Shape Tryz.prog n 27 xs):∃s:Stp,xs=s.cells/\stB s:=by obtain ⟨m,hm,x0,x1,rfl,h0,h1⟩:=shape_st27 h;obtain ⟨e,rfl,he⟩:=shape_numB h0;obtain ⟨p,rfl,hp⟩:=shape_intsB h1;exact ⟨⟨e,p⟩,rfl,he,hp⟩
theorem shape_msgB (h:Shape Tryz.prog n 33 xs):∃s:Msg,xs=s.cells/\stB s.st:=by obtain ⟨m,hm,x0,x1,x2,x3,rfl,h0,h1,h2,h3⟩:=shape_st33 h;obtain ⟨s,rfl,hb⟩:=shape_stpB h0;obtain ⟨k,rfl⟩:=shape_num h1;obtain ⟨p,rfl⟩:=shape_ints h2;obtain ⟨v,rfl⟩:=shape_val _ _ h3;exact ⟨⟨s,k,p,v⟩,by grind[Msg.cells,Stp.cells],hb⟩
theorem shape_msgsB (h:Shape Tryz.prog n 39 xs):∃l:List Msg,xs=[.sl false 10 (msgsC l)]/\∀m,m∈l->stB m.st:=by obtain ⟨es,rfl,m,_,he⟩:=shape_sl39 h;obtain ⟨l,rfl,hb⟩:=list_ofP (fun m=>stB m.st) Msg.cells fun c hc=>shape_msgB (he c hc);exact ⟨l,rfl,hb⟩
theorem shape_sltB (h:Shape Tryz.prog n 77 xs):∃s:Slt,xs=s.cells/\∀m,m∈s.items->stB m.st:=by obtain ⟨m,hm,x0,x1,x2,x3,x4,rfl,h0,h1,h2,h3,h4⟩:=shape_st77 h;obtain ⟨⟨k,i,s,t,l,f⟩,rfl⟩:=shape_val _ _ h0;obtain ⟨a,rfl⟩:=shape_num h1;obtain ⟨b,rfl⟩:=shape_num h2;obtain ⟨ms,rfl,hb⟩:=shape_msgsB h3;obtain ⟨vs,rfl⟩:=shape_vals h4;exact ⟨⟨.mk k i s t l f,a,b,ms,vs⟩,rfl,hb⟩
theorem shape_sttB (h:Shape Tryz.prog n 24 xs):∃s:Stt,xs=s.cells/\stateB s:=by obtain ⟨m,hm,x0,x1,x2,rfl,h0,h1,h2⟩:=shape_st24 h;obtain ⟨a,rfl⟩:=shape_num h0;obtain ⟨b,rfl⟩:=shape_num h1;obtain ⟨es,rfl,m',_,he⟩:=shape_sl22 h2;obtain ⟨l,rfl,hb⟩:=list_ofP (fun s=>∀m,m∈s.items->stB m.st) Slt.cells fun c hc=>shape_sltB (he c hc);exact ⟨⟨a,b,l⟩,rfl,hb⟩
theorem shape_inpB (h:Shape Tryz.prog n 35 xs):∃i:Inp,xs=i.cells/\stB i.m.st:=by obtain ⟨m,hm,x0,x1,x2,x3,x4,x5,x6,x7,rfl,h0,h1,h2,h3,h4,h5,h6,h7⟩:=shape_st35 h;obtain ⟨a,rfl⟩:=shape_num h0;obtain ⟨b,rfl⟩:=shape_num h1;obtain ⟨s,rfl⟩:=shape_stp h2;obtain ⟨g,rfl,hb⟩:=shape_msgB h3;obtain ⟨x,rfl⟩:=shape_num h4;obtain ⟨b1,rfl⟩:=shape_flag h5;obtain ⟨b2,rfl⟩:=shape_flag h6;obtain ⟨v,rfl⟩:=shape_val _ _ h7;exact ⟨⟨a,b,s,g,x,b1,b2,v⟩,by simp [Inp.cells,Msg.cells,Stp.cells],hb⟩
theorem shape_stpsB (h:Shape Tryz.prog n 84 xs):∃l:List Stp,xs=[.sl false 2 (stpsC l)]/\∀s,s∈l->stB s:=by obtain ⟨es,rfl,_,m,_,he⟩:=shape_slice under84 h;obtain ⟨l,rfl,hb⟩:=list_ofP stB Stp.cells fun c hc=>shape_stpB (he c hc);exact ⟨l,by rw [cells27'];rfl,hb⟩
theorem shape_otpB (h:Shape Tryz.prog n 81 xs):∃s:Otp,xs=s.cells/\stB s.m.st:=by obtain ⟨m,hm,hk⟩:=shape_struct under81 h;rw [fields81] at hk;obtain ⟨x0,r0,rfl,h0,hk⟩:=hk;obtain ⟨x1,r1,rfl,h1,hk⟩:=hk;have hk:r1=[]:=hk;subst hk;obtain ⟨p,rfl⟩:=shape_num h0;obtain ⟨g,rfl,hb⟩:=shape_msgB h1;exact ⟨⟨p,g⟩,by simp [Otp.cells],hb⟩
theorem shape_otpsB (h:Shape Tryz.prog n 36 xs):∃l:List Otp,xs=[.sl false 11 (otpsC l)]/\∀x,x∈l->stB x.m.st:=by obtain ⟨es,rfl,_,m,_,he⟩:=shape_slice under36 h;obtain ⟨l,rfl,hb⟩:=list_ofP (fun x=>stB x.m.st) Otp.cells fun c hc=>shape_otpB (he c hc);exact ⟨l,by rw [cells81];rfl,hb⟩
theorem shape_fteB (h:Shape Tryz.prog n 86 xs):∃s:Fte,xs=s.cells/\stB s.st/\∀x,x∈s.into->stB x:=by obtain ⟨m,hm,hk⟩:=shape_struct under86 h;rw [fields86] at hk;obtain ⟨x0,r0,rfl,h0,hk⟩:=hk;obtain ⟨x1,r1,rfl,h1,hk⟩:=hk;obtain ⟨x2,r2,rfl,h2,hk⟩:=hk;obtain ⟨x3,r3,rfl,h3,hk⟩:=hk;obtain ⟨x4,r4,rfl,h4,hk⟩:=hk;have hk:r4=[]:=hk;subst hk;obtain ⟨s,rfl,hb⟩:=shape_stpB h0;obtain ⟨k,rfl⟩:=shape_num h1;obtain ⟨nm,rfl⟩:=shape_text h2;obtain ⟨it,rfl,hi⟩:=shape_stpsB h3;obtain ⟨tx,rfl⟩:=shape_text h4;exact ⟨⟨s,k,nm,it,tx⟩,by simp [Fte.cells,Stp.cells],hb,hi⟩
theorem shape_ftesB (h:Shape Tryz.prog n 38 xs):∃l:List Fte,xs=[.sl false 6 (ftesC l)]/\∀f,f∈l->stB f.st/\∀x,x∈f.into->stB x:=by obtain ⟨es,rfl,_,m,_,he⟩:=shape_slice under38' h;obtain ⟨l,rfl,hb⟩:=list_ofP (fun f=>stB f.st/\∀x,x∈f.into->stB x) Fte.cells fun c hc=>shape_fteB (he c hc);exact ⟨l,by rw [cells86];rfl,hb⟩
theorem shape_ocB (h:Shape Tryz.prog n 41 xs):∃s:Oc2,xs=s.cells/\outB s:=by obtain ⟨m,hm,hk⟩:=shape_struct under41' h;rw [fields41'] at hk;obtain ⟨x0,r0,rfl,h0,hk⟩:=hk;obtain ⟨x1,r1,rfl,h1,hk⟩:=hk;obtain ⟨x2,r2,rfl,h2,hk⟩:=hk;obtain ⟨x3,r3,rfl,h3,hk⟩:=hk;obtain ⟨x4,r4,rfl,h4,hk⟩:=hk;have hk:r4=[]:=hk;subst hk;obtain ⟨s,rfl,hb⟩:=shape_sttB h0;obtain ⟨ou,rfl,ho⟩:=shape_otpsB h1;obtain ⟨rq,rfl⟩:=shape_reqs h2;obtain ⟨ft,rfl,hf⟩:=shape_ftesB h3;obtain ⟨lt,rfl⟩:=shape_msgs h4;exact ⟨⟨s,ou,rq,ft,lt⟩,by simp [Oc2.cells,Stt.cells],hb,ho,hf⟩
end Go.Proofs.YtonnphbfclaigaaGreatDoor
namespace Go.Proofs.YtonnphbfclaigaaGreatDoor.Ba
open Go Go.Em Go.Proofs.YtonnphbfclaigaaGreatDoor
set_option maxRecDepth 100000
variable {τ:St}
theorem msgsC_at {L:List Msg}{j:Nat}{m:Msg}(hg:L[j]?=some m):(msgsC L)[(Int.ofNat j).toNat]?=some m.cells:=by show (L.map Msg.cells)[j]?=_;rw [qbe,hg];rfl
theorem ftesC_at {L:List Fte}{j:Nat}{m:Fte}(hg:L[j]?=some m):(ftesC L)[(Int.ofNat j).toNat]?=some m.cells:=by show (L.map Fte.cells)[j]?=_;rw [qbe,hg];rfl
theorem stpsC_at {L:List Stp}{j:Nat}{m:Stp}(hg:L[j]?=some m):(stpsC L)[(Int.ofNat j).toNat]?=some m.cells:=by show (L.map Stp.cells)[j]?=_;rw [qbe,hg];rfl
section
variable (l acc:qbI) (n j k i:Nat) (es es2 es3:List (Value×X)) (x:List X)
def b37H:St:=⟨[(0,.sl false 10 l),(4,.mp 0),(8,.sl false 10 l),(9,nat n),(10,nat j)],[.map es]⟩
def b37E:St:=⟨[(0,.sl false 10 l),(4,.mp 0),(8,.sl false 10 l),(9,nat n),(10,nat j),(11,boolX false)],[.map es]⟩
theorem b37_canon:canon 0 (b37H l n j es)=some (b37H l n j es):=by kernel_rfl
theorem b37_canon':canon 0 ⟨[(0,.sl false 10 l),(4,.mp 0),(8,.sl false 10 l),(9,nat n),(10,nat j)],[.map es,.var x]⟩=some (b37H l n j es):=by kernel_rfl
def f38H:St:=⟨[(1,.mp 0),(4,.mp 1),(5,.mp 2),(6,.bs 3 0 k),(17,.sl false 6 l),(18,nat n),(19,nat j)],[.map es,.map es2,.map es3,.row 1 acc]⟩
def f38E:St:=⟨[(1,.mp 0),(4,.mp 1),(5,.mp 2),(6,.bs 3 0 k),(17,.sl false 6 l),(18,nat n),(19,nat j),(20,boolX false)],[.map es,.map es2,.map es3,.row 1 acc]⟩
theorem f38_canon:canon 1 (f38H l acc n j k es es2 es3)=some (f38H l acc n j k es es2 es3):=by kernel_rfl
theorem f38_canon' (y:List X):canon 1 ⟨[(1,.mp 0),(4,.mp 1),(5,.mp 2),(6,.bs 6 0 k),(17,.sl false 6 l),(18,nat n),(19,nat j)],[.map es,.map es2,.map es3,.dead,.var x,.var y,.row 1 acc]⟩=some (f38H l acc n j k es es2 es3):=by kernel_rfl
def i38H (m:qbI):St:=⟨[(1,.mp 0),(4,.mp 1),(5,.mp 2),(6,.bs 3 0 k),(17,.sl false 6 l),(18,nat n),(19,nat j),(47,.sl false 2 m),(48,nat m.length),(49,nat i)],[.map es,.map es2,.map es3,.row 1 acc]⟩
def i38E (m:qbI):St:=⟨[(1,.mp 0),(4,.mp 1),(5,.mp 2),(6,.bs 3 0 k),(17,.sl false 6 l),(18,nat n),(19,nat j),(47,.sl false 2 m),(48,nat m.length),(49,nat i),(50,boolX false)],[.map es,.map es2,.map es3,.row 1 acc]⟩
theorem i38_canon (m:qbI):canon 1 ⟨[(1,.mp 0),(4,.mp 1),(5,.mp 2),(6,.bs 3 0 k),(17,.sl false 6 l),(18,nat n),(19,nat j),(47,.sl false 2 m),(48,nat m.length),(49,nat i)],[.map es,.map es2,.map es3,.row 1 acc,.var x]⟩=some (i38H l acc n j k i es es2 es3 m):=by kernel_rfl
theorem i38_canon1 (m:qbI)(y:List X):canon 1 ⟨[(1,.mp 0),(4,.mp 1),(5,.mp 2),(6,.bs 3 0 k),(17,.sl false 6 l),(18,nat n),(19,nat j),(47,.sl false 2 m),(48,nat m.length),(49,nat i)],[.map es,.map es2,.map es3,.row 1 acc,.var x,.var y]⟩=some (i38H l acc n j k i es es2 es3 m):=by kernel_rfl
end
theorem byS_call (L:List Msg)(hl:L.length<100000)(hb:∀m,m∈L->Okb m.st)(N:Nat)(hN:190000<=N):callF tab ext (N+1) (.fn 37) [.sl false 10 (msgsC L)] []=some (.tup [.mp 0,boolX ((byS L).length==L.length)],[.map (mOf mX (byS L))]):=by
 have hn:=msgsC_length L;have h:=(loop_fold (Γ:=callF tab ext N) (nIn:=0) (fu:=N) (b:=loopAt 37 0) (fun (z:MM) j=>b37H (msgsC L) (msgsC L).length j (mOf mX z)) (fun z m=>putS m.st m z) (fun _ _=>True) L (e:=.exit 0) (fun z=>b37E (msgsC L) (msgsC L).length L.length (mOf mX z)) [] trivial (fun z j m hg _=>by
  refine ⟨trivial,?_⟩;have hj:=(qaY.1 hg).1;have he:=msgsC_at hg;have hw:=next_nat (j:=j) (by omega);have h1:=lt_nat (j:=j) (k:=(msgsC L).length) (by omega);obtain ⟨M,rfl⟩:∃M,N=M+1:=⟨N-1,by omega⟩;have hk:=key_pure m.st (hb m (qa5 hg)) M;have hp:mapPut (.string (kB m.st)) (.agg m.cells) (mOf mX z)=some (mOf mX (putS m.st m z)):=put_mOf mX m.st m z;generalize msgsC L=l at*;generalize mOf mX (putS m.st m z)=es2 at*;generalize mOf mX z=es at*;generalize kB m.st=kb at*;obtain ⟨⟨a1,a2⟩,a3,a4,a5,a6,a7,a8,a9,a0⟩:=m;exact ⟨_,run_of [(11,.b true),(12,.e (Msg.mk ⟨a1,a2⟩ a3 a4 (.mk a5 a6 a7 a8 a9 a0)).cells),(17,.p (strX kb)),(1000014,.pm es2),(19,.i (Int.ofNat (j+1)))] [] (pf5 h1 he hk hp hw) (lo':=[]) (σ':=⟨[(0,.sl false 10 l),(4,.mp 0),(8,.sl false 10 l),(9,nat l.length),(10,nat (j+1))],[.map es2,.var (Msg.mk ⟨a1,a2⟩ a3 a4 (.mk a5 a6 a7 a8 a9 a0)).cells]⟩) (by kernel_rfl),b37_canon' ..⟩)
  (fun z _=>run_of [(11,.b false)] [] (pf1 (nlt_nat (j:=L.length) (k:=(msgsC L).length) (by omega))) (lo':=[]) (by kernel_rfl)) (by simp) (τ:=b37H (msgsC L) (msgsC L).length 0 []) (b37_canon ..) (by omega)).1
 rw [show L.foldl (fun (z:MM) m=>putS m.st m z) []=byS L from rfl] at h;have e:((byS L).length==L.length)=(Int.ofNat (mOf mX (byS L)).length==Int.ofNat (msgsC L).length):=by rw [mOf_length,hn,Bool.eq_iff_iff,qbg,qbg];exact ⟨fun h=>by rw [h],fun h=>Int.ofNat.inj h⟩
 rw [e,<-hn] at*;generalize mOf mX (byS L)=es at*;generalize msgsC L=l at*;cases h1:(Int.ofNat es.length==Int.ofNat l.length) with
 |true=>exact callF_of [(25,.b true)] [(.exit 0,b37E l l.length l.length es)] (pf2 h h1) (by kernel_rfl)
 |false=>exact callF_of [(25,.b false)] [(.exit 0,b37E l l.length l.length es)] (pf2 h h1) (by kernel_rfl)
theorem into_loop (l acc:qbI)(n j k:Nat)(es es2:List (Value×X))(S:List Stp)(z:MU)(hl:S.length<100000)(hb:∀s,s∈S->Okb s)(N:Nat)(hN:190000<=N)(hτ:canon 1 τ=some (i38H l acc n j k 0 es es2 (mOf uX z) (stpsC S))):
  run (callF tab ext N) 1 N (.loop (loopAt 38 1)) τ=some (.exit 3,i38E l acc n j k S.length es es2 (mOf uX (inF S z)) (stpsC S)):=by
 have hn:=stpsC_length S;refine (loop_fold (Γ:=callF tab ext N) (nIn:=1) (fu:=N) (b:=loopAt 38 1) (fun (z:MU) i=>i38H l acc n j k i es es2 (mOf uX z) (stpsC S)) (fun z s=>putS s () z) (fun _ _=>True) S (e:=.exit 3) (fun z=>i38E l acc n j k S.length es es2 (mOf uX z) (stpsC S)) z trivial (fun z i s hg _=>?_) (fun z _=>run_of [(50,.b false)] [] (pf1 (nlt_nat (j:=S.length) (k:=(stpsC S).length) (by omega))) (lo':=[]) (by kernel_rfl)) (by simp) hτ (by omega)).1;refine ⟨trivial,?_⟩;have hj:=(qaY.1 hg).1;have he:=stpsC_at hg;have hw:=next_nat (j:=i) (by omega);have h1:=lt_nat (j:=i) (k:=(stpsC S).length) (by omega);obtain ⟨M,rfl⟩:∃M,N=M+1:=⟨N-1,by omega⟩;have hk:=key_pure s (hb s (qa5 hg)) M;have hp:mapPut (.string (kB s)) (.v (.bool true)) (mOf uX z)=some (mOf uX (putS s () z)):=put_mOf uX s () z;generalize stpsC S=m at*;generalize mOf uX (putS s () z)=es4 at*;generalize mOf uX z=es3 at*;generalize kB s=kb at*;obtain ⟨a1,a2⟩:=s;exact ⟨_,run_of [(50,.b true),(51,.e (Stp.mk a1 a2).cells),(55,.p (strX kb)),(1000053,.pm es4),(56,.i (Int.ofNat (i+1)))] [] (pf5 h1 he hk hp hw) (lo':=[]) (σ':=⟨[(1,.mp 0),(4,.mp 1),(5,.mp 2),(6,.bs 3 0 k),(17,.sl false 6 l),(18,nat n),(19,nat j),(47,.sl false 2 m),(48,nat m.length),(49,nat (i+1))],[.map es,.map es2,.map es4,.row 1 acc,.var (Stp.mk a1 a2).cells]⟩) (by kernel_rfl),i38_canon ..⟩
def rejC (l:List Stp):qbI:=l.map fun s=>[.v (kS s)]
theorem rejC_length (l:List Stp):(rejC l).length=l.length:=by simp [rejC]
def FailZ (es:List (Value×X))(υ:St):Prop:=∃rest,υ=⟨[(4,.v (.map none)),(5,.v (.map none)),(6,.sl true 1 []),(7,boolX false)],.map es::rest⟩
theorem fated_loop (old:MM)(F:List Fte)(q0:FS)(hq0:q0.rej=[])(hl:F.length<100000)(hb:∀f,f∈F->Okb f.st/\(∀s,s∈f.into->Okb s)/\f.into.length<100000)(N:Nat)(hN:190000<=N)
  (hτ:canon 1 τ=some (f38H (ftesC F) [] (ftesC F).length 0 0 (mOf mX old) (mOf uX q0.has) (mOf uX q0.into))):
  (∃q,fats old F q0=some q/\run (callF tab ext N) 1 N (.loop (loopAt 38 0)) τ=some (.exit 0,f38E (ftesC F) (rejC q.rej) (ftesC F).length F.length q.rej.length (mOf mX old) (mOf uX q.has) (mOf uX q.into)))\/
  (fats old F q0=none/\∃υ,run (callF tab ext N) 1 N (.loop (loopAt 38 0)) τ=some (.ret,υ)/\FailZ (mOf mX old) υ):=by
 have hn:(ftesC F).length=F.length:=ftesC_length F;have h:=loop_listZ (Γ:=callF tab ext N) (nIn:=1) (fu:=N) (b:=loopAt 38 0) (fun (q:FS) j=>f38H (ftesC F) (rejC q.rej) (ftesC F).length j q.rej.length (mOf mX old) (mOf uX q.has) (mOf uX q.into)) (fstep old) (fun q j=>q.rej.length<=j) F (e:=.exit 0)
  (fun q=>f38E (ftesC F) (rejC q.rej) (ftesC F).length F.length q.rej.length (mOf mX old) (mOf uX q.has) (mOf uX q.into)) (fun _ _ _ υ=>FailZ (mOf mX old) υ) q0 (by rw [hq0];exact Nat.zero_le _) ?_ ?_
  (fun _ _=>run_of [(20,.b false)] [] (pf1 (nlt_nat (j:=F.length) (k:=(ftesC F).length) (by omega))) (lo':=[]) (by kernel_rfl)) (by simp) (τ:=τ) (by rw [hq0];exact hτ) (by omega)
 ·rcases h with ⟨q,h1,_,h2⟩|⟨h0,q,j,f,_,_,_,_,h5⟩;·exact .inl ⟨q,h1,h2⟩
  exact .inr ⟨h0,h5⟩
 ·intro q q' j f hg hI hs;have hj:=(qaY.1 hg).1;have he:=ftesC_at hg;have hw:=next_nat (j:=j) (by omega);have h1:=lt_nat (j:=j) (k:=(ftesC F).length) (by omega);obtain ⟨b1,b2,b3⟩:=hb f (qa5 hg);obtain ⟨M,rfl⟩:∃M,N=M+1:=⟨N-1,by omega⟩;have hk:=key_pure f.st b1 M;have hp:mapPut (.string (kB f.st)) (.v (.bool true)) (mOf uX q.has)=some (mOf uX (putS f.st () q.has)):=put_mOf uX f.st () q.has;unfold fstep at hs;cases ho:fnd f.st old with
  |none=>rw [ho] at hs;cases hs
  |some m=>
   cases hh0:fnd f.st q.has with
   |some u=>rw [ho,hh0] at hs;cases hs
   |none=>
    rw [ho,hh0] at hs;simp only [Option.isNone_some,Option.isSome_none,Bool.or_false,qbc,if_false] at hs;have hg2:=get_some mX ho true (.agg [num 0,.sl true 1 [],num 0,.sl true 1 [],num 0,num 0,num 0,noText,.sl true 6 [],.sl true 7 []]);have hh:=get_none uX hh0 false (boolX false);have hlo:=fun τ' hτ'=>into_loop (ftesC F) (rejC q.rej) (ftesC F).length j q.rej.length (mOf mX old) (mOf uX (putS f.st () q.has)) f.into q.into b3 b2 (M+1) hN (τ:=τ') hτ';have hi:=stpsC_length f.into;have hmod:roomOk ((rejC q.rej).length+[[X.v (kS f.st)]].length) 16=true:=by refine room_of ?_ ?_<;>(rw [rejC_length,List.length_singleton];omega)
    have hrl:=rejC_length q.rej;unfold kS at hmod;change mapGet true _ (.string (kB f.st)) _=_ at hg2;change mapGet false _ (.string (kB f.st)) _=_ at hh;unfold mX at hg2;have hold:mOf (fun m:Msg=>X.agg m.cells) old=mOf mX old:=rfl;rw [hold] at hg2;generalize mOf mX old=es at*;generalize he4:mOf uX (putS f.st () q.has)=es4 at*;generalize hkb:kB f.st=kb at*;generalize mOf uX q.has=es2 at*;obtain ⟨⟨f1,f2⟩,fk,fn,fi,ft⟩:=f;obtain ⟨⟨a1,a2⟩,a3,a4,a5,a6,a7,a8,a9,a0⟩:=m;dsimp only at*;cases h2:fk==1 with
    |true=>rw [h2] at hs;simp only [Bool.true_or,if_true,qaE] at hs;subst hs;refine ⟨by dsimp only;omega,?_⟩;have hl':=hlo _ (i38_canon1 (ftesC F) (rejC q.rej) (ftesC F).length j q.rej.length 0 es es4 (mOf uX q.into) (Fte.mk ⟨f1,f2⟩ fk fn fi ft).cells (stpsC fi) (Msg.mk ⟨a1,a2⟩ a3 a4 (.mk a5 a6 a7 a8 a9 a0)).cells);dsimp only at*;rw [he4];generalize mOf uX (inF fi q.into)=es6 at*;generalize mOf uX q.into=es3 at*;generalize rejC q.rej=acc at*;generalize ftesC F=l at*;exact ⟨_,run_of [(20,.b true),(21,.e (Fte.mk ⟨f1,f2⟩ fk fn fi ft).cells),(25,.p (strX kb)),(29,.g (.tup [.agg (Msg.mk ⟨a1,a2⟩ a3 a4 (.mk a5 a6 a7 a8 a9 a0)).cells,boolX true])),(37,.g (boolX false)),(1000039,.pm es4),(44,.b true),(63,.i (Int.ofNat (j+1)))] [(.exit 3,i38E l acc l.length j q.rej.length fi.length es es4 es6 (stpsC fi))] (pf9 h1 he hk hg2 hh hp h2 hl' hw) (lo':=[]) (σ':=f38H l acc l.length (j+1) q.rej.length es es4 es6) (by kernel_rfl),f38_canon ..⟩
    |false=>
     cases h3:fk==2 with
     |true=>rw [h2,h3] at hs;simp only [Bool.false_or,if_true,qaE] at hs;subst hs;refine ⟨by dsimp only;omega,?_⟩;have hl':=hlo _ (i38_canon1 (ftesC F) (rejC q.rej) (ftesC F).length j q.rej.length 0 es es4 (mOf uX q.into) (Fte.mk ⟨f1,f2⟩ fk fn fi ft).cells (stpsC fi) (Msg.mk ⟨a1,a2⟩ a3 a4 (.mk a5 a6 a7 a8 a9 a0)).cells);dsimp only at*;rw [he4];generalize mOf uX (inF fi q.into)=es6 at*;generalize mOf uX q.into=es3 at*;generalize rejC q.rej=acc at*;generalize ftesC F=l at*;exact ⟨_,run_of [(20,.b true),(21,.e (Fte.mk ⟨f1,f2⟩ fk fn fi ft).cells),(25,.p (strX kb)),(29,.g (.tup [.agg (Msg.mk ⟨a1,a2⟩ a3 a4 (.mk a5 a6 a7 a8 a9 a0)).cells,boolX true])),(37,.g (boolX false)),(1000039,.pm es4),(44,.b false),(45,.b true),(63,.i (Int.ofNat (j+1)))] [(.exit 3,i38E l acc l.length j q.rej.length fi.length es es4 es6 (stpsC fi))] (pf10 h1 he hk hg2 hh hp h2 h3 hl' hw) (lo':=[]) (σ':=f38H l acc l.length (j+1) q.rej.length es es4 es6) (by kernel_rfl),f38_canon ..⟩
     |false=>
      cases h4:fk==4 with
      |true=>
       rw [h2,h3,h4] at hs;simp only [Bool.or_false,qbc,if_false,if_true,qaE] at hs;subst hs;refine ⟨by dsimp only;rw [qaZ,List.length_singleton];omega,?_⟩;have hrs:rejC (q.rej++[⟨f1,f2⟩])=List.drop 0 (rejC q.rej)++[[.v (.string kb)]]:=by rw [List.drop_zero];simp [rejC,kS,hkb]
       have hrl2:(q.rej++[(⟨f1,f2⟩:Stp)]).length=q.rej.length+1:=by simp
       dsimp only at*;rw [hrs,hrl2,he4];have hroom:0+q.rej.length=(rejC q.rej).length/\roomOk (q.rej.length+[[X.v (.string kb)]].length) 16=true/\memN 3 []=false:=⟨by omega,by rw [<-hrl];exact hmod,rfl⟩;generalize mOf uX q.into=es3 at*;generalize rejC q.rej=acc at*;generalize ftesC F=l at*;generalize q.rej.length=k at*;exact ⟨_,run_of [(20,.b true),(21,.e (Fte.mk ⟨f1,f2⟩ fk fn fi ft).cells),(25,.p (strX kb)),(29,.g (.tup [.agg (Msg.mk ⟨a1,a2⟩ a3 a4 (.mk a5 a6 a7 a8 a9 a0)).cells,boolX true])),(37,.g (boolX false)),(1000039,.pm es4),(44,.b false),(45,.b false),(58,.b true),(62,.app),(63,.i (Int.ofNat (j+1)))] [] (pf11 h1 he hk hg2 hh hp h2 h3 h4 hroom hw) (lo':=[]) (σ':=⟨[(1,.mp 0),(4,.mp 1),(5,.mp 2),(6,.bs 6 0 (k+1)),(17,.sl false 6 l),(18,nat l.length),(19,nat (j+1))],[.map es,.map es4,.map es3,.dead,.var (Fte.mk ⟨f1,f2⟩ fk fn fi ft).cells,.var (Msg.mk ⟨a1,a2⟩ a3 a4 (.mk a5 a6 a7 a8 a9 a0)).cells,.row 1 (List.drop 0 acc++[[.v (.string kb)]])]⟩) (by kernel_rfl),f38_canon' ..⟩
      |false=>rw [h2,h3,h4] at hs;cases hs
 intro q j f hg hI hs;have hj:=(qaY.1 hg).1;have he:=ftesC_at hg;have h1:=lt_nat (j:=j) (k:=(ftesC F).length) (by omega);obtain ⟨b1,b2,b3⟩:=hb f (qa5 hg);obtain ⟨M,rfl⟩:∃M,N=M+1:=⟨N-1,by omega⟩;have hk:=key_pure f.st b1 M;have hp:mapPut (.string (kB f.st)) (.v (.bool true)) (mOf uX q.has)=some (mOf uX (putS f.st () q.has)):=put_mOf uX f.st () q.has;unfold fstep at hs;cases ho:fnd f.st old with
 |none=>have hg2:=get_none mX ho true (.agg [num 0,.sl true 1 [],num 0,.sl true 1 [],num 0,num 0,num 0,noText,.sl true 6 [],.sl true 7 []]);change mapGet true _ (.string (kB f.st)) _=_ at hg2;generalize mOf mX old=es at*;generalize mOf uX q.has=es2 at*;generalize mOf uX q.into=es3 at*;generalize kB f.st=kb at*;generalize rejC q.rej=acc at*;generalize ftesC F=l at*;obtain ⟨⟨f1,f2⟩,fk,fn,fi,ft⟩:=f;dsimp only at*;exact ⟨_,run_of [(20,.b true),(21,.e (Fte.mk ⟨f1,f2⟩ fk fn fi ft).cells),(25,.p (strX kb)),(29,.g (.tup [.agg [num 0,.sl true 1 [],num 0,.sl true 1 [],num 0,num 0,num 0,noText,.sl true 6 [],.sl true 7 []],boolX false]))] [] (pf4 h1 he hk hg2) (lo':=[]) (σ':=⟨[(4,.v (.map none)),(5,.v (.map none)),(6,.sl true 1 []),(7,boolX false)],[.map es,.map es2,.map es3,.row 1 acc,.var (Fte.mk ⟨f1,f2⟩ fk fn fi ft).cells,.var [num 0,.sl true 1 [],num 0,.sl true 1 [],num 0,num 0,num 0,noText,.sl true 6 [],.sl true 7 []]]⟩) (by kernel_rfl),_,rfl⟩
 |some m=>
  have hg2:=get_some mX ho true (.agg [num 0,.sl true 1 [],num 0,.sl true 1 [],num 0,num 0,num 0,noText,.sl true 6 [],.sl true 7 []]);change mapGet true _ (.string (kB f.st)) _=_ at hg2;unfold mX at hg2;have hold:mOf (fun m:Msg=>X.agg m.cells) old=mOf mX old:=rfl;rw [hold] at hg2;cases hh0:fnd f.st q.has with
  |some u=>have hh:=get_some uX hh0 false (boolX false);change mapGet false _ (.string (kB f.st)) _=_ at hh;generalize mOf mX old=es at*;generalize mOf uX (putS f.st () q.has)=es4 at*;generalize mOf uX q.has=es2 at*;generalize mOf uX q.into=es3 at*;generalize kB f.st=kb at*;generalize rejC q.rej=acc at*;generalize ftesC F=l at*;obtain ⟨⟨f1,f2⟩,fk,fn,fi,ft⟩:=f;obtain ⟨⟨a1,a2⟩,a3,a4,a5,a6,a7,a8,a9,a0⟩:=m;dsimp only at*;exact ⟨_,run_of [(20,.b true),(21,.e (Fte.mk ⟨f1,f2⟩ fk fn fi ft).cells),(25,.p (strX kb)),(29,.g (.tup [.agg (Msg.mk ⟨a1,a2⟩ a3 a4 (.mk a5 a6 a7 a8 a9 a0)).cells,boolX true])),(37,.g (boolX true))] [] (pf5 h1 he hk hg2 hh) (lo':=[]) (σ':=⟨[(4,.v (.map none)),(5,.v (.map none)),(6,.sl true 1 []),(7,boolX false)],[.map es,.map es2,.map es3,.row 1 acc,.var (Fte.mk ⟨f1,f2⟩ fk fn fi ft).cells,.var (Msg.mk ⟨a1,a2⟩ a3 a4 (.mk a5 a6 a7 a8 a9 a0)).cells]⟩) (by kernel_rfl),_,rfl⟩
  |none=>
   rw [ho,hh0] at hs;simp only [Option.isNone_some,Option.isSome_none,Bool.or_false,qbc,if_false] at hs;have hh:=get_none uX hh0 false (boolX false);change mapGet false _ (.string (kB f.st)) _=_ at hh;generalize mOf mX old=es at*;generalize mOf uX (putS f.st () q.has)=es4 at*;generalize mOf uX q.has=es2 at*;generalize mOf uX q.into=es3 at*;generalize kB f.st=kb at*;generalize rejC q.rej=acc at*;generalize ftesC F=l at*;obtain ⟨⟨f1,f2⟩,fk,fn,fi,ft⟩:=f;obtain ⟨⟨a1,a2⟩,a3,a4,a5,a6,a7,a8,a9,a0⟩:=m;dsimp only at*;cases h2:fk==1 with
   |true=>rw [h2] at hs;cases hs
   |false=>
    cases h3:fk==2 with
    |true=>rw [h2,h3] at hs;cases hs
    |false=>
     cases h4:fk==4 with
     |true=>rw [h2,h3,h4] at hs;cases hs
     |false=>exact ⟨_,run_of [(20,.b true),(21,.e (Fte.mk ⟨f1,f2⟩ fk fn fi ft).cells),(25,.p (strX kb)),(29,.g (.tup [.agg (Msg.mk ⟨a1,a2⟩ a3 a4 (.mk a5 a6 a7 a8 a9 a0)).cells,boolX true])),(37,.g (boolX false)),(1000039,.pm es4),(44,.b false),(45,.b false),(58,.b false)] [] (pf9 h1 he hk hg2 hh hp h2 h3 h4) (lo':=[]) (σ':=⟨[(4,.v (.map none)),(5,.v (.map none)),(6,.sl true 1 []),(7,boolX false)],[.map es,.map es4,.map es3,.row 1 acc,.var (Fte.mk ⟨f1,f2⟩ fk fn fi ft).cells,.var (Msg.mk ⟨a1,a2⟩ a3 a4 (.mk a5 a6 a7 a8 a9 a0)).cells]⟩) (by kernel_rfl),_,rfl⟩
theorem fated_call (old:MM)(F:List Fte)(hl:F.length<100000)(hb:∀f,f∈F->Okb f.st/\(∀s,s∈f.into->Okb s)/\f.into.length<100000)(N:Nat)(hN:190000<=N):
  callF tab ext (N+1) (.fn 38) [.sl false 6 (ftesC F),.mp 0] [.map (mOf mX old)]=some (match fats old F ⟨[],[],[]⟩ with
   |some q=>(.tup [.mp 1,.mp 2,.bs 3 0 q.rej.length,boolX true],[.map (mOf mX old),.map (mOf uX q.has),.map (mOf uX q.into),.row 1 (rejC q.rej)])
   |none=>(.tup [.v (.map none),.v (.map none),.sl true 1 [],boolX false],[.map (mOf mX old)])):=by
 have hn:(ftesC F).length=F.length:=ftesC_length F;rcases fated_loop old F ⟨[],[],[]⟩ rfl hl hb N hN (f38_canon ..) with ⟨q,h1,h2⟩|⟨h1,υ,h2,rest,rfl⟩;·rw [h1];dsimp only;dsimp only at h2;change run (callF tab ext N) 1 N (.loop (loopAt 38 0)) (f38H (ftesC F) [] (ftesC F).length 0 0 (mOf mX old) [] [])=_ at h2;generalize mOf mX old=es at*;generalize mOf uX q.has=es2 at*;generalize mOf uX q.into=es3 at*;generalize rejC q.rej=acc at*;generalize q.rej.length=k at*;rw [<-hn] at h2;generalize ftesC F=l at*;exact callF_of [] [(.exit 0,f38E l acc l.length l.length k es es2 es3)] (pf1 h2) (by kernel_rfl)
 rw [h1];dsimp only;dsimp only at h2;change run (callF tab ext N) 1 N (.loop (loopAt 38 0)) (f38H (ftesC F) [] (ftesC F).length 0 0 (mOf mX old) [] [])=_ at h2;generalize mOf mX old=es at*;generalize ftesC F=l at*;exact callF_of [] [(.ret,⟨[(4,.v (.map none)),(5,.v (.map none)),(6,.sl true 1 []),(7,boolX false)],.map es::rest⟩)] (pf1 h2) (by kernel_rfl)
end Go.Proofs.YtonnphbfclaigaaGreatDoor.Ba
namespace Go.Proofs.YtonnphbfclaigaaGreatDoor.Ba
open Go Go.Em Go.Proofs.YtonnphbfclaigaaGreatDoor
set_option maxRecDepth 100000
variable {q:FS}{now was:List Msg}{s:Stp}
theorem eqL_iff {α:Type}{r:α->α->Bool}(h:∀a b,r a b=true↔a=b):∀{l m:List α},eqL r l m=true↔l=m
 |[],[]=>by simp [eqL]
 |[],_::_=>by simp [eqL]
 |_::_,[]=>by simp [eqL]
 |a::l,b::m=>by have ih:=eqL_iff h (l:=l) (m:=m);simp only [eqL,qa4,h,ih,List.cons.injEq]
theorem vEq_iff {a b:Val}:vEq a b=true↔a=b:=
 ⟨fun h=>cmpV_zero a b (by simpa [vEq] using h),fun h=>by rw [h];exact vEq_refl b⟩
theorem mEq_iff {a b:Msg}:mEq a b=true↔a=b:=by
 have h1:=eqL_iff (r:=fun (x y:Int)=>x==y) (fun x y=>qbg) (l:=a.orig) (m:=b.orig);unfold mEq;rw [qa4,qa4,qa4,sEq_iff,vEq_iff,qbg];constructor
 ·rintro ⟨e1,e2,e3,e4⟩
  have e3:=h1.1 e3;obtain ⟨_,_,_,_⟩:=a;obtain ⟨_,_,_,_⟩:=b;simp_all
 rintro rfl
 exact ⟨rfl,rfl,h1.2 rfl,rfl⟩
theorem mEq_comm (a b:Msg):mEq a b=mEq b a:=by rw [Bool.eq_iff_iff,mEq_iff,mEq_iff];exact eq_comm
def swapB (x m:Msg):Msg:={x with body:=m.body}
def rstep (old:MM)(L:List Msg)(j:Nat)(s:Stp):Option Nat:=match L[j]?,fnd s old with
 |some x,some m=>if mEq x m then some (j+1) else none
 |_,_=>none
def bad1 (made:MM)(has:MU)(p:Stp×Msg):Bool:=match fnd p.1 made with
 |some x=>(fnd p.1 has).isSome||!mEq (swapB x p.2) p.2
 |none=>(fnd p.1 has).isNone
def bad2 (old:MM)(into:MU)(p:Stp×Msg):Bool:=(fnd p.1 old).isNone&&(fnd p.1 into).isNone
def bad3 (made:MM)(p:Stp×Unit):Bool:=(fnd p.1 made).isNone
def sumOk (was now L:List Msg):Bool:=sumW was==IntKind.i64.wrap (sumW now+sumW L)
def balP (was now:List Msg)(F:List Fte)(L:List Msg):Bool:=
 (byS was).length==was.length&&((byS now).length==now.length&&match fats (byS was) F ⟨[],[],[]⟩ with
  |none=>false
  |some q=>q.rej.length==L.length&&(sumOk was now L&&((foldO (rstep (byS was) L) q.rej 0).isSome&&(!(byS was).any (bad1 (byS now) q.has)&&(!(byS now).any (bad2 (byS was) q.into)&&!q.into.any (bad3 (byS now)))))))
structure QM where
 ended:List Nat
 made:List Stp
 letters:List Msg
variable {m:QM}
def mstep (was:List Msg)(q:QM)(f:Fte):Option QM:=match fix f.st was with
 |none=>none
 |some k=>if q.ended.contains k then none
  else if f.kind==1||f.kind==2 then some ⟨q.ended++[k],q.made++f.into,q.letters⟩
  else if f.kind==4 then some ⟨q.ended++[k],q.made,q.letters++(was[k]?).toList⟩ else none
def ostep (now:List Msg)(ended:List Nat)(i:Nat)(m:Msg):Option Nat:=match fix m.st now with
 |none=>if ended.contains i then some (i+1) else none
 |some k=>if ended.contains i then none else match now[k]? with
  |some x=>if mEq (swapB x m) m then some (i+1) else none
  |none=>none
def nowOk (was:List Msg)(made:List Stp)(m:Msg):Bool:=(fix m.st was).isSome||made.any fun s=>sEq s m.st
def balM (was now:List Msg)(F:List Fte)(L:List Msg):Bool:=
 difB was&&(difB now&&(sumOk was now L&&match foldO (mstep was) F ⟨[],[],[]⟩ with
  |none=>false
  |some q=>eqL mEq q.letters L&&((foldO (ostep now q.ended) was 0).isSome&&(now.all (nowOk was q.made)&&q.made.all fun s=>(fix s now).isSome))))
def stps (l:List Msg):List Stp:=l.map (·.st)
theorem putS_fresh {α:Type}{s:Stp}{a:α}:∀{l:List (Stp×α)},fnd s l=none->putS s a l=l++[(s,a)]
 |[],_=>rfl
 |p::r,h=>by
  simp only [fnd] at h;cases hq:sEq s p.1 with
  |true=>rw [hq] at h;cases h
  |false=>rw [hq] at h;simp only [putS,hq,qbc,if_false,putS_fresh (l:=r) (a:=a) h,List.cons_append]
theorem fnd_iff {α:Type}{s:Stp}:∀{l:List (Stp×α)},fnd s l=none↔s∉l.map (·.1)
 |[]=>by simp [fnd]
 |p::r=>by
  have ih:=fnd_iff (α:=α) (s:=s) (l:=r);simp only [fnd,qbt,qbl,not_or];cases hq:sEq s p.1 with
  |true=>simp [sEq_iff.1 hq]
  |false=>
   have:s≠p.1:=fun h=>by rw [sEq_iff.2 h] at hq;cases hq
   simp [this,ih]
theorem putS_len {α:Type}{a:α}{l:List (Stp×α)}(h:fnd s l≠none):(putS s a l).length=l.length:=by
 rcases find_mOf (fun _:α=>X.ifc) s a l 0 with ⟨h1,_,_⟩|⟨j,x,_,_,h3⟩;·exact absurd h1 h
 rw [h3,List.length_set]
theorem putS_le {α:Type}(s:Stp)(a:α)(l:List (Stp×α)):(putS s a l).length<=l.length+1:=by
 rcases find_mOf (fun _:α=>X.ifc) s a l 0 with ⟨_,_,h3⟩|⟨j,x,_,_,h3⟩;·rw [h3];simp
 rw [h3,List.length_set];omega
theorem putS_keys {α:Type}(s t:Stp)(a:α):∀(l:List (Stp×α)),t∈(putS s a l).map (·.1)↔t=s\/t∈l.map (·.1)
 |[]=>by simp [putS]
 |p::r=>by
  have ih:=putS_keys s t a r;simp only [putS];cases hq:sEq s p.1 with
  |true=>have:=sEq_iff.1 hq;simp [<-this]
  |false=>simp only [qbc,if_false,qbt,qbl,ih];exact or_left_comm
def pairs (l:List Msg):MM:=l.map fun m=>(m.st,m)
theorem byF_le:∀(l:List Msg) (z:MM),(byF l z).length<=z.length+l.length
 |[],z=>by simp [byF]
 |m::r,z=>by have h1:=byF_le r (putS m.st m z);have h2:=putS_le m.st m z;show (byF r (putS m.st m z)).length<=_;rw [qbr];omega
theorem byF_nodup:∀(l:List Msg) (z:MM),((∀s,s∈stps l->s∉z.map (·.1))/\(stps l).Nodup->byF l z=z++pairs l)/\(¬((∀s,s∈stps l->s∉z.map (·.1))/\(stps l).Nodup)->(byF l z).length<z.length+l.length)
 |[],z=>⟨fun _=>by simp [byF,pairs],fun h=>absurd ⟨by simp [stps],by simp [stps]⟩ h⟩
 |m::r,z=>by
  have ih:=byF_nodup r (putS m.st m z);by_cases hm:m.st∈z.map (·.1);·refine ⟨fun h=>absurd hm (h.1 m.st (by simp [stps])),fun _=>?_⟩;have h1:=byF_le r (putS m.st m z);have h2:=putS_len (a:=m) (s:=m.st) (l:=z) fun h=>fnd_iff.1 h hm;show (byF r (putS m.st m z)).length<_;rw [qbr];omega
  have hf:=putS_fresh (a:=m) (fnd_iff.2 hm);have e:byF (m::r) z=byF r (z++[(m.st,m)]):=by rw [<-hf];rfl
  rw [hf] at ih;constructor
  ·rintro ⟨h1,h2⟩
   have h2':m.st∉stps r/\(stps r).Nodup:=List.nodup_cons.1 h2;rw [e,ih.1 ⟨fun s hs=>?_,h2'.2⟩];·simp [pairs]
   rw [List.map_append,qbm,not_or];exact ⟨h1 s (qbG _ hs),fun h=>h2'.1 (by simp at h;rw [<-h];exact hs)⟩
  intro h;rw [e];have:=ih.2 (fun h'=>h ⟨fun s hs=>?_,?_⟩);·rw [qaZ,List.length_singleton] at this;rw [qbr];omega
  ·rcases qbl.1 hs with e1|e1;·rw [e1];exact hm
   have:=h'.1 s e1;rw [List.map_append,qbm,not_or] at this;exact this.1
  refine List.nodup_cons.2 ⟨fun h3=>?_,h'.2⟩;have:=h'.1 m.st h3;rw [List.map_append,qbm,not_or] at this;exact this.2 (by simp)
theorem byS_iff (l:List Msg):((byS l).length==l.length)=true↔(stps l).Nodup:=by
 have h:=byF_nodup l [];rw [qbg];by_cases hn:(stps l).Nodup;·have:=h.1 ⟨by simp,hn⟩;refine ⟨fun _=>hn,fun _=>?_⟩;show (byF l []).length=_;rw [this];simp [pairs]
 have:=h.2 fun h'=>hn h'.2;refine ⟨fun h'=>?_,fun h'=>absurd h' hn⟩;have h2:(byF l []).length=l.length:=h';simp at this;omega
theorem byS_eq {l:List Msg}(h:(stps l).Nodup):byS l=pairs l:=by have:=(byF_nodup l []).1 ⟨by simp,h⟩;show byF l []=pairs l;simpa using this
theorem fix_st {s:Stp}:∀{l:List Msg} {k:Nat},fix s l=some k->∃m,l[k]?=some m/\m.st=s
 |[],k,h=>by cases h
 |x::r,k,h=>by
  simp only [fix] at h;cases hq:sEq x.st s with
  |true=>rw [hq] at h;simp only [if_true,qaE] at h;subst h;exact ⟨x,rfl,sEq_iff.1 hq⟩
  |false=>rw [hq] at h;simp only [qbc,if_false,qa1] at h;obtain ⟨j,h1,rfl⟩:=h;obtain ⟨m,h2,h3⟩:=fix_st h1;exact ⟨m,by simpa using h2,h3⟩
theorem fnd_pairs (s:Stp):∀(l:List Msg),fnd s (pairs l)=(fix s l).bind (l[·]?)
 |[]=>rfl
 |x::r=>by
  have ih:=fnd_pairs s r;simp only [pairs,qbt,fnd,fix,sEq_comm s x.st];cases hq:sEq x.st s with
  |true=>simp
  |false=>
   simp only [qbc,if_false];rw [show (r.map fun m=>(m.st,m))=pairs r from rfl,ih];cases fix s r with
   |none=>rfl
   |some k=>simp
theorem dif_go:∀(L:List Msg) (pre:List Msg),(foldO (dstep (pre++L)) L pre.length).isSome=true↔(∀s,s∈stps L->s∉stps pre)/\(stps L).Nodup
 |[],pre=>by simp [foldO,stps]
 |m::r,pre=>by
  have ih:=dif_go r (pre++[m]);rw [qbj,List.singleton_append] at ih;have hp:∀(p:List Msg),m.st∉stps p->fix m.st (p++m::r)=some p.length:=by
   intro p;induction p with
   |nil=>intro _;simp [fix,sEq_refl]
   |cons x p ih2=>
    intro h;have h':m.st≠x.st/\m.st∉stps p:=by simpa [stps] using h
    have hq:sEq x.st m.st=false:=by
     cases hq:sEq x.st m.st with
     |true=>exact absurd (sEq_iff.1 hq).symm h'.1
     |false=>rfl
    simp only [List.cons_append,fix,hq,qbc,if_false,ih2 h'.2,qbw,qbr]
  by_cases hm:m.st∈stps pre
  ·constructor
   ·intro h;exfalso;simp only [foldO,dstep] at h;cases hq:(fixI m.st (pre++m::r)==Int.ofNat pre.length) with
    |false=>rw [hq] at h;simp at h
    |true=>
     have h1:fixI m.st (pre++m::r)=Int.ofNat pre.length:=by simpa using hq
     have:∀(p:List Msg),m.st∈stps p->∃k,fix m.st (p++m::r)=some k/\k<p.length:=by
      intro p;induction p with
      |nil=>intro h;simp [stps] at h
      |cons x p ih2=>
       intro h;simp only [List.cons_append,fix];cases hq:sEq x.st m.st with
       |true=>exact ⟨0,by simp,by simp⟩
       |false=>
        have h':m.st=x.st\/m.st∈stps p:=by simpa [stps] using h
        rcases h' with e|e;·rw [e,sEq_refl] at hq;cases hq
        obtain ⟨k,k1,k2⟩:=ih2 e;exact ⟨k+1,by simp [k1],by simpa using k2⟩
     obtain ⟨k,k1,k2⟩:=this pre hm;unfold fixI at h1;rw [k1] at h1;simp at h1;omega
   rintro ⟨h,_⟩
   exact absurd hm (h m.st (by simp [stps]))
  have hf:=hp pre hm;have hd:dstep (pre++m::r) pre.length m=some (pre++[m]).length:=by unfold dstep fixI;rw [hf];simp
  simp only [foldO,hd,ih];constructor
  ·rintro ⟨h1,h2⟩
   refine ⟨fun s hs=>?_,List.nodup_cons.2 ⟨fun h3=>?_,h2⟩⟩
   ·rcases qbl.1 (show s∈m.st::stps r from hs) with e|e;·rw [e];exact hm
    intro h3;exact h1 s e (by simp only [stps,List.map_append,qbm];exact .inl h3)
   exact h1 m.st h3 (by simp [stps])
  rintro ⟨h1,h2⟩
  have h2':m.st∉stps r/\(stps r).Nodup:=List.nodup_cons.1 h2;refine ⟨fun s hs h3=>?_,h2'.2⟩;simp only [stps,List.map_append,qbm,qbt,List.map_nil,qbB] at h3;rcases h3 with e|e;·exact h1 s (qbG _ hs) e
  exact h2'.1 (by rw [<-e];exact hs)
theorem difB_iff (l:List Msg):difB l=true↔(stps l).Nodup:=by have:=dif_go l [];simp only [qbp,qbq] at this;unfold difB;rw [this];simp [stps]
theorem byS_dif (l:List Msg):((byS l).length==l.length)=difB l:=by rw [Bool.eq_iff_iff,byS_iff,difB_iff]
theorem fix_at {s:Stp}:∀{l:List Msg} {i:Nat} {m:Msg},(stps l).Nodup->l[i]?=some m->m.st=s->fix s l=some i
 |[],i,m,_,hi,_=>by cases hi
 |x::r,0,m,_,hi,hs=>by
  cases hi;simp only [fix,sEq_iff.2 hs,if_true]
 |x::r,i+1,m,h,hi,hs=>by
  have h':x.st∉stps r/\(stps r).Nodup:=List.nodup_cons.1 h;have hi':r[i]?=some m:=by simpa using hi
  have hq:sEq x.st s=false:=by
   cases hq:sEq x.st s with
   |false=>rfl
   |true=>have:=sEq_iff.1 hq;exact absurd (List.mem_map_of_mem (f:=fun m:Msg=>m.st) (qa5 hi')) (by rw [hs,<-this];exact h'.1)
  simp only [fix,hq,qbc,if_false,fix_at h'.2 hi' hs,qbw]
def keys {α:Type}(l:List (Stp×α)):List Stp:=l.map (·.1)
theorem fnd_key {α:Type}{l:List (Stp×α)}:(fnd s l).isSome=true↔s∈keys l:=by
 have:=fnd_iff (s:=s) (l:=l);cases h:fnd s l with
 |none=>simp [this.1 h,keys]
 |some a=>simp only [Option.isSome_some,true_iff];exact Classical.byContradiction fun h'=>by rw [this.2 h'] at h;cases h
theorem inF_keys (t:Stp):∀(S:List Stp) (z:MU),t∈keys (inF S z)↔t∈S\/t∈keys z
 |[],z=>by simp [inF]
 |s::r,z=>by
  have ih:=inF_keys t r (putS s () z);show t∈keys (inF r (putS s () z))↔_;rw [ih,keys,putS_keys,qbl,keys];constructor
  ·rintro (h|h|h)
   ·exact .inl (.inr h)
   ·exact .inl (.inl h)
   exact .inr h
  rintro ((h|h)|h)
  ·exact .inr (.inl h)
  ·exact .inl h
  exact .inr (.inr h)
structure Rl (was:List Msg) (q:FS) (m:QM):Prop where
 has:∀s,s∈keys q.has↔∃k,fix s was=some k/\k∈m.ended
 into:∀s,s∈keys q.into↔s∈m.made
 rej:q.rej.map (fun s=>fnd s (pairs was))=m.letters.map some
theorem Rl.step (h:Rl was q m)(f:Fte):(fstep (pairs was) q f=none/\mstep was m f=none)\/∃q' m',fstep (pairs was) q f=some q'/\mstep was m f=some m'/\Rl was q' m':=by
 unfold fstep mstep;have hp:=fnd_pairs f.st was;cases hf:fix f.st was with
 |none=>rw [hf] at hp;exact .inl ⟨by rw [hp];simp,rfl⟩
 |some k=>
  obtain ⟨x,h1,h2⟩:=fix_st hf;rw [hf] at hp;simp only [Option.bind_some,h1] at hp;have hk:(fnd f.st q.has).isSome=m.ended.contains k:=by rw [Bool.eq_iff_iff,fnd_key,h.has,hf,List.contains_iff_mem];exact ⟨fun ⟨j,e1,e2⟩=>by cases e1;exact e2,fun e=>⟨k,rfl,e⟩⟩
  rw [hp,hk];dsimp only;have hhas:∀s,s∈keys (putS f.st () q.has)↔∃j,fix s was=some j/\j∈m.ended++[k]:=by
   intro s;rw [keys,putS_keys];show s=f.st\/s∈keys q.has↔_;rw [h.has];constructor
   ·rintro (e|⟨j,e1,e2⟩)
    ·exact ⟨k,by rw [e,hf],by simp⟩
    exact ⟨j,e1,by simp [e2]⟩
   rintro ⟨j,e1,e2⟩
   rcases qbm.1 e2 with e|e;·exact .inr ⟨j,e1,e⟩
   rw [qbB] at e;subst e;obtain ⟨y,g1,g2⟩:=fix_st e1;rw [h1] at g1;cases g1;exact .inl (g2.symm.trans h2)
  cases hc:m.ended.contains k with
  |true=>exact .inl ⟨by simp,by simp⟩
  |false=>
   simp only [Option.isNone_some,Bool.or_false,qbc,if_false];cases h12:(f.kind==1||f.kind==2) with
   |true=>refine .inr ⟨_,_,rfl,rfl,hhas,fun s=>?_,h.rej⟩;rw [inF_keys,h.into,qbm];exact or_comm
   |false=>
    cases h4:(f.kind==4) with
    |true=>refine .inr ⟨_,_,rfl,rfl,hhas,h.into,?_⟩;simp only [List.map_append,h.rej,h1,Option.toList,qbt,List.map_nil,hp]
    |false=>exact .inl ⟨by simp,by simp⟩
theorem Rl.fold {was:List Msg}:∀(F:List Fte) {q:FS} {m:QM},Rl was q m->(fats (pairs was) F q=none/\foldO (mstep was) F m=none)\/∃q' m',fats (pairs was) F q=some q'/\foldO (mstep was) F m=some m'/\Rl was q' m'
 |[],q,m,h=>.inr ⟨q,m,rfl,rfl,h⟩
 |f::r,q,m,h=>by
  rcases h.step f with ⟨h1,h2⟩|⟨q',m',h1,h2,h3⟩;·exact .inl ⟨by simp only [fats,foldO,h1],by simp only [foldO,h2]⟩
  rcases Rl.fold r h3 with ⟨g1,g2⟩|⟨q2,m2,g1,g2,g3⟩;·exact .inl ⟨by simp only [fats,foldO,h1];exact g1,by simp only [foldO,h2];exact g2⟩
  exact .inr ⟨q2,m2,by simp only [fats,foldO,h1];exact g1,by simp only [foldO,h2];exact g2,g3⟩
theorem Rl.zero (was:List Msg):Rl was ⟨[],[],[]⟩ ⟨[],[],[]⟩:=⟨by simp [keys],by simp [keys],rfl⟩
theorem rej_eq (old:MM):∀(rej:List Stp) (ls:List Msg) (T pre:List Msg),rej.map (fun s=>fnd s old)=ls.map some->(rej.length==T.length&&(foldO (rstep old (pre++T)) rej pre.length).isSome)=eqL mEq ls T
 |[],[],T,pre,_=>by cases T<;>simp [foldO,eqL]
 |[],_::_,_,_,h=>by simp at h
 |_::_,[],_,_,h=>by simp at h
 |s::r,m::l,[],pre,_=>by simp [eqL]
 |s::r,m::l,x::T,pre,h=>by
  simp only [qbt,List.cons.injEq] at h;have ih:=rej_eq old r l T (pre++[x]) h.2;rw [qbj,List.singleton_append] at ih;have hg:(pre++x::T)[pre.length]?=some x:=by simp
  simp only [foldO,rstep,hg,h.1,eqL,mEq_comm m x];cases hq:mEq x m with
  |false=>simp
  |true=>
   simp only [if_true,Bool.true_and];rw [<-ih]
   congr 1
   ·simp only [qbr];rw [Bool.eq_iff_iff,qbg,qbg];omega
   rw [qaZ,List.length_singleton]
theorem old_fold (now:List Msg)(ended:List Nat):∀(l:List Msg) (i:Nat),(foldO (ostep now ended) l i).isSome=true↔∀j m,l[j]?=some m->(ostep now ended (i+j) m).isSome=true
 |[],i=>by simp [foldO]
 |x::r,i=>by
  have hs:∀q,ostep now ended i x=some q->q=i+1:=by
   intro q h;unfold ostep at h;split at h
   ·split at h;·cases h;rfl
    cases h
   split at h;·cases h
   split at h
   ·split at h;·cases h;rfl
    cases h
   cases h
  simp only [foldO];cases hq:ostep now ended i x with
  |none=>simp only [Option.isSome_none,qbc,false_iff];intro h;have:=h 0 x rfl;rw [Nat.add_zero,hq] at this;cases this
  |some q=>
   rw [hs q hq];dsimp only;rw [old_fold now ended r (i+1)];constructor
   ·intro h j m hj;cases j with
    |zero=>cases hj;rw [Nat.add_zero,hq];rfl
    |succ j=>rw [show i+(j+1)=i+1+j by omega];exact h j m (by simpa using hj)
   intro h j m hj;rw [show i+1+j=i+(j+1) by omega];exact h (j+1) m (by simpa using hj)
theorem any_pairs (l:List Msg)(b:Stp×Msg->Bool):(pairs l).any b=l.any fun m=>b (m.st,m):=by simp only [pairs,List.any_map];rfl
theorem old_eq (hW:(stps was).Nodup)(h:Rl was q m):(!(pairs was).any (bad1 (pairs now) q.has))=(foldO (ostep now m.ended) was 0).isSome:=by
 have key:∀i x,was[i]?=some x->(bad1 (pairs now) q.has (x.st,x)=false↔(ostep now m.ended (0+i) x).isSome=true):=by
  intro i x hi;have hk:(fnd x.st q.has).isSome=m.ended.contains i:=by rw [Bool.eq_iff_iff,fnd_key,h.has,fix_at hW hi rfl,List.contains_iff_mem];exact ⟨fun ⟨j,e1,e2⟩=>by cases e1;exact e2,fun e=>⟨i,rfl,e⟩⟩
  have hk':(fnd x.st q.has).isNone=!m.ended.contains i:=by rw [<-hk];cases fnd x.st q.has<;>rfl
  unfold bad1 ostep;rw [Nat.zero_add];dsimp only;rw [fnd_pairs,hk,hk'];cases hf:fix x.st now with
  |none=>simp only [Option.bind_none];cases m.ended.contains i<;>simp
  |some k=>obtain ⟨y,h1,_⟩:=fix_st hf;simp only [Option.bind_some,h1];cases m.ended.contains i<;>cases mEq (swapB y x) x<;>simp
 rw [Bool.eq_iff_iff,old_fold,Bool.not_eq_true',any_pairs,List.any_eq_false];constructor;·intro h' i x hi;have:=h' x (qa5 hi);exact (key i x hi).1 (by simpa using this)
 intro h' x hx;obtain ⟨i,hi,rfl⟩:=List.mem_iff_getElem.1 hx;have:=(key i _ (qa3 hi)).2 (h' i _ (qa3 hi));simp [this]
theorem none_some {α:Type}{o:Option α}:o.isNone=!o.isSome:=by cases o<;>rfl
theorem now_eq (h:Rl was q m):(!(pairs now).any (bad2 (pairs was) q.into))=now.all (nowOk was m.made):=by
 have key:∀x,bad2 (pairs was) q.into (x.st,x)=!nowOk was m.made x:=by
  intro x;unfold bad2 nowOk;dsimp only;rw [none_some,none_some,Bool.not_or]
  congr 2
  ·rw [fnd_pairs];cases hf:fix x.st was with
   |none=>rfl
   |some k=>obtain ⟨y,h1,_⟩:=fix_st hf;simp [h1]
  rw [Bool.eq_iff_iff,fnd_key,h.into,List.any_eq_true];exact ⟨fun e=>⟨x.st,e,sEq_refl _⟩,fun ⟨s,e1,e2⟩=>by rw [<-sEq_iff.1 e2];exact e1⟩
 rw [any_pairs,List.not_any_eq_all_not]
 congr 1
 funext x;rw [key,Bool.not_not]
theorem made_eq (h:Rl was q m):(!q.into.any (bad3 (pairs now)))=m.made.all fun s=>(fix s now).isSome:=by
 have hs:∀s,(fnd s (pairs now)).isNone=!(fix s now).isSome:=by
  intro s;rw [fnd_pairs,none_some];cases hf:fix s now with
  |none=>rfl
  |some k=>obtain ⟨y,h1,_⟩:=fix_st hf;simp [h1]
 rw [Bool.eq_iff_iff,Bool.not_eq_true',List.any_eq_false,qbo];constructor
 ·intro h' s hs';obtain ⟨p,p1,p2⟩:=qbh.1 ((h.into s).2 hs');have:=h' p p1;unfold bad3 at this;rw [p2,hs] at this;cases hq:(fix s now).isSome with
  |true=>rfl
  |false=>rw [hq] at this;exact absurd rfl this
 intro h' p hp;have:=h' p.1 ((h.into p.1).1 (qbh.2 ⟨p,hp,rfl⟩));unfold bad3;rw [hs,this];simp
theorem bal_eq (was now:List Msg)(F:List Fte)(L:List Msg):balP was now F L=balM was now F L:=by
 unfold balP balM;rw [byS_dif,byS_dif];cases hW:difB was with
 |false=>rfl
 |true=>
  cases hN:difB now with
  |false=>rfl
  |true=>
   have nW:=(difB_iff was).1 hW;have nN:=(difB_iff now).1 hN;rw [byS_eq nW,byS_eq nN];simp only [Bool.true_and];rcases Rl.fold F (Rl.zero was) with ⟨h1,h2⟩|⟨q,m,h1,h2,h3⟩;·rw [h1,h2];simp
   rw [h1,h2];dsimp only;have e1:=rej_eq (pairs was) q.rej m.letters L [] h3.rej;simp only [qbp,qbq] at e1;rw [old_eq nW h3,now_eq h3,made_eq h3,<-e1];cases (q.rej.length==L.length)<;>cases sumOk was now L<;>simp
end Go.Proofs.YtonnphbfclaigaaGreatDoor.Ba
