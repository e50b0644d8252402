/-.-/
import Derived.Shelf.Strings.IndexAnyAll
import Derived.Shelf.Strings.Runes
import Derived.Shelf.Strings.Search1
import Derived.Shelf.Small.Strs
import Derived.Shelf.Small.Utf8
import Derived.Laws.RangeAny
import Derived.Laws.Runes
import Derived.WalkMore
import Derived.Deep.LoopGhost
import Derived.Deep.QuietTactic
import Derived.BigQuiet
import Derived.Lib.OthersKept
import Derived.Test.YtonnphbfclaigaaGreatDoorP14
set_option linter.all false
namespace Go.Proofs
open Go.Shelf Go.RowKit
variable {P:Program} {ρ:Ren}
def Mk.marks:ByteArray:=⟨#[46,91,63]⟩
theorem Mk.size:Mk.marks.size=3:=rfl
theorem Mk.none (a e:Nat)(c:UInt8)(hc:128<=c.toNat):Lib.indexByte (Mk.marks.extract a e).data.toList c=-1:=by
 have h:∀l:List UInt8,(∀b∈l,b.toNat<128)->Lib.indexByte l c=-1:=by
  intro l;induction l with
  |nil=>exact fun _=>rfl
  |cons b l ih=>grind[Lib.indexByte]
 refine h _ fun b hb=>?_;have:=mem_extract hb;have h3:∀b∈[46,91,63],(b:UInt8).toNat<128:=by decide
 exact h3 b this
set_option maxHeartbeats 4000000 in
set_option maxRecDepth 100000 in
theorem Mk.indexRune_high (L:Lays.n152 Tryz.prog ρ)(r:Int)(w:World)(h0:128<=r)(h1:r<=2147483647)(hne:r≠65533):
  Calls Tryz.prog (ρ.f 152) #[.string Mk.marks,.int .i32 r] w fun e w'=>e=.returned (.int .i64 (-1))/\Below w.heap.size w w':=by
 have mixed:=L.mixed;have t3:=L.t3;have a3:=L.a3;have z3:=L.z3;have v3:=L.v3;have t4:=L.t4;have a4:=L.a4;have z4:=L.z4;have v4:=L.v4;have t5:=L.t5;have a5:=L.a5;have z5:=L.z5;have v5:=L.v5;have t9:=L.t9;have a9:=L.a9;have z9:=L.z9;have v9:=L.v9;have t21:=L.t21;have a21:=L.a21;have z21:=L.z21;have v21:=L.v21;have s21:(Tryz.prog.underlying (ρ.t 21)).isSome=true:=by rw [t21];rfl
 have hconv:∀w,(convert (ρ.t 21) (ρ.t 9) (.int .i32 r)).run Tryz.prog w=.ok (.string (Utf8.encode r)) w:=fun w=>run_convert_int_string w _ _ _ _ s21 t9;have e119:∀args w,(callFunc (ρ.f 119) args).run Tryz.prog w=.ok (.enter (ρ.f 119) args) w:=enters_of L.f119 (by kernel_rfl) rfl;have e137:∀args w,(callFunc (ρ.f 137) args).run Tryz.prog w=.ok (.enter (ρ.f 137) args) w:=enters_of L.f137 (by kernel_rfl) rfl;cases hv:Lib.validRune r with
 |false=>
  go_enter L.f152,Body.n152_ntmps ρ
  go_wp2_with (go_at_fn (ρ.f 119);refine (Any.utf8_ValidRune {L with} r _).mono ?_;rintro e w' ⟨rfl,hw⟩;rw [hw,hv])
  go_ret<;>simp_all[Below.refl]
 |true=>
  obtain ⟨hE1,hE2,hE3⟩:=encode_facts r (by grind[validRune_eq,Lib.validRune,validRune]) h0;generalize hE:Utf8.encode r=E at hE1 hE2 hE3 hconv;obtain ⟨n,hn⟩:∃n,E.size=n+1:=⟨E.size-1,by omega⟩;have hlt:n<E.size:=by omega
  have hb:128<=(E[n]'hlt).toNat:=by
   have:=hE3 (by omega);have e:E.size-1=n:=by omega
   simp only [e] at this;exact this
  obtain ⟨c,hc⟩:∃c:UInt8,E[n]'hlt=c:=⟨_,rfl⟩;rw [hc] at hb;clear hE3 hE;have hm3:=Mk.size;have hnone:=fun a e=>Mk.none a e c hb;have hlow:∀i (h:i<Mk.marks.size),(Mk.marks[i]'h).toNat<128:=by
   intro i h;have h3:i<3:=h
   match i,h,h3 with
   |0,_,_=>show (46:UInt8).toNat<128;decide
   |1,_,_=>show (91:UInt8).toNat<128;decide
   |2,_,_=>show (63:UInt8).toNat<128;decide
  generalize Mk.marks=M at hm3 hnone hlow ⊢;have hcb:((c.toNat:Int)).toNat.toUInt8=c:=by simp
  go_enter L.f152,Body.n152_ntmps ρ
  go_wp2_with (first
   |(go_at_fn (ρ.f 119);refine (Any.utf8_ValidRune {L with} r _).mono ?_;rintro e w' ⟨rfl,hw⟩;rw [hw,hv]))
  subst hw
  go_step3
  go_wp2
  go_loopg [9,10,11,12] 0 (fun _ v9 _ _ _ wx=>v9=.int .i64 (n:Int)/\wx=w')
  case atStart=>simp_all
  case round=>
   obtain ⟨rfl,rfl⟩:=hrel;by_cases h3:n<3
   ·have hi:n<M.size:=by omega
    obtain ⟨d,hd⟩:∃d:UInt8,M[n]'hi=d:=⟨_,rfl⟩;have hd2:=hlow n hi;rw [hd] at hd2;have hne2:((d.toNat:Int)==(c.toNat:Int))=false:=beq_eq_false_iff_ne.2 (by omega);have c1:(0:Int)<=(n:Int)+1:=by omega
    have c2:(n:Int)+1<=(M.size:Int):=by omega
    have c3:(n:Int)+1<=3:=by omega
    have hwr:=wrap_small _ (by omega) (by omega);clear hlow
    go_wp2
    go_step3
    go_wp2
    go_quiet (fail)
    go_wp2
    generalize hwq:wr.drewN nq=wq;have hidx:∀W,(Instr.index (ρ.t 9) (.string E) (.int .i64 (n:Int))).run Tryz.prog W=.ok (.int .u8 (c.toNat:Int)) W:=fun W=>by rw [run_index_string _ _ _ _ _ t9,dif_pos ⟨by omega,by omega⟩];simp [hc]
    clear hc;have hcall:∀W,Calls Tryz.prog (ρ.f 137) #[.string (M.extract (n+1) 3),.int .u8 (c.toNat:Int)] W fun e w'=>e=.returned (.int .i64 (-1))/\w'=W:=fun W=>by
     refine (Any.strings_IndexByte {L with} (M.extract (n+1) 3) (c.toNat:Int) W).mono ?_
     rintro e w' ⟨rfl,hw⟩
     rw [hcb,hnone];exact ⟨rfl,hw⟩
    go_quiet (first|(go_at_fn (ρ.f 137);refine Calls.quiet_of_same (hcall _)))
    go_wp2
    rw [Exit.noGoto_ret]
    go_wp2
    rw [Exit.noGoto_ret]
    go_ret
    subst hwq;exact ⟨rfl,⟨rfl,rfl,rfl,Nat.le_refl _,fun _ _=>rfl⟩⟩
   ·go_wp2
    rw [Exit.noGoto_ret]
    go_ret
    exact ⟨rfl,Below.refl _ _⟩
set_option maxHeartbeats 4000000 in
set_option maxRecDepth 100000 in
theorem Mk.indexRune_error (L:Lays.n152 Tryz.prog ρ)(w:World):
  Calls Tryz.prog (ρ.f 152) #[.string Mk.marks,.int .i32 65533] w fun e w'=>e=.returned (.int .i64 (-1))/\Below w.heap.size w w':=by
 have mixed:=L.mixed;have t3:=L.t3;have a3:=L.a3;have z3:=L.z3;have v3:=L.v3;have t4:=L.t4;have a4:=L.a4;have z4:=L.z4;have v4:=L.v4;have t5:=L.t5;have a5:=L.a5;have z5:=L.z5;have v5:=L.v5;have t9:=L.t9;have a9:=L.a9;have z9:=L.z9;have v9:=L.v9;have t21:=L.t21;have a21:=L.a21;have z21:=L.z21;have v21:=L.v21;have hm3:=Mk.size;have hlow:∀i (h:i<Mk.marks.size),(Mk.marks[i]'h).toNat<128:=by
  intro i h;have h3:i<3:=h
  match i,h,h3 with
  |0,_,_=>show (46:UInt8).toNat<128;decide
  |1,_,_=>show (91:UInt8).toNat<128;decide
  |2,_,_=>show (63:UInt8).toNat<128;decide
 generalize Mk.marks=M at hm3 hlow ⊢
 go_enter L.f152,Body.n152_ntmps ρ
 go_wp2
 go_loopg [5,6] M.size (fun g _ _ wx=>∃i:Nat,i+g=M.size/\wx=w.iter M i)
 case atStart=>grind
 case round=>
  obtain ⟨i,hig,rfl⟩:=hrel;cases gk with
  |zero=>
   obtain rfl:i=M.size:=by omega
   have hnx:=fun ty=>run_next_end (P:=Tryz.prog) w M 3 ty (by omega)
   go_wp2
   go_ret
   exact ⟨rfl,(Below.refl _ _).alloc (Nat.le_refl _) _⟩
  |succ g=>
   have hi:i<M.size:=by omega
   obtain ⟨x,hx⟩:∃x:UInt8,M[i]'hi=x:=⟨_,rfl⟩;have hx128:=hlow i hi;rw [hx] at hx128;have hnx:=fun ty=>run_next_ascii (P:=Tryz.prog) w M i ty hi (by rw [hx];omega);rw [hx] at hnx;have hne:((x.toNat:Int)==65533)=false:=beq_eq_false_iff_ne.2 (by omega)
   go_wp2
   go_roundg g
   case measure=>omega
   grind
theorem Mk.indexRune (L:Lays.n152 Tryz.prog ρ)(r:Int)(w:World)(h0:128<=r)(h1:r<=2147483647):
  Calls Tryz.prog (ρ.f 152) #[.string Mk.marks,.int .i32 r] w fun e w'=>e=.returned (.int .i64 (-1))/\Below w.heap.size w w':=by
 grind[Mk.indexRune_error,Mk.indexRune_high]
def Mk.seek (s:ByteArray):Nat->Nat->Int
 |0,_=>-1
 |f+1,pos=>if pos<s.size then (if Mk.marks.data.toList.any fun b=>b.toNat==(Utf8.decode s pos).1 then (pos:Int) else Mk.seek s f (pos+(Utf8.decode s pos).2)) else -1
theorem Mk.decode_pos (s:ByteArray)(pos:Nat)(h:pos<s.size):1<=(Utf8.decode s pos).2:=by
 by_cases ha:(s[pos]'h).toNat<128;·simp only [Utf8.decode,get_at s pos h,ha,if_true];omega
 grind[decode_high]
theorem Mk.hit (r:Nat)(h:r<128):decide ((0:Int)<=Lib.indexByte Mk.marks.data.toList r.toUInt8)=Mk.marks.data.toList.any fun b=>b.toNat==r:=by
 have:∀r:Fin 128,decide ((0:Int)<=Lib.indexByte [46,91,63] r.val.toUInt8)=[46,91,63].any fun b:UInt8=>b.toNat==r.val:=by decide
 exact this ⟨r,h⟩
theorem Mk.miss (r:Nat)(h:128<=r):(Mk.marks.data.toList.any fun b=>b.toNat==r)=false:=by
 show ([46,91,63].any fun b:UInt8=>b.toNat==r)=false;simp only [List.any_cons,List.any_nil,Bool.or_false,Bool.or_eq_false_iff,beq_eq_false_iff_ne];refine ⟨?_,?_,?_⟩
 ·grind
 ·grind
 grind
theorem Mk.seek_end (s:ByteArray):∀(f pos:Nat),s.size<=pos->Mk.seek s f pos=-1
 |0,_,_=>rfl
 |f+1,pos,h=>by simp_all[Mk.seek,if_neg]
set_option maxHeartbeats 8000000 in
set_option maxRecDepth 1000000 in
theorem Mk.indexAny_short (L:Lays.n153 Tryz.prog ρ)(s:ByteArray)(w:World)(h8:s.size<=8):
  Calls Tryz.prog (ρ.f 153) #[.string s,.string Mk.marks] w fun e w'=>e=.returned (.int .i64 (Mk.seek s s.size 0))/\Below w.heap.size w w':=by
 have hemp:Mk.marks.toList.isEmpty=false:=by kernel_rfl
 have hn1:((Mk.marks.size:Int)==1)=false:=by kernel_rfl
 have h8z:decide ((8:Int)<(s.size:Int))=false:=decide_eq_false (by omega);have t3:=L.t3;have a3:=L.a3;have z3:=L.z3;have v3:=L.v3;have t4:=L.t4;have a4:=L.a4;have z4:=L.z4;have v4:=L.v4;have t5:=L.t5;have a5:=L.a5;have z5:=L.z5;have v5:=L.v5;have t9:=L.t9;have a9:=L.a9;have z9:=L.z9;have v9:=L.v9;have t21:=L.t21;have a21:=L.a21;have z21:=L.z21;have v21:=L.v21;have e152:∀args w,(callFunc (ρ.f 152) args).run Tryz.prog w=.ok (.enter (ρ.f 152) args) w:=enters_of L.f152 (by kernel_rfl) rfl;have e226:∀args w,(callFunc (ρ.f 226) args).run Tryz.prog w=.ok (.enter (ρ.f 226) args) w:=enters_of L.f226 (by kernel_rfl) rfl
 go_enter L.f153,Body.n153_ntmps ρ
 go_wp2_with (go_at_fn (ρ.f 226);refine (Any.strings_shouldUseASCIISet {L with} _ _).mono ?_;rintro e w' ⟨rfl,hw⟩;rw [hw,h8z])
 go_loopg [9,10] s.size (fun g _ _ wx=>∃i:Nat,s.size<=i+g/\wx.heap[w.heap.size]?=some (.stringIter s i)/\Below w.heap.size w wx/\Aside (Mk.seek s s.size 0=Mk.seek s g i))
 case atStart=>exact ⟨0,by omega,World.iter_heap w s 0,(Below.refl _ _).alloc (Nat.le_refl _) _,rfl⟩
 case round=>
  obtain ⟨i,hig,hk,hB,A⟩:=hrel;by_cases hi:i<s.size
  ·obtain ⟨g,rfl⟩:∃g,gk=g+1:=⟨gk-1,by omega⟩;have hpos:=Mk.decode_pos s i hi;have hle:=decode_le s i;have hstep:Mk.seek s (g+1) i=if Mk.marks.data.toList.any fun b=>b.toNat==(Utf8.decode s i).1 then (i:Int) else Mk.seek s g (i+(Utf8.decode s i).2):=by show (if i<s.size then _ else _)=_;rw [if_pos hi]
   have hnx:=fun ty=>Lib.run_next_any_at (P:=Tryz.prog) wr w.heap.size s i ty hk hi;obtain ⟨r,hr⟩:∃r,(Utf8.decode s i).1=r:=⟨_,rfl⟩;obtain ⟨n,hn⟩:∃n,(Utf8.decode s i).2=n:=⟨_,rfl⟩;rw [hr] at hnx hle hstep;rw [hn] at hnx hpos hstep;have hk2:=Lib.iterAt_heap wr w.heap.size s i (i+n) hk;have hB2:=Lib.below_iterAt hB (Nat.le_refl _) s (i+n);generalize wr.iterAt w.heap.size s (i+n)=w2 at hnx hk2 hB2;by_cases h128:r<128
   ·have hh:=Mk.hit r h128;obtain ⟨z,hz⟩:∃z,Lib.indexByte Mk.marks.data.toList r.toUInt8=z:=⟨_,rfl⟩;rw [hz] at hh;have hcall:∀W,Calls Tryz.prog (ρ.f 152) #[.string Mk.marks,.int .i32 (r:Int)] W fun e w'=>e=.returned (.int .i64 z)/\w'=W:=fun W=>by
     refine (Any.strings_IndexRune_ascii {L with} Mk.marks (r:Int) W (by omega) (by omega)).mono ?_
     rintro e w' ⟨rfl,hw⟩
     rw [Int.toNat_natCast,hz];exact ⟨rfl,hw⟩
    cases hin:Mk.marks.data.toList.any fun b=>b.toNat==r with
    |true=>
     rw [hin] at hh;have hge:=of_decide_eq_true hh;have A2:Aside (Mk.seek s s.size 0=(i:Int)):=by show _=_;rw [A.out,hstep,hin];rfl
     clear hstep hh
     go_wp2_with (go_at_fn (ρ.f 152);refine (hcall _).mono ?_;rintro e w' ⟨rfl,hw⟩;rw [hw])
     go_ret
     exact ⟨by rw [A2.out];rfl,hB2⟩
    |false=>
     rw [hin] at hh;have hlt:=of_decide_eq_false hh;have A2:Aside (Mk.seek s s.size 0=Mk.seek s g (i+n)):=by show _=_;rw [A.out,hstep,hin];rfl
     clear hstep hh
     go_wp2_with (go_at_fn (ρ.f 152);refine (hcall _).mono ?_;rintro e w' ⟨rfl,hw⟩;rw [hw])
     go_roundg g
     case measure=>omega
     grind
   have A2:Aside (Mk.seek s s.size 0=Mk.seek s g (i+n)):=by show _=_;rw [A.out,hstep,Mk.miss r (by omega)];rfl
   clear hstep
   go_wp2_with (go_at_fn (ρ.f 152);refine (Mk.indexRune {L with} _ _ (by omega) (by omega)).mono ?_)
   rintro e w3 ⟨rfl,hB3⟩
   go_wp2
   go_roundg g
   case measure=>omega
   case rel=>have hlt:=(Array.getElem?_eq_some_iff.1 hk2).1;exact ⟨i+n,by omega,by rw [hB3.block _ hlt]<;>grind,hB2.trans (hB3.mono (by omega)),A2⟩
  have hnx:=fun ty=>Lib.run_next_end_at (P:=Tryz.prog) wr w.heap.size s i ty hk hi
  go_wp2
  go_ret
  exact ⟨by rw [A.out,Mk.seek_end s _ i (by omega)];rfl,hB⟩
end Go.Proofs
