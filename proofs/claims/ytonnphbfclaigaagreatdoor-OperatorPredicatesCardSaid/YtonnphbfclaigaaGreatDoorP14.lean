/-.-/
import Derived.Shelf.LaysC
import Derived.Shelf.LaysM
import Derived.Shelf.Lays
import Derived.Shelf.Strconv.Itoa1
import Derived.Shelf.Strconv.Itoa2
import Derived.Lib.Walk
import Derived.Lib.ItoaMem
import Derived.WalkKit
import Derived.BigCall
import Derived.BigGuard
import Derived.Test.YtonnphbfclaigaaGreatDoorP13
set_option linter.all false
namespace Go.Proofs.YtonnphbfclaigaaGreatDoor
open Go.Em
set_option maxRecDepth 100000
structure Nod where
 name:qbJ
 kind:Int
 schema:Int
 result:Int
 number:Int
 time:Int
 limit:Int
 text:qbJ
 ty:Int×Int×Int×Int
 words:qbI
 elem:qbI
 fields:qbI
 types:qbI
 exprs:qbI
 calls:qbI
 rules:qbI
 next:qbI
def Nod.cells (n:Nod):List X:=[strX n.name,num n.kind,num n.schema,num n.result,num n.number,num n.time,num n.limit,strX n.text,num n.ty.1,num n.ty.2.1,num n.ty.2.2.1,num n.ty.2.2.2,.sl false 1 n.words,.sl false 7 n.elem,.sl false 11 n.fields,.sl false 7 n.types,.sl false 5 n.exprs,.sl false 6 n.rules,.sl false 2 n.calls,.sl false 1 n.next]
def isNode (c:List X):Prop:=∃(name:qbJ) (k1 k2 k3 k4 k5 k6:Int) (text:qbJ) (T:List X) (ty ex ru ca ne:qbI),c=[strX name,num k1,num k2,num k3,num k4,num k5,num k6,strX text]++(T++[.sl false 7 ty,.sl false 5 ex,.sl false 6 ru,.sl false 2 ca,.sl false 1 ne])/\isTyp 3 T/\(∀x,x∈ty->isTyp 3 x)/\(∀x,x∈ex->isExp 3 x)/\(∀x,x∈ru->isRule x)/\∀x,x∈ca->isCall x
end Go.Proofs.YtonnphbfclaigaaGreatDoor
namespace Go.Proofs.YtonnphbfclaigaaGreatDoor
open Go.Em Go.RowKit
set_option maxRecDepth 100000
theorem Tryz.own:ownKnob Tryz.prog.godebug=none:=by kernel_rfl
theorem Tryz.laidOut:laidOutB Tryz.prog=true:=by kernel_rfl
theorem Tryz.rowed:mapsRowed Tryz.prog=true:=by kernel_rfl
def tys:List TypeId:=[3,4,9,22,24,39,48,49,50,52,53,54,56,57,25,59,27,28,29,31,33,35,77,106,136,108,111,143]
theorem tys_ok:dataTys Tryz.prog tys=true:=by kernel_rfl
theorem tys_size:tys.all (fun t=>decide (t<Tryz.prog.types.size))=true:=by kernel_rfl
theorem tys_lt {t:TypeId}(h:t∈tys):t<Tryz.prog.types.size:=of_decide_eq_true (qbo.1 tys_size t h)
theorem tys_kids:Kids Tryz.prog (fun t=>t∈tys/\t<Tryz.prog.types.size):=kids_data (kids_rows Tryz.laidOut Tryz.rowed) tys_ok
def fieldsOf (P:Program)(t:TypeId):Array Field:=match P.underlying t with
 |some (.struct fs)=>fs
 |_=>#[]
theorem under3:Tryz.prog.underlying 3=some (.int .i64):=by kernel_rfl
theorem under4:Tryz.prog.underlying 4=some .bool:=by kernel_rfl
theorem under9:Tryz.prog.underlying 9=some .string:=by kernel_rfl
theorem under24:Tryz.prog.underlying 24=some (.struct (fieldsOf Tryz.prog 24)):=by kernel_rfl
theorem fields24:(fieldsOf Tryz.prog 24).toList.map (·.type)=[3,3,22]:=by kernel_rfl
theorem under52:Tryz.prog.underlying 52=some (.struct (fieldsOf Tryz.prog 52)):=by kernel_rfl
theorem fields52:(fieldsOf Tryz.prog 52).toList.map (·.type)=[3,3,3,3,48,49,50]:=by kernel_rfl
theorem under56:Tryz.prog.underlying 56=some (.struct (fieldsOf Tryz.prog 56)):=by kernel_rfl
theorem fields56:(fieldsOf Tryz.prog 56).toList.map (·.type)=[54]:=by kernel_rfl
theorem under59:Tryz.prog.underlying 59=some (.struct (fieldsOf Tryz.prog 59)):=by kernel_rfl
theorem fields59:(fieldsOf Tryz.prog 59).toList.map (·.type)=[9,3,3,3,3,3,3,9,52,49,53,56,57,25]:=by kernel_rfl
theorem under27:Tryz.prog.underlying 27=some (.struct (fieldsOf Tryz.prog 27)):=by kernel_rfl
theorem fields27:(fieldsOf Tryz.prog 27).toList.map (·.type)=[3,25]:=by kernel_rfl
theorem under31:Tryz.prog.underlying 31=some (.struct (fieldsOf Tryz.prog 31)):=by kernel_rfl
theorem fields31:(fieldsOf Tryz.prog 31).toList.map (·.type)=[3,3,3,9,28,29]:=by kernel_rfl
theorem under33:Tryz.prog.underlying 33=some (.struct (fieldsOf Tryz.prog 33)):=by kernel_rfl
theorem fields33:(fieldsOf Tryz.prog 33).toList.map (·.type)=[27,3,25,31]:=by kernel_rfl
theorem under35:Tryz.prog.underlying 35=some (.struct (fieldsOf Tryz.prog 35)):=by kernel_rfl
theorem fields35:(fieldsOf Tryz.prog 35).toList.map (·.type)=[3,3,27,33,3,4,4,31]:=by kernel_rfl
theorem under77:Tryz.prog.underlying 77=some (.struct (fieldsOf Tryz.prog 77)):=by kernel_rfl
theorem fields77:(fieldsOf Tryz.prog 77).toList.map (·.type)=[31,3,3,39,28]:=by kernel_rfl
theorem under106:Tryz.prog.underlying 106=some (.struct (fieldsOf Tryz.prog 106)):=by kernel_rfl
theorem fields106:(fieldsOf Tryz.prog 106).toList.map (·.type)=[3,3,9,28,53]:=by kernel_rfl
theorem under136:Tryz.prog.underlying 136=some (.struct (fieldsOf Tryz.prog 136)):=by kernel_rfl
theorem fields136:(fieldsOf Tryz.prog 136).toList.map (·.type)=[9,31]:=by kernel_rfl
theorem under108:Tryz.prog.underlying 108=some (.struct (fieldsOf Tryz.prog 108)):=by kernel_rfl
theorem fields108:(fieldsOf Tryz.prog 108).toList.map (·.type)=[9,106]:=by kernel_rfl
theorem under111:Tryz.prog.underlying 111=some (.struct (fieldsOf Tryz.prog 111)):=by kernel_rfl
theorem fields111:(fieldsOf Tryz.prog 111).toList.map (·.type)=[9,56]:=by kernel_rfl
theorem under143:Tryz.prog.underlying 143=some (.struct (fieldsOf Tryz.prog 143)):=by kernel_rfl
theorem fields143:(fieldsOf Tryz.prog 143).toList.map (·.type)=[3,9,3,52,28]:=by kernel_rfl
theorem under22:Tryz.prog.underlying 22=some (.slice 77):=by kernel_rfl
theorem under39:Tryz.prog.underlying 39=some (.slice 33):=by kernel_rfl
theorem under48:Tryz.prog.underlying 48=some (.slice 9):=by kernel_rfl
theorem under49:Tryz.prog.underlying 49=some (.slice 52):=by kernel_rfl
theorem under50:Tryz.prog.underlying 50=some (.slice 143):=by kernel_rfl
theorem under53:Tryz.prog.underlying 53=some (.slice 106):=by kernel_rfl
theorem under54:Tryz.prog.underlying 54=some (.slice 108):=by kernel_rfl
theorem under57:Tryz.prog.underlying 57=some (.slice 111):=by kernel_rfl
theorem under25:Tryz.prog.underlying 25=some (.slice 3):=by kernel_rfl
theorem under28:Tryz.prog.underlying 28=some (.slice 31):=by kernel_rfl
theorem under29:Tryz.prog.underlying 29=some (.slice 136):=by kernel_rfl
theorem cells3:Tryz.prog.cellsOf 3=1:=by kernel_rfl
theorem cells9:Tryz.prog.cellsOf 9=1:=by kernel_rfl
theorem cells52:Tryz.prog.cellsOf 52=7:=by kernel_rfl
theorem cells31:Tryz.prog.cellsOf 31=6:=by kernel_rfl
theorem cells33:Tryz.prog.cellsOf 33=10:=by kernel_rfl
theorem cells77:Tryz.prog.cellsOf 77=10:=by kernel_rfl
theorem cells106:Tryz.prog.cellsOf 106=5:=by kernel_rfl
theorem cells136:Tryz.prog.cellsOf 136=7:=by kernel_rfl
theorem cells108:Tryz.prog.cellsOf 108=6:=by kernel_rfl
theorem cells111:Tryz.prog.cellsOf 111=2:=by kernel_rfl
theorem cells143:Tryz.prog.cellsOf 143=11:=by kernel_rfl
variable {n:Nat} {xs:List X}
theorem shape_num (h:Shape Tryz.prog n 3 xs):∃z,xs=[num z]:=by obtain ⟨v,rfl,_⟩:=shape_int under3 h;exact ⟨v,rfl⟩
theorem shape_text (h:Shape Tryz.prog n 9 xs):∃s,xs=[strX s]:=by obtain ⟨v,rfl,_⟩:=shape_string under9 h;exact ⟨v,rfl⟩
theorem shape_flag (h:Shape Tryz.prog n 4 xs):∃b,xs=[boolX b]:=shape_bool under4 h
theorem shape_sl22 (h:Shape Tryz.prog n 22 xs):∃es,xs=[.sl false 10 es]/\∃m,m<n/\∀c,c∈es->Shape Tryz.prog m 77 c:=by obtain ⟨es,rfl,_,h⟩:=shape_slice under22 h<;>simp_all[cells77]
theorem shape_sl39 (h:Shape Tryz.prog n 39 xs):∃es,xs=[.sl false 10 es]/\∃m,m<n/\∀c,c∈es->Shape Tryz.prog m 33 c:=by obtain ⟨es,rfl,_,h⟩:=shape_slice under39 h<;>simp_all[cells33]
theorem shape_sl48 (h:Shape Tryz.prog n 48 xs):∃es,xs=[.sl false 1 es]/\∃m,m<n/\∀c,c∈es->Shape Tryz.prog m 9 c:=by obtain ⟨es,rfl,_,h⟩:=shape_slice under48 h<;>simp_all[cells9]
theorem shape_sl49 (h:Shape Tryz.prog n 49 xs):∃es,xs=[.sl false 7 es]/\∃m,m<n/\∀c,c∈es->Shape Tryz.prog m 52 c:=by obtain ⟨es,rfl,_,h⟩:=shape_slice under49 h<;>simp_all[cells52]
theorem shape_sl50 (h:Shape Tryz.prog n 50 xs):∃es,xs=[.sl false 11 es]/\∃m,m<n/\∀c,c∈es->Shape Tryz.prog m 143 c:=by obtain ⟨es,rfl,_,h⟩:=shape_slice under50 h<;>simp_all[cells143]
theorem shape_sl53 (h:Shape Tryz.prog n 53 xs):∃es,xs=[.sl false 5 es]/\∃m,m<n/\∀c,c∈es->Shape Tryz.prog m 106 c:=by obtain ⟨es,rfl,_,h⟩:=shape_slice under53 h<;>simp_all[cells106]
theorem shape_sl54 (h:Shape Tryz.prog n 54 xs):∃es,xs=[.sl false 6 es]/\∃m,m<n/\∀c,c∈es->Shape Tryz.prog m 108 c:=by obtain ⟨es,rfl,_,h⟩:=shape_slice under54 h<;>simp_all[cells108]
theorem shape_sl57 (h:Shape Tryz.prog n 57 xs):∃es,xs=[.sl false 2 es]/\∃m,m<n/\∀c,c∈es->Shape Tryz.prog m 111 c:=by obtain ⟨es,rfl,_,h⟩:=shape_slice under57 h<;>simp_all[cells111]
theorem shape_sl25 (h:Shape Tryz.prog n 25 xs):∃es,xs=[.sl false 1 es]/\∃m,m<n/\∀c,c∈es->Shape Tryz.prog m 3 c:=by obtain ⟨es,rfl,_,h⟩:=shape_slice under25 h<;>simp_all[cells3]
theorem shape_sl28 (h:Shape Tryz.prog n 28 xs):∃es,xs=[.sl false 6 es]/\∃m,m<n/\∀c,c∈es->Shape Tryz.prog m 31 c:=by obtain ⟨es,rfl,_,h⟩:=shape_slice under28 h<;>simp_all[cells31]
theorem shape_sl29 (h:Shape Tryz.prog n 29 xs):∃es,xs=[.sl false 7 es]/\∃m,m<n/\∀c,c∈es->Shape Tryz.prog m 136 c:=by obtain ⟨es,rfl,_,h⟩:=shape_slice under29 h<;>simp_all[cells136]
theorem shape_st24 (h:Shape Tryz.prog n 24 xs):∃m,m<n/\∃x0 x1 x2,xs=x0++(x1++(x2++[]))/\Shape Tryz.prog m 3 x0/\Shape Tryz.prog m 3 x1/\Shape Tryz.prog m 22 x2:=by
 obtain ⟨m,hm,hk⟩:=shape_struct under24 h;rw [fields24] at hk;obtain ⟨x0,r0,rfl,h0,hk⟩:=hk;obtain ⟨x1,r1,rfl,h1,hk⟩:=hk;obtain ⟨x2,r2,rfl,h2,hk⟩:=hk;have hk:r2=[]:=hk
 grind
theorem shape_st52 (h:Shape Tryz.prog n 52 xs):∃m,m<n/\∃x0 x1 x2 x3 x4 x5 x6,xs=x0++(x1++(x2++(x3++(x4++(x5++(x6++[]))))))/\Shape Tryz.prog m 3 x0/\Shape Tryz.prog m 3 x1/\Shape Tryz.prog m 3 x2/\Shape Tryz.prog m 3 x3/\Shape Tryz.prog m 48 x4/\Shape Tryz.prog m 49 x5/\Shape Tryz.prog m 50 x6:=by
 obtain ⟨m,hm,hk⟩:=shape_struct under52 h;rw [fields52] at hk;obtain ⟨x0,r0,rfl,h0,hk⟩:=hk;obtain ⟨x1,r1,rfl,h1,hk⟩:=hk;obtain ⟨x2,r2,rfl,h2,hk⟩:=hk;obtain ⟨x3,r3,rfl,h3,hk⟩:=hk;obtain ⟨x4,r4,rfl,h4,hk⟩:=hk;obtain ⟨x5,r5,rfl,h5,hk⟩:=hk;obtain ⟨x6,r6,rfl,h6,hk⟩:=hk;have hk:r6=[]:=hk
 grind
theorem shape_st56 (h:Shape Tryz.prog n 56 xs):∃m,m<n/\∃x0,xs=x0++[]/\Shape Tryz.prog m 54 x0:=by
 obtain ⟨m,hm,hk⟩:=shape_struct under56 h;rw [fields56] at hk;obtain ⟨x0,r0,rfl,h0,hk⟩:=hk;have hk:r0=[]:=hk
 grind
theorem shape_st59 (h:Shape Tryz.prog n 59 xs):∃m,m<n/\∃x0 x1 x2 x3 x4 x5 x6 x7 x8 x9 x10 x11 x12 x13,xs=x0++(x1++(x2++(x3++(x4++(x5++(x6++(x7++(x8++(x9++(x10++(x11++(x12++(x13++[])))))))))))))/\Shape Tryz.prog m 9 x0/\Shape Tryz.prog m 3 x1/\Shape Tryz.prog m 3 x2/\Shape Tryz.prog m 3 x3/\Shape Tryz.prog m 3 x4/\Shape Tryz.prog m 3 x5/\Shape Tryz.prog m 3 x6/\Shape Tryz.prog m 9 x7/\Shape Tryz.prog m 52 x8/\Shape Tryz.prog m 49 x9/\Shape Tryz.prog m 53 x10/\Shape Tryz.prog m 56 x11/\Shape Tryz.prog m 57 x12/\Shape Tryz.prog m 25 x13:=by
 obtain ⟨m,hm,hk⟩:=shape_struct under59 h;rw [fields59] at hk;obtain ⟨x0,r0,rfl,h0,hk⟩:=hk;obtain ⟨x1,r1,rfl,h1,hk⟩:=hk;obtain ⟨x2,r2,rfl,h2,hk⟩:=hk;obtain ⟨x3,r3,rfl,h3,hk⟩:=hk;obtain ⟨x4,r4,rfl,h4,hk⟩:=hk;obtain ⟨x5,r5,rfl,h5,hk⟩:=hk;obtain ⟨x6,r6,rfl,h6,hk⟩:=hk;obtain ⟨x7,r7,rfl,h7,hk⟩:=hk;obtain ⟨x8,r8,rfl,h8,hk⟩:=hk;obtain ⟨x9,r9,rfl,h9,hk⟩:=hk;obtain ⟨x10,r10,rfl,h10,hk⟩:=hk;obtain ⟨x11,r11,rfl,h11,hk⟩:=hk;obtain ⟨x12,r12,rfl,h12,hk⟩:=hk;obtain ⟨x13,r13,rfl,h13,hk⟩:=hk;have hk:r13=[]:=hk
 grind
theorem shape_st27 (h:Shape Tryz.prog n 27 xs):∃m,m<n/\∃x0 x1,xs=x0++(x1++[])/\Shape Tryz.prog m 3 x0/\Shape Tryz.prog m 25 x1:=by
 obtain ⟨m,hm,hk⟩:=shape_struct under27 h;rw [fields27] at hk;obtain ⟨x0,r0,rfl,h0,hk⟩:=hk;obtain ⟨x1,r1,rfl,h1,hk⟩:=hk;have hk:r1=[]:=hk
 grind
theorem shape_st31 (h:Shape Tryz.prog n 31 xs):∃m,m<n/\∃x0 x1 x2 x3 x4 x5,xs=x0++(x1++(x2++(x3++(x4++(x5++[])))))/\Shape Tryz.prog m 3 x0/\Shape Tryz.prog m 3 x1/\Shape Tryz.prog m 3 x2/\Shape Tryz.prog m 9 x3/\Shape Tryz.prog m 28 x4/\Shape Tryz.prog m 29 x5:=by
 obtain ⟨m,hm,hk⟩:=shape_struct under31 h;rw [fields31] at hk;obtain ⟨x0,r0,rfl,h0,hk⟩:=hk;obtain ⟨x1,r1,rfl,h1,hk⟩:=hk;obtain ⟨x2,r2,rfl,h2,hk⟩:=hk;obtain ⟨x3,r3,rfl,h3,hk⟩:=hk;obtain ⟨x4,r4,rfl,h4,hk⟩:=hk;obtain ⟨x5,r5,rfl,h5,hk⟩:=hk;have hk:r5=[]:=hk
 grind
theorem shape_st33 (h:Shape Tryz.prog n 33 xs):∃m,m<n/\∃x0 x1 x2 x3,xs=x0++(x1++(x2++(x3++[])))/\Shape Tryz.prog m 27 x0/\Shape Tryz.prog m 3 x1/\Shape Tryz.prog m 25 x2/\Shape Tryz.prog m 31 x3:=by
 obtain ⟨m,hm,hk⟩:=shape_struct under33 h;rw [fields33] at hk;obtain ⟨x0,r0,rfl,h0,hk⟩:=hk;obtain ⟨x1,r1,rfl,h1,hk⟩:=hk;obtain ⟨x2,r2,rfl,h2,hk⟩:=hk;obtain ⟨x3,r3,rfl,h3,hk⟩:=hk;have hk:r3=[]:=hk
 grind
theorem shape_st35 (h:Shape Tryz.prog n 35 xs):∃m,m<n/\∃x0 x1 x2 x3 x4 x5 x6 x7,xs=x0++(x1++(x2++(x3++(x4++(x5++(x6++(x7++[])))))))/\Shape Tryz.prog m 3 x0/\Shape Tryz.prog m 3 x1/\Shape Tryz.prog m 27 x2/\Shape Tryz.prog m 33 x3/\Shape Tryz.prog m 3 x4/\Shape Tryz.prog m 4 x5/\Shape Tryz.prog m 4 x6/\Shape Tryz.prog m 31 x7:=by
 obtain ⟨m,hm,hk⟩:=shape_struct under35 h;rw [fields35] at hk;obtain ⟨x0,r0,rfl,h0,hk⟩:=hk;obtain ⟨x1,r1,rfl,h1,hk⟩:=hk;obtain ⟨x2,r2,rfl,h2,hk⟩:=hk;obtain ⟨x3,r3,rfl,h3,hk⟩:=hk;obtain ⟨x4,r4,rfl,h4,hk⟩:=hk;obtain ⟨x5,r5,rfl,h5,hk⟩:=hk;obtain ⟨x6,r6,rfl,h6,hk⟩:=hk;obtain ⟨x7,r7,rfl,h7,hk⟩:=hk;have hk:r7=[]:=hk
 grind
theorem shape_st77 (h:Shape Tryz.prog n 77 xs):∃m,m<n/\∃x0 x1 x2 x3 x4,xs=x0++(x1++(x2++(x3++(x4++[]))))/\Shape Tryz.prog m 31 x0/\Shape Tryz.prog m 3 x1/\Shape Tryz.prog m 3 x2/\Shape Tryz.prog m 39 x3/\Shape Tryz.prog m 28 x4:=by
 obtain ⟨m,hm,hk⟩:=shape_struct under77 h;rw [fields77] at hk;obtain ⟨x0,r0,rfl,h0,hk⟩:=hk;obtain ⟨x1,r1,rfl,h1,hk⟩:=hk;obtain ⟨x2,r2,rfl,h2,hk⟩:=hk;obtain ⟨x3,r3,rfl,h3,hk⟩:=hk;obtain ⟨x4,r4,rfl,h4,hk⟩:=hk;have hk:r4=[]:=hk
 grind
theorem shape_st106 (h:Shape Tryz.prog n 106 xs):∃m,m<n/\∃x0 x1 x2 x3 x4,xs=x0++(x1++(x2++(x3++(x4++[]))))/\Shape Tryz.prog m 3 x0/\Shape Tryz.prog m 3 x1/\Shape Tryz.prog m 9 x2/\Shape Tryz.prog m 28 x3/\Shape Tryz.prog m 53 x4:=by
 obtain ⟨m,hm,hk⟩:=shape_struct under106 h;rw [fields106] at hk;obtain ⟨x0,r0,rfl,h0,hk⟩:=hk;obtain ⟨x1,r1,rfl,h1,hk⟩:=hk;obtain ⟨x2,r2,rfl,h2,hk⟩:=hk;obtain ⟨x3,r3,rfl,h3,hk⟩:=hk;obtain ⟨x4,r4,rfl,h4,hk⟩:=hk;have hk:r4=[]:=hk
 grind
theorem shape_st136 (h:Shape Tryz.prog n 136 xs):∃m,m<n/\∃x0 x1,xs=x0++(x1++[])/\Shape Tryz.prog m 9 x0/\Shape Tryz.prog m 31 x1:=by
 obtain ⟨m,hm,hk⟩:=shape_struct under136 h;rw [fields136] at hk;obtain ⟨x0,r0,rfl,h0,hk⟩:=hk;obtain ⟨x1,r1,rfl,h1,hk⟩:=hk;have hk:r1=[]:=hk
 grind
theorem shape_st108 (h:Shape Tryz.prog n 108 xs):∃m,m<n/\∃x0 x1,xs=x0++(x1++[])/\Shape Tryz.prog m 9 x0/\Shape Tryz.prog m 106 x1:=by
 obtain ⟨m,hm,hk⟩:=shape_struct under108 h;rw [fields108] at hk;obtain ⟨x0,r0,rfl,h0,hk⟩:=hk;obtain ⟨x1,r1,rfl,h1,hk⟩:=hk;have hk:r1=[]:=hk
 grind
theorem shape_st111 (h:Shape Tryz.prog n 111 xs):∃m,m<n/\∃x0 x1,xs=x0++(x1++[])/\Shape Tryz.prog m 9 x0/\Shape Tryz.prog m 56 x1:=by
 obtain ⟨m,hm,hk⟩:=shape_struct under111 h;rw [fields111] at hk;obtain ⟨x0,r0,rfl,h0,hk⟩:=hk;obtain ⟨x1,r1,rfl,h1,hk⟩:=hk;have hk:r1=[]:=hk
 grind
theorem shape_st143 (h:Shape Tryz.prog n 143 xs):∃m,m<n/\∃x0 x1 x2 x3 x4,xs=x0++(x1++(x2++(x3++(x4++[]))))/\Shape Tryz.prog m 3 x0/\Shape Tryz.prog m 9 x1/\Shape Tryz.prog m 3 x2/\Shape Tryz.prog m 52 x3/\Shape Tryz.prog m 28 x4:=by
 obtain ⟨m,hm,hk⟩:=shape_struct under143 h;rw [fields143] at hk;obtain ⟨x0,r0,rfl,h0,hk⟩:=hk;obtain ⟨x1,r1,rfl,h1,hk⟩:=hk;obtain ⟨x2,r2,rfl,h2,hk⟩:=hk;obtain ⟨x3,r3,rfl,h3,hk⟩:=hk;obtain ⟨x4,r4,rfl,h4,hk⟩:=hk;have hk:r4=[]:=hk
 grind
theorem shape_val:∀(n:Nat) (xs:List X),Shape Tryz.prog n 31 xs->∃v:Val,xs=v.cells:=by
 intro n;induction n using Nat.strongRecOn with
 |_ n ih=>
  intro xs h;obtain ⟨m,hm,x0,x1,x2,x3,x4,x5,rfl,h0,h1,h2,h3,h4,h5⟩:=shape_st31 h;obtain ⟨k,rfl⟩:=shape_num h0;obtain ⟨i,rfl⟩:=shape_num h1;obtain ⟨s,rfl⟩:=shape_num h2;obtain ⟨t,rfl⟩:=shape_text h3;obtain ⟨es,rfl,m1,hm1,he⟩:=shape_sl28 h4;obtain ⟨fs,rfl,m2,hm2,hf⟩:=shape_sl29 h5;obtain ⟨l,rfl⟩:=list_of Val.cells fun c hc=>ih m1 (by omega) c (he c hc);obtain ⟨f,rfl⟩:=list_of (fun p:qbJ×Val=>strX p.1::p.2.cells) (es:=fs) fun c hc=>by obtain ⟨m3,hm3,y0,y1,rfl,g0,g1⟩:=shape_st136 (hf c hc);obtain ⟨nm,rfl⟩:=shape_text g0;obtain ⟨v,rfl⟩:=ih m3 (by omega) y1 g1;exact ⟨(nm,v),by simp⟩
  exact ⟨.mk k i s t l f,by grind[Val.cells,cellsL_eq,cellsF_eq]⟩
theorem shape_vals (h:Shape Tryz.prog n 28 xs):∃l:List Val,xs=[.sl false 6 (cellsL l)]:=by obtain ⟨es,rfl,m,_,he⟩:=shape_sl28 h;obtain ⟨l,rfl⟩:=list_of Val.cells fun c hc=>shape_val m c (he c hc);exact ⟨l,by rw [cellsL_eq]⟩
theorem shape_isVals {es:qbI}{m:Nat}(h:∀c,c∈es->Shape Tryz.prog m 31 c):∀c,c∈es->isVal c:=fun c hc=>shape_val m c (h c hc)
theorem shape_ints (h:Shape Tryz.prog n 25 xs):∃l:List Int,xs=[.sl false 1 (intsC l)]:=by obtain ⟨es,rfl,m,_,he⟩:=shape_sl25 h;obtain ⟨l,rfl⟩:=list_of (fun z:Int=>[num z]) fun c hc=>shape_num (he c hc);exact ⟨l,rfl⟩
theorem shape_stp (h:Shape Tryz.prog n 27 xs):∃s:Stp,xs=s.cells:=by obtain ⟨m,hm,x0,x1,rfl,h0,h1⟩:=shape_st27 h;obtain ⟨e,rfl⟩:=shape_num h0;obtain ⟨p,rfl⟩:=shape_ints h1;exact ⟨⟨e,p⟩,rfl⟩
theorem shape_msg (h:Shape Tryz.prog n 33 xs):∃s:Msg,xs=s.cells:=by obtain ⟨m,hm,x0,x1,x2,x3,rfl,h0,h1,h2,h3⟩:=shape_st33 h;obtain ⟨s,rfl⟩:=shape_stp h0;obtain ⟨k,rfl⟩:=shape_num h1;obtain ⟨p,rfl⟩:=shape_ints h2;obtain ⟨v,rfl⟩:=shape_val _ _ h3;exact ⟨⟨s,k,p,v⟩,by grind[Msg.cells,Stp.cells]⟩
theorem shape_msgs (h:Shape Tryz.prog n 39 xs):∃l:List Msg,xs=[.sl false 10 (msgsC l)]:=by obtain ⟨es,rfl,m,_,he⟩:=shape_sl39 h;obtain ⟨l,rfl⟩:=list_of Msg.cells fun c hc=>shape_msg (he c hc);exact ⟨l,rfl⟩
theorem shape_slt (h:Shape Tryz.prog n 77 xs):∃s:Slt,xs=s.cells:=by obtain ⟨m,hm,x0,x1,x2,x3,x4,rfl,h0,h1,h2,h3,h4⟩:=shape_st77 h;obtain ⟨⟨k,i,s,t,l,f⟩,rfl⟩:=shape_val _ _ h0;obtain ⟨a,rfl⟩:=shape_num h1;obtain ⟨b,rfl⟩:=shape_num h2;obtain ⟨ms,rfl⟩:=shape_msgs h3;obtain ⟨vs,rfl⟩:=shape_vals h4;exact ⟨⟨.mk k i s t l f,a,b,ms,vs⟩,rfl⟩
theorem shape_stt (h:Shape Tryz.prog n 24 xs):∃s:Stt,xs=s.cells:=by obtain ⟨m,hm,x0,x1,x2,rfl,h0,h1,h2⟩:=shape_st24 h;obtain ⟨a,rfl⟩:=shape_num h0;obtain ⟨b,rfl⟩:=shape_num h1;obtain ⟨es,rfl,m',_,he⟩:=shape_sl22 h2;obtain ⟨l,rfl⟩:=list_of Slt.cells fun c hc=>shape_slt (he c hc);exact ⟨⟨a,b,l⟩,rfl⟩
theorem shape_inp (h:Shape Tryz.prog n 35 xs):∃i:Inp,xs=i.cells:=by obtain ⟨m,hm,x0,x1,x2,x3,x4,x5,x6,x7,rfl,h0,h1,h2,h3,h4,h5,h6,h7⟩:=shape_st35 h;obtain ⟨a,rfl⟩:=shape_num h0;obtain ⟨b,rfl⟩:=shape_num h1;obtain ⟨s,rfl⟩:=shape_stp h2;obtain ⟨g,rfl⟩:=shape_msg h3;obtain ⟨x,rfl⟩:=shape_num h4;obtain ⟨b1,rfl⟩:=shape_flag h5;obtain ⟨b2,rfl⟩:=shape_flag h6;obtain ⟨v,rfl⟩:=shape_val _ _ h7;exact ⟨⟨a,b,s,g,x,b1,b2,v⟩,by simp [Inp.cells,Msg.cells,Stp.cells]⟩
theorem shape_exp:∀(k:Nat) {n:Nat} {xs:List X},Shape Tryz.prog n 106 xs->isExp k xs
 |0,n,xs,h=>by obtain ⟨m,hm,x0,x1,x2,x3,x4,rfl,h0,h1,h2,h3,h4⟩:=shape_st106 h;obtain ⟨o,rfl⟩:=shape_num h0;obtain ⟨i,rfl⟩:=shape_num h1;obtain ⟨t,rfl⟩:=shape_text h2;obtain ⟨vs,rfl,m1,_,hv⟩:=shape_sl28 h3;obtain ⟨es,rfl,m2,_,he⟩:=shape_sl53 h4;exact ⟨o,i,t,vs,es,rfl,shape_isVals hv⟩
 |k+1,n,xs,h=>by obtain ⟨m,hm,x0,x1,x2,x3,x4,rfl,h0,h1,h2,h3,h4⟩:=shape_st106 h;obtain ⟨o,rfl⟩:=shape_num h0;obtain ⟨i,rfl⟩:=shape_num h1;obtain ⟨t,rfl⟩:=shape_text h2;obtain ⟨vs,rfl,m1,_,hv⟩:=shape_sl28 h3;obtain ⟨es,rfl,m2,_,he⟩:=shape_sl53 h4;exact ⟨o,i,t,vs,es,rfl,shape_isVals hv,fun x hx=>shape_exp k (he x hx)⟩
theorem shape_typ:∀(k:Nat) {n:Nat} {xs:List X},Shape Tryz.prog n 52 xs->isTyp k xs
 |0,n,xs,h=>by obtain ⟨m,hm,x0,x1,x2,x3,x4,x5,x6,rfl,h0,h1,h2,h3,h4,h5,h6⟩:=shape_st52 h;obtain ⟨a,rfl⟩:=shape_num h0;obtain ⟨b,rfl⟩:=shape_num h1;obtain ⟨c,rfl⟩:=shape_num h2;obtain ⟨d,rfl⟩:=shape_num h3;obtain ⟨w,rfl,m1,_,hw⟩:=shape_sl48 h4;obtain ⟨e,rfl,m2,_,he⟩:=shape_sl49 h5;obtain ⟨f,rfl,m3,_,hf⟩:=shape_sl50 h6;exact ⟨a,b,c,d,w,e,f,rfl,fun x hx=>shape_text (hw x hx)⟩
 |k+1,n,xs,h=>by obtain ⟨m,hm,x0,x1,x2,x3,x4,x5,x6,rfl,h0,h1,h2,h3,h4,h5,h6⟩:=shape_st52 h;obtain ⟨a,rfl⟩:=shape_num h0;obtain ⟨b,rfl⟩:=shape_num h1;obtain ⟨c,rfl⟩:=shape_num h2;obtain ⟨d,rfl⟩:=shape_num h3;obtain ⟨w,rfl,m1,_,hw⟩:=shape_sl48 h4;obtain ⟨e,rfl,m2,_,he⟩:=shape_sl49 h5;obtain ⟨f,rfl,m3,_,hf⟩:=shape_sl50 h6;refine ⟨a,b,c,d,w,e,f,rfl,fun x hx=>shape_text (hw x hx),fun x hx=>shape_typ k (he x hx),fun x hx=>?_⟩;obtain ⟨m4,_,y0,y1,y2,T,y4,rfl,g0,g1,g2,g3,g4⟩:=shape_st143 (hf x hx);obtain ⟨p,rfl⟩:=shape_num g0;obtain ⟨t,rfl⟩:=shape_text g1;obtain ⟨y,rfl⟩:=shape_num g2;obtain ⟨de,rfl,m5,_,hd⟩:=shape_sl28 g4;exact ⟨p,t,y,T,de,by simp,shape_typ k g3,shape_isVals hd⟩
theorem shape_rule (h:Shape Tryz.prog n 108 xs):isRule xs:=by obtain ⟨m,hm,x0,x1,rfl,h0,h1⟩:=shape_st108 h;obtain ⟨t,rfl⟩:=shape_text h0;exact ⟨t,x1,by simp,shape_exp 3 h1⟩
theorem shape_rules (h:Shape Tryz.prog n 56 xs):∃es,xs=[.sl false 6 es]/\∀x,x∈es->isRule x:=by obtain ⟨m,hm,x0,rfl,h0⟩:=shape_st56 h;obtain ⟨es,rfl,m1,_,he⟩:=shape_sl54 h0;exact ⟨es,rfl,fun x hx=>shape_rule (he x hx)⟩
theorem shape_call (h:Shape Tryz.prog n 111 xs):isCall xs:=by obtain ⟨m,hm,x0,x1,rfl,h0,h1⟩:=shape_st111 h;obtain ⟨t,rfl⟩:=shape_text h0;obtain ⟨es,rfl,he⟩:=shape_rules h1;exact ⟨t,es,rfl,he⟩
theorem shape_node (h:Shape Tryz.prog n 59 xs):isNode xs:=by obtain ⟨m,hm,x0,x1,x2,x3,x4,x5,x6,x7,T,x9,x10,x11,x12,x13,rfl,h0,h1,h2,h3,h4,h5,h6,h7,h8,h9,h10,h11,h12,h13⟩:=shape_st59 h;obtain ⟨name,rfl⟩:=shape_text h0;obtain ⟨k1,rfl⟩:=shape_num h1;obtain ⟨k2,rfl⟩:=shape_num h2;obtain ⟨k3,rfl⟩:=shape_num h3;obtain ⟨k4,rfl⟩:=shape_num h4;obtain ⟨k5,rfl⟩:=shape_num h5;obtain ⟨k6,rfl⟩:=shape_num h6;obtain ⟨text,rfl⟩:=shape_text h7;obtain ⟨ty,rfl,_,_,hty⟩:=shape_sl49 h9;obtain ⟨ex,rfl,_,_,hex⟩:=shape_sl53 h10;obtain ⟨ru,rfl,hru⟩:=shape_rules h11;obtain ⟨ca,rfl,_,_,hca⟩:=shape_sl57 h12;obtain ⟨ne,rfl,_,_,hne⟩:=shape_sl25 h13;exact ⟨name,k1,k2,k3,k4,k5,k6,text,T,ty,ex,ru,ca,ne,by simp,shape_typ 3 h8,fun x hx=>shape_typ 3 (hty x hx),fun x hx=>shape_exp 3 (hex x hx),hru,fun x hx=>shape_call (hca x hx)⟩
theorem shape_node_num (h:Shape Tryz.prog n 59 xs):∀z,xs[4]?=some (num z)->z<=9223372036854775807:=by obtain ⟨m,hm,x0,x1,x2,x3,x4,x5,x6,x7,T,x9,x10,x11,x12,x13,rfl,h0,h1,h2,h3,h4,h5,h6,h7,h8,h9,h10,h11,h12,h13⟩:=shape_st59 h;obtain ⟨name,rfl⟩:=shape_text h0;obtain ⟨k1,rfl⟩:=shape_num h1;obtain ⟨k2,rfl⟩:=shape_num h2;obtain ⟨k3,rfl⟩:=shape_num h3;obtain ⟨k4,rfl,hw⟩:=shape_int under3 h4;intro z hz;have e:some (num k4)=some (num z):=hz;simp only [num,qaE,X.v.injEq,Value.int.injEq,true_and] at e;subst e;simp only [Lit.wf,qa4,qbu] at hw;exact hw.2
end Go.Proofs.YtonnphbfclaigaaGreatDoor
namespace Go.Proofs.YtonnphbfclaigaaGreatDoor
open Go.Em
set_option maxRecDepth 100000
def vEq (a b:Val):Bool:=cmpV a b==0
def sEq (a b:Stp):Bool:=cmpS a b==0
def mEq (a b:Msg):Bool:=sEq a.st b.st&&(a.mass==b.mass&&(eqL (·==·) a.orig b.orig&&vEq a.body b.body))
structure Req where
 st:Stp
 service:qbJ
 call:Int
 undo:Bool
 body:Val
def Req.cells (r:Req):List X:=num r.st.e::.sl false 1 (intsC r.st.p)::strX r.service::num r.call::boolX r.undo::r.body.cells
def reqsC (l:List Req):qbI:=l.map Req.cells
theorem reqsC_length (l:List Req):(reqsC l).length=l.length:=by simp [reqsC]
theorem reqsC_get {l:List Req}{j:Nat}(h:j<l.length):(reqsC l)[j]?=some l[j].cells:=by simp [reqsC,qa3 h]
structure Oc2 where
 s:Stt
 outs:List Otp
 reqs:List Req
 fates:List Fte
 letters:List Msg
def Oc2.cells (o:Oc2):List X:=[num o.s.n,num o.s.t,.sl false 10 (sltsC o.s.slots),.sl false 11 (otpsC o.outs),.sl false 11 (reqsC o.reqs),.sl false 6 (ftesC o.fates),.sl false 10 (msgsC o.letters)]
structure Req.ok (r:Req):Prop where
 st:r.st.ok
 body:r.body.ok
structure Oc2.ok (o:Oc2):Prop where
 s:o.s.ok
 nouts:o.outs.length<=60000
 outs:∀x,x∈o.outs->x.m.ok
 nreqs:o.reqs.length<=6
 reqs:∀x,x∈o.reqs->x.ok
 nfates:o.fates.length<=60000
 fates:∀x,x∈o.fates->x.ok
 nletters:o.letters.length<=60000
 letters:∀x,x∈o.letters->x.ok
theorem val_eq (N:Nat)(a b:Val)(h:a.ok)(hN:190000<=N):Gam.pureD (callF tab ext N) 72 [.agg a.cells,.agg b.cells]=some (boolX (vEq a b)):=by have h':a.size<=60000:=h;exact eq_val N a b (by omega) (by omega)
theorem stp_eq (N:Nat)(a b:Stp)(h:a.ok)(hN:190000<=N):Gam.pureD (callF tab ext N) 46 [.agg a.cells,.agg b.cells]=some (boolX (sEq a b)):=by have h':=h.p;exact eq_stamp N a b (by omega) (by omega)
theorem msg_eq (N:Nat)(a b:Msg)(h:a.ok)(hN:190001<=N):Gam.pureD (callF tab ext N) 40 [.agg a.cells,.agg b.cells]=some (boolX (mEq a b)):=by
 obtain ⟨M,rfl⟩:∃M,N=M+1:=⟨N-1,by omega⟩;have h1:=stp_eq M a.st b.st h.st (by omega);have h2:=eq84_pure (M-1) a.orig b.orig (by have:=h.orig;omega) (by have:=h.orig;omega);rw [show M-1+1=M by omega] at h2;have h3:=val_eq M a.body b.body h.body (by omega);unfold mEq;obtain ⟨⟨a1,a2⟩,a3,a4,a5,a6,a7,a8,a9,a0⟩:=a;obtain ⟨⟨b1,b2⟩,b3,b4,b5,b6,b7,b8,b9,b0⟩:=b;dsimp only at h1 h2 h3 ⊢;cases c0:sEq ⟨a1,a2⟩ ⟨b1,b2⟩ with
 |false=>rw [c0] at h1;exact pure_of [(9,.p (boolX false))] [] (pf1 h1) (x:=boolX false) (bx:=[]) (by kernel_rfl) rfl
 |true=>
  rw [c0] at h1;cases c1:a3==b3 with
  |false=>exact pure_of [(9,.p (boolX true)),(15,.b false)] [] (pf2 h1 c1) (x:=boolX false) (bx:=[]) (by kernel_rfl) rfl
  |true=>
   cases c2:eqL (·==·) a4 b4 with
   |false=>rw [c2] at h2;exact pure_of [(9,.p (boolX true)),(15,.b true),(22,.p (boolX false))] [] (pf3 h1 c1 h2) (x:=boolX false) (bx:=[]) (by kernel_rfl) rfl
   |true=>
    rw [c2] at h2;cases c3:vEq (.mk a5 a6 a7 a8 a9 a0) (.mk b5 b6 b7 b8 b9 b0) with
    |false=>rw [c3] at h3;exact pure_of [(9,.p (boolX true)),(15,.b true),(22,.p (boolX true)),(29,.p (boolX false))] [] (pf4 h1 c1 h2 h3) (x:=boolX false) (bx:=[]) (by kernel_rfl) rfl
    |true=>rw [c3] at h3;exact pure_of [(9,.p (boolX true)),(15,.b true),(22,.p (boolX true)),(29,.p (boolX true))] [] (pf4 h1 c1 h2 h3) (x:=boolX true) (bx:=[]) (by kernel_rfl) rfl
section
variable (g:Nat) (l m:qbI) (j:Nat)
end
section
variable (g:Nat) (l m:qbI) (j:Nat)
end
section
variable (l m:qbI) (j:Nat)
def sa25H:St:=⟨[(0,.sl false 10 l),(1,.sl false 10 m),(5,nat j)],[]⟩
def sa25Eq:St:=⟨[(0,.sl false 10 l),(1,.sl false 10 m),(5,nat j),(14,boolX false)],[]⟩
theorem sa25_canon:canon 0 (sa25H l m j)=some (sa25H l m j):=by kernel_rfl
end
theorem sa25_loop (M:Nat)(la lb:List Msg)(r:Msg->Msg->Bool)(hr:∀a b,a∈la->b∈lb->Gam.pureD (callF tab ext M) 40 [.agg a.cells,.agg b.cells]=some (boolX (r a b)))(hlen:la.length=lb.length)(hl:la.length<1000000):∀d j F,j+d=la.length->d<F->
  (eqL r (la.drop j) (lb.drop j)=false/\iter 0 (run (callF tab ext M) 0 M (loopAt 25 0)) F (sa25H (msgsC la) (msgsC lb) j)=some (.ret,⟨[(4,boolX false)],[]⟩))\/
  (eqL r (la.drop j) (lb.drop j)=true/\iter 0 (run (callF tab ext M) 0 M (loopAt 25 0)) F (sa25H (msgsC la) (msgsC lb) j)=some (.exit 0,sa25Eq (msgsC la) (msgsC lb) (msgsC la).length))
 |0,j,F,hj,hF=>by
  obtain ⟨F',rfl⟩:∃F',F=F'+1:=⟨F-1,by omega⟩;have hn:=msgsC_length la;obtain rfl:j=(msgsC la).length:=by omega
  have h:run (callF tab ext M) 0 M (loopAt 25 0) (sa25H (msgsC la) (msgsC lb) (msgsC la).length)=some (.exit 0,sa25Eq (msgsC la) (msgsC lb) (msgsC la).length):=
   run_of [(14,.b false)] [] (pf1 (nlt_nat (qbz (msgsC la).length))) (lo':=[]) (by kernel_rfl)
  right;refine ⟨?_,iter_end (sa25_canon _ _ _) h (by simp)⟩;rw [hn,List.drop_length,hlen,List.drop_length];rfl
 |d+1,j,F,hj,hF=>by
  obtain ⟨F',rfl⟩:∃F',F=F'+1:=⟨F-1,by omega⟩;have hn:=msgsC_length la;have hj':j<la.length:=by omega
  have hb:j<lb.length:=by omega
  have hd:la.drop j=la[j]::la.drop (j+1):=by rw [<-List.getElem_cons_drop hj']
  have hdb:lb.drop j=lb[j]::lb.drop (j+1):=by rw [<-List.getElem_cons_drop hb]
  have hg:=msgsC_get hj';have hgb:=msgsC_get hb;have hc:=hr _ _ (qbk hj') (qbk hb);rw [hd,hdb,eqL];generalize la[j]=a at hg hc;generalize lb[j]=b at hgb hc;obtain ⟨⟨a1,a2⟩,a3,a4,a5,a6,a7,a8,a9,a0⟩:=a;obtain ⟨⟨b1,b2⟩,b3,b4,b5,b6,b7,b8,b9,b0⟩:=b;cases h:r (Msg.mk ⟨a1,a2⟩ a3 a4 (Val.mk a5 a6 a7 a8 a9 a0)) (Msg.mk ⟨b1,b2⟩ b3 b4 (Val.mk b5 b6 b7 b8 b9 b0)) with
  |true=>
   rw [h] at hc;have hs:run (callF tab ext M) 0 M (loopAt 25 0) (sa25H (msgsC la) (msgsC lb) j)=some (.norm,sa25H (msgsC la) (msgsC lb) (j+1)):=
    run_of [(14,.b true),(19,.e (Msg.mk ⟨a1,a2⟩ a3 a4 (Val.mk a5 a6 a7 a8 a9 a0)).cells),(23,.e (Msg.mk ⟨b1,b2⟩ b3 b4 (Val.mk b5 b6 b7 b8 b9 b0)).cells),(25,.p (boolX true)),(16,.i (Int.ofNat (j+1)))] []
     (pf5 (lt_nat (j:=j) (k:=(msgsC la).length) (by omega)) hg hgb hc (next_nat (j:=j) (by omega))) (lo':=[]) (by kernel_rfl)
   rw [iter_step (sa25_canon _ _ _) hs rfl,Bool.true_and];exact sa25_loop M la lb r hr hlen hl d (j+1) F' (by omega) (by omega)
  |false=>
   rw [h] at hc;left;refine ⟨by rw [Bool.false_and],?_⟩;exact iter_end (sa25_canon _ _ _) (run_of [(14,.b true),(19,.e (Msg.mk ⟨a1,a2⟩ a3 a4 (Val.mk a5 a6 a7 a8 a9 a0)).cells),(23,.e (Msg.mk ⟨b1,b2⟩ b3 b4 (Val.mk b5 b6 b7 b8 b9 b0)).cells),(25,.p (boolX false))] []
     (pf4 (lt_nat (j:=j) (k:=(msgsC la).length) (by omega)) hg hgb hc) (lo':=[]) (σ':=⟨[(4,boolX false)],[]⟩) (by kernel_rfl)) (by simp)
theorem sa25_pure (M:Nat)(la lb:List Msg)(r:Msg->Msg->Bool)(hr:∀a b,a∈la->b∈lb->Gam.pureD (callF tab ext M) 40 [.agg a.cells,.agg b.cells]=some (boolX (r a b)))(hl:la.length<1000000)(hN:la.length<M):
  Gam.pureD (callF tab ext (M+1)) 25 [.sl false 10 (msgsC la),.sl false 10 (msgsC lb)]=some (boolX (eqL r la lb)):=by
 have hn:=msgsC_length la;have hm:=msgsC_length lb;by_cases hlen:la.length=lb.length
 ·rcases sa25_loop M la lb r hr hlen hl la.length 0 M (by omega) hN with ⟨h0,h⟩|⟨h0,h⟩;·have h0':eqL r la lb=false:=h0;rw [h0'];exact pure_of [(10,.b false)] [(.ret,⟨[(4,boolX false)],[]⟩)] (pf2 (nat_ne_false (j:=(msgsC la).length) (k:=(msgsC lb).length) (by omega)) h) (x:=boolX false) (bx:=[]) (by kernel_rfl) rfl
  have h0':eqL r la lb=true:=h0;rw [h0'];exact pure_of [(10,.b false)] [(.exit 0,sa25Eq (msgsC la) (msgsC lb) (msgsC la).length)] (pf2 (nat_ne_false (j:=(msgsC la).length) (k:=(msgsC lb).length) (by omega)) h) (x:=boolX true) (bx:=[]) (by kernel_rfl) rfl
 rw [eqL_len hlen];exact pure_of [(10,.b true)] [] (pf1 (nat_ne_true (j:=(msgsC la).length) (k:=(msgsC lb).length) (by omega))) (x:=boolX false) (bx:=[]) (by kernel_rfl) rfl
section
variable (l m:qbI) (j:Nat)
end
end Go.Proofs.YtonnphbfclaigaaGreatDoor
namespace Go.Proofs.YtonnphbfclaigaaGreatDoor
open Go.Em Go.RowKit
set_option maxRecDepth 100000
def tysO:List TypeId:=tys++[36,37,38,41,81,83,84,86]
theorem tysO_ok:dataTys Tryz.prog tysO=true:=by kernel_rfl
theorem tysO_size:tysO.all (fun t=>decide (t<Tryz.prog.types.size))=true:=by kernel_rfl
theorem tysO_lt {t:TypeId}(h:t∈tysO):t<Tryz.prog.types.size:=of_decide_eq_true (qbo.1 tysO_size t h)
theorem tysO_kids:Kids Tryz.prog (fun t=>t∈tysO/\t<Tryz.prog.types.size):=kids_data (kids_rows Tryz.laidOut Tryz.rowed) tysO_ok
theorem under41':Tryz.prog.underlying 41=some (.struct (fieldsOf Tryz.prog 41)):=by kernel_rfl
theorem fields41':(fieldsOf Tryz.prog 41).toList.map (·.type)=[24,36,37,38,39]:=by kernel_rfl
theorem under81:Tryz.prog.underlying 81=some (.struct (fieldsOf Tryz.prog 81)):=by kernel_rfl
theorem fields81:(fieldsOf Tryz.prog 81).toList.map (·.type)=[3,33]:=by kernel_rfl
theorem under83:Tryz.prog.underlying 83=some (.struct (fieldsOf Tryz.prog 83)):=by kernel_rfl
theorem fields83:(fieldsOf Tryz.prog 83).toList.map (·.type)=[27,9,3,4,31]:=by kernel_rfl
theorem under86:Tryz.prog.underlying 86=some (.struct (fieldsOf Tryz.prog 86)):=by kernel_rfl
theorem fields86:(fieldsOf Tryz.prog 86).toList.map (·.type)=[27,3,9,84,9]:=by kernel_rfl
theorem under36:Tryz.prog.underlying 36=some (.slice 81):=by kernel_rfl
theorem under37':Tryz.prog.underlying 37=some (.slice 83):=by kernel_rfl
theorem under38':Tryz.prog.underlying 38=some (.slice 86):=by kernel_rfl
theorem under84:Tryz.prog.underlying 84=some (.slice 27):=by kernel_rfl
theorem cells81:Tryz.prog.cellsOf 81=11:=by kernel_rfl
theorem cells83:Tryz.prog.cellsOf 83=11:=by kernel_rfl
theorem cells86:Tryz.prog.cellsOf 86=6:=by kernel_rfl
theorem cells27':Tryz.prog.cellsOf 27=2:=by kernel_rfl
variable {n:Nat} {xs:List X}
theorem shape_stps (h:Shape Tryz.prog n 84 xs):∃l:List Stp,xs=[.sl false 2 (stpsC l)]:=by obtain ⟨es,rfl,_,m,_,he⟩:=shape_slice under84 h;obtain ⟨l,rfl⟩:=list_of Stp.cells fun c hc=>shape_stp (he c hc);exact ⟨l,by rw [cells27'];rfl⟩
theorem shape_otp (h:Shape Tryz.prog n 81 xs):∃s:Otp,xs=s.cells:=by obtain ⟨m,hm,hk⟩:=shape_struct under81 h;rw [fields81] at hk;obtain ⟨x0,r0,rfl,h0,hk⟩:=hk;obtain ⟨x1,r1,rfl,h1,hk⟩:=hk;have hk:r1=[]:=hk;subst hk;obtain ⟨p,rfl⟩:=shape_num h0;obtain ⟨g,rfl⟩:=shape_msg h1;exact ⟨⟨p,g⟩,by simp [Otp.cells]⟩
theorem shape_otps (h:Shape Tryz.prog n 36 xs):∃l:List Otp,xs=[.sl false 11 (otpsC l)]:=by obtain ⟨es,rfl,_,m,_,he⟩:=shape_slice under36 h;obtain ⟨l,rfl⟩:=list_of Otp.cells fun c hc=>shape_otp (he c hc);exact ⟨l,by rw [cells81];rfl⟩
theorem shape_req (h:Shape Tryz.prog n 83 xs):∃s:Req,xs=s.cells:=by obtain ⟨m,hm,hk⟩:=shape_struct under83 h;rw [fields83] at hk;obtain ⟨x0,r0,rfl,h0,hk⟩:=hk;obtain ⟨x1,r1,rfl,h1,hk⟩:=hk;obtain ⟨x2,r2,rfl,h2,hk⟩:=hk;obtain ⟨x3,r3,rfl,h3,hk⟩:=hk;obtain ⟨x4,r4,rfl,h4,hk⟩:=hk;have hk:r4=[]:=hk;subst hk;obtain ⟨s,rfl⟩:=shape_stp h0;obtain ⟨t,rfl⟩:=shape_text h1;obtain ⟨c,rfl⟩:=shape_num h2;obtain ⟨u,rfl⟩:=shape_flag h3;obtain ⟨v,rfl⟩:=shape_val _ _ h4;exact ⟨⟨s,t,c,u,v⟩,by simp [Req.cells,Stp.cells]⟩
theorem shape_reqs (h:Shape Tryz.prog n 37 xs):∃l:List Req,xs=[.sl false 11 (reqsC l)]:=by obtain ⟨es,rfl,_,m,_,he⟩:=shape_slice under37' h;obtain ⟨l,rfl⟩:=list_of Req.cells fun c hc=>shape_req (he c hc);exact ⟨l,by rw [cells83];rfl⟩
theorem shape_fte (h:Shape Tryz.prog n 86 xs):∃s:Fte,xs=s.cells:=by obtain ⟨m,hm,hk⟩:=shape_struct under86 h;rw [fields86] at hk;obtain ⟨x0,r0,rfl,h0,hk⟩:=hk;obtain ⟨x1,r1,rfl,h1,hk⟩:=hk;obtain ⟨x2,r2,rfl,h2,hk⟩:=hk;obtain ⟨x3,r3,rfl,h3,hk⟩:=hk;obtain ⟨x4,r4,rfl,h4,hk⟩:=hk;have hk:r4=[]:=hk;subst hk;obtain ⟨s,rfl⟩:=shape_stp h0;obtain ⟨k,rfl⟩:=shape_num h1;obtain ⟨nm,rfl⟩:=shape_text h2;obtain ⟨it,rfl⟩:=shape_stps h3;obtain ⟨tx,rfl⟩:=shape_text h4;exact ⟨⟨s,k,nm,it,tx⟩,by simp [Fte.cells,Stp.cells]⟩
theorem shape_ftes (h:Shape Tryz.prog n 38 xs):∃l:List Fte,xs=[.sl false 6 (ftesC l)]:=by obtain ⟨es,rfl,_,m,_,he⟩:=shape_slice under38' h;obtain ⟨l,rfl⟩:=list_of Fte.cells fun c hc=>shape_fte (he c hc);exact ⟨l,by rw [cells86];rfl⟩
theorem shape_oc (h:Shape Tryz.prog n 41 xs):∃s:Oc2,xs=s.cells:=by obtain ⟨m,hm,hk⟩:=shape_struct under41' h;rw [fields41'] at hk;obtain ⟨x0,r0,rfl,h0,hk⟩:=hk;obtain ⟨x1,r1,rfl,h1,hk⟩:=hk;obtain ⟨x2,r2,rfl,h2,hk⟩:=hk;obtain ⟨x3,r3,rfl,h3,hk⟩:=hk;obtain ⟨x4,r4,rfl,h4,hk⟩:=hk;have hk:r4=[]:=hk;subst hk;obtain ⟨s,rfl⟩:=shape_stt h0;obtain ⟨ou,rfl⟩:=shape_otps h1;obtain ⟨rq,rfl⟩:=shape_reqs h2;obtain ⟨ft,rfl⟩:=shape_ftes h3;obtain ⟨lt,rfl⟩:=shape_msgs h4;exact ⟨⟨s,ou,rq,ft,lt⟩,by simp [Oc2.cells,Stt.cells]⟩
end Go.Proofs.YtonnphbfclaigaaGreatDoor
namespace Go.Proofs
open Go.Shelf
def Tryz.laysItoa_ren:Go.Shelf.Ren:=⟨fun|171=>123|243=>173|246=>241|283=>317|284=>318|285=>319|286=>320|129=>384|317=>383|318=>385|319=>386|320=>387|337=>452|338=>453|n=>n,fun|3=>3|9=>9|2=>2|4=>4|171=>365|0=>0|53=>366|37=>166|5=>5|173=>369|212=>427|51=>428|20=>20|213=>429|46=>337|232=>521|233=>522|n=>n,fun|17=>3|18=>4|19=>5|n=>n⟩
theorem Tryz.laysItoa:Go.Proofs.LaysM.n171 Tryz.prog Tryz.laysItoa_ren:={
 mixed:=by kernel_rfl
 f129:=Tryz.func384.trans (congrArg some (by kernel_rfl))
 f171:=Tryz.func123.trans (congrArg some (by kernel_rfl))
 f243:=Tryz.func173.trans (congrArg some (by kernel_rfl))
 f246:=Tryz.func241.trans (congrArg some (by kernel_rfl))
 f283:=Tryz.func317.trans (congrArg some (by kernel_rfl))
 f284:=Tryz.func318.trans (congrArg some (by kernel_rfl))
 f285:=Tryz.func319.trans (congrArg some (by kernel_rfl))
 f286:=Tryz.func320.trans (congrArg some (by kernel_rfl))
 f317:=Tryz.func383.trans (congrArg some (by kernel_rfl))
 f318:=Tryz.func385.trans (congrArg some (by kernel_rfl))
 f319:=Tryz.func386.trans (congrArg some (by kernel_rfl))
 f320:=Tryz.func387.trans (congrArg some (by kernel_rfl))
 f337:=Tryz.func452.trans (congrArg some (by kernel_rfl))
 f338:=Tryz.func453.trans (congrArg some (by kernel_rfl))
 t0:=Tryz.underlying0
 a0:=Tryz.isAgg0
 z0:=Tryz.sizeOf0
 v0:=Tryz.zeroValue0
 t2:=Tryz.underlying2
 a2:=Tryz.isAgg2
 z2:=Tryz.sizeOf2
 v2:=Tryz.zeroValue2
 t3:=Tryz.underlying3
 a3:=Tryz.isAgg3
 z3:=Tryz.sizeOf3
 v3:=Tryz.zeroValue3
 t4:=Tryz.underlying4
 a4:=Tryz.isAgg4
 z4:=Tryz.sizeOf4
 v4:=Tryz.zeroValue4
 t5:=Tryz.underlying5
 a5:=Tryz.isAgg5
 z5:=Tryz.sizeOf5
 v5:=Tryz.zeroValue5
 t9:=Tryz.underlying9
 a9:=Tryz.isAgg9
 z9:=Tryz.sizeOf9
 v9:=Tryz.zeroValue9
 t20:=Tryz.underlying20
 a20:=Tryz.isAgg20
 z20:=Tryz.sizeOf20
 v20:=Tryz.zeroValue20
 t37:=Tryz.underlying166
 a37:=Tryz.isAgg166
 z37:=Tryz.sizeOf166
 v37:=Tryz.zeroValue166
 t46:=Tryz.underlying337
 a46:=Tryz.isAgg337
 z46:=Tryz.sizeOf337
 v46:=Tryz.zeroValue337
 t51:=Tryz.underlying428
 a51:=Tryz.isAgg428
 z51:=Tryz.sizeOf428
 v51:=Tryz.zeroValue428
 t53:=Tryz.underlying366
 a53:=Tryz.isAgg366
 z53:=Tryz.sizeOf366
 v53:=Tryz.zeroValue366
 t171:=Tryz.underlying365
 a171:=Tryz.isAgg365
 z171:=Tryz.sizeOf365
 v171:=Tryz.zeroValue365
 t173:=Tryz.underlying369
 a173:=Tryz.isAgg369
 z173:=Tryz.sizeOf369
 v173:=Tryz.zeroValue369
 t212:=Tryz.underlying427
 a212:=Tryz.isAgg427
 z212:=Tryz.sizeOf427
 v212:=Tryz.zeroValue427
 t213:=Tryz.underlying429
 a213:=Tryz.isAgg429
 z213:=Tryz.sizeOf429
 t232:=Tryz.underlying521
 a232:=Tryz.isAgg521
 z232:=Tryz.sizeOf521
 v232:=Tryz.zeroValue521
 t233:=Tryz.underlying522
 a233:=Tryz.isAgg522
 z233:=Tryz.sizeOf522
 v233:=Tryz.zeroValue522
 g17:=by kernel_rfl
 g18:=by kernel_rfl
 g19:=by kernel_rfl
 i0:=by kernel_rfl
 i2:=by kernel_rfl
 i3:=by kernel_rfl
 i4:=by kernel_rfl
 i5:=by kernel_rfl
 i9:=by kernel_rfl
 i20:=by kernel_rfl
 i37:=by kernel_rfl
 i46:=by kernel_rfl
 i51:=by kernel_rfl
 i53:=by kernel_rfl
 i171:=by kernel_rfl
 i173:=by kernel_rfl
 i212:=by kernel_rfl
 i232:=by kernel_rfl
 i233:=by kernel_rfl
 m17:=by kernel_rfl
 m18:=by kernel_rfl
 m19:=by kernel_rfl}
def Tryz.laysDec_ren:Go.Shelf.Ren:=⟨fun|197=>533|260=>558|n=>n,fun|9=>9|21=>21|3=>3|4=>4|5=>5|105=>539|119=>419|0=>0|46=>337|139=>422|138=>421|n=>n,fun|3=>1|4=>2|n=>n⟩
theorem Tryz.laysDec:Go.Proofs.Lays.n197 Tryz.prog Tryz.laysDec_ren:={
 mixed:=by kernel_rfl
 f197:=Tryz.func533.trans (congrArg some (by kernel_rfl))
 f260:=Tryz.func558.trans (congrArg some (by kernel_rfl))
 t0:=Tryz.underlying0
 a0:=Tryz.isAgg0
 z0:=Tryz.sizeOf0
 v0:=Tryz.zeroValue0
 t3:=Tryz.underlying3
 a3:=Tryz.isAgg3
 z3:=Tryz.sizeOf3
 v3:=Tryz.zeroValue3
 t4:=Tryz.underlying4
 a4:=Tryz.isAgg4
 z4:=Tryz.sizeOf4
 v4:=Tryz.zeroValue4
 t5:=Tryz.underlying5
 a5:=Tryz.isAgg5
 z5:=Tryz.sizeOf5
 v5:=Tryz.zeroValue5
 t9:=Tryz.underlying9
 a9:=Tryz.isAgg9
 z9:=Tryz.sizeOf9
 v9:=Tryz.zeroValue9
 t21:=Tryz.underlying21
 a21:=Tryz.isAgg21
 z21:=Tryz.sizeOf21
 v21:=Tryz.zeroValue21
 t46:=Tryz.underlying337
 a46:=Tryz.isAgg337
 z46:=Tryz.sizeOf337
 v46:=Tryz.zeroValue337
 t105:=Tryz.underlying539
 a105:=Tryz.isAgg539
 z105:=Tryz.sizeOf539
 v105:=Tryz.zeroValue539
 t119:=Tryz.underlying419
 a119:=Tryz.isAgg419
 z119:=Tryz.sizeOf419
 t138:=Tryz.underlying421
 a138:=Tryz.isAgg421
 z138:=Tryz.sizeOf421
 v138:=Tryz.zeroValue421
 t139:=Tryz.underlying422
 a139:=Tryz.isAgg422
 z139:=Tryz.sizeOf422
 v139:=Tryz.zeroValue422
 g3:=by kernel_rfl
 g4:=by kernel_rfl}
def Tryz.laysRep_ren:Go.Shelf.Ren:=⟨fun|105=>536|212=>377|99=>390|165=>560|166=>122|170=>561|169=>125|263=>449|264=>450|206=>458|240=>172|241=>571|276=>240|277=>573|n=>n,fun|9=>9|3=>3|4=>4|20=>20|0=>0|46=>337|109=>415|5=>5|72=>168|76=>171|51=>428|146=>474|53=>366|148=>476|70=>165|37=>166|75=>170|127=>226|164=>296|80=>175|n=>n,fun|n=>n⟩
theorem Tryz.laysRep:Go.Proofs.Lays.n105 Tryz.prog Tryz.laysRep_ren:={
 mixed:=by kernel_rfl
 f99:=Tryz.func390.trans (congrArg some (by kernel_rfl))
 f105:=Tryz.func536.trans (congrArg some (by kernel_rfl))
 f165:=Tryz.func560.trans (congrArg some (by kernel_rfl))
 f166:=Tryz.func122.trans (congrArg some (by kernel_rfl))
 f169:=Tryz.func125.trans (congrArg some (by kernel_rfl))
 f170:=Tryz.func561.trans (congrArg some (by kernel_rfl))
 f206:=Tryz.func458.trans (congrArg some (by kernel_rfl))
 f212:=Tryz.func377.trans (congrArg some (by kernel_rfl))
 f240:=Tryz.func172.trans (congrArg some (by kernel_rfl))
 f241:=Tryz.func571.trans (congrArg some (by kernel_rfl))
 f263:=Tryz.func449.trans (congrArg some (by kernel_rfl))
 f264:=Tryz.func450.trans (congrArg some (by kernel_rfl))
 f276:=Tryz.func240.trans (congrArg some (by kernel_rfl))
 f277:=Tryz.func573.trans (congrArg some (by kernel_rfl))
 t0:=Tryz.underlying0
 a0:=Tryz.isAgg0
 z0:=Tryz.sizeOf0
 v0:=Tryz.zeroValue0
 t3:=Tryz.underlying3
 a3:=Tryz.isAgg3
 z3:=Tryz.sizeOf3
 v3:=Tryz.zeroValue3
 t4:=Tryz.underlying4
 a4:=Tryz.isAgg4
 z4:=Tryz.sizeOf4
 v4:=Tryz.zeroValue4
 t5:=Tryz.underlying5
 a5:=Tryz.isAgg5
 z5:=Tryz.sizeOf5
 v5:=Tryz.zeroValue5
 t9:=Tryz.underlying9
 a9:=Tryz.isAgg9
 z9:=Tryz.sizeOf9
 v9:=Tryz.zeroValue9
 t20:=Tryz.underlying20
 a20:=Tryz.isAgg20
 z20:=Tryz.sizeOf20
 v20:=Tryz.zeroValue20
 t37:=Tryz.underlying166
 a37:=Tryz.isAgg166
 z37:=Tryz.sizeOf166
 v37:=Tryz.zeroValue166
 t46:=Tryz.underlying337
 a46:=Tryz.isAgg337
 z46:=Tryz.sizeOf337
 v46:=Tryz.zeroValue337
 t51:=Tryz.underlying428
 a51:=Tryz.isAgg428
 z51:=Tryz.sizeOf428
 v51:=Tryz.zeroValue428
 t53:=Tryz.underlying366
 a53:=Tryz.isAgg366
 z53:=Tryz.sizeOf366
 v53:=Tryz.zeroValue366
 t70:=Tryz.underlying165
 a70:=Tryz.isAgg165
 z70:=Tryz.sizeOf165
 v70:=Tryz.zeroValue165
 t72:=Tryz.underlying168
 a72:=Tryz.isAgg168
 z72:=Tryz.sizeOf168
 v72:=Tryz.zeroValue168
 t75:=Tryz.underlying170
 a75:=Tryz.isAgg170
 z75:=Tryz.sizeOf170
 v75:=Tryz.zeroValue170
 t76:=Tryz.underlying171
 a76:=Tryz.isAgg171
 z76:=Tryz.sizeOf171
 v76:=Tryz.zeroValue171
 t109:=Tryz.underlying415
 a109:=Tryz.isAgg415
 z109:=Tryz.sizeOf415
 v109:=Tryz.zeroValue415
 t127:=Tryz.underlying226
 a127:=Tryz.isAgg226
 z127:=Tryz.sizeOf226
 v127:=Tryz.zeroValue226
 t146:=Tryz.underlying474
 a146:=Tryz.isAgg474
 z146:=Tryz.sizeOf474
 v146:=Tryz.zeroValue474
 t148:=Tryz.underlying476
 a148:=Tryz.isAgg476
 z148:=Tryz.sizeOf476
 v148:=Tryz.zeroValue476
 t164:=Tryz.underlying296
 a164:=Tryz.isAgg296
 z164:=Tryz.sizeOf296
 v164:=Tryz.zeroValue296}
def Tryz.laysBS_ren:Go.Shelf.Ren:=⟨fun|169=>125|n=>n,fun|70=>165|9=>9|0=>0|72=>168|37=>166|127=>226|3=>3|5=>5|n=>n,fun|n=>n⟩
theorem Tryz.laysBS:Go.Proofs.Lays.n169 Tryz.prog Tryz.laysBS_ren:={
 mixed:=by kernel_rfl
 f169:=Tryz.func125.trans (congrArg some (by kernel_rfl))
 t0:=Tryz.underlying0
 a0:=Tryz.isAgg0
 z0:=Tryz.sizeOf0
 v0:=Tryz.zeroValue0
 t3:=Tryz.underlying3
 a3:=Tryz.isAgg3
 z3:=Tryz.sizeOf3
 v3:=Tryz.zeroValue3
 t9:=Tryz.underlying9
 a9:=Tryz.isAgg9
 z9:=Tryz.sizeOf9
 v9:=Tryz.zeroValue9
 t37:=Tryz.underlying166
 a37:=Tryz.isAgg166
 z37:=Tryz.sizeOf166
 v37:=Tryz.zeroValue166
 t70:=Tryz.underlying165
 a70:=Tryz.isAgg165
 z70:=Tryz.sizeOf165
 v70:=Tryz.zeroValue165
 t72:=Tryz.underlying168
 a72:=Tryz.isAgg168
 z72:=Tryz.sizeOf168
 v72:=Tryz.zeroValue168
 t127:=Tryz.underlying226
 a127:=Tryz.isAgg226
 z127:=Tryz.sizeOf226
 v127:=Tryz.zeroValue226}
def Tryz.laysAtoi_ren:Go.Shelf.Ren:=⟨fun|172=>392|244=>460|245=>461|247=>518|279=>519|280=>520|281=>521|282=>522|287=>551|316=>552|171=>123|205=>553|321=>569|322=>570|243=>173|246=>241|283=>317|284=>318|285=>319|286=>320|129=>384|317=>383|318=>385|319=>386|320=>387|337=>452|338=>453|n=>n,fun|9=>9|3=>3|75=>170|76=>171|4=>4|5=>5|167=>526|37=>166|0=>0|85=>527|2=>2|168=>529|53=>366|175=>558|46=>337|210=>561|127=>226|145=>576|143=>574|21=>21|171=>365|173=>369|212=>427|51=>428|20=>20|213=>429|232=>521|233=>522|80=>175|n=>n,fun|15=>6|16=>7|17=>3|18=>4|19=>5|n=>n⟩
theorem Tryz.laysAtoi:Go.Proofs.LaysC.n172 Tryz.prog Tryz.laysAtoi_ren:={
 mixed:=by kernel_rfl
 f129:=Tryz.func384.trans (congrArg some (by kernel_rfl))
 f171:=Tryz.func123.trans (congrArg some (by kernel_rfl))
 f172:=Tryz.func392.trans (congrArg some (by kernel_rfl))
 f205:=Tryz.func553.trans (congrArg some (by kernel_rfl))
 f243:=Tryz.func173.trans (congrArg some (by kernel_rfl))
 f244:=Tryz.func460.trans (congrArg some (by kernel_rfl))
 f245:=Tryz.func461.trans (congrArg some (by kernel_rfl))
 f246:=Tryz.func241.trans (congrArg some (by kernel_rfl))
 f247:=Tryz.func518.trans (congrArg some (by kernel_rfl))
 f279:=Tryz.func519.trans (congrArg some (by kernel_rfl))
 f280:=Tryz.func520.trans (congrArg some (by kernel_rfl))
 f281:=Tryz.func521.trans (congrArg some (by kernel_rfl))
 f282:=Tryz.func522.trans (congrArg some (by kernel_rfl))
 f283:=Tryz.func317.trans (congrArg some (by kernel_rfl))
 f284:=Tryz.func318.trans (congrArg some (by kernel_rfl))
 f285:=Tryz.func319.trans (congrArg some (by kernel_rfl))
 f286:=Tryz.func320.trans (congrArg some (by kernel_rfl))
 f287:=Tryz.func551.trans (congrArg some (by kernel_rfl))
 f316:=Tryz.func552.trans (congrArg some (by kernel_rfl))
 f317:=Tryz.func383.trans (congrArg some (by kernel_rfl))
 f318:=Tryz.func385.trans (congrArg some (by kernel_rfl))
 f319:=Tryz.func386.trans (congrArg some (by kernel_rfl))
 f320:=Tryz.func387.trans (congrArg some (by kernel_rfl))
 f321:=Tryz.func569.trans (congrArg some (by kernel_rfl))
 f322:=Tryz.func570.trans (congrArg some (by kernel_rfl))
 f337:=Tryz.func452.trans (congrArg some (by kernel_rfl))
 f338:=Tryz.func453.trans (congrArg some (by kernel_rfl))
 t0:=Tryz.underlying0
 a0:=Tryz.isAgg0
 z0:=Tryz.sizeOf0
 v0:=Tryz.zeroValue0
 t2:=Tryz.underlying2
 a2:=Tryz.isAgg2
 z2:=Tryz.sizeOf2
 v2:=Tryz.zeroValue2
 t3:=Tryz.underlying3
 a3:=Tryz.isAgg3
 z3:=Tryz.sizeOf3
 v3:=Tryz.zeroValue3
 t4:=Tryz.underlying4
 a4:=Tryz.isAgg4
 z4:=Tryz.sizeOf4
 v4:=Tryz.zeroValue4
 t5:=Tryz.underlying5
 a5:=Tryz.isAgg5
 z5:=Tryz.sizeOf5
 v5:=Tryz.zeroValue5
 t9:=Tryz.underlying9
 a9:=Tryz.isAgg9
 z9:=Tryz.sizeOf9
 v9:=Tryz.zeroValue9
 t20:=Tryz.underlying20
 a20:=Tryz.isAgg20
 z20:=Tryz.sizeOf20
 v20:=Tryz.zeroValue20
 t21:=Tryz.underlying21
 a21:=Tryz.isAgg21
 z21:=Tryz.sizeOf21
 v21:=Tryz.zeroValue21
 t37:=Tryz.underlying166
 a37:=Tryz.isAgg166
 z37:=Tryz.sizeOf166
 v37:=Tryz.zeroValue166
 t46:=Tryz.underlying337
 a46:=Tryz.isAgg337
 z46:=Tryz.sizeOf337
 v46:=Tryz.zeroValue337
 t51:=Tryz.underlying428
 a51:=Tryz.isAgg428
 z51:=Tryz.sizeOf428
 v51:=Tryz.zeroValue428
 t53:=Tryz.underlying366
 a53:=Tryz.isAgg366
 z53:=Tryz.sizeOf366
 v53:=Tryz.zeroValue366
 t75:=Tryz.underlying170
 a75:=Tryz.isAgg170
 z75:=Tryz.sizeOf170
 v75:=Tryz.zeroValue170
 t76:=Tryz.underlying171
 a76:=Tryz.isAgg171
 z76:=Tryz.sizeOf171
 v76:=Tryz.zeroValue171
 t85:=Tryz.underlying527
 a85:=Tryz.isAgg527
 z85:=Tryz.sizeOf527
 v85:=Tryz.zeroValue527
 t127:=Tryz.underlying226
 a127:=Tryz.isAgg226
 z127:=Tryz.sizeOf226
 v127:=Tryz.zeroValue226
 t143:=Tryz.underlying574
 a143:=Tryz.isAgg574
 z143:=Tryz.sizeOf574
 v143:=Tryz.zeroValue574
 t145:=Tryz.underlying576
 a145:=Tryz.isAgg576
 z145:=Tryz.sizeOf576
 v145:=Tryz.zeroValue576
 t167:=Tryz.underlying526
 a167:=Tryz.isAgg526
 z167:=Tryz.sizeOf526
 v167:=Tryz.zeroValue526
 t168:=Tryz.underlying529
 a168:=Tryz.isAgg529
 z168:=Tryz.sizeOf529
 v168:=Tryz.zeroValue529
 t171:=Tryz.underlying365
 a171:=Tryz.isAgg365
 z171:=Tryz.sizeOf365
 v171:=Tryz.zeroValue365
 t173:=Tryz.underlying369
 a173:=Tryz.isAgg369
 z173:=Tryz.sizeOf369
 v173:=Tryz.zeroValue369
 t175:=Tryz.underlying558
 a175:=Tryz.isAgg558
 z175:=Tryz.sizeOf558
 v175:=Tryz.zeroValue558
 t210:=Tryz.underlying561
 a210:=Tryz.isAgg561
 z210:=Tryz.sizeOf561
 v210:=Tryz.zeroValue561
 t212:=Tryz.underlying427
 a212:=Tryz.isAgg427
 z212:=Tryz.sizeOf427
 v212:=Tryz.zeroValue427
 t213:=Tryz.underlying429
 a213:=Tryz.isAgg429
 z213:=Tryz.sizeOf429
 t232:=Tryz.underlying521
 a232:=Tryz.isAgg521
 z232:=Tryz.sizeOf521
 v232:=Tryz.zeroValue521
 t233:=Tryz.underlying522
 a233:=Tryz.isAgg522
 z233:=Tryz.sizeOf522
 v233:=Tryz.zeroValue522
 g15:=by kernel_rfl
 g16:=by kernel_rfl
 g17:=by kernel_rfl
 g18:=by kernel_rfl
 g19:=by kernel_rfl
 t80:=Tryz.underlying175
 a80:=Tryz.isAgg175
 z80:=Tryz.sizeOf175
 v80:=Tryz.zeroValue175
 i0:=by kernel_rfl
 i2:=by kernel_rfl
 i3:=by kernel_rfl
 i4:=by kernel_rfl
 i5:=by kernel_rfl
 i9:=by kernel_rfl
 i20:=by kernel_rfl
 i21:=by kernel_rfl
 i37:=by kernel_rfl
 i46:=by kernel_rfl
 i51:=by kernel_rfl
 i53:=by kernel_rfl
 i75:=by kernel_rfl
 i76:=by kernel_rfl
 i80:=by kernel_rfl
 i85:=by kernel_rfl
 i127:=by kernel_rfl
 i143:=by kernel_rfl
 i145:=by kernel_rfl
 i167:=by kernel_rfl
 i168:=by kernel_rfl
 i171:=by kernel_rfl
 i173:=by kernel_rfl
 i175:=by kernel_rfl
 i210:=by kernel_rfl
 i212:=by kernel_rfl
 i232:=by kernel_rfl
 i233:=by kernel_rfl
 m15:=by kernel_rfl
 m16:=by kernel_rfl
 m17:=by kernel_rfl
 m18:=by kernel_rfl
 m19:=by kernel_rfl
 c0:=by kernel_rfl
 c2:=by kernel_rfl
 c3:=by kernel_rfl
 c4:=by kernel_rfl
 c5:=by kernel_rfl
 c9:=by kernel_rfl
 c20:=by kernel_rfl
 c21:=by kernel_rfl
 c37:=by kernel_rfl
 c46:=by kernel_rfl
 c51:=by kernel_rfl
 c53:=by kernel_rfl
 c75:=by kernel_rfl
 c76:=by kernel_rfl
 c80:=by kernel_rfl
 c85:=by kernel_rfl
 c127:=by kernel_rfl
 c143:=by kernel_rfl
 c145:=by kernel_rfl
 c167:=by kernel_rfl
 c168:=by kernel_rfl
 c171:=by kernel_rfl
 c173:=by kernel_rfl
 c175:=by kernel_rfl
 c210:=by kernel_rfl
 c212:=by kernel_rfl
 c213:=by kernel_rfl
 c232:=by kernel_rfl
 c233:=by kernel_rfl}
def Tryz.laysWR_ren:Go.Shelf.Ren:=⟨fun|168=>487|240=>172|242=>534|276=>240|278=>559|n=>n,fun|70=>165|21=>21|3=>3|75=>170|0=>0|72=>168|37=>166|4=>4|164=>296|51=>428|5=>5|46=>337|80=>175|9=>9|n=>n,fun|n=>n⟩
theorem Tryz.laysWR:Go.Proofs.Lays.n168 Tryz.prog Tryz.laysWR_ren:={
 mixed:=by kernel_rfl
 f168:=Tryz.func487.trans (congrArg some (by kernel_rfl))
 f240:=Tryz.func172.trans (congrArg some (by kernel_rfl))
 f242:=Tryz.func534.trans (congrArg some (by kernel_rfl))
 f276:=Tryz.func240.trans (congrArg some (by kernel_rfl))
 f278:=Tryz.func559.trans (congrArg some (by kernel_rfl))
 t0:=Tryz.underlying0
 a0:=Tryz.isAgg0
 z0:=Tryz.sizeOf0
 v0:=Tryz.zeroValue0
 t3:=Tryz.underlying3
 a3:=Tryz.isAgg3
 z3:=Tryz.sizeOf3
 v3:=Tryz.zeroValue3
 t4:=Tryz.underlying4
 a4:=Tryz.isAgg4
 z4:=Tryz.sizeOf4
 v4:=Tryz.zeroValue4
 t5:=Tryz.underlying5
 a5:=Tryz.isAgg5
 z5:=Tryz.sizeOf5
 v5:=Tryz.zeroValue5
 t9:=Tryz.underlying9
 a9:=Tryz.isAgg9
 z9:=Tryz.sizeOf9
 v9:=Tryz.zeroValue9
 t20:=Tryz.underlying20
 a20:=Tryz.isAgg20
 z20:=Tryz.sizeOf20
 v20:=Tryz.zeroValue20
 t21:=Tryz.underlying21
 a21:=Tryz.isAgg21
 z21:=Tryz.sizeOf21
 v21:=Tryz.zeroValue21
 t37:=Tryz.underlying166
 a37:=Tryz.isAgg166
 z37:=Tryz.sizeOf166
 v37:=Tryz.zeroValue166
 t46:=Tryz.underlying337
 a46:=Tryz.isAgg337
 z46:=Tryz.sizeOf337
 v46:=Tryz.zeroValue337
 t51:=Tryz.underlying428
 a51:=Tryz.isAgg428
 z51:=Tryz.sizeOf428
 v51:=Tryz.zeroValue428
 t70:=Tryz.underlying165
 a70:=Tryz.isAgg165
 z70:=Tryz.sizeOf165
 v70:=Tryz.zeroValue165
 t72:=Tryz.underlying168
 a72:=Tryz.isAgg168
 z72:=Tryz.sizeOf168
 v72:=Tryz.zeroValue168
 t75:=Tryz.underlying170
 a75:=Tryz.isAgg170
 z75:=Tryz.sizeOf170
 v75:=Tryz.zeroValue170
 t164:=Tryz.underlying296
 a164:=Tryz.isAgg296
 z164:=Tryz.sizeOf296
 v164:=Tryz.zeroValue296}
def Tryz.laysIdx_ren:Go.Shelf.Ren:=⟨fun|219=>517|217=>549|225=>516|224=>515|267=>550|266=>567|314=>568|n=>n,fun|9=>9|3=>3|4=>4|5=>5|46=>337|146=>474|51=>428|n=>n,fun|1=>0|n=>n⟩
theorem Tryz.laysIdx:Go.Proofs.Lays.n219 Tryz.prog Tryz.laysIdx_ren:={
 mixed:=by kernel_rfl
 f217:=Tryz.func549.trans (congrArg some (by kernel_rfl))
 f219:=Tryz.func517.trans (congrArg some (by kernel_rfl))
 f224:=Tryz.func515.trans (congrArg some (by kernel_rfl))
 f225:=Tryz.func516.trans (congrArg some (by kernel_rfl))
 f266:=Tryz.func567.trans (congrArg some (by kernel_rfl))
 f267:=Tryz.func550.trans (congrArg some (by kernel_rfl))
 f314:=Tryz.func568.trans (congrArg some (by kernel_rfl))
 t3:=Tryz.underlying3
 a3:=Tryz.isAgg3
 z3:=Tryz.sizeOf3
 v3:=Tryz.zeroValue3
 t4:=Tryz.underlying4
 a4:=Tryz.isAgg4
 z4:=Tryz.sizeOf4
 v4:=Tryz.zeroValue4
 t5:=Tryz.underlying5
 a5:=Tryz.isAgg5
 z5:=Tryz.sizeOf5
 v5:=Tryz.zeroValue5
 t9:=Tryz.underlying9
 a9:=Tryz.isAgg9
 z9:=Tryz.sizeOf9
 v9:=Tryz.zeroValue9
 t46:=Tryz.underlying337
 a46:=Tryz.isAgg337
 z46:=Tryz.sizeOf337
 v46:=Tryz.zeroValue337
 t51:=Tryz.underlying428
 a51:=Tryz.isAgg428
 z51:=Tryz.sizeOf428
 v51:=Tryz.zeroValue428
 t146:=Tryz.underlying474
 a146:=Tryz.isAgg474
 z146:=Tryz.sizeOf474
 v146:=Tryz.zeroValue474
 g1:=by kernel_rfl}
def Tryz.laysAny_ren:Go.Shelf.Ren:=⟨fun|153=>389|152=>454|226=>455|227=>456|228=>457|137=>513|119=>514|224=>515|225=>516|217=>549|266=>567|n=>n,fun|9=>9|3=>3|4=>4|5=>5|21=>21|117=>483|116=>482|0=>0|46=>337|124=>525|n=>n,fun|n=>n⟩
theorem Tryz.laysAny:Go.Proofs.Lays.n153 Tryz.prog Tryz.laysAny_ren:={
 mixed:=by kernel_rfl
 f119:=Tryz.func514.trans (congrArg some (by kernel_rfl))
 f137:=Tryz.func513.trans (congrArg some (by kernel_rfl))
 f152:=Tryz.func454.trans (congrArg some (by kernel_rfl))
 f153:=Tryz.func389.trans (congrArg some (by kernel_rfl))
 f217:=Tryz.func549.trans (congrArg some (by kernel_rfl))
 f224:=Tryz.func515.trans (congrArg some (by kernel_rfl))
 f225:=Tryz.func516.trans (congrArg some (by kernel_rfl))
 f226:=Tryz.func455.trans (congrArg some (by kernel_rfl))
 f227:=Tryz.func456.trans (congrArg some (by kernel_rfl))
 f228:=Tryz.func457.trans (congrArg some (by kernel_rfl))
 f266:=Tryz.func567.trans (congrArg some (by kernel_rfl))
 t0:=Tryz.underlying0
 a0:=Tryz.isAgg0
 z0:=Tryz.sizeOf0
 v0:=Tryz.zeroValue0
 t3:=Tryz.underlying3
 a3:=Tryz.isAgg3
 z3:=Tryz.sizeOf3
 v3:=Tryz.zeroValue3
 t4:=Tryz.underlying4
 a4:=Tryz.isAgg4
 z4:=Tryz.sizeOf4
 v4:=Tryz.zeroValue4
 t5:=Tryz.underlying5
 a5:=Tryz.isAgg5
 z5:=Tryz.sizeOf5
 v5:=Tryz.zeroValue5
 t9:=Tryz.underlying9
 a9:=Tryz.isAgg9
 z9:=Tryz.sizeOf9
 v9:=Tryz.zeroValue9
 t21:=Tryz.underlying21
 a21:=Tryz.isAgg21
 z21:=Tryz.sizeOf21
 v21:=Tryz.zeroValue21
 t46:=Tryz.underlying337
 a46:=Tryz.isAgg337
 z46:=Tryz.sizeOf337
 v46:=Tryz.zeroValue337
 t116:=Tryz.underlying482
 a116:=Tryz.isAgg482
 z116:=Tryz.sizeOf482
 t117:=Tryz.underlying483
 a117:=Tryz.isAgg483
 z117:=Tryz.sizeOf483
 v117:=Tryz.zeroValue483
 t124:=Tryz.underlying525
 a124:=Tryz.isAgg525
 z124:=Tryz.sizeOf525
 v124:=Tryz.zeroValue525}
end Go.Proofs
namespace Go.Proofs
open Go.Shelf Go.RowKit Go.Sort Go.Lib
variable {P:Program} {ρ:Ren}
def PowIs (g:Nat)(w:World):Prop:=∀i,i<20->w.cell? ⟨g,i,none⟩=some (.int .u64 ((10^i:Nat):Int))
theorem PowIs.alloc {g:Nat}{w:World}(h:PowIs g w)(o:Obj):PowIs g (w.alloc o):=fun i hi=>by
 have:=h i hi;have hne:g≠w.heap.size:=fun e=>by simp_all[World.cell?]
 unfold World.cell? at this ⊢;unfold World.alloc<;>simp_all[Array.getElem?_push]
set_option maxHeartbeats 2000000 in
set_option maxRecDepth 100000 in
theorem AnyC.internal_strconv_numDigits (L:LaysM.n284 P ρ)(u:Nat)(h1:1<=u)(h2:u<18446744073709551616)(w:World)
  (htab:PowIs (ρ.g 17) w):
  Calls P (ρ.f 284) #[.int .u64 u] w fun e w'=>e=.returned (.int .i64 (Lib.nDigits u))/\w'=w:=by
 have mixed:=L.mixed;have t53:=L.t53;have a53:=L.a53;have z53:=L.z53;have v53:=L.v53;have t3:=L.t3;have a3:=L.a3;have z3:=L.z3;have v3:=L.v3;have t212:=L.t212;have a212:=L.a212;have z212:=L.z212;have v212:=L.v212;have t0:=L.t0;have a0:=L.a0;have z0:=L.z0;have v0:=L.v0;have t4:=L.t4;have a4:=L.a4;have z4:=L.z4;have v4:=L.v4;have e129:∀args w,(callFunc (ρ.f 129) args).run P w=.ok (.enter (ρ.f 129) args) w:=enters_of L.f129 (by kernel_rfl) rfl;have e317:∀args w,(callFunc (ρ.f 317) args).run P w=.ok (.enter (ρ.f 317) args) w:=enters_of L.f317 (by kernel_rfl) rfl;have e318:∀args w,(callFunc (ρ.f 318) args).run P w=.ok (.enter (ρ.f 318) args) w:=enters_of L.f318 (by kernel_rfl) rfl;obtain ⟨hnd,h19⟩:=Lib.numDigits_eq u h1 h2;have hL:=Lib.bitLen_le u 64 (Nat.le_refl _) h2;have hcell:w.cell? ⟨(ρ.g 17),Lib.l10 (Lib.bitLen u),none⟩=some (.int .u64 ((10^Lib.l10 (Lib.bitLen u):Nat):Int)):=by exact htab _ (by omega)
 have hto:((u:Int)).toNat=u:=by omega
 generalize hq:Lib.l10 (Lib.bitLen u)=q at hnd h19 hcell;generalize hT:10^q=T at hnd hcell;have h20:q<20:=by omega
 have Hnd:=Lib.hid hnd;clear hnd htab
 go_enter L.f284,Body.n284_ntmps ρ
 go_wp2_with (first
  |(go_at_fn (ρ.f 129);refine (Any.bits_Len64 {L with} _ _ (by omega) (by omega)).mono ?_;rintro e w' ⟨rfl,rfl⟩)
  |(go_at_fn (ρ.f 317);refine (Any.internal_strconv_log10Pow2 {L with} _ (by grind) _).mono ?_;rintro e w' ⟨rfl,rfl⟩)
  |(go_at_fn (ρ.f 318);refine (Any.internal_strconv_bool2_int {L with} _ _).mono ?_;rintro e w' ⟨rfl,rfl⟩))
 all_goals go_ret
 all_goals (
  refine ⟨?_,rfl⟩;have hnd:=Hnd.out
  congr 2
  split at hnd<;>simp_all<;>omega)
set_option maxHeartbeats 6400000 in
set_option maxRecDepth 100000 in
theorem AnyC.internal_strconv_FormatInt_10 (L:LaysM.n246 P ρ)(n:Int)(h0:-9223372036854775808<=n)(h1:n<=9223372036854775807)(w:World)
  (htab:PowIs (ρ.g 17) w):
  Calls P (ρ.f 246) #[.int .i64 n,.int .i64 10] w fun e w'=>e=.returned (.string ⟨(Lib.itoa n).toArray⟩)/\∃k os,w'=grow (w.drewN k) os:=by
 have mixed:=L.mixed;have t2:=L.t2;have a2:=L.a2;have z2:=L.z2;have v2:=L.v2;have t3:=L.t3;have a3:=L.a3;have z3:=L.z3;have v3:=L.v3;have t9:=L.t9;have a9:=L.a9;have z9:=L.z9;have v9:=L.v9;have t4:=L.t4;have a4:=L.a4;have z4:=L.z4;have v4:=L.v4;have t171:=L.t171;have a171:=L.a171;have z171:=L.z171;have v171:=L.v171;have t0:=L.t0;have a0:=L.a0;have z0:=L.z0;have v0:=L.v0;have t53:=L.t53;have a53:=L.a53;have z53:=L.z53;have v53:=L.v53;have t37:=L.t37;have a37:=L.a37;have z37:=L.z37;have v37:=L.v37;have t5:=L.t5;have a5:=L.a5;have z5:=L.z5;have v5:=L.v5;have t173:=L.t173;have a173:=L.a173;have z173:=L.z173;have v173:=L.v173;have e283:∀args w,(callFunc (ρ.f 283) args).run P w=.ok (.enter (ρ.f 283) args) w:=enters_of L.f283 (by kernel_rfl) rfl;have e284:∀args w,(callFunc (ρ.f 284) args).run P w=.ok (.enter (ρ.f 284) args) w:=enters_of L.f284 (by kernel_rfl) rfl;have e285:∀args w,(callFunc (ρ.f 285) args).run P w=.ok (.enter (ρ.f 285) args) w:=enters_of L.f285 (by kernel_rfl) rfl;by_cases hs:0<=n/\n<100
 ·
  obtain ⟨i,rfl⟩:∃i:Nat,n=i:=⟨n.toNat,by omega⟩;have hi:i<100:=by omega
  go_enter L.f246,Body.n246_ntmps ρ
  go_wp2_with (go_at_fn (ρ.f 283);refine (Any.internal_strconv_small {L with} i hi _).mono ?_;rintro e w' ⟨rfl,rfl⟩)
  go_ret
  refine ⟨?_,0,#[],by simp [World.drewN_zero]⟩;rw [Lib.itoa_nonneg];rfl
 by_cases hneg:n<0
 ·obtain ⟨u,rfl⟩:∃u:Nat,n=-(u:Int):=⟨n.natAbs,by omega⟩;have hu1:1<=u:=by omega
  have hu64:u<18446744073709551616:=by omega
  have hnd20:Lib.nDigits u<=20:=by have:=Lib.numDigits_eq u hu1 hu64;split at this<;>omega
  have hwr:IntKind.u64.wrap (-IntKind.u64.wrap (-(u:Int)))=(u:Int):=by rw [IntKind.wrap_u64,IntKind.wrap_u64];omega
  have hb3:Lib.nDigits u<=23:=by omega
  have hal:P.arrayLen (ρ.t 171)=24:=by simp [Program.arrayLen,L.t171]
  have hsl1:∀W,(Instr.sliceAt (ρ.t 171) (.pointer (some ⟨w.heap.size,0,none⟩)) (some (.int .i64 1)) (some (.int .i64 (1+(Lib.nDigits u:Int)))) none).run P W=.ok (.slice (some ⟨w.heap.size,1,none⟩) (Lib.nDigits u) 23) W:=fun W=>by
   rw [run_sliceAt_array_lh W (ρ.t 171) ⟨w.heap.size,0,none⟩ (by grind[Program.elem]) .i64 .i64 1 (1+(Lib.nDigits u:Int)) (by omega) (by omega) (by grind)]
   go_simp
   omega
  have hH0:=Lib.holds_zero w (ρ.t 171) (Lib.nDigits u) (by omega);have hfmt:=Any.internal_strconv_formatBase10 {L with} w.heap.size 1 23 u (Array.replicate (Lib.nDigits u) 0) (w.alloc (.cells Lib.zeros24 (ρ.t 171))) hH0 (by grind[Lib.lt_pow_nDigits]) hu64 (by grind);rw [Array.size_replicate] at hfmt;have HH0:=Lib.hid hH0;clear hH0 hal
  go_enter L.f246,Body.n246_ntmps ρ
  go_wp2_with (first
   |(go_at_fn (ρ.f 284);refine (AnyC.internal_strconv_numDigits {L with} u hu1 hu64 _ (htab.alloc _)).mono ?_;rintro e w' ⟨rfl,rfl⟩))
  go_at_fn (ρ.f 285)
  refine hfmt.mono ?_
  rintro e w' ⟨rfl,k,v',dk,rfl,hF⟩
  have hc0:((putRow (fun (b:UInt8)=>Value.int .u8 (b.toNat:Int)) (w.alloc (.cells Lib.zeros24 (ρ.t 171))) w.heap.size 1 dk).drewN k).cell? ⟨w.heap.size,0,none⟩=some (.int .u8 0):=by rw [World.cell?_drewN,cell?_putRow_other _ _ _ _ _ _ (Or.inr (Or.inl (Nat.zero_lt_one))),World.cell?_alloc_new];exact Lib.zeros24_at 0 (by omega)
  have hf0:((putRow (fun (b:UInt8)=>Value.int .u8 (b.toNat:Int)) (w.alloc (.cells Lib.zeros24 (ρ.t 171))) w.heap.size 1 dk).drewN k).frozen? ⟨w.heap.size,0,none⟩=false:=by rw [World.frozen?_drewN,frozen?_putRow];exact World.frozen?_alloc_new _ _ _ _
  have hal:P.arrayLen (ρ.t 171)=24:=by simp [Program.arrayLen,L.t171]
  have hsl2:∀W,(Instr.sliceAt (ρ.t 171) (.pointer (some ⟨w.heap.size,0,none⟩)) none (some (.int .i64 (1+(Lib.nDigits u:Int)))) none).run P W=.ok (.slice (some ⟨w.heap.size,0,none⟩) (1+Lib.nDigits u) 24) W:=fun W=>by
   rw [run_sliceAt_array_h W (ρ.t 171) ⟨w.heap.size,0,none⟩ (by simp_all[Program.elem]) .i64 (1+(Lib.nDigits u:Int)) (by omega) (by omega)]
   go_simp
   omega
  clear hal;have hcv:(convert (ρ.t 37) (ρ.t 9) (.slice (some ⟨w.heap.size,0,none⟩) (1+Lib.nDigits u) 24)).run P (((putRow (fun (b:UInt8)=>Value.int .u8 (b.toNat:Int)) (w.alloc (.cells Lib.zeros24 (ρ.t 171))) w.heap.size 1 dk).drewN k).setCell ⟨w.heap.size,0,none⟩ (.int .u8 45))=.ok (.string ⟨(45::Lib.decDigits u).toArray⟩) (((putRow (fun (b:UInt8)=>Value.int .u8 (b.toNat:Int)) (w.alloc (.cells Lib.zeros24 (ρ.t 171))) w.heap.size 1 dk).drewN k).setCell ⟨w.heap.size,0,none⟩ (.int .u8 45)):=by
   have h:=run_convert_bytes_back (P:=P) (((putRow (fun (b:UInt8)=>Value.int .u8 (b.toNat:Int)) (w.alloc (.cells Lib.zeros24 (ρ.t 171))) w.heap.size 1 dk).drewN k).setCell ⟨w.heap.size,0,none⟩ (.int .u8 45)) (ρ.t 37) (ρ.t 9) (ρ.t 5) ⟨w.heap.size,0,none⟩ 24 (45::Lib.decDigits u) L.t37 L.t5 L.t9 (fun j hj=>by
    rw [Lib.add_plain];cases j with
    |zero=>simp_all[World.cell?_setCell_same]
    |succ i=>
     have hi:i<(Lib.decDigits u).length:=by simpa using hj
     rw [World.cell?_setCell_other _ _ _ _ (by simp),List.getElem_cons_succ,Lib.row_is_numeral hF i hi,World.cell?_drewN,show 0+(i+1)=1+i by omega];exact cell?_putRow (fun (b:UInt8)=>Value.int .u8 (b.toNat:Int)) _ w.heap.size 1 _ dk HH0.out (by rw [hF.size,Array.size_replicate]) i (by rw [hF.size]<;>simp_all[Lib.decDigits_length]))
   rw [List.length_cons,Lib.decDigits_length,Nat.add_comm] at h;exact h
  go_wp2
  go_ret
  obtain ⟨os,eo⟩:=Lib.fin_neg w (.cells Lib.zeros24 (ρ.t 171)) dk k (.int .u8 45);refine ⟨?_,k,os,eo⟩;rw [Lib.itoa_neg u hu1];rfl
 obtain ⟨u,rfl⟩:∃u:Nat,n=u:=⟨n.toNat,by omega⟩;have hu1:1<=u:=by omega
 have hu64:u<18446744073709551616:=by omega
 have hnd20:Lib.nDigits u<=20:=by have:=Lib.numDigits_eq u hu1 hu64;split at this<;>omega
 have hb3:Lib.nDigits u<=23:=by omega
 have hal:P.arrayLen (ρ.t 171)=24:=by simp [Program.arrayLen,L.t171]
 have hsl1:∀W,(Instr.sliceAt (ρ.t 171) (.pointer (some ⟨w.heap.size,0,none⟩)) (some (.int .i64 1)) (some (.int .i64 (1+(Lib.nDigits u:Int)))) none).run P W=.ok (.slice (some ⟨w.heap.size,1,none⟩) (Lib.nDigits u) 23) W:=fun W=>by
  rw [run_sliceAt_array_lh W (ρ.t 171) ⟨w.heap.size,0,none⟩ (by grind[Program.elem]) .i64 .i64 1 (1+(Lib.nDigits u:Int)) (by omega) (by omega) (by grind)]
  go_simp
  omega
 have hH0:=Lib.holds_zero w (ρ.t 171) (Lib.nDigits u) (by omega);have hfmt:=Any.internal_strconv_formatBase10 {L with} w.heap.size 1 23 u (Array.replicate (Lib.nDigits u) 0) (w.alloc (.cells Lib.zeros24 (ρ.t 171))) hH0 (by grind[Lib.lt_pow_nDigits]) hu64 (by grind);rw [Array.size_replicate] at hfmt;have HH0:=Lib.hid hH0;clear hH0 hal
 go_enter L.f246,Body.n246_ntmps ρ
 go_wp2_with (first
  |(go_at_fn (ρ.f 284);refine (AnyC.internal_strconv_numDigits {L with} u hu1 hu64 _ (htab.alloc _)).mono ?_;rintro e w' ⟨rfl,rfl⟩))
 go_at_fn (ρ.f 285)
 refine hfmt.mono ?_
 rintro e w' ⟨rfl,k,v',dk,rfl,hF⟩
 have hcv:(convert (ρ.t 37) (ρ.t 9) (.slice (some ⟨w.heap.size,1,none⟩) (Lib.nDigits u) 23)).run P ((putRow (fun (b:UInt8)=>Value.int .u8 (b.toNat:Int)) (w.alloc (.cells Lib.zeros24 (ρ.t 171))) w.heap.size 1 dk).drewN k)=.ok (.string ⟨(Lib.decDigits u).toArray⟩) ((putRow (fun (b:UInt8)=>Value.int .u8 (b.toNat:Int)) (w.alloc (.cells Lib.zeros24 (ρ.t 171))) w.heap.size 1 dk).drewN k):=by have h:=run_convert_bytes_back (P:=P) ((putRow (fun (b:UInt8)=>Value.int .u8 (b.toNat:Int)) (w.alloc (.cells Lib.zeros24 (ρ.t 171))) w.heap.size 1 dk).drewN k) (ρ.t 37) (ρ.t 9) (ρ.t 5) ⟨w.heap.size,1,none⟩ 23 (Lib.decDigits u) L.t37 L.t5 L.t9 (fun j hj=>by rw [Lib.row_is_numeral hF j hj,Lib.add_plain,World.cell?_drewN];exact cell?_putRow (fun (b:UInt8)=>Value.int .u8 (b.toNat:Int)) _ w.heap.size 1 _ dk HH0.out (by rw [hF.size,Array.size_replicate]) j (by rw [hF.size]<;>simp_all[Lib.decDigits_length]));rw [Lib.decDigits_length] at h;exact h
 go_wp2
 go_ret
 obtain ⟨os,eo⟩:=Lib.fin_pos w (.cells Lib.zeros24 (ρ.t 171)) dk k;refine ⟨?_,k,os,eo⟩;rw [Lib.itoa_nonneg];rfl
set_option maxRecDepth 100000 in
theorem AnyC.internal_strconv_Itoa (L:LaysM.n243 P ρ)(n:Int)(h0:-9223372036854775808<=n)(h1:n<=9223372036854775807)(w:World)
  (htab:PowIs (ρ.g 17) w):
  Calls P (ρ.f 243) #[.int .i64 n] w fun e w'=>e=.returned (.string ⟨(Lib.itoa n).toArray⟩)/\∃k os,w'=grow (w.drewN k) os:=by
 have mixed:=L.mixed;have t3:=L.t3;have a3:=L.a3;have z3:=L.z3;have v3:=L.v3;have t9:=L.t9;have a9:=L.a9;have z9:=L.z9;have v9:=L.v9;have t2:=L.t2;have a2:=L.a2;have z2:=L.z2;have v2:=L.v2;have e246:∀args w,(callFunc (ρ.f 246) args).run P w=.ok (.enter (ρ.f 246) args) w:=enters_of L.f246 (by kernel_rfl) rfl
 go_enter L.f243,Body.n243_ntmps ρ
 go_wp2_with (go_at_fn (ρ.f 246);refine (AnyC.internal_strconv_FormatInt_10 {L with} n h0 h1 _ htab).mono ?_;rintro e w' ⟨rfl,k,os,rfl⟩)
 go_ret
 exact ⟨rfl,k,os,rfl⟩
set_option maxRecDepth 100000 in
theorem AnyC.strconv_Itoa (L:LaysM.n171 P ρ)(n:Int)(h0:-9223372036854775808<=n)(h1:n<=9223372036854775807)(w:World)
  (htab:PowIs (ρ.g 17) w):
  Calls P (ρ.f 171) #[.int .i64 n] w fun e w'=>e=.returned (.string ⟨(Lib.itoa n).toArray⟩)/\∃k os,w'=grow (w.drewN k) os:=by
 have mixed:=L.mixed;have t3:=L.t3;have a3:=L.a3;have z3:=L.z3;have v3:=L.v3;have t9:=L.t9;have a9:=L.a9;have z9:=L.z9;have v9:=L.v9;have e243:∀args w,(callFunc (ρ.f 243) args).run P w=.ok (.enter (ρ.f 243) args) w:=enters_of L.f243 (by kernel_rfl) rfl
 go_enter L.f171,Body.n171_ntmps ρ
 go_wp2_with (go_at_fn (ρ.f 243);refine (AnyC.internal_strconv_Itoa {L with} n h0 h1 _ htab).mono ?_;rintro e w' ⟨rfl,k,os,rfl⟩)
 go_ret
 exact ⟨rfl,k,os,rfl⟩
end Go.Proofs
