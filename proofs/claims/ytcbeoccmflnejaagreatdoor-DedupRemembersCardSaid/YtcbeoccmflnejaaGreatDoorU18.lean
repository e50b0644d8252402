/-.-/
import Derived.Lib.ItoaLen
import Derived.Lib.AtoiAllCases
import Derived.Lib.TrimU
import Derived.Lib.RuneCount
import Derived.Test.YtcbeoccmflnejaaGreatDoorEmU12
import Derived.Test.YtcbeoccmflnejaaGreatDoorU17
set_option linter.all false
namespace Go.Proofs.YtcbeoccmflnejaaGreatDoor
set_option maxRecDepth 100000
section
open Go.Em
structure Nod where
 name:qaX
 kind:Int
 schema:Int
 result:Int
 number:Int
 time:Int
 limit:Int
 text:qaX
 ty:Int×Int×Int×Int
 words:qaW
 elem:qaW
 fields:qaW
 types:qaW
 exprs:qaW
 calls:qaW
 rules:qaW
 next:qaW
def Nod.cells (n:Nod):List X:=[strX n.name,num n.kind,num n.schema,num n.result,num n.number,num n.time,num n.limit,strX n.text,num n.ty.1,num n.ty.2.1,num n.ty.2.2.1,num n.ty.2.2.2,.sl false 1 n.words,.sl false 7 n.elem,.sl false 11 n.fields,.sl false 7 n.types,.sl false 5 n.exprs,.sl false 6 n.rules,.sl false 2 n.calls,.sl false 1 n.next]
def isNode (c:List X):Prop:=∃(name:qaX) (k1 k2 k3 k4 k5 k6:Int) (text:qaX) (T:List X) (ty ex ru ca ne:qaW),c=[strX name,num k1,num k2,num k3,num k4,num k5,num k6,strX text]++(T++[.sl false 7 ty,.sl false 5 ex,.sl false 6 ru,.sl false 2 ca,.sl false 1 ne])/\CW 3 T/\(∀x,x∈ty->CW 3 x)/\(∀x,x∈ex->CX 3 x)/\(∀x,x∈ru->nY x)/\∀x,x∈ca->KY x
def Nod.small (n:Nod):Prop:=n.name.size<=60/\n.text.size<=60/\sT 4 (iC n.ty.1 n.ty.2.1 n.ty.2.2.1 n.ty.2.2.2 n.words n.elem n.fields)/\n.exprs.length<=8/\(∀x,x∈n.exprs->sE 4 x)/\n.rules.length<=8/\∀x,x∈n.rules->xA x
end
section
open Go.Em Go.RowKit
theorem Tryz.own:ownKnob Tryz.prog.godebug=none:=by kernel_rfl
theorem Tryz.laidOut:laidOutB Tryz.prog=true:=by kernel_rfl
theorem Tryz.rowed:mapsRowed Tryz.prog=true:=by kernel_rfl
def tys:List TypeId:=[3,4,9,35,37,57,22,23,24,26,27,28,30,31,32,34,39,40,41,43,45,47,81,107,134,125,128,178]
theorem vW:dataTys Tryz.prog tys=true:=by kernel_rfl
theorem Vs:tys.all (fun t=>decide (t<Tryz.prog.types.size))=true:=by kernel_rfl
theorem Pn {t:TypeId}(h:t∈tys):t<Tryz.prog.types.size:=of_decide_eq_true (qas.1 Vs t h)
theorem BI:Kids Tryz.prog (fun t=>t∈tys/\t<Tryz.prog.types.size):=kids_data (kids_rows Tryz.laidOut Tryz.rowed) vW
def fieldsOf (P:Program)(t:TypeId):Array Field:=match P.underlying t with
 |some (.struct fs)=>fs
 |_=>#[]
theorem Zm:Tryz.prog.underlying 3=some (.int .i64):=by kernel_rfl
theorem JZ:Tryz.prog.underlying 4=some .bool:=by kernel_rfl
theorem zeP:Tryz.prog.underlying 9=some .string:=by kernel_rfl
theorem zae:Tryz.prog.underlying 37=some (.struct (fieldsOf Tryz.prog 37)):=by kernel_rfl
theorem Yd:(fieldsOf Tryz.prog 37).toList.map (·.type)=[3,3,35]:=by kernel_rfl
theorem zan:Tryz.prog.underlying 26=some (.struct (fieldsOf Tryz.prog 26)):=by kernel_rfl
theorem Yg:(fieldsOf Tryz.prog 26).toList.map (·.type)=[3,3,3,3,22,23,24]:=by kernel_rfl
theorem zak:Tryz.prog.underlying 30=some (.struct (fieldsOf Tryz.prog 30)):=by kernel_rfl
theorem Yf:(fieldsOf Tryz.prog 30).toList.map (·.type)=[28]:=by kernel_rfl
theorem zah:Tryz.prog.underlying 34=some (.struct (fieldsOf Tryz.prog 34)):=by kernel_rfl
theorem Ye:(fieldsOf Tryz.prog 34).toList.map (·.type)=[9,3,3,3,3,3,3,9,26,23,27,30,31,32]:=by kernel_rfl
theorem zad:Tryz.prog.underlying 39=some (.struct (fieldsOf Tryz.prog 39)):=by kernel_rfl
theorem Yc:(fieldsOf Tryz.prog 39).toList.map (·.type)=[3,32]:=by kernel_rfl
theorem zaa:Tryz.prog.underlying 43=some (.struct (fieldsOf Tryz.prog 43)):=by kernel_rfl
theorem Yb:(fieldsOf Tryz.prog 43).toList.map (·.type)=[3,3,3,9,40,41]:=by kernel_rfl
theorem Z9:Tryz.prog.underlying 45=some (.struct (fieldsOf Tryz.prog 45)):=by kernel_rfl
theorem Ya:(fieldsOf Tryz.prog 45).toList.map (·.type)=[39,3,32,43]:=by kernel_rfl
theorem Z8:Tryz.prog.underlying 47=some (.struct (fieldsOf Tryz.prog 47)):=by kernel_rfl
theorem X9:(fieldsOf Tryz.prog 47).toList.map (·.type)=[3,3,39,45,3,4,4,43]:=by kernel_rfl
theorem Z5:Tryz.prog.underlying 81=some (.struct (fieldsOf Tryz.prog 81)):=by kernel_rfl
theorem X8:(fieldsOf Tryz.prog 81).toList.map (·.type)=[43,3,3,57,40]:=by kernel_rfl
theorem Vr:Tryz.prog.underlying 107=some (.struct (fieldsOf Tryz.prog 107)):=by kernel_rfl
theorem Tm:(fieldsOf Tryz.prog 107).toList.map (·.type)=[3,3,9,40,27]:=by kernel_rfl
theorem Vo:Tryz.prog.underlying 134=some (.struct (fieldsOf Tryz.prog 134)):=by kernel_rfl
theorem Tf:(fieldsOf Tryz.prog 134).toList.map (·.type)=[9,43]:=by kernel_rfl
theorem Vq:Tryz.prog.underlying 125=some (.struct (fieldsOf Tryz.prog 125)):=by kernel_rfl
theorem Tj:(fieldsOf Tryz.prog 125).toList.map (·.type)=[9,107]:=by kernel_rfl
theorem Vp:Tryz.prog.underlying 128=some (.struct (fieldsOf Tryz.prog 128)):=by kernel_rfl
theorem Ti:(fieldsOf Tryz.prog 128).toList.map (·.type)=[9,30]:=by kernel_rfl
theorem Vm:Tryz.prog.underlying 178=some (.struct (fieldsOf Tryz.prog 178)):=by kernel_rfl
theorem Td:(fieldsOf Tryz.prog 178).toList.map (·.type)=[3,9,3,26,40]:=by kernel_rfl
theorem zaf:Tryz.prog.underlying 35=some (.slice 81):=by kernel_rfl
theorem Z7:Tryz.prog.underlying 57=some (.slice 45):=by kernel_rfl
theorem zar:Tryz.prog.underlying 22=some (.slice 9):=by kernel_rfl
theorem zaq:Tryz.prog.underlying 23=some (.slice 26):=by kernel_rfl
theorem zao:Tryz.prog.underlying 24=some (.slice 178):=by kernel_rfl
theorem zam:Tryz.prog.underlying 27=some (.slice 107):=by kernel_rfl
theorem zal:Tryz.prog.underlying 28=some (.slice 125):=by kernel_rfl
theorem zaj:Tryz.prog.underlying 31=some (.slice 128):=by kernel_rfl
theorem zai:Tryz.prog.underlying 32=some (.slice 3):=by kernel_rfl
theorem zac:Tryz.prog.underlying 40=some (.slice 43):=by kernel_rfl
theorem zab:Tryz.prog.underlying 41=some (.slice 134):=by kernel_rfl
theorem cells3:Tryz.prog.cellsOf 3=1:=by kernel_rfl
theorem cells9:Tryz.prog.cellsOf 9=1:=by kernel_rfl
theorem cells26:Tryz.prog.cellsOf 26=7:=by kernel_rfl
theorem cells43:Tryz.prog.cellsOf 43=6:=by kernel_rfl
theorem zdI:Tryz.prog.cellsOf 45=10:=by kernel_rfl
theorem zdH:Tryz.prog.cellsOf 81=10:=by kernel_rfl
theorem YB:Tryz.prog.cellsOf 107=5:=by kernel_rfl
theorem Yy:Tryz.prog.cellsOf 134=7:=by kernel_rfl
theorem YA:Tryz.prog.cellsOf 125=6:=by kernel_rfl
theorem Yz:Tryz.prog.cellsOf 128=2:=by kernel_rfl
theorem Yx:Tryz.prog.cellsOf 178=11:=by kernel_rfl
variable {n:Nat} {xs:List X}
theorem aP (h:Shape Tryz.prog n 3 xs):∃z,xs=[num z]:=by obtain ⟨v,rfl,_⟩:=shape_int Zm h;exact ⟨v,rfl⟩
theorem dh (h:Shape Tryz.prog n 9 xs):∃s,xs=[strX s]:=by obtain ⟨v,rfl,_⟩:=shape_string zeP h;exact ⟨v,rfl⟩
theorem zQ (h:Shape Tryz.prog n 4 xs):∃b,xs=[boolX b]:=shape_bool JZ h
theorem Nk (h:Shape Tryz.prog n 35 xs):∃es,xs=[.sl false 10 es]/\∃m,m<n/\∀c,c∈es->Shape Tryz.prog m 81 c:=by obtain ⟨es,rfl,_,h⟩:=shape_slice zaf h<;>simp_all[zdH]
theorem Nh (h:Shape Tryz.prog n 57 xs):∃es,xs=[.sl false 10 es]/\∃m,m<n/\∀c,c∈es->Shape Tryz.prog m 45 c:=by obtain ⟨es,rfl,_,h⟩:=shape_slice Z7 h<;>simp_all[zdI]
theorem zN (h:Shape Tryz.prog n 22 xs):∃es,xs=[.sl false 1 es]/\∃m,m<n/\∀c,c∈es->Shape Tryz.prog m 9 c:=by obtain ⟨es,rfl,_,h⟩:=shape_slice zar h<;>simp_all[cells9]
theorem qQ (h:Shape Tryz.prog n 23 xs):∃es,xs=[.sl false 7 es]/\∃m,m<n/\∀c,c∈es->Shape Tryz.prog m 26 c:=by obtain ⟨es,rfl,_,h⟩:=shape_slice zaq h<;>simp_all[cells26]
theorem zM (h:Shape Tryz.prog n 24 xs):∃es,xs=[.sl false 11 es]/\∃m,m<n/\∀c,c∈es->Shape Tryz.prog m 178 c:=by obtain ⟨es,rfl,_,h⟩:=shape_slice zao h<;>simp_all[Yx]
theorem qP (h:Shape Tryz.prog n 27 xs):∃es,xs=[.sl false 5 es]/\∃m,m<n/\∀c,c∈es->Shape Tryz.prog m 107 c:=by obtain ⟨es,rfl,_,h⟩:=shape_slice zam h<;>simp_all[YB]
theorem Np (h:Shape Tryz.prog n 28 xs):∃es,xs=[.sl false 6 es]/\∃m,m<n/\∀c,c∈es->Shape Tryz.prog m 125 c:=by obtain ⟨es,rfl,_,h⟩:=shape_slice zal h<;>simp_all[YA]
theorem Nl (h:Shape Tryz.prog n 31 xs):∃es,xs=[.sl false 2 es]/\∃m,m<n/\∀c,c∈es->Shape Tryz.prog m 128 c:=by obtain ⟨es,rfl,_,h⟩:=shape_slice zaj h<;>simp_all[Yz]
theorem zL (h:Shape Tryz.prog n 32 xs):∃es,xs=[.sl false 1 es]/\∃m,m<n/\∀c,c∈es->Shape Tryz.prog m 3 c:=by obtain ⟨es,rfl,_,h⟩:=shape_slice zai h<;>simp_all[cells3]
theorem jW (h:Shape Tryz.prog n 40 xs):∃es,xs=[.sl false 6 es]/\∃m,m<n/\∀c,c∈es->Shape Tryz.prog m 43 c:=by obtain ⟨es,rfl,_,h⟩:=shape_slice zac h<;>simp_all[cells43]
theorem Nj (h:Shape Tryz.prog n 41 xs):∃es,xs=[.sl false 7 es]/\∃m,m<n/\∀c,c∈es->Shape Tryz.prog m 134 c:=by obtain ⟨es,rfl,_,h⟩:=shape_slice zab h<;>simp_all[Yy]
theorem Nb (h:Shape Tryz.prog n 37 xs):∃m,m<n/\∃x0 x1 x2,xs=x0++(x1++(x2++[]))/\Shape Tryz.prog m 3 x0/\Shape Tryz.prog m 3 x1/\Shape Tryz.prog m 35 x2:=by
 obtain ⟨m,u,a⟩:=shape_struct zae h;rw [Yd] at a;obtain ⟨x0,w,rfl,j,a⟩:=a;obtain ⟨x1,y,rfl,l,a⟩:=a;obtain ⟨x2,f,rfl,q,a⟩:=a;have a:f=[]:=a
 grind
theorem zK (h:Shape Tryz.prog n 26 xs):∃m,m<n/\∃x0 x1 x2 x3 x4 x5 x6,xs=x0++(x1++(x2++(x3++(x4++(x5++(x6++[]))))))/\Shape Tryz.prog m 3 x0/\Shape Tryz.prog m 3 x1/\Shape Tryz.prog m 3 x2/\Shape Tryz.prog m 3 x3/\Shape Tryz.prog m 22 x4/\Shape Tryz.prog m 23 x5/\Shape Tryz.prog m 24 x6:=by
 obtain ⟨m,B,a⟩:=shape_struct zan h;rw [Yg] at a;obtain ⟨x0,E,rfl,j,a⟩:=a;obtain ⟨x1,F,rfl,l,a⟩:=a;obtain ⟨x2,H,rfl,q,a⟩:=a;obtain ⟨x3,J,rfl,u,a⟩:=a;obtain ⟨x4,L,rfl,w,a⟩:=a;obtain ⟨x5,M,rfl,y,a⟩:=a;obtain ⟨x6,f,rfl,A,a⟩:=a;have a:f=[]:=a
 grind
theorem Nc (h:Shape Tryz.prog n 30 xs):∃m,m<n/\∃x0,xs=x0++[]/\Shape Tryz.prog m 28 x0:=by
 obtain ⟨m,l,a⟩:=shape_struct zak h;rw [Yf] at a;obtain ⟨x0,f,rfl,j,a⟩:=a;have a:f=[]:=a
 grind
theorem zJ (h:Shape Tryz.prog n 34 xs):∃m,m<n/\∃x0 x1 x2 x3 x4 x5 x6 x7 x8 x9 x10 x11 x12 x13,xs=x0++(x1++(x2++(x3++(x4++(x5++(x6++(x7++(x8++(x9++(x10++(x11++(x12++(x13++[])))))))))))))/\Shape Tryz.prog m 9 x0/\Shape Tryz.prog m 3 x1/\Shape Tryz.prog m 3 x2/\Shape Tryz.prog m 3 x3/\Shape Tryz.prog m 3 x4/\Shape Tryz.prog m 3 x5/\Shape Tryz.prog m 3 x6/\Shape Tryz.prog m 9 x7/\Shape Tryz.prog m 26 x8/\Shape Tryz.prog m 23 x9/\Shape Tryz.prog m 27 x10/\Shape Tryz.prog m 30 x11/\Shape Tryz.prog m 31 x12/\Shape Tryz.prog m 32 x13:=by
 obtain ⟨m,Q,a⟩:=shape_struct zah h;rw [Ye] at a;obtain ⟨x0,S,rfl,B,a⟩:=a;obtain ⟨x1,U,rfl,E,a⟩:=a;obtain ⟨x2,V,rfl,F,a⟩:=a;obtain ⟨x3,W,rfl,H,a⟩:=a;obtain ⟨x4,Y,rfl,J,a⟩:=a;obtain ⟨x5,Z,rfl,L,a⟩:=a;obtain ⟨x6,r6,rfl,M,a⟩:=a;obtain ⟨x7,r7,rfl,N,a⟩:=a;obtain ⟨x8,r8,rfl,O,a⟩:=a;obtain ⟨x9,r9,rfl,P,a⟩:=a;obtain ⟨x10,w,rfl,j,a⟩:=a;obtain ⟨x11,y,rfl,l,a⟩:=a;obtain ⟨x12,A,rfl,q,a⟩:=a;obtain ⟨x13,f,rfl,u,a⟩:=a;have a:f=[]:=a
 grind
theorem Na (h:Shape Tryz.prog n 39 xs):∃m,m<n/\∃x0 x1,xs=x0++(x1++[])/\Shape Tryz.prog m 3 x0/\Shape Tryz.prog m 32 x1:=by
 obtain ⟨m,q,a⟩:=shape_struct zad h;rw [Yc] at a;obtain ⟨x0,u,rfl,j,a⟩:=a;obtain ⟨x1,f,rfl,l,a⟩:=a;have a:f=[]:=a
 grind
theorem MZ (h:Shape Tryz.prog n 43 xs):∃m,m<n/\∃x0 x1 x2 x3 x4 x5,xs=x0++(x1++(x2++(x3++(x4++(x5++[])))))/\Shape Tryz.prog m 3 x0/\Shape Tryz.prog m 3 x1/\Shape Tryz.prog m 3 x2/\Shape Tryz.prog m 9 x3/\Shape Tryz.prog m 40 x4/\Shape Tryz.prog m 41 x5:=by
 obtain ⟨m,A,a⟩:=shape_struct zaa h;rw [Yb] at a;obtain ⟨x0,B,rfl,j,a⟩:=a;obtain ⟨x1,E,rfl,l,a⟩:=a;obtain ⟨x2,F,rfl,q,a⟩:=a;obtain ⟨x3,H,rfl,u,a⟩:=a;obtain ⟨x4,J,rfl,w,a⟩:=a;obtain ⟨x5,f,rfl,y,a⟩:=a;have a:f=[]:=a
 grind
theorem MX (h:Shape Tryz.prog n 45 xs):∃m,m<n/\∃x0 x1 x2 x3,xs=x0++(x1++(x2++(x3++[])))/\Shape Tryz.prog m 39 x0/\Shape Tryz.prog m 3 x1/\Shape Tryz.prog m 32 x2/\Shape Tryz.prog m 43 x3:=by
 obtain ⟨m,w,a⟩:=shape_struct Z9 h;rw [Ya] at a;obtain ⟨x0,y,rfl,j,a⟩:=a;obtain ⟨x1,A,rfl,l,a⟩:=a;obtain ⟨x2,B,rfl,q,a⟩:=a;obtain ⟨x3,f,rfl,u,a⟩:=a;have a:f=[]:=a
 grind
theorem MW (h:Shape Tryz.prog n 47 xs):∃m,m<n/\∃x0 x1 x2 x3 x4 x5 x6 x7,xs=x0++(x1++(x2++(x3++(x4++(x5++(x6++(x7++[])))))))/\Shape Tryz.prog m 3 x0/\Shape Tryz.prog m 3 x1/\Shape Tryz.prog m 39 x2/\Shape Tryz.prog m 45 x3/\Shape Tryz.prog m 3 x4/\Shape Tryz.prog m 4 x5/\Shape Tryz.prog m 4 x6/\Shape Tryz.prog m 43 x7:=by
 obtain ⟨m,E,a⟩:=shape_struct Z8 h;rw [X9] at a;obtain ⟨x0,F,rfl,j,a⟩:=a;obtain ⟨x1,H,rfl,l,a⟩:=a;obtain ⟨x2,J,rfl,q,a⟩:=a;obtain ⟨x3,L,rfl,u,a⟩:=a;obtain ⟨x4,M,rfl,w,a⟩:=a;obtain ⟨x5,N,rfl,y,a⟩:=a;obtain ⟨x6,O,rfl,A,a⟩:=a;obtain ⟨x7,f,rfl,B,a⟩:=a;have a:f=[]:=a
 grind
theorem MV (h:Shape Tryz.prog n 81 xs):∃m,m<n/\∃x0 x1 x2 x3 x4,xs=x0++(x1++(x2++(x3++(x4++[]))))/\Shape Tryz.prog m 43 x0/\Shape Tryz.prog m 3 x1/\Shape Tryz.prog m 3 x2/\Shape Tryz.prog m 57 x3/\Shape Tryz.prog m 40 x4:=by
 obtain ⟨m,y,a⟩:=shape_struct Z5 h;rw [X8] at a;obtain ⟨x0,A,rfl,j,a⟩:=a;obtain ⟨x1,B,rfl,l,a⟩:=a;obtain ⟨x2,E,rfl,q,a⟩:=a;obtain ⟨x3,F,rfl,u,a⟩:=a;obtain ⟨x4,f,rfl,w,a⟩:=a;have a:f=[]:=a
 grind
theorem wC (h:Shape Tryz.prog n 107 xs):∃m,m<n/\∃x0 x1 x2 x3 x4,xs=x0++(x1++(x2++(x3++(x4++[]))))/\Shape Tryz.prog m 3 x0/\Shape Tryz.prog m 3 x1/\Shape Tryz.prog m 9 x2/\Shape Tryz.prog m 40 x3/\Shape Tryz.prog m 27 x4:=by
 obtain ⟨m,y,a⟩:=shape_struct Vr h;rw [Tm] at a;obtain ⟨x0,A,rfl,j,a⟩:=a;obtain ⟨x1,B,rfl,l,a⟩:=a;obtain ⟨x2,E,rfl,q,a⟩:=a;obtain ⟨x3,F,rfl,u,a⟩:=a;obtain ⟨x4,f,rfl,w,a⟩:=a;have a:f=[]:=a
 grind
theorem Hu (h:Shape Tryz.prog n 134 xs):∃m,m<n/\∃x0 x1,xs=x0++(x1++[])/\Shape Tryz.prog m 9 x0/\Shape Tryz.prog m 43 x1:=by
 obtain ⟨m,q,a⟩:=shape_struct Vo h;rw [Tf] at a;obtain ⟨x0,u,rfl,j,a⟩:=a;obtain ⟨x1,f,rfl,l,a⟩:=a;have a:f=[]:=a
 grind
theorem Hy (h:Shape Tryz.prog n 125 xs):∃m,m<n/\∃x0 x1,xs=x0++(x1++[])/\Shape Tryz.prog m 9 x0/\Shape Tryz.prog m 107 x1:=by
 obtain ⟨m,q,a⟩:=shape_struct Vq h;rw [Tj] at a;obtain ⟨x0,u,rfl,j,a⟩:=a;obtain ⟨x1,f,rfl,l,a⟩:=a;have a:f=[]:=a
 grind
theorem Hw (h:Shape Tryz.prog n 128 xs):∃m,m<n/\∃x0 x1,xs=x0++(x1++[])/\Shape Tryz.prog m 9 x0/\Shape Tryz.prog m 30 x1:=by
 obtain ⟨m,q,a⟩:=shape_struct Vp h;rw [Ti] at a;obtain ⟨x0,u,rfl,j,a⟩:=a;obtain ⟨x1,f,rfl,l,a⟩:=a;have a:f=[]:=a
 grind
theorem Ht (h:Shape Tryz.prog n 178 xs):∃m,m<n/\∃x0 x1 x2 x3 x4,xs=x0++(x1++(x2++(x3++(x4++[]))))/\Shape Tryz.prog m 3 x0/\Shape Tryz.prog m 9 x1/\Shape Tryz.prog m 3 x2/\Shape Tryz.prog m 26 x3/\Shape Tryz.prog m 40 x4:=by
 obtain ⟨m,y,a⟩:=shape_struct Vm h;rw [Td] at a;obtain ⟨x0,A,rfl,j,a⟩:=a;obtain ⟨x1,B,rfl,l,a⟩:=a;obtain ⟨x2,E,rfl,q,a⟩:=a;obtain ⟨x3,F,rfl,u,a⟩:=a;obtain ⟨x4,f,rfl,w,a⟩:=a;have a:f=[]:=a
 grind
theorem lI:∀(n:Nat) (xs:List X),Shape Tryz.prog n 43 xs->∃v:Val,xs=v.cells:=by
 intro n;induction n using Nat.strongRecOn with
 |_ n ih=>
  intro xs h;obtain ⟨m,U,W,Y,Z,x3,x4,x5,rfl,w,y,A,B,E,F⟩:=MZ h;obtain ⟨k,rfl⟩:=aP w;obtain ⟨i,rfl⟩:=aP y;obtain ⟨s,rfl⟩:=aP A;obtain ⟨t,rfl⟩:=dh B;obtain ⟨es,rfl,O,L,H⟩:=jW E;obtain ⟨j,rfl,V,M,J⟩:=Nj F;obtain ⟨l,rfl⟩:=list_of Val.cells fun c a=>ih O (by omega) c (H c a);obtain ⟨f,rfl⟩:=list_of (fun p:qaX×Val=>strX p.1::p.2.cells) (es:=j) fun c a=>by obtain ⟨P,N,y0,S,rfl,q,u⟩:=Hu (J c a);obtain ⟨Q,rfl⟩:=dh q;obtain ⟨v,rfl⟩:=ih P (by omega) S u;exact ⟨(Q,v),by simp⟩
  exact ⟨.mk k i s t l f,by grind[Val.cells,fA,kL]⟩
theorem MS (h:Shape Tryz.prog n 40 xs):∃l:List Val,xs=[.sl false 6 (ah l)]:=by obtain ⟨j,rfl,m,_,f⟩:=jW h;obtain ⟨l,rfl⟩:=list_of Val.cells fun c a=>lI m c (f c a);exact ⟨l,by rw [fA]⟩
theorem lJ {es:qaW}{m:Nat}(h:∀c,c∈es->Shape Tryz.prog m 43 c):∀c,c∈es->isVal c:=fun c a=>lI m c (h c a)
theorem zO (h:Shape Tryz.prog n 32 xs):∃l:List Int,xs=[.sl false 1 (aC l)]:=by obtain ⟨j,rfl,m,_,f⟩:=zL h;obtain ⟨l,rfl⟩:=list_of (fun z:Int=>[num z]) fun c a=>aP (f c a);exact ⟨l,rfl⟩
theorem EO (h:Shape Tryz.prog n 39 xs):∃s:Stp,xs=s.cells:=by obtain ⟨m,j,l,q,rfl,a,f⟩:=Na h;obtain ⟨e,rfl⟩:=aP a;obtain ⟨p,rfl⟩:=zO f;exact ⟨⟨e,p⟩,rfl⟩
theorem EP (h:Shape Tryz.prog n 45 xs):∃s:Msg,xs=s.cells:=by obtain ⟨m,q,u,w,y,A,rfl,a,f,j,l⟩:=MX h;obtain ⟨s,rfl⟩:=EO a;obtain ⟨k,rfl⟩:=aP f;obtain ⟨p,rfl⟩:=zO j;obtain ⟨v,rfl⟩:=lI _ _ l;exact ⟨⟨s,k,p,v⟩,by grind[Msg.cells,Stp.cells]⟩
theorem Nr (h:Shape Tryz.prog n 57 xs):∃l:List Msg,xs=[.sl false 10 (aA l)]:=by obtain ⟨j,rfl,m,_,f⟩:=Nh h;obtain ⟨l,rfl⟩:=list_of Msg.cells fun c a=>EP (f c a);exact ⟨l,rfl⟩
theorem Qp (h:Shape Tryz.prog n 81 xs):∃s:Slt,xs=s.cells:=by obtain ⟨m,E,F,H,J,L,M,rfl,j,q,u,w,y⟩:=MV h;obtain ⟨⟨k,i,s,t,l,f⟩,rfl⟩:=lI _ _ j;obtain ⟨a,rfl⟩:=aP q;obtain ⟨b,rfl⟩:=aP u;obtain ⟨A,rfl⟩:=Nr w;obtain ⟨B,rfl⟩:=MS y;exact ⟨⟨.mk k i s t l f,a,b,A,B⟩,rfl⟩
theorem wB (h:Shape Tryz.prog n 37 xs):∃s:Stt,xs=s.cells:=by obtain ⟨m,A,E,F,H,rfl,f,j,q⟩:=Nb h;obtain ⟨a,rfl⟩:=aP f;obtain ⟨b,rfl⟩:=aP j;obtain ⟨y,rfl,B,_,w⟩:=Nk q;obtain ⟨l,rfl⟩:=list_of Slt.cells fun c u=>Qp (w c u);exact ⟨⟨a,b,l⟩,rfl⟩
theorem wF (h:Shape Tryz.prog n 47 xs):∃i:Inp,xs=i.cells:=by obtain ⟨m,F,H,J,L,M,N,O,P,Q,rfl,l,q,u,w,y,A,B,E⟩:=MW h;obtain ⟨a,rfl⟩:=aP l;obtain ⟨b,rfl⟩:=aP q;obtain ⟨s,rfl⟩:=EO u;obtain ⟨g,rfl⟩:=EP w;obtain ⟨x,rfl⟩:=aP y;obtain ⟨f,rfl⟩:=zQ A;obtain ⟨j,rfl⟩:=zQ B;obtain ⟨v,rfl⟩:=lI _ _ E;exact ⟨⟨a,b,s,g,x,f,j,v⟩,by simp [Inp.cells,Msg.cells,Stp.cells]⟩
theorem wG:∀(k:Nat) {n:Nat} {xs:List X},Shape Tryz.prog n 107 xs->CX k xs
 |0,n,xs,h=>by obtain ⟨m,hm,x0,x1,x2,x3,x4,rfl,h0,h1,h2,h3,h4⟩:=wC h;obtain ⟨o,rfl⟩:=aP h0;obtain ⟨i,rfl⟩:=aP h1;obtain ⟨t,rfl⟩:=dh h2;obtain ⟨vs,rfl,m1,_,hv⟩:=jW h3;obtain ⟨es,rfl,m2,_,he⟩:=qP h4;exact ⟨o,i,t,vs,es,rfl,lJ hv⟩
 |k+1,n,xs,h=>by obtain ⟨m,hm,x0,x1,x2,x3,x4,rfl,h0,h1,h2,h3,h4⟩:=wC h;obtain ⟨o,rfl⟩:=aP h0;obtain ⟨i,rfl⟩:=aP h1;obtain ⟨t,rfl⟩:=dh h2;obtain ⟨vs,rfl,m1,_,hv⟩:=jW h3;obtain ⟨es,rfl,m2,_,he⟩:=qP h4;exact ⟨o,i,t,vs,es,rfl,lJ hv,fun x hx=>wG k (he x hx)⟩
theorem pO:∀(k:Nat) {n:Nat} {xs:List X},Shape Tryz.prog n 26 xs->CW k xs
 |0,n,xs,h=>by obtain ⟨m,hm,x0,x1,x2,x3,x4,x5,x6,rfl,h0,h1,h2,h3,h4,h5,h6⟩:=zK h;obtain ⟨a,rfl⟩:=aP h0;obtain ⟨b,rfl⟩:=aP h1;obtain ⟨c,rfl⟩:=aP h2;obtain ⟨d,rfl⟩:=aP h3;obtain ⟨w,rfl,m1,_,hw⟩:=zN h4;obtain ⟨e,rfl,m2,_,he⟩:=qQ h5;obtain ⟨f,rfl,m3,_,hf⟩:=zM h6;exact ⟨a,b,c,d,w,e,f,rfl,fun x hx=>dh (hw x hx)⟩
 |k+1,n,xs,h=>by obtain ⟨m,hm,x0,x1,x2,x3,x4,x5,x6,rfl,h0,h1,h2,h3,h4,h5,h6⟩:=zK h;obtain ⟨a,rfl⟩:=aP h0;obtain ⟨b,rfl⟩:=aP h1;obtain ⟨c,rfl⟩:=aP h2;obtain ⟨d,rfl⟩:=aP h3;obtain ⟨w,rfl,m1,_,hw⟩:=zN h4;obtain ⟨e,rfl,m2,_,he⟩:=qQ h5;obtain ⟨f,rfl,m3,_,hf⟩:=zM h6;refine ⟨a,b,c,d,w,e,f,rfl,fun x hx=>dh (hw x hx),fun x hx=>pO k (he x hx),fun x hx=>?_⟩;obtain ⟨m4,_,y0,y1,y2,T,y4,rfl,g0,g1,g2,g3,g4⟩:=Ht (hf x hx);obtain ⟨p,rfl⟩:=aP g0;obtain ⟨t,rfl⟩:=dh g1;obtain ⟨y,rfl⟩:=aP g2;obtain ⟨de,rfl,m5,_,hd⟩:=jW g4;exact ⟨p,t,y,T,de,by simp,pO k g3,lJ hd⟩
theorem Nq (h:Shape Tryz.prog n 125 xs):nY xs:=by obtain ⟨m,l,q,j,rfl,a,f⟩:=Hy h;obtain ⟨t,rfl⟩:=dh a;exact ⟨t,j,by simp,wG 3 f⟩
theorem wE (h:Shape Tryz.prog n 30 xs):∃es,xs=[.sl false 6 es]/\∀x,x∈es->nY x:=by obtain ⟨m,l,u,rfl,a⟩:=Nc h;obtain ⟨es,rfl,q,_,f⟩:=Np a;exact ⟨es,rfl,fun x j=>Nq (f x j)⟩
theorem Ns (h:Shape Tryz.prog n 128 xs):KY xs:=by obtain ⟨m,q,u,w,rfl,f,j⟩:=Hw h;obtain ⟨t,rfl⟩:=dh f;obtain ⟨a,rfl,l⟩:=wE j;exact ⟨t,a,rfl,l⟩
theorem qR (h:Shape Tryz.prog n 34 xs):isNode xs:=by obtain ⟨m,hm,x0,x1,x2,x3,x4,x5,x6,x7,T,x9,pa,pb,pc,pd,rfl,J,L,M,N,O,P,Q,S,U,V,l,q,u,w⟩:=zJ h;obtain ⟨f,rfl⟩:=dh J;obtain ⟨Y,rfl⟩:=aP L;obtain ⟨Z,rfl⟩:=aP M;obtain ⟨k3,rfl⟩:=aP N;obtain ⟨k4,rfl⟩:=aP O;obtain ⟨k5,rfl⟩:=aP P;obtain ⟨k6,rfl⟩:=aP Q;obtain ⟨j,rfl⟩:=dh S;obtain ⟨ty,rfl,_,_,E⟩:=qQ V;obtain ⟨H,rfl,_,_,A⟩:=qP l;obtain ⟨ru,rfl,B⟩:=wE q;obtain ⟨F,rfl,_,_,y⟩:=Nl u;obtain ⟨ne,rfl,_,_,W⟩:=zL w;exact ⟨f,Y,Z,k3,k4,k5,k6,j,T,ty,H,ru,F,ne,by simp,pO 3 U,fun x a=>pO 3 (E x a),fun x a=>wG 3 (A x a),B,fun x a=>Ns (y x a)⟩
end
section
open Go Go.Em Go.Ab
namespace Ct
def T:Tab:=fun k=>match k with
 |1=>[[.i .i64 none none,.i .i64 none none,.i .i64 none none,.s 0 1000000,.sl 6 1 0 1000000,.sl 7 2 0 1000000]]
 |2=>[[.s 0 1000000,.i .i64 none none,.i .i64 none none,.i .i64 none none,.s 0 1000000,.sl 6 1 0 1000000,.sl 7 2 0 1000000]]
 |3=>[[.i .i64 none none]]
 |4=>[[.i .u8 (some 0) (some 255)]]
 |5=>[[.s 0 1000000]]
 |6=>[[.i .i64 none none,.i .i64 none none]]
 |7=>[[.i .i64 none none,.i .i64 (some 0) (some 1000000),.s 0 1000000]]
 |8=>[[.i .i64 none none,.i .i64 none none,.s 0 1000000,.sl 6 1 0 1000000,.sl 5 8 0 1000000]]
 |10=>[(1,1,1,0),(2,2,0,0),(3,3,0,1),(4,15,0,2),(16,16,0,1),(17,17,0,2),(18,20,0,1),(21,21,0,3),(22,22,0,0),(23,23,0,2),(24,24,0,3),(25,25,0,2),(26,26,0,0),(27,28,0,1)].map fun (q:Int×Int×Nat×Nat)=>[.i .i64 (some q.1) (some q.2.1),.i .i64 none none,.s 0 1000000,.sl 6 1 q.2.2.1 1000000,.sl 5 10 q.2.2.2 1000000]
 |11=>[[.i .i64 none none,.i .i64 none none,.i .i64 none none,.s 0 1000000,.sl 6 11 0 6,.sl 7 12 0 6]]
 |12=>[[.s 0 1000000,.i .i64 none none,.i .i64 none none,.i .i64 none none,.s 0 1000000,.sl 6 11 0 6,.sl 7 12 0 6]]
 |9=>[[.i .i64 (some (-999999999999999)) (some 999999999999999),.i .i64 (some 0) (some 12)]]
 |13=>[[.sl 3 7 1 1000000]]
 |14=>[[.i .i64 none none,.i .i64 none none,.i .i64 none none,.i .i64 none none,.sl 1 5 0 1000000,.sl 7 14 0 1000000,.sl 11 15 0 100]]
 |15=>[[.i .i64 none none,.s 0 1000000,.i .i64 none none,.i .i64 none none,.i .i64 none none,.i .i64 none none,.i .i64 none none,.sl 1 5 0 1000000,.sl 7 14 0 1000000,.sl 11 15 0 100,.sl 6 1 0 1000000]]
 |16=>[[.s 0 1000000,.i .i64 none none,.i .i64 none none,.s 0 1000000,.sl 6 1 0 1000000,.sl 5 8 0 1000000]]
 |21=>[[.i .i64 none none,.i .i64 none none,.i .i64 none none,.s 0 1000000,.sl 6 21 0 1000000,.sl 7 22 0 1000100]]
 |22=>[[.s 0 1000000,.i .i64 none none,.i .i64 none none,.i .i64 none none,.s 0 1000000,.sl 6 21 0 1000000,.sl 7 22 0 1000100]]
 |_=>[]
def K:Names:=fun sz=>match sz with
 |1=>[3,4,5]
 |2=>[9,6]
 |3=>[7]
 |5=>[10,8]
 |6=>[1]
 |7=>[2]
 |_=>[]
abbrev int:Sh:=.i .i64
abbrev err:Sh:=.ir .i64 0 100
def val:Sh:=.rc [int,int,int,.s,.slh 6 1,.slh 7 2]
def fld:Sh:=.rc [.s,int,int,int,.s,.slh 6 1,.slh 7 2]
def exp:Sh:=.rc [int,int,.s,.slh 6 1,.slh 5 8]
def kM:List Sh:=[int,int,int,.s,.zG 6 11 0 6,.zG 7 12 0 6,err]
def zh2:Sh:=.rcb 0 6 [int,int,int,.s,.zG 6 11 0 6,.zG 7 12 0 6]
def zlp:Sh:=.rc [int,int,.s,.slh 6 1,.slh 5 10]
def zn4:Sh:=.rc [int,int,.s,.zG 6 1 0 1000000,.zG 5 10 0 1000000]
def wfs:List (Int×Int×Int×Int):=[(1,1,1,0),(2,2,0,0),(3,3,0,1),(4,15,0,2),(16,16,0,1),(17,17,0,2),(18,20,0,1),(21,21,0,3),(22,22,0,0),(23,23,0,2),(24,24,0,3),(25,25,0,2),(26,26,0,0),(27,28,0,1)]
def O9:List (List Fact):=wfs.map fun q=>bd 2 q.1 q.2.1++[au (.k q.2.2.1) ⟨5,0⟩,au (.k q.2.2.2) ⟨6,0⟩]
def U0:Sh:=.rc [int,int,int,.s,.zG 6 11 0 6,.zG 7 12 0 6]
def zjM:Sh:=.rc [.s,int,int,int,.s,.zG 6 11 0 6,.zG 7 12 0 6]
def mP:Sh:=.ag [int,int]
def KF:Sh:=.ag [.ir .i64 (-999999999999999) 999999999999999,.ir .i64 0 12]
def part:Sh:=.ag [int,int,.s]
def zmD (a b c d:Nat):List (Value×X):=[(.int .i64 8,.fn a []),(.int .i64 9,.fn b []),(.int .i64 10,.fn c []),(.int .i64 11,.fn d [])]
def QJ:Sh:=.ag [int,.ir .i64 0 1000000,.s]
def K11:Names:=fun sz=>match sz with
 |1=>[3,4,5]
 |2=>[9,6]
 |3=>[7]
 |5=>[10,8]
 |6=>[11,1]
 |7=>[12,2]
 |_=>[]
def zh3:Sh:=.rc [int,int,int,.s,.slh 6 21,.zG 7 22 0 1000100]
noncomputable abbrev Gm:Nat->Gam:=callF tab ext
end Ct
end
section
open Go Go.Em Go.Ab
def Back (f:FuncId)(args:List X)(x:X):Prop:=∃B,∀N,B<=N->callF tab ext N (.fn f) args []=some (x,[])
theorem jo {f:FuncId}{args:List X}{x y:X}(h:Back f args x)(hd:x.data [] false=some y):∃B,∀N,B<=N->Gam.pureD (callF tab ext N) f args=some y:=by obtain ⟨B,h⟩:=h;exact ⟨B,fun N a=>pureD_of (h N a) hd⟩
theorem yK {α β:Type}[Inhabited β](l:List α){R:α->β->Prop}{Q:α->β->Nat->Prop}(h:∀x,x∈l->∃y,R x y/\∃B,∀N,B<=N->Q x y N):∃(f:α->β) (B:Nat),∀x,x∈l->R x (f x)/\∀N,B<=N->Q x (f x) N:=by
 classical
 have n:∀x:α,∃y:β,x∈l->R x y/\∃B,∀N,B<=N->Q x y N:=fun x=>by
  by_cases j:x∈l;·obtain ⟨y,J⟩:=h x j;exact ⟨y,fun _=>J⟩
  exact ⟨default,fun e=>absurd e j⟩
 obtain ⟨f,q⟩:=Classical.axiomOfChoice n;have F:∀m:List α,(∀x,x∈m->x∈l)->∃B,∀x,x∈m->∀N,B<=N->Q x (f x) N:=by
  intro m;induction m with
  |nil=>exact fun _=>⟨0,fun x j=>by cases j⟩
  |cons a r ih=>
   intro u;obtain ⟨w,E⟩:=(q a (u a (qay ..))).2;obtain ⟨A,n⟩:=ih (fun x j=>u x (qaD _ j));refine ⟨max w A,fun x j N L=>?_⟩;rcases qal.1 j with rfl|j;·exact E N (by omega)
   exact n x j N (by omega)
 obtain ⟨B,H⟩:=F l (fun x j=>j);exact ⟨f,B,fun x j=>⟨(q x j).1,H x j⟩⟩
end
section
open Go Go.Em Go.Ab
variable {s:qaX}{f:FuncId}{h hi lo z:Int}{k:IntKind}{bx:List Bx}{xs:List X}{i n:Nat}{ρ:Rho}{t:Sh}{x:X}
namespace Ct
theorem fD {args:List X}{g:List X->List Bx->Option (X×List Bx)}(hg:ext f=some g){r:X}(h:g args []=some (r,bx)):∃B,∀N,B<=N->Gm N (.fn f) args []=some (r,bx):=
 ⟨1,fun N a=>by
  obtain ⟨M,rfl⟩:=pR_ N;show callF tab ext (M+1) (.fn f) args []=_
  grind[callF]⟩
def znY:List Ctr:=[mkC 120 [.s,.s] [] none [(.ir .i64 (-1) 1,[])]]
theorem Gt:∀a b:List UInt8,-1<=Lib.compareBytes a b/\Lib.compareBytes a b<=1
 |[],[]=>by decide
 |[],_::_=>by grind[Lib.compareBytes]
 |_::_,[]=>by grind[Lib.compareBytes]
 |x::a,y::b=>by unfold Lib.compareBytes;have:=Gt a b<;>grind
theorem zcL:aB T Gm znY:=.one (bY (fun o l=>by rw [qaa.1 l];exact ⟨rfl,rfl⟩) fun m f h j=>by
 match m,f,h,j with
 |[_,_],[],⟨⟨a,rfl,_⟩,⟨b,rfl,_⟩,_⟩,_=>have:=Gt a.data.toList b.data.toList;exact ⟨_,qaa.2 rfl,_,[],⟨_,rfl,this.1,this.2⟩,trivial,fD (g:=tC) rfl rfl⟩)
theorem bsz (l:List UInt8):(⟨l.toArray⟩:qaX).size=l.length:=List.size_toArray ..
theorem bln (s:qaX):s.data.toList.length=s.size:=by intros;simp_all
theorem zbI {T:Tab}(ha:IsL T h [t] xs):∃x,xs=[x]/\t.Is T h x:=by
 match xs,ha with
 |[x],⟨h,_⟩=>grind
theorem zey {T:Tab}{u:Sh}(ha:IsL T h [t,u] xs):∃x y,xs=[x,y]/\t.Is T h x/\u.Is T h y:=by
 match xs,ha with
 |[x,y],⟨h,h2,_⟩=>grind
theorem yQ {T:Tab}(hb:BIs T [] bx):bx=[]:=by
 match bx,hb with
 |[],_=>rfl
theorem zf7 {T:Tab}(hx:(Sh.ir k lo hi).Is T h x):∃z,x=.v (.int k z)/\lo<=z/\z<=hi:=hx
theorem zfZ {T:Tab}(h1:lo<=z)(h2:z<=hi):(Sh.ir k lo hi).Is T h (.v (.int k z)):=⟨z,rfl,h1,h2⟩
theorem isS {T:Tab}(hx:Sh.s.Is T h x):∃s:qaX,x=.v (.string s)/\(s.size:Int)<=1000000:=hx
theorem zkT {T:Tab}(hx:(Sh.sr lo hi).Is T h x):∃s:qaX,x=.v (.string s)/\lo<=(s.size:Int)/\(s.size:Int)<=hi:=hx
theorem zkS {T:Tab}(h1:lo<=(s.size:Int))(h2:(s.size:Int)<=hi):(Sh.sr lo hi).Is T h (.v (.string s)):=⟨s,rfl,h1,h2⟩
theorem KX (n:Int):1<=(Lib.itoa n).length:=by
 by_cases a:n<0
 ·obtain ⟨u,rfl⟩:∃u:Nat,n=-(u:Int):=⟨n.natAbs,by omega⟩
  grind[Lib.itoa_neg]
 obtain ⟨u,rfl⟩:∃u:Nat,n=u:=⟨n.toNat,by omega⟩<;>simp_all[Lib.itoa_nonneg,Lib.decDigits_length,Lib.nDigits_pos]
theorem CV (z:Int)(h1:-9223372036854775808<=z)(h2:z<=9223372036854775807):rH [.v (.int .i64 z)] []=some (.v (.string ⟨(Lib.itoa z).toArray⟩),[]):=by simp_all[rH]
def zn0:List Ctr:=[mkC 82 [.ir .i64 (-9223372036854775808) 9223372036854775807] [] none [(.sr 1 21,[])]]
theorem Jp:aB T Gm zn0:=.one (bY (fun o l=>by rw [qaa.1 l];exact ⟨rfl,rfl⟩) fun w n h j=>by obtain ⟨x,rfl,m⟩:=zbI h;obtain rfl:=yQ j;obtain ⟨z,rfl,a,f⟩:=zf7 m;have q:=Lib.itoa_length_le z a f;have u:=KX z;exact ⟨_,qaa.2 rfl,_,[],zkS (by grind[bsz]) (by grind[bsz]),trivial,fD (g:=rH) rfl (CV z a f)⟩)
theorem YR (s:qaX)(h:(s.size:Int)<=1000000):∃v x,oM [.v (.string s)] []=some (.tup [.v (.int .i64 v),x],[])/\-9223372036854775808<=v/\v<=9223372036854775807/\(x=.ifc\/x=.v .nilIface):=by
 have a:=Lib.atoiSat_bounds s.data.toList;have j:s.size<=281474976710656:=by omega
 cases f:Lib.atoiAll s.data.toList with
 |ok v=>have:=Lib.atoiAll_bounds f;exact ⟨v,_,by simp_all[oM],this.1,this.2,.inr rfl⟩
 |range=>exact ⟨_,_,by simp_all[oM],a.1,a.2,.inl rfl⟩
 |_=>exact ⟨0,_,by simp_all[oM],by omega,by omega,.inl rfl⟩
def znW:List Ctr:=[mkC 222 [.s] [] none [(.tu [.ir .i64 (-9223372036854775808) 9223372036854775807,.oi],[])]]
theorem SH:aB T Gm znW:=.one (bY (fun o q=>by rw [qaa.1 q];exact ⟨rfl,rfl⟩) fun A w l m=>by obtain ⟨x,rfl,u⟩:=zbI l;obtain rfl:=yQ m;obtain ⟨s,rfl,h⟩:=isS u;obtain ⟨v,y,n,a,f,j⟩:=YR s h;exact ⟨_,qaa.2 rfl,.tup [.v (.int .i64 v),y],[],⟨_,rfl,zfZ a f,j,trivial⟩,trivial,fD (g:=oM) rfl n⟩)
theorem mJ {a b:Nat}{c:Int}(ha:a<n)(hb:b<n)(h:ρ a+c<=ρ b):(lt a c b).ok n ρ:=aF.2 ⟨ha,hb,by grind[Lin.v]⟩
theorem qW {T:Tab}{args:List Sh}{inb:List BSh}{mu:Option (Nat×Nat)}{outs:List OW}(hs:(dF f args inb mu outs).Sat T ρ xs bx):IsL T 0 args xs/\BIs T inb bx:=by have z:=hs.zero;have a:aV (dF f args inb mu outs).m ρ ((qK (.k 0) 1 args).2.2++(uz (qK (.k 0) 1 args).2.1 inb).2.2):=hs.pre;have:=eP z args (h:=.k 0) (k:=1) a.left hs.args;rw [Lin.k_v z] at this;exact ⟨this,dR z inb (k:=(qK (.k 0) 1 args).2.1) a.right hs.inb⟩
theorem sS {T:Tab}(h:G T n ρ (.s ⟨i,0⟩) (.v (.string s))):(s.size:Int)=ρ i:=by
 cases h<;>grind[Lin.v]
theorem sI {T:Tab}(h:G T n ρ (.i k ⟨i,0⟩) (.v (.int k z))):z=ρ i:=by
 cases h<;>grind[Lin.v]
theorem gl2 {T:Tab}{a b:AX}{y:X}(h:GL T n ρ [a,b] [x,y]):G T n ρ a x/\G T n ρ b y:=by
 cases h with
 |cons h1 h2=>cases h2<;>grind
theorem zX (s:qaX)(c:Int)(h1:s.size=1)(h2:0<=c)(h3:c<=100):∃r:qaX,jZ [.v (.string s),.v (.int .i64 c)] []=some (.v (.string r),[])/\(r.size:Int)=c:=by
 have a:c<=1000000:=by omega
 have b:s.size<=1000000:=by omega
 refine ⟨⟨(Lib.repeatL s.data.toList c.toNat).toArray⟩,by simp_all[jZ],?_⟩;rw [bsz,Lib.repeatL_length,bln,h1,Nat.mul_one];omega
def znJ:List Ctr:=[dF 271 [.sr 1 1,.ir .i64 0 100] [] none [(.sr 0 100,[],[lt 3 0 2,lt 2 0 3])]]
theorem zcB:aB T Gm znJ:=.one fun ρ P F a=>by obtain ⟨j,l⟩:=qW a;obtain ⟨x,y,rfl,u,w⟩:=zey j;obtain rfl:=yQ l;obtain ⟨s,rfl,B,E⟩:=zkT u;obtain ⟨c,rfl,f,h⟩:=zf7 w;obtain ⟨O,A⟩:=gl2 a.args;have H:c=ρ 2:=sI A;obtain ⟨r,m,L⟩:=zX s c (by omega) f h;refine jX (qaa.2 rfl) a.zero a.pos rfl rfl (zkS (s:=r) (by omega) (by omega)) (fun N ρ' n Q g q=>?_) (fD (g:=jZ) rfl m);subst q;have J:(r.size:Int)=ρ' 3:=sS g;have M:=n.same 2 (by decide);exact .cons (mJ (by decide) (by decide) (by omega)) (.cons (mJ (by decide) (by decide) (by omega)) .nil)
theorem xG (c:List UInt8):∀l:List UInt8,Lib.indexAny l c<(l.length:Int)\/l=[]
 |[]=>.inr rfl
 |b::l=>by
  left;have:=xG c l;unfold Lib.indexAny;rw [qat];split;·omega
  split;·omega
  rcases this with h|rfl;·omega
  rename_i h1 h2;exact absurd rfl h2
theorem Iz (c l:List UInt8):Lib.indexAny l c+1<=(l.length:Int):=by
 rcases xG c l with h|rfl;·omega
 show (-1:Int)+1<=0<;>grind
theorem A8 (s c:qaX):∀f pos,-1<=jR s c f pos/\jR s c f pos+1<=s.size
 |0,_=>⟨by grind[jR],by grind[jR]⟩
 |f+1,pos=>by
  unfold jR;split
  ·split;·omega
   exact A8 s c f _
  grind
theorem zd9 (s:qaX)(h:(s.size:Int)<=1000000):∃z:Int,jg [.v (.string s),.v (.string marks)] []=some (.v (.int .i64 z),[])/\-1<=z/\z+1<=s.size:=by
 have f:s.size<4294967281:=by omega
 have l:marks.size<4294967281:=by decide
 have m:AZ marks=true:=by decide
 have j:=Lib.indexAny_ge marks.data.toList s.data.toList;have a:=Iz marks.data.toList s.data.toList;rw [bln] at a;unfold jg;dsimp only;split
 ·grind
 rw [if_pos ⟨f,rfl⟩];refine ⟨_,rfl,?_⟩;split<;>simp_all[A8]
def znX:List Ctr:=[dF 219 [.s,.x (.v (.string ⟨#[46,91,63]⟩))] [] none [(.ir .i64 (-1) 1000000,[],[lt 2 1 1])]]
theorem zcJ:aB T Gm znX:=.one fun ρ N A a=>by obtain ⟨j,l⟩:=qW a;obtain ⟨x,y,rfl,u,f⟩:=zey j;obtain rfl:=yQ l;obtain ⟨s,rfl,h⟩:=isS u;obtain ⟨f,_⟩:y=.v (.string ⟨#[46,91,63]⟩)/\_:=f;subst f;obtain ⟨w,M⟩:=gl2 a.args;have B:=sS w;obtain ⟨z,m,F,H⟩:=zd9 s h;refine jX (qaa.2 rfl) a.zero a.pos rfl rfl (zfZ (z:=z) (by omega) (by omega)) (fun L ρ' n O g q=>?_) (fD (g:=jg) rfl m);subst q;have E:z=ρ' 2:=sI g;have J:=n.same 1 (by decide);exact .cons (mJ (by decide) (by decide) (by omega)) .nil
theorem uq (c:UInt8):∀l:List UInt8,Lib.indexByte l c+1<=(l.length:Int)
 |[]=>by show (-1:Int)+1<=0<;>grind
 |b::l=>by have:=uq c l<;>grind[Lib.indexByte]
theorem zbn (s c:qaX)(h:(s.size:Int)<=1000000)(hc:c.size=1):∃z:Int,l9 [.v (.string s),.v (.string c)] []=some (.v (.int .i64 z),[])/\-1<=z/\z+1<=s.size:=by
 have j:s.size<4294967281:=by omega
 rw [<-bln] at hc;obtain ⟨b,l⟩:=List.length_eq_one_iff.1 hc;have a:=Lib.indexByte_ge s.data.toList b;have f:=uq b s.data.toList<;>simp_all[l9]
def znL:List Ctr:=[dF 283 [.s,.sr 1 1] [] none [(.ir .i64 (-1) 1000000,[],[lt 3 1 1])]]
theorem zcC:aB T Gm znL:=.one fun ρ P E a=>by obtain ⟨h,j⟩:=qW a;obtain ⟨x,y,rfl,q,u⟩:=zey h;obtain rfl:=yQ j;obtain ⟨s,rfl,f⟩:=isS q;obtain ⟨c,rfl,A,B⟩:=zkT u;obtain ⟨w,O⟩:=gl2 a.args;have F:=sS w;obtain ⟨z,l,J,L⟩:=zbn s c f (by omega);refine jX (qaa.2 rfl) a.zero a.pos rfl rfl (zfZ (z:=z) (by omega) (by omega)) (fun N ρ' m Q g n=>?_) (fD (g:=l9) rfl l);subst n;have H:z=ρ' 3:=sI g;have M:=m.same 1 (by decide);exact .cons (mJ (by decide) (by decide) (by omega)) .nil
theorem Gn (n a b c d:Nat)(h:0<n):1<=(Lib.decodeN n a b c d).2/\(Lib.decodeN n a b c d).2<=4/\(Lib.decodeN n a b c d).2<=n:=by unfold Lib.decodeN<;>grind
end Ct
end
section
open Go Go.Em Go.Ab
theorem jO {α:Type}{nIn:Nat}{b:C}{H:α->St}{I:α->Prop}{μ:α->Nat}{Q:Ex->St->Prop}
  (step:∀a,I a->(∃υ a' B,(∀M,B<=M->run (callF tab ext M) nIn M b (H a)=some (.norm,υ))/\canon nIn υ=some (H a')/\I a'/\μ a'<μ a)\/(∃e σ' B,e≠.norm/\Q e σ'/\∀M,B<=M->run (callF tab ext M) nIn M b (H a)=some (e,σ')))
  {a:α} {τ:St} (ha:I a) (hτ:canon nIn τ=some (H a)):∃e σ' B,Q e σ'/\∀M,B<=M->run (callF tab ext M) nIn M (.loop b) τ=some (e,σ'):=by
 have q:∀d a,μ a<=d->I a->∃e σ' B,Q e σ'/\∀M F υ,B<=M->d<F->canon nIn υ=some (H a)->iter nIn (run (callF tab ext M) nIn M b) F υ=some (e,σ'):=by
  intro d;induction d with
  |zero=>
   intro a N n;rcases step a n with ⟨_,a',_,_,_,_,O⟩|⟨e,σ',B,j,f,h⟩;·omega
   refine ⟨e,σ',B,f,fun M F υ l u m=>?_⟩;obtain ⟨F',rfl⟩:∃F',F=F'+1:=⟨F-1,by omega⟩;exact iter_end m (h M l) j
  |succ d ih=>
   intro a N n;rcases step a n with ⟨ω,a',w,A,E,J,P⟩|⟨e,σ',B,j,f,h⟩;·obtain ⟨e,σ',y,f,L⟩:=ih a' (by omega) J;refine ⟨e,σ',max w y,f,fun M F υ l u m=>?_⟩;obtain ⟨F',rfl⟩:∃F',F=F'+1:=⟨F-1,by omega⟩;exact iter_step m (A M (by omega)) (L M F' ω (by omega) (by omega) E)
   refine ⟨e,σ',B,f,fun M F υ l u m=>?_⟩;obtain ⟨F',rfl⟩:∃F',F=F'+1:=⟨F-1,by omega⟩;exact iter_end m (h M l) j
 obtain ⟨e,σ',B,f,h⟩:=q (μ a) a (Nat.le_refl _) ha;refine ⟨e,σ',max B (μ a+1),f,fun M l=>?_⟩;simp only [run];exact h M M τ (by omega) (by omega) hτ
end
section
open Go Go.Em Go.Ab
variable {R a m y:Int}
namespace Ct
theorem w64 {x:Int}(h1:-9223372036854775808<=x)(h2:x<=9223372036854775807):IntKind.i64.wrap x=x:=by grind[IntKind.wrap_i64]
theorem tq (k:Nat)(h:0<=a):a.tdiv k=a /k:=by grind
theorem Rx (N:Nat)(x lo hi:Int):Gam.pureD (callF tab ext (N+1)) 297 [num x,num lo,num hi]=some (boolX (decide (lo<=x)&&decide (x<=hi))):=by
 cases a:(decide (x>=lo)) with
 |true=>
  cases f:(decide (x<=hi)) with
  |true=>exact puA [(9,.b true),(13,.b true)] (pf2 a f) (boolX true)
  |false=>exact puA [(9,.b true),(13,.b false)] (pf2 a f) (boolX false)
 |false=>exact puA [(9,.b false)] (pf1 a) (boolX false)
def bef (y:Int):Int:=365*(y-1)+(y-1) /4-(y-1) /100+(y-1) /400
theorem yS (N:Nat)(h1:1<=y)(h2:y<=10000):Gam.pureD (callF tab ext (N+1)) 298 [num y]=some (num (bef y)):=by
 have h:=tq 4 (show 0<=y-1 by omega);have a:=tq 100 (show 0<=y-1 by omega);have f:=tq 400 (show 0<=y-1 by omega);simp at h a f;have j:IntKind.i64.wrap (y-1)=y-1:=w64 (by omega) (by omega);have l:IntKind.i64.wrap (365*(y-1))=365*(y-1):=w64 (by omega) (by omega);have m:IntKind.i64.wrap ((y-1).tdiv 4)=(y-1) /4:=by rw [h];exact w64 (by omega) (by omega)
 have n:IntKind.i64.wrap (365*(y-1)+(y-1) /4)=365*(y-1)+(y-1) /4:=w64 (by omega) (by omega);have q:IntKind.i64.wrap ((y-1).tdiv 100)=(y-1) /100:=by rw [a];exact w64 (by omega) (by omega)
 have u:IntKind.i64.wrap (365*(y-1)+(y-1) /4-(y-1) /100)=365*(y-1)+(y-1) /4-(y-1) /100:=w64 (by omega) (by omega);have w:IntKind.i64.wrap ((y-1).tdiv 400)=(y-1) /400:=by rw [f];exact w64 (by omega) (by omega)
 have A:IntKind.i64.wrap (365*(y-1)+(y-1) /4-(y-1) /100+(y-1) /400)=bef y:=w64 (by omega) (by omega);exact puA [(5,.i (y-1)),(7,.i (365*(y-1))),(9,.i ((y-1) /4)),(10,.i (365*(y-1)+(y-1) /4)),(12,.i ((y-1) /100)),(13,.i (365*(y-1)+(y-1) /4-(y-1) /100)),(15,.i ((y-1) /400)),(16,.i (bef y))] (pf8 j l m n q u w A) (num (bef y))
def leap (y:Int):Bool:=y%4==0&&(y%100 !=0||y%400==0)
theorem tm (k:Nat)(h:0<=a):a.tmod k=a%k:=by grind
theorem Rh (N:Nat)(h1:1<=y)(h2:y<=9999):Gam.pureD (callF tab ext (N+1+1)) 308 [num y]=some (boolX (leap y)):=by
 have a:=Rx N y 1 9999;rw [show (decide ((1:Int)<=y)&&decide (y<=9999))=true by grind] at a;have l:=tm 4 (show 0<=y by omega);have h:=tm 100 (show 0<=y by omega);have j:=tm 400 (show 0<=y by omega);simp at l h j;unfold leap;rw [<-l,<-h,<-j];cases h1:(y.tmod 4==0) with
 |true=>
  cases h2:(y.tmod 100 !=0) with
  |true=>exact puA [(4,.p (boolX true)),(8,.b true),(13,.b true)] (pf3 a h1 h2) (boolX true)
  |false=>
   cases f:(y.tmod 400==0) with
   |true=>exact puA [(4,.p (boolX true)),(8,.b true),(13,.b false),(17,.b true)] (pf4 a h1 h2 f) (boolX true)
   |false=>exact puA [(4,.p (boolX true)),(8,.b true),(13,.b false),(17,.b false)] (pf4 a h1 h2 f) (boolX false)
 |false=>exact puA [(4,.p (boolX true)),(8,.b false)] (pf2 a h1) (boolX false)
def md (l:Bool)(m:Int):Int:=if m=2 then (if l then 29 else 28) else if m=4\/m=6\/m=9\/m=11 then 30 else 31
def rest (l:Bool)(m:Int):Int:=
 if m=1 then 337+md l 2 else if m=2 then 306+md l 2 else if m=3 then 306 else if m=4 then 275 else if m=5 then 245 else if m=6 then 214 else if m=7 then 184 else if m=8 then 153 else if m=9 then 122 else if m=10 then 92 else if m=11 then 61 else if m=12 then 31 else 0
theorem zbv (N:Nat)(h1:1<=y)(h2:y<=9999)(h3:1<=m)(h4:m<=12):Gam.pureD (callF tab ext (N+3)) 299 [num y,num m]=some (num (md (leap y) m)):=by
 have a:=Rh N h1 h2;have f:m=1\/m=2\/m=3\/m=4\/m=5\/m=6\/m=7\/m=8\/m=9\/m=10\/m=11\/m=12:=by omega
 rcases f with rfl|rfl|rfl|rfl|rfl|rfl|rfl|rfl|rfl|rfl|rfl|rfl;·exact puA [] pf0 (num 31)
 ·generalize leap y=b at a ⊢;cases h:b with
  |true=>subst h;exact puA [(9,.p (boolX true)),(10,.b true)] (pf2 a (show true=true from rfl)) (num 29)
  |false=>subst h;exact puA [(9,.p (boolX false)),(10,.b false)] (pf2 a (show false=false from rfl)) (num 28)
 ·exact puA [] pf0 (num 31)
 ·exact puA [] pf0 (num 30)
 ·exact puA [] pf0 (num 31)
 ·exact puA [] pf0 (num 30)
 ·exact puA [] pf0 (num 31)
 ·exact puA [] pf0 (num 31)
 ·exact puA [] pf0 (num 30)
 ·exact puA [] pf0 (num 31)
 ·exact puA [] pf0 (num 30)
 exact puA [] pf0 (num 31)
theorem rest_step (l:Bool)(h3:1<=m)(h4:m<=12):rest l m=md l m+rest l (m+1):=by
 have a:m=1\/m=2\/m=3\/m=4\/m=5\/m=6\/m=7\/m=8\/m=9\/m=10\/m=11\/m=12:=by omega
 cases l<;>rcases a with rfl|rfl|rfl|rfl|rfl|rfl|rfl|rfl|rfl|rfl|rfl|rfl<;>rfl
theorem WM (l:Bool)(m:Int):28<=md l m/\md l m<=31:=by grind[md]
theorem Qx (l:Bool)(h3:1<=m)(h4:m<=12):rest l m<=400:=by
 have a:m=1\/m=2\/m=3\/m=4\/m=5\/m=6\/m=7\/m=8\/m=9\/m=10\/m=11\/m=12:=by omega
 cases l<;>rcases a with rfl|rfl|rfl|rfl|rfl|rfl|rfl|rfl|rfl|rfl|rfl|rfl<;>decide
theorem YO (y:Int):bef (y+1)-bef y=rest (leap y) 1:=by
 have:rest (leap y) 1=365+(if leap y then 1 else 0):=by cases leap y<;>rfl
 rw [this];unfold bef leap<;>grind
def ziy (y m r:Int):Prop:=1<=y/\y<=9999/\1<=m/\m<=12/\0<=r/\r<=30
theorem zn9 {y1:Int}(r1:0<=R)(hy:1<=y1/\y1<=9999/\R<bef (y1+1)):∃y,(1<=y/\y<=9999/\R<bef (y+1)/\bef y<=R)/\∃B,∀M,B<=M->run (callF tab ext M) 0 M (.loop (loopAt 272 0)) ⟨[(2,num y1),(6,num R)],[]⟩=some (.exit 0,⟨[(2,num y),(6,num R),(19,boolX false)],[]⟩):=by
 obtain ⟨e,σ',m,⟨y,q,w,u⟩,j⟩:=jO (nIn:=0) (b:=loopAt 272 0) (H:=fun y:Int=>⟨[(2,num y),(6,num R)],[]⟩) (I:=fun y=>1<=y/\y<=9999/\R<bef (y+1)) (μ:=fun y=>y.toNat)
  (Q:=fun e σ'=>∃y:Int,e=.exit 0/\σ'=⟨[(2,num y),(6,num R),(19,boolX false)],[]⟩/\1<=y/\y<=9999/\R<bef (y+1)/\bef y<=R) (fun y ⟨i1,i2,i3⟩=>by
   have l:∀M,1<=M->Gam.pureD (callF tab ext M) 298 [num y]=some (num (bef y)):=fun M f=>by
    obtain ⟨M,rfl⟩:∃M',M=M'+1:=⟨M-1,by omega⟩
    grind[yS]
   cases h:decide (bef y>R) with
   |true=>
    have n:=of_decide_eq_true h;have A:2<=y:=by
     rcases Int.lt_or_le 1 y with h|h;·omega
     have:y=1:=by omega
     subst this;have:bef 1=0:=rfl;omega
    refine .inl ⟨⟨[(2,num (y-1)),(6,num R)],[]⟩,y-1,1,fun M f=>?_,by kernel_rfl,⟨by omega,by omega,by grind⟩,by omega⟩;exact ruA [(17,.p (num (bef y))),(19,.b true),(21,.i (y-1))] (pf3 (l M f) h (show IntKind.i64.wrap (y-1)=y-1 from w64 (by omega) (by omega)))
   |false=>have n:=of_decide_eq_false h;exact .inr ⟨_,_,1,(by grind),⟨y,rfl,rfl,i1,i2,i3,by omega⟩,fun M f=>ruA [(17,.p (num (bef y))),(19,.b false)] (pf2 (l M f) h)⟩)
  (τ:=⟨[(2,num y1),(6,num R)],[]⟩) (a:=y1) hy (by kernel_rfl)
 subst q w;exact ⟨y,u,m,j⟩
theorem zn8 {r0:Int}(k1:1<=y)(k2:y<=9999)(h0:0<=r0)(h1:r0<rest (leap y) 1):∃m r,(1<=m/\m<=12/\0<=r/\r<=30)/\∃B,∀M,B<=M->run (callF tab ext M) 0 M (.loop (loopAt 272 1)) ⟨[(2,num y),(3,num 1),(6,num r0)],[]⟩=some (.exit 2,⟨[(2,num y),(3,num m),(6,num r),(30,boolX false)],[]⟩):=by
 obtain ⟨e,σ',n,⟨m,r,u,F,w⟩,l⟩:=jO (nIn:=0) (b:=loopAt 272 1) (H:=fun p:Int×Int=>⟨[(2,num y),(3,num p.1),(6,num p.2)],[]⟩) (I:=fun p=>1<=p.1/\p.1<=12/\0<=p.2/\p.2<rest (leap y) p.1) (μ:=fun p=>(13-p.1).toNat)
  (Q:=fun e σ'=>∃m r:Int,e=.exit 2/\σ'=⟨[(2,num y),(3,num m),(6,num r),(30,boolX false)],[]⟩/\1<=m/\m<=12/\0<=r/\r<=30) (fun p ⟨i1,i2,i3,i4⟩=>by
   obtain ⟨m,r⟩:=p;dsimp only at i1 i2 i3 i4 ⊢;have j:∀M,3<=M->Gam.pureD (callF tab ext M) 299 [num y,num m]=some (num (md (leap y) m)):=fun M f=>by obtain ⟨M,rfl⟩:∃M',M=M'+3:=⟨M-3,by omega⟩<;>simp_all[zbv]
   have A:=WM (leap y) m;have E:=rest_step (leap y) i1 i2;have J:=Qx (leap y) i1 i2;generalize md (leap y) m=v at j A E;cases h:decide (r>=v) with
   |true=>
    have q:=of_decide_eq_true h;have L:m<=11:=by
     rcases Int.lt_or_le m 12 with h|h;·omega
     have:m=12:=by omega
     subst this;have:rest (leap y) (12+1)=0:=rfl;omega
    refine .inl ⟨⟨[(2,num y),(3,num (m+1)),(6,num (r-v))],[]⟩,(m+1,r-v),3,fun M f=>?_,by kernel_rfl,⟨by grind,by grind,by grind,by grind⟩,by grind⟩;exact ruA [(29,.p (num v)),(30,.b true),(36,.p (num v)),(37,.i (r-v)),(32,.i (m+1))] (pf5 (j M f) h (j M f) (show IntKind.i64.wrap (r-v)=r-v from w64 (by omega) (by omega)) (show IntKind.i64.wrap (m+1)=m+1 from w64 (by omega) (by omega)))
   |false=>have q:=of_decide_eq_false h;exact .inr ⟨_,_,3,(by grind),⟨m,r,rfl,rfl,i1,i2,i3,by omega⟩,fun M f=>ruA [(29,.p (num v)),(30,.b false)] (pf2 (j M f) h)⟩)
  (τ:=⟨[(2,num y),(3,num 1),(6,num r0)],[]⟩) (a:=(1,r0)) ⟨by grind,by grind,h0,h1⟩ (by kernel_rfl)
 subst u F;exact ⟨m,r,w,n,l⟩
theorem MP (r1:0<=R)(r2:R<=3652058):∃y1,(if false=true then if 9999>R /365+1 then 9999 else R /365+1 else if 9999<R /365+1 then (9999:Int) else R /365+1)=y1/\1<=y1/\y1<=9999/\R<bef (y1+1):=by
 refine ⟨_,rfl,?_⟩;rw [if_neg (by decide)]
 grind[bef]
theorem civil (d:Int):Back 272 [num d] (.tup [num 0,num 0,num 0,num 2])\/∃y m r,ziy y m r/\Back 272 [num d] (.tup [num y,num m,num (r+1),num 0]):=by
 have a:=fun N=>Rx N d (-719162) 2932896;cases j:(decide (-719162<=d)&&decide (d<=2932896)) with
 |false=>rw [j] at a;refine .inl ⟨2,fun N L=>?_⟩;obtain ⟨M,rfl⟩:∃M,N=M+1+1:=⟨N-2,by omega⟩;exact caA [(8,.p (boolX false)),(9,.b true)] (pf2 (a M) (show (!false)=true from rfl)) (r:=some (.tup [num 0,num 0,num 0,num 2],[]))
 |true=>
  rw [j] at a;rw [qab,qaI,qaI] at j;obtain ⟨Z,d2⟩:=j;obtain ⟨R,O⟩:∃R,R=d- -719162:=⟨_,rfl⟩;have q:0<=R:=by omega
  have Y:R<=3652058:=by omega
  have P:R.tdiv 365=R /365:=tq 365 q;obtain ⟨y1,l,Q⟩:=MP q Y;obtain ⟨y,⟨n,u,k3,k4⟩,w,f⟩:=zn9 q Q;have kb:=YO y;have kr:=Qx (leap y) (m:=1) (by decide) (by decide);obtain ⟨m,r,⟨S,U,V,W⟩,A,h⟩:=zn8 (r0:=R-bef y) n u (by omega) (by omega);refine .inr ⟨y,m,r,⟨n,u,S,U,V,W⟩,w+A+3,fun N L=>?_⟩;obtain ⟨M,rfl⟩:∃M,N=M+1+1:=⟨N-2,by omega⟩;have f:=f (M+1) (by omega);have h:=h (M+1) (by omega);rw [<-l] at f;have B:IntKind.i64.wrap (d- -719162)=R:=by rw [<-O];exact w64 (by omega) (by omega)
  have E:IntKind.i64.wrap (R.tdiv 365)=R /365:=by rw [P];exact w64 (by omega) (by omega)
  have F:IntKind.i64.wrap (R /365+1)=R /365+1:=w64 (by omega) (by omega);have H:IntKind.i64.wrap (R-bef y)=R-bef y:=w64 (by omega) (by omega);have J:IntKind.i64.wrap (r+1)=r+1:=w64 (by omega) (by omega);exact caB [(8,.p (boolX true)),(9,.b false),(11,.i R),(13,.i (R /365)),(14,.i (R /365+1)),(24,.p (num (bef y))),(25,.i (R-bef y)),(41,.i (r+1))] [(.exit 0,⟨[(2,num y),(6,num R),(19,boolX false)],[]⟩),(.exit 2,⟨[(2,num y),(3,num m),(6,num r),(30,boolX false)],[]⟩)] (pf10 (a M) (show (!true)=false from rfl) B E F f (yS M n (by omega)) H h J) (r:=some (.tup [num y,num m,num (r+1),num 0],[]))
theorem zW {h:Int}{z:Int}{T:Tab}{lo hi:Int}(h1:lo<=z)(h2:z<=hi):(Sh.ir .i64 lo hi).Is T h (num z):=⟨z,rfl,h1,h2⟩
def znI:List Ctr:=[mkC 272 [int] [] none [(.tu [.ir .i64 0 9999,.ir .i64 0 12,.ir .i64 0 31,err],[])]]
theorem zcA:aB T Gm znI:=.one (bY (fun o l=>by rw [qaa.1 l];exact ⟨rfl,rfl⟩) fun n a f j=>by
 match n,a,f,j with
 |[_],[],⟨⟨d,rfl⟩,_⟩,_=>
  rcases civil d with h|⟨y,m,r,⟨q,u,w,A,B,E⟩,h⟩;·exact ⟨_,qaa.2 rfl,_,[],⟨[num 0,num 0,num 0,num 2],rfl,zW (by decide) (by decide),zW (by decide) (by decide),zW (by decide) (by decide),⟨2,rfl,by decide,by decide⟩,trivial⟩,trivial,h⟩
  exact ⟨_,qaa.2 rfl,_,[],⟨[num y,num m,num (r+1),num 0],rfl,zW (by omega) (by omega),zW (by omega) (by omega),zW (by omega) (by omega),⟨0,rfl,by decide,by decide⟩,trivial⟩,trivial,h⟩)
end Ct
end
section
open Go Go.Em Go.Ab
set_option linter.all false
namespace Ct
def znw:List Ctr:=[dF 218 [.k .i64 1,.dp [.sr 1 1000000]] [] none [(.ir .i64 1 1000000,[],[lt 2 0 1])]]
theorem zch:aB T Gm znw:=hoA K11 zcJ
def znd:List Ctr:=[dF 260 [.s,.s] [] none [(.kb true,[],[lt 2 0 1]),(.kb false,[],[])]]
theorem zb6:aB T Gm znd:=hoA K11 .nil
def znv:List Ctr:=[dF 220 [.s,.s] [] none [(.kb true,[],[lt 2 0 1]),(.kb false,[],[])]]
theorem zcg:aB T Gm znv:=hoA K11 zb6
def znc:List Ctr:=[dF 261 [.s,.sr 1 1] [] none [(.tu [.s,.s,.kb true],[],[lt 3 0 1,lt 4 0 1]),(.tu [.s,.s,.kb false],[],[lt 3 0 1,lt 4 0 1])]]
theorem zb5:aB T Gm znc:=hoA K11 zcC
def znu:List Ctr:=[dF 221 [.s,.sr 1 1] [] none [(.tu [.s,.s,.kb true],[],[lt 3 0 1,lt 4 0 1]),(.tu [.s,.s,.kb false],[],[lt 3 0 1,lt 4 0 1])]]
theorem RY:aB T Gm znu:=hoA K11 zb5
def zny:List Ctr:=[dF 179 [.sr 1 1000000] [] none [(.tu [part,.s,.kb true],[],[lt 5 1 1]),(.tu [part,.s,.kb false],[],[])]]
theorem zcr:aB T Gm zny:=hoA K11 (hpA zch (hpA zcg (hpA RY (hpA SH Jp))))
def zlg:List Ctr:=[mkC 116 [.s] [] none [((.kb true),[]),((.kb false),[])]]
theorem zcq:aB T Gm zlg:=hoB K11 ((pU [⟨[23,24,25],fun e n=>(n+1,[au (.k 0) ⟨n+0,0⟩,au ⟨n+0,0⟩ (e 1)],[(23,.sl (some false) 1 4 (.k 1) (e 1)),(24,.i .i64 (e 1)),(25,.i .i64 ⟨n+0,0⟩)],[],(e 1,⟨n+0,0⟩))⟩])) .nil
def znx:List Ctr:=[dF 180 [part] [] none [(.kb true,[],bd 2 0 1000000),(.kb false,[],[])]]
theorem RZ:aB T Gm znx:=hoA K11 zcq
def znb:List Ctr:=[mkC 264 [QJ] [] none [(.sr 0 1000100,[])]]
theorem zb4:aB T Gm znb:=hoA K11 Jp
def znt:List Ctr:=[mkC 223 [.sl 3 7] [] none [((err),[])]]
theorem zcf:aB T Gm znt:=hoB K11 ((pU [⟨[3,21,22,23],fun e n=>(n+2,[au (.k 0) ⟨n+1,0⟩,au ⟨n+1,0⟩ (e 2)],[(3,.i .i64 ⟨n+0,0⟩),(21,.sl none 3 7 (e 1) (e 2)),(22,.i .i64 (e 2)),(23,.i .i64 ⟨n+1,0⟩)],[],(e 2,⟨n+1,0⟩))⟩])) (hpA RZ zb4)
def zns:List Ctr:=[mkC 224 [QJ,U0] [] none [(.kb true,[]),(.kb false,[])]]
theorem zce:aB T Gm zns:=hoA K11 .nil
def zmY:List Ctr:=[mkC 289 [zjM,.dp [.s]] [] none [(.kb true,[]),(.kb false,[])]]
theorem RI:aB T Gm zmY:=hoA K11 .nil
def zi4:List Ctr:=[dF 155 [.slr 7 12 0 6,.fn 289 [.dp [.s]]] [] none [(.ir .i64 (-1) 5,[],[lt 4 1 2])]]
theorem zcs:aB T Gm zi4:=hoB K11 ((pU [⟨[0,1,7,8],fun e n=>(n+1,[au (.k 0) ⟨n+0,0⟩,au ⟨n+0,0⟩ (e 1)],[(0,.sl none 7 12 (e 0) (e 1)),(1,.fn 289 [.dp [.s (e 2)]]),(7,.i .i64 (e 1)),(8,.i .i64 ⟨n+0,0⟩)],[],(e 1,⟨n+0,0⟩))⟩])) RI
def zna:List Ctr:=[dF 265 [U0,.s] [] none [(.ir .i64 (-1) 5,[],[lt 9 1 7])]]
theorem zb3:aB T Gm zna:=hoA K11 (hpA RI zcs)
def znr:List Ctr:=[dF 225 [QJ,U0] [] none [(.slr 6 11 0 6,[],[lt 11 0 4])]]
theorem zcd:aB T Gm znr:=hoA K11 zb3
def zhN:List Ctr:=[mkC 56 [val] [] (some (1,0)) [(.ag [int,int,int,.s,.bs 0,.bs 1],[.OX 6 1 1 12,.OX 7 2 1 13])],mkC 56 [U0] [] (some (1,0)) [(.ag [int,int,int,.s,.bs 0,.bs 1],[.OX 6 1 1 12,.OX 7 2 1 13])]]
theorem zcv:aB T Gm zhN:=hrA K11 ((pU [⟨[1,2,3,12,13,14],fun e n=>(n+4,[au ⟨n+0,0⟩ ⟨n+3,0⟩,au ⟨n+1,0⟩ ⟨n+3,0⟩,au (.k 0) ⟨n+2,0⟩,au ⟨n+2,0⟩ (e 3),au ⟨n+3,0⟩ ⟨n+0,0⟩,au ⟨n+3,0⟩ ⟨n+1,0⟩,au (.k 0) ⟨n+3,0⟩,au ⟨n+3,0⟩ (e 4)],[(1,.ptr 0 (.k 0) 0),(2,.ptr 1 (.k 0) 0),(3,.ptr 2 (.k 0) 0),(12,.sl none 6 1 (e 3) (e 4)),(13,.i .i64 (e 4)),(14,.i .i64 ⟨n+0,0⟩)],[.var [.i .i64 (e 7),.i .i64 (e 8),.i .i64 (e 9),.s (e 10),.sl none 6 1 (e 3) (e 4),.sl none 7 2 (e 3) (e 14)],.var [.i .i64 (.k 0),.i .i64 (.k 0),.i .i64 (.k 0),.x (.v (.string ⟨#[]⟩)),.x (.sl true 6 []),.x (.sl true 7 [])],.var [.i .i64 (e 7),.i .i64 (e 8),.i .i64 (e 9),.s (e 10),.bs 3 (.k 0) ⟨n+1,0⟩,.x (.sl true 7 [])],.row 6 1 ⟨n+2,0⟩ ⟨n+3,0⟩],(e 4,⟨n+0,0⟩))⟩,⟨[2,3,27,28,29],fun e n=>(n+4,[au ⟨n+0,0⟩ ⟨n+3,0⟩,au ⟨n+1,0⟩ ⟨n+3,0⟩,au (.k 0) ⟨n+2,0⟩,au ⟨n+2,0⟩ (e 2),au ⟨n+3,0⟩ ⟨n+0,0⟩,au ⟨n+3,0⟩ ⟨n+1,0⟩,au (.k 0) ⟨n+3,0⟩,au ⟨n+3,0⟩ (e 3)],[(2,.ptr 0 (.k 0) 0),(3,.ptr 1 (.k 0) 0),(27,.sl none 7 2 (e 2) (e 3)),(28,.i .i64 (e 3)),(29,.i .i64 ⟨n+0,0⟩)],[.var [.i .i64 (.k 0),.i .i64 (.k 0),.i .i64 (.k 0),.x (.v (.string ⟨#[]⟩)),.x (.sl true 6 []),.x (.sl true 7 [])],.var [.i .i64 (e 9),.i .i64 (e 10),.i .i64 (e 11),.s (e 12),.bs 2 (.k 0) (e 14),.bs 3 (.k 0) ⟨n+1,0⟩],.row 6 1 (e 17) (e 18),.row 7 2 ⟨n+2,0⟩ ⟨n+3,0⟩],(e 3,⟨n+0,0⟩))⟩,⟨[1,2,3,12,13,14],fun e n=>(n+4,[au ⟨n+0,0⟩ ⟨n+3,0⟩,au ⟨n+1,0⟩ ⟨n+3,0⟩,au (.k 0) ⟨n+2,0⟩,au ⟨n+2,0⟩ (e 3),au ⟨n+3,0⟩ ⟨n+0,0⟩,au ⟨n+3,0⟩ ⟨n+1,0⟩,au (.k 0) ⟨n+3,0⟩,au ⟨n+3,0⟩ (e 4)],[(1,.ptr 0 (.k 0) 0),(2,.ptr 1 (.k 0) 0),(3,.ptr 2 (.k 0) 0),(12,.sl none 6 11 (e 3) (e 4)),(13,.i .i64 (e 4)),(14,.i .i64 ⟨n+0,0⟩)],[.var [.i .i64 (e 7),.i .i64 (e 8),.i .i64 (e 9),.s (e 10),.sl none 6 11 (e 3) (e 4),.sl none 7 12 (e 3) (e 14)],.var [.i .i64 (.k 0),.i .i64 (.k 0),.i .i64 (.k 0),.x (.v (.string ⟨#[]⟩)),.x (.sl true 6 []),.x (.sl true 7 [])],.var [.i .i64 (e 7),.i .i64 (e 8),.i .i64 (e 9),.s (e 10),.bs 3 (.k 0) ⟨n+1,0⟩,.x (.sl true 7 [])],.row 6 1 ⟨n+2,0⟩ ⟨n+3,0⟩],(e 4,⟨n+0,0⟩))⟩,⟨[2,3,27,28,29],fun e n=>(n+4,[au ⟨n+0,0⟩ ⟨n+3,0⟩,au ⟨n+1,0⟩ ⟨n+3,0⟩,au (.k 0) ⟨n+2,0⟩,au ⟨n+2,0⟩ (e 2),au ⟨n+3,0⟩ ⟨n+0,0⟩,au ⟨n+3,0⟩ ⟨n+1,0⟩,au (.k 0) ⟨n+3,0⟩,au ⟨n+3,0⟩ (e 3)],[(2,.ptr 0 (.k 0) 0),(3,.ptr 1 (.k 0) 0),(27,.sl none 7 12 (e 2) (e 3)),(28,.i .i64 (e 3)),(29,.i .i64 ⟨n+0,0⟩)],[.var [.i .i64 (.k 0),.i .i64 (.k 0),.i .i64 (.k 0),.x (.v (.string ⟨#[]⟩)),.x (.sl true 6 []),.x (.sl true 7 [])],.var [.i .i64 (e 9),.i .i64 (e 10),.i .i64 (e 11),.s (e 12),.bs 2 (.k 0) (e 14),.bs 3 (.k 0) ⟨n+1,0⟩],.row 6 1 (e 17) (e 18),.row 7 2 ⟨n+2,0⟩ ⟨n+3,0⟩],(e 3,⟨n+0,0⟩))⟩])) .nil
def zmU:List Ctr:=[dF 297 [int,int,int] [] none [(.kb true,[],[lt 2 0 1,lt 1 0 3]),(.kb false,[],[])]]
theorem zbV:aB T Gm zmU:=hoA K11 .nil
def zmV:List Ctr:=[mkC 274 [int] [] none [(.tu [int,.ir .i64 0 86399999,err],[])]]
theorem zbW:aB T Gm zmV:=hoA K11 zbV
def zmW:List Ctr:=[mkC 273 [.ir .i64 (-1000000000000) 1000000000000,.ir .i64 0 10] [] none [(.sr 0 130,[])]]
theorem RH:aB T Gm zmW:=hoA K11 (hpA Jp zcB)
def zm1:List Ctr:=[mkC 240 [int] [] none [(.tu [.sr 0 400,err],[])]]
theorem RJ:aB T Gm zm1:=hoA K11 (hpA zcA RH)
def zm0:List Ctr:=[mkC 241 [int] [] none [(.tu [.sr 0 2000,err],[])]]
theorem zbZ:aB T Gm zm0:=hoA K11 (hpA zbW (hpA RJ RH))
end Ct
end
section
open Go Go.Em Go.Ab
variable {f:FuncId}{inb:List BSh}{bx:List Bx}{outs:List OW}{args:List Sh}{xs:List X}{a n:Nat}{Γ:Nat->Gam}{mu:Option (Nat×Nat)}{ρ:Rho}
namespace Ct
theorem zV {T:Tab}{bx':List Bx}{q:OW}{r:X}(hq:q∈outs)(h0:ρ 0=0)(hp:0<(dF f args inb mu outs).m)(w1:q.1.own=true)(w2:q.2.1.all BSh.own=true)(h1:q.1.Is T 0 r)(h2:BIs T q.2.1 bx')
  (hF:∀n' ρ',More (dF f args inb mu outs).m ρ n' ρ'->ρ' 0=0->G T n' ρ' (q.1.bld (.k 0) (dF f args inb mu outs).m).1 r->GBs T n' ρ' (uz (q.1.bld (.k 0) (dF f args inb mu outs).m).2.1 q.2.1).1 bx'->n'=(uz (q.1.bld (.k 0) (dF f args inb mu outs).m).2.1 q.2.1).2.1->aV n' ρ' q.2.2)
  (h:∃B,∀N,B<=N->Γ N (.fn f) xs bx=some (r,bx')):(dF f args inb mu outs).Res T Γ ρ xs bx:=by
 obtain ⟨y,bs,F⟩:=q;dsimp only at w1 w2 h1 h2 hF;obtain ⟨B,H⟩:=h;obtain ⟨ρ1,l,A,u⟩:=Sh.fwd y (h:=.k 0) (n:=(dF f args inb mu outs).m) (ρ:=ρ) w1 hp h0 hp (by rw [Lin.k_v h0];omega);have j:=Nat.lt_of_lt_of_le hp l.le;obtain ⟨ρ2,a,E,w⟩:=nM bs w2 j (l.zero hp h0) h2;have J:=hF _ ρ2 (l.trans a) (a.zero j (l.zero hp h0)) (u.more a) w rfl;exact ⟨zix (dF f args inb mu outs).m (y,bs,F),by rw [wV];grind,ρ2,r,bx',l.trans a,aV.append J (aV.append (a.facts A) E),u.more a,w,B,H⟩
theorem zeN {T:Tab}(hc:(dF f args inb mu outs).Holds T Γ)(ho:BX args=true)(hob:inb.all BSh.own=true)(ha:IsL T 0 args xs)(hb:BIs T inb bx):
  ∃ρ,GL T (dF f args inb mu outs).m ρ (qK (.k 0) 1 args).1 xs/\∃q,q∈outs/\∃n' ρ' r bx',More (dF f args inb mu outs).m ρ n' ρ'/\ρ' 0=0/\aV n' ρ' q.2.2/\G T n' ρ' (q.1.bld (.k 0) (dF f args inb mu outs).m).1 r/\q.1.Is T 0 r/\BIs T q.2.1 bx'/\∃B,∀N,B<=N->Γ N (.fn f) xs bx=some (r,bx'):=by
 obtain ⟨ρ,a⟩:=KJ (f:=f) (mu:=mu) (outs:=outs) ho hob ha hb;exact ⟨ρ,a.args,wK a.zero a.pos (hc ρ xs bx a)⟩
theorem Tv {b:Nat}{c:Int}{F:List Fact}(h:aV n ρ F)(hm:lt a c b∈F):ρ a+c<=ρ b:=by have:=(aF.1 (h _ hm)).2.2<;>grind[Lin.v]
theorem zkb {lo hi:Int}(h0:ρ 0=0)(h:aV n ρ (bd a lo hi)):lo<=ρ a/\ρ a<=hi:=by have f:=(aF.1 (h (au (.k lo) ⟨a,0⟩) (by simp [bd]))).2.2;have j:=(aF.1 (h (au ⟨a,0⟩ (.k hi)) (by simp [bd]))).2.2<;>grind[Lin.k_v,Lin.v]
theorem isP {T:Tab}{h:Int}{x:X}(hx:part.Is T h x):∃(k i:Int) (nm:qaX),x=.agg [num k,num i,strX nm]/\(nm.size:Int)<=1000000:=by
 match x,hx with
 |_,⟨xs,rfl,hx⟩=>
  match xs,hx with
  |[_,_,_],⟨⟨k,rfl⟩,⟨i,rfl⟩,⟨nm,rfl,h⟩,_⟩=>exact ⟨k,i,nm,rfl,h⟩
theorem PD (s:qaX)(h1:1<=s.size)(h2:s.size<=1000000):∃(k i:Int) (nm s2:qaX) (b:Bool),Back 179 [strX s] (.tup [.agg [num k,num i,strX nm],strX s2,boolX b])/\nm.size<=1000000/\(b=true->s2.size+1<=s.size):=by
 obtain ⟨ρ,g,q,j,L,ρ',r,n,E,z,A,B,f,m,l⟩:=zeN (zcr _ (qaa.2 rfl)) rfl rfl (xs:=[strX s]) ⟨⟨s,rfl,by omega,by omega⟩,trivial⟩ (bx:=[]) trivial;have F:(s.size:Int)=ρ 1:=by
  cases g with
  |cons w _=>exact sS w
 have J:=E.same 1 (by decide);rcases qal.1 j with rfl|j
 ·obtain rfl:=yQ m;obtain ⟨xs,rfl,f⟩:∃xs,r=.tup xs/\IsL T 0 [part,.s,.kb true] xs:=f
  match xs,f,B with
  |[x,y,w],⟨hx,hy,a,_⟩,.tup (.cons _ (.cons gy _))=>obtain ⟨k,i,nm,rfl,h⟩:=isP hx;obtain ⟨s2,rfl,u⟩:=isS hy;have a:w=boolX true:=a;subst a;have H:(s2.size:Int)=ρ' 5:=sS gy;have:=Tv A (qaa.2 rfl);exact ⟨k,i,nm,s2,true,l,by omega,fun _=>by omega⟩
 obtain rfl:=qaa.1 j;obtain rfl:=yQ m;obtain ⟨xs,rfl,f⟩:∃xs,r=.tup xs/\IsL T 0 [part,.s,.kb false] xs:=f
 match xs,f with
 |[x,y,w],⟨hx,hy,a,_⟩=>obtain ⟨k,i,nm,rfl,h⟩:=isP hx;obtain ⟨s2,rfl,u⟩:=isS hy;have a:w=boolX false:=a;subst a;exact ⟨k,i,nm,s2,false,l,by omega,fun e=>by cases e⟩
theorem MK (k i:Int)(nm:qaX)(h:nm.size<=1000000):∃b,Back 180 [.agg [num k,num i,strX nm]] (boolX b)/\(b=true->0<=i/\i<=1000000):=by
 obtain ⟨ρ,g,q,f,E,ρ',r,m,u,z,n,A,a,l,j⟩:=zeN (RZ _ (qaa.2 rfl)) rfl rfl (xs:=[.agg [num k,num i,strX nm]]) ⟨⟨_,rfl,⟨k,rfl⟩,⟨i,rfl⟩,⟨nm,rfl,by grind[dW]⟩,trivial⟩,trivial⟩ (bx:=[]) trivial;have y:i=ρ 2:=by
  cases g with
  |cons w _=>cases w with
   |agg w=>cases w with
    |cons _ w=>cases w with
     |cons w _=>exact sI w
 have B:=u.same 2 (by decide);rcases qal.1 f with rfl|f;·obtain rfl:=yQ l;have a:r=boolX true:=a;subst a;have:=zkb z n;exact ⟨true,j,fun _=>by omega⟩
 obtain rfl:=qaa.1 f;obtain rfl:=yQ l;have a:r=boolX false:=a;subst a;exact ⟨false,j,fun e=>by cases e⟩
end Ct
end
section
open Go Go.Em Go.Ab
variable {s:qaX}
namespace Ct
def Fq (e:List X):Prop:=∃(k i:Int) (nm:qaX),e=[num k,num i,strX nm]/\0<=i/\i<=1000000/\nm.size<=1000000
theorem WA {h:Int}(hh:1<=h){e:List X}(he:Fq e):D T h 7 e:=by obtain ⟨k,i,m,rfl,f,j,l⟩:=he;exact eX hh (qaa.2 rfl) ⟨⟨rfl,(fun a e=>by cases e),(fun a e=>by cases e)⟩,⟨rfl,(fun a e=>by grind),(fun a e=>by grind)⟩,⟨by omega,by omega⟩,trivial⟩
theorem Q5 (h:(!s.toList==(⟨#[]⟩:qaX).toList)=true):1<=s.size:=by
 rcases Nat.eq_zero_or_pos s.size with h0|h0;·simp_all
 grind
theorem Xa (h:(!s.toList==(⟨#[]⟩:qaX).toList)=false):s.size=0:=by
 have e:=ByteArray.toList_eq s;have f:(⟨#[]⟩:qaX).toList=[]:=ByteArray.toList_eq _;rw [e,f] at h;cases j:s.data.toList with
 |nil=>show s.data.size=0<;>grind[Array.length_toList]
 |cons a r=>grind
theorem NP (s0:qaX)(h0:s0.size<=201)(h00:1<=s0.size):∃e σ' B,((e=.ret/\∃bx,σ'=⟨[(2,.sl true 3 []),(3,num 13)],bx⟩/\(∃es c,bx=[.row 3 es,.var c]))\/(∃(s:qaX) (es:qaW),e=.exit 1/\σ'=⟨[(4,.bs 0 0 es.length),(5,strX s),(19,boolX false)],[.row 3 es]⟩/\(1<=es.length/\es.length<=201)/\∀x,x∈es->Fq x))/\
  ∀M,B<=M->run (callF tab ext M) 0 M (.loop (loopAt 141 0)) ⟨[(4,.bs 0 0 0),(5,strX s0)],[.row 3 []]⟩=some (e,σ'):=by
 refine jO (nIn:=0) (b:=loopAt 141 0) (H:=fun p:qaX×qaW×Nat=>⟨[(4,.bs 0 0 p.2.2),(5,strX p.1)],[.row 3 p.2.1]⟩) (I:=fun p=>p.2.2=p.2.1.length/\p.1.size+p.2.2<=201/\(p.2.2=0->1<=p.1.size)/\∀x,x∈p.2.1->Fq x) (μ:=fun p=>p.1.size)
  (Q:=fun e σ'=>(e=.ret/\∃bx,σ'=⟨[(2,.sl true 3 []),(3,num 13)],bx⟩/\(∃es c,bx=[.row 3 es,.var c]))\/(∃(s:qaX) (es:qaW),e=.exit 1/\σ'=⟨[(4,.bs 0 0 es.length),(5,strX s),(19,boolX false)],[.row 3 es]⟩/\(1<=es.length/\es.length<=201)/\∀x,x∈es->Fq x))
  (fun p U=>?_) (a:=(s0,[],0)) ⟨rfl,by grind,fun _=>h00,fun x w=>by grind⟩ (by kernel_rfl)
 obtain ⟨s,es,n⟩:=p;obtain ⟨L,W,Y,N⟩:=U;dsimp only at L W Y N ⊢;cases l:(!s.toList==(⟨#[]⟩:qaX).toList) with
 |false=>subst L;exact .inr ⟨_,_,0,(by grind),.inr ⟨s,es,rfl,rfl,⟨by grind[Xa],by omega⟩,N⟩,fun M _=>ruA [(19,.b false)] (pf1 l)⟩
 |true=>
  have V:=Q5 l;obtain ⟨k,i,f,y,b,u,q,m⟩:=PD s V (by omega);obtain ⟨E,u⟩:=jo u rfl;cases b with
  |false=>exact .inr ⟨_,_,E,(by grind),.inl ⟨rfl,_,rfl,es,[num k,num i,strX f],rfl⟩,fun M F=>ruA [(19,.b true),(22,.p (.tup [.agg [num k,num i,strX f],strX y,boolX false])),(25,.b false)] (pf3 l (u M F) (show false=false from rfl))⟩
  |true=>
   have m:=m rfl;obtain ⟨c,A,S⟩:=MK k i f q;obtain ⟨J,A⟩:=jo A rfl;cases c with
   |false=>exact .inr ⟨_,_,max E J,(by grind),.inl ⟨rfl,_,rfl,es,[num k,num i,strX f],rfl⟩,fun M F=>ruA [(19,.b true),(22,.p (.tup [.agg [num k,num i,strX f],strX y,boolX true])),(25,.b true),(30,.p (boolX false)),(31,.b true)] (pf5 l (u M (by omega)) (show true=true from rfl) (A M (by omega)) (show (!false)=true from rfl))⟩
   |true=>
    obtain ⟨O,P⟩:=S rfl;have j:0+n=es.length/\roomOk (n+[[num k,num i,strX f]].length) (31+1)=true/\memN 0 (X.sl true 3 [[num k,num i,strX f]]).rows=false:=⟨by omega,fP (by grind) (by grind),rfl⟩;refine .inl ⟨⟨[(4,.bs 2 0 (n+1)),(5,strX y)],[.dead,.var [num k,num i,strX f],.row 3 (es++[[num k,num i,strX f]])]⟩,(y,es++[[num k,num i,strX f]],n+1),max E J,fun M F=>?_,by kernel_rfl,⟨by grind,by grind,(fun h=>by grind),fun x w=>?_⟩,by grind⟩;·exact ruA [(19,.b true),(22,.p (.tup [.agg [num k,num i,strX f],strX y,boolX true])),(25,.b true),(30,.p (boolX true)),(31,.b false),(36,.app)] (pf6 l (u M (by omega)) (show true=true from rfl) (A M (by omega)) (show (!true)=false from rfl) j)
    rcases qaO.1 w with w|w
    ·grind
    rw [qaa.1 w];exact ⟨k,i,f,rfl,O,P,q⟩
theorem NM (s:qaX)(hs:s.size<=1000000):(∃e:Int,1<=e/\e<=100/\Back 141 [strX s] (.tup [.sl true 3 [],num e]))\/∃es,(1<=es.length/\es.length<=201)/\(∀x,x∈es->Fq x)/\∃B,∀N,B<=N->callF tab ext N (.fn 141) [strX s] []=some (.tup [.bs 0 0 es.length,num 0],[.row 3 es]):=by
 have a:∀{B:Nat} {r:X} {bx:List Bx},(∀M,B<=M->callF tab ext (M+1) (.fn 141) [strX s] []=some (r,bx))->∃B,∀N,B<=N->callF tab ext N (.fn 141) [strX s] []=some (r,bx):=fun {B} {r} {bx} h=>⟨B+1,fun N O=>by obtain ⟨M,rfl⟩:=pR_ N<;>simp_all⟩;cases f:(s.toList==(⟨#[]⟩:qaX).toList) with
 |true=>exact .inl ⟨4,by decide,by decide,a (B:=0) fun M _=>caA [(11,.b true)] (pf1 f) (r:=some (.tup [.sl true 3 [],num 4],[]))⟩
 |false=>
  cases j:decide (Int.ofNat s.size>200) with
  |true=>exact .inl ⟨5,by decide,by decide,a (B:=0) fun M _=>caA [(11,.b false),(15,.b true)] (pf2 f j) (r:=some (.tup [.sl true 3 [],num 5],[]))⟩
  |false=>
   have q:=of_decide_eq_false j;simp only [qaq] at q;have A:((⟨#[46]⟩:qaX)++s).size<=201:=by rw [ByteArray.size_append];show 1+s.size<=201;omega
   have u:(⟨#[46]⟩:qaX).size+s.size<=9223372036854775807:=by show 1+s.size<=_;omega
   obtain ⟨e,σ',B,L,m⟩:=NP _ A (by rw [ByteArray.size_append];show 1<=1+s.size;omega);rcases L with ⟨rfl,bx,rfl,es,c,rfl⟩|⟨F,es,rfl,rfl,⟨y,J⟩,w⟩;·exact .inl ⟨13,by decide,by decide,a (B:=B) fun M l=>caB [(11,.b false),(15,.b false),(17,.at)] [(.ret,⟨[(2,.sl true 3 []),(3,num 13)],[.row 3 es,.var c]⟩)] (pf4 f j u (m M l)) (r:=some (.tup [.sl true 3 [],num 13],[]))⟩
   generalize H:es.length=n at m J y;cases E:decide (Int.ofNat n>16) with
   |true=>exact .inl ⟨9,by decide,by decide,a (B:=B) fun M l=>caB [(11,.b false),(15,.b false),(17,.at),(40,.b true)] [(.exit 1,⟨[(4,.bs 0 0 n),(5,strX F),(19,boolX false)],[.row 3 es]⟩)] (pf5 f j u (m M l) E) (r:=some (.tup [.sl true 3 [],num 9],[]))⟩
   |false=>refine .inr ⟨es,⟨by omega,by omega⟩,w,a (B:=B) fun M l=>?_⟩;rw [H];exact caB [(11,.b false),(15,.b false),(17,.at),(40,.b false)] [(.exit 1,⟨[(4,.bs 0 0 n),(5,strX F),(19,boolX false)],[.row 3 es]⟩)] (pf5 f j u (m M l) E) (r:=some (.tup [.bs 0 0 n,num 0],[.row 3 es]))
def zlo:List Ctr:=[dF 141 [.s] [] none [(.tu [.x (.sl true 3 []),.ir .i64 1 100],[],[]),(.tu [.bs 0,.k .i64 0],[.row 3 7],[lt 2 0 4,lt 4 0 2])]]
theorem bK:aB T Gm zlo:=.one fun ρ M E f=>by
 obtain ⟨w,y⟩:=qW f;obtain ⟨x,rfl,j⟩:=zbI w;obtain rfl:=yQ y;obtain ⟨s,rfl,B⟩:=isS j;rcases NM s (by omega) with ⟨e,m,l,h⟩|⟨a,H,u,h⟩;·exact jX (q:=(.tu [.x (.sl true 3 []),.ir .i64 1 100],[],[])) (qay ..) f.zero f.pos rfl rfl (r:=.tup [.sl true 3 [],num e]) ⟨_,rfl,⟨rfl,rfl⟩,zfZ m l,trivial⟩ (fun _ _ _ _ _ _=>.nil) h
 refine zV (q:=(.tu [.bs 0,.k .i64 0],[.row 3 7],[lt 2 0 4,lt 4 0 2])) (qaD _ (qaa.2 rfl)) f.zero f.pos rfl rfl (r:=.tup [.bs 0 0 a.length,num 0]) (bx':=[.row 3 a]) ⟨_,rfl,⟨a.length,rfl,by grind[dW]⟩,rfl,trivial⟩ ⟨⟨a,1,rfl,by omega,by grind[dW],fun x j=>WA (Int.le_refl _) (u x j)⟩,trivial⟩ (fun L ρ' J z g n A=>?_) h;subst A;have l:(a.length:Int)=ρ' 2:=by
  cases g with
  |tup g=>cases g with
   |cons g _=>cases g with
    |bs _ _ _ q=>rw [q];unfold Lin.v;show ρ' 2+0=_;omega
 have F:(a.length:Int)=ρ' 4:=by
  cases n with
  |cons g _=>cases g with
   |row _ _ q _=>rw [q];unfold Lin.v;show ρ' 4+0=_;omega
 exact .cons (mJ (by decide) (by decide) (by omega)) (.cons (mJ (by decide) (by decide) (by omega)) .nil)
end Ct
end
section
open Go Go.Em Go.Ab
set_option linter.all false
variable {op:Int}
namespace Ct
theorem ar1 (N:Nat):callF tab ext (N+1) (.fn 166) [num 1] []=some (.tup [num 0,num 0],[]):=by kernel_rfl
theorem ar2 (N:Nat):callF tab ext (N+1) (.fn 166) [num 2] []=some (.tup [num 0,num 0],[]):=by kernel_rfl
theorem ar3 (N:Nat):callF tab ext (N+1) (.fn 166) [num 3] []=some (.tup [num 1,num 1],[]):=by kernel_rfl
theorem ar4 (N:Nat):callF tab ext (N+1) (.fn 166) [num 4] []=some (.tup [num 2,num 2],[]):=by kernel_rfl
theorem ar5 (N:Nat):callF tab ext (N+1) (.fn 166) [num 5] []=some (.tup [num 2,num 2],[]):=by kernel_rfl
theorem ar6 (N:Nat):callF tab ext (N+1) (.fn 166) [num 6] []=some (.tup [num 2,num 2],[]):=by kernel_rfl
theorem ar7 (N:Nat):callF tab ext (N+1) (.fn 166) [num 7] []=some (.tup [num 2,num 2],[]):=by kernel_rfl
theorem ar8 (N:Nat):callF tab ext (N+1) (.fn 166) [num 8] []=some (.tup [num 2,num 2],[]):=by kernel_rfl
theorem ar9 (N:Nat):callF tab ext (N+1) (.fn 166) [num 9] []=some (.tup [num 2,num 2],[]):=by kernel_rfl
theorem zoy (N:Nat):callF tab ext (N+1) (.fn 166) [num 10] []=some (.tup [num 2,num 2],[]):=by kernel_rfl
theorem zox (N:Nat):callF tab ext (N+1) (.fn 166) [num 11] []=some (.tup [num 2,num 2],[]):=by kernel_rfl
theorem zow (N:Nat):callF tab ext (N+1) (.fn 166) [num 12] []=some (.tup [num 2,num 2],[]):=by kernel_rfl
theorem zov (N:Nat):callF tab ext (N+1) (.fn 166) [num 13] []=some (.tup [num 2,num 2],[]):=by kernel_rfl
theorem zou (N:Nat):callF tab ext (N+1) (.fn 166) [num 14] []=some (.tup [num 2,num 2],[]):=by kernel_rfl
theorem zot (N:Nat):callF tab ext (N+1) (.fn 166) [num 15] []=some (.tup [num 2,num 2],[]):=by kernel_rfl
theorem zos (N:Nat):callF tab ext (N+1) (.fn 166) [num 16] []=some (.tup [num 1,num 1],[]):=by kernel_rfl
theorem zor (N:Nat):callF tab ext (N+1) (.fn 166) [num 17] []=some (.tup [num 2,num 2],[]):=by kernel_rfl
theorem zoq (N:Nat):callF tab ext (N+1) (.fn 166) [num 18] []=some (.tup [num 1,num 1],[]):=by kernel_rfl
theorem zop (N:Nat):callF tab ext (N+1) (.fn 166) [num 19] []=some (.tup [num 1,num 1],[]):=by kernel_rfl
theorem zoo (N:Nat):callF tab ext (N+1) (.fn 166) [num 20] []=some (.tup [num 1,num 1],[]):=by kernel_rfl
theorem zon (N:Nat):callF tab ext (N+1) (.fn 166) [num 21] []=some (.tup [num 3,num 3],[]):=by kernel_rfl
theorem zom (N:Nat):callF tab ext (N+1) (.fn 166) [num 22] []=some (.tup [num 0,num 0],[]):=by kernel_rfl
theorem zol (N:Nat):callF tab ext (N+1) (.fn 166) [num 23] []=some (.tup [num 2,num 2],[]):=by kernel_rfl
theorem zok (N:Nat):callF tab ext (N+1) (.fn 166) [num 24] []=some (.tup [num 3,num 3],[]):=by kernel_rfl
theorem zoj (N:Nat):callF tab ext (N+1) (.fn 166) [num 25] []=some (.tup [num 2,num 256],[]):=by kernel_rfl
theorem zoi (N:Nat):callF tab ext (N+1) (.fn 166) [num 26] []=some (.tup [num 0,num 0],[]):=by kernel_rfl
theorem zoh (N:Nat):callF tab ext (N+1) (.fn 166) [num 27] []=some (.tup [num 1,num 1],[]):=by kernel_rfl
theorem zog (N:Nat):callF tab ext (N+1) (.fn 166) [num 28] []=some (.tup [num 1,num 1],[]):=by kernel_rfl
theorem zfN (h1:1<=op)(h2:op<=28):op=1\/op=2\/op=3\/op=4\/op=5\/op=6\/op=7\/op=8\/op=9\/op=10\/op=11\/op=12\/op=13\/op=14\/op=15\/op=16\/op=17\/op=18\/op=19\/op=20\/op=21\/op=22\/op=23\/op=24\/op=25\/op=26\/op=27\/op=28:=by omega
def znV:List Ctr:=[dF 166 [.ir .i64 1 28] [] none [(.tu [.k .i64 0,int],[],bd 1 1 1),(.tu [.k .i64 0,int],[],bd 1 2 2),(.tu [.k .i64 1,int],[],bd 1 3 3),(.tu [.k .i64 2,int],[],bd 1 4 15),(.tu [.k .i64 1,int],[],bd 1 16 16),(.tu [.k .i64 2,int],[],bd 1 17 17),(.tu [.k .i64 1,int],[],bd 1 18 20),(.tu [.k .i64 3,int],[],bd 1 21 21),(.tu [.k .i64 0,int],[],bd 1 22 22),(.tu [.k .i64 2,int],[],bd 1 23 23),(.tu [.k .i64 3,int],[],bd 1 24 24),(.tu [.k .i64 2,int],[],bd 1 25 25),(.tu [.k .i64 0,int],[],bd 1 26 26),(.tu [.k .i64 1,int],[],bd 1 27 28)]]
theorem dD {ρ:Rho}{lo hi a b:Int}(hs:(dF 166 [.ir .i64 1 28] [] none [(.tu [.k .i64 0,int],[],bd 1 1 1),(.tu [.k .i64 0,int],[],bd 1 2 2),(.tu [.k .i64 1,int],[],bd 1 3 3),(.tu [.k .i64 2,int],[],bd 1 4 15),(.tu [.k .i64 1,int],[],bd 1 16 16),(.tu [.k .i64 2,int],[],bd 1 17 17),(.tu [.k .i64 1,int],[],bd 1 18 20),(.tu [.k .i64 3,int],[],bd 1 21 21),(.tu [.k .i64 0,int],[],bd 1 22 22),(.tu [.k .i64 2,int],[],bd 1 23 23),(.tu [.k .i64 3,int],[],bd 1 24 24),(.tu [.k .i64 2,int],[],bd 1 25 25),(.tu [.k .i64 0,int],[],bd 1 26 26),(.tu [.k .i64 1,int],[],bd 1 27 28)]).Sat T ρ [num op] [])(hm:((.tu [.k .i64 lo,int],[],bd 1 a b):OW)∈([(.tu [.k .i64 0,int],[],bd 1 1 1),(.tu [.k .i64 0,int],[],bd 1 2 2),(.tu [.k .i64 1,int],[],bd 1 3 3),(.tu [.k .i64 2,int],[],bd 1 4 15),(.tu [.k .i64 1,int],[],bd 1 16 16),(.tu [.k .i64 2,int],[],bd 1 17 17),(.tu [.k .i64 1,int],[],bd 1 18 20),(.tu [.k .i64 3,int],[],bd 1 21 21),(.tu [.k .i64 0,int],[],bd 1 22 22),(.tu [.k .i64 2,int],[],bd 1 23 23),(.tu [.k .i64 3,int],[],bd 1 24 24),(.tu [.k .i64 2,int],[],bd 1 25 25),(.tu [.k .i64 0,int],[],bd 1 26 26),(.tu [.k .i64 1,int],[],bd 1 27 28)]:List OW))(h1:a<=op)(h2:op<=b)(h:∀N,callF tab ext (N+1) (.fn 166) [num op] []=some (.tup [num lo,num hi],[])):(dF 166 [.ir .i64 1 28] [] none [(.tu [.k .i64 0,int],[],bd 1 1 1),(.tu [.k .i64 0,int],[],bd 1 2 2),(.tu [.k .i64 1,int],[],bd 1 3 3),(.tu [.k .i64 2,int],[],bd 1 4 15),(.tu [.k .i64 1,int],[],bd 1 16 16),(.tu [.k .i64 2,int],[],bd 1 17 17),(.tu [.k .i64 1,int],[],bd 1 18 20),(.tu [.k .i64 3,int],[],bd 1 21 21),(.tu [.k .i64 0,int],[],bd 1 22 22),(.tu [.k .i64 2,int],[],bd 1 23 23),(.tu [.k .i64 3,int],[],bd 1 24 24),(.tu [.k .i64 2,int],[],bd 1 25 25),(.tu [.k .i64 0,int],[],bd 1 26 26),(.tu [.k .i64 1,int],[],bd 1 27 28)]).Res T Gm ρ [num op] []:=by
 have l:op=ρ 1:=by
  cases hs.args with
  |cons w _=>exact sI w
 refine jX hm hs.zero hs.pos rfl rfl (r:=.tup [num lo,num hi]) ⟨_,rfl,rfl,⟨hi,rfl⟩,trivial⟩ (fun q ρ' f u g j=>?_) ⟨1,fun N m=>by obtain ⟨M,rfl⟩:=pR_ N<;>simp_all⟩;subst j;have n:=f.same 1 (by show 1<2;decide);refine .cons (aF.2 ⟨by show 0<3;decide,by show 1<3;decide,?_⟩) (.cons (aF.2 ⟨by show 1<3;decide,by show 0<3;decide,?_⟩) .nil)
 ·grind[Lin.k_v,Lin.v]
 grind[Lin.k_v,Lin.v]
theorem bQ:aB T Gm znV:=.one fun ρ w q f=>by
 obtain ⟨l,m⟩:=qW f;obtain ⟨x,rfl,n⟩:=zbI l;obtain rfl:=yQ m;obtain ⟨u,rfl,h,j⟩:=zf7 n;rcases zfN h j with rfl|rfl|rfl|rfl|rfl|rfl|rfl|rfl|rfl|rfl|rfl|rfl|rfl|rfl|rfl|rfl|rfl|rfl|rfl|rfl|rfl|rfl|rfl|rfl|rfl|rfl|rfl|rfl;·exact dD (a:=1) (b:=1) f (by simp) (by decide) (by decide) ar1
 ·exact dD (a:=2) (b:=2) f (by simp) (by decide) (by decide) ar2
 ·exact dD (a:=3) (b:=3) f (by simp) (by decide) (by decide) ar3
 ·exact dD (a:=4) (b:=15) f (by simp) (by decide) (by decide) ar4
 ·exact dD (a:=4) (b:=15) f (by simp) (by decide) (by decide) ar5
 ·exact dD (a:=4) (b:=15) f (by simp) (by decide) (by decide) ar6
 ·exact dD (a:=4) (b:=15) f (by simp) (by decide) (by decide) ar7
 ·exact dD (a:=4) (b:=15) f (by simp) (by decide) (by decide) ar8
 ·exact dD (a:=4) (b:=15) f (by simp) (by decide) (by decide) ar9
 ·exact dD (a:=4) (b:=15) f (by simp) (by decide) (by decide) zoy
 ·exact dD (a:=4) (b:=15) f (by simp) (by decide) (by decide) zox
 ·exact dD (a:=4) (b:=15) f (by simp) (by decide) (by decide) zow
 ·exact dD (a:=4) (b:=15) f (by simp) (by decide) (by decide) zov
 ·exact dD (a:=4) (b:=15) f (by simp) (by decide) (by decide) zou
 ·exact dD (a:=4) (b:=15) f (by simp) (by decide) (by decide) zot
 ·exact dD (a:=16) (b:=16) f (by simp) (by decide) (by decide) zos
 ·exact dD (a:=17) (b:=17) f (by simp) (by decide) (by decide) zor
 ·exact dD (a:=18) (b:=20) f (by simp) (by decide) (by decide) zoq
 ·exact dD (a:=18) (b:=20) f (by simp) (by decide) (by decide) zop
 ·exact dD (a:=18) (b:=20) f (by simp) (by decide) (by decide) zoo
 ·exact dD (a:=21) (b:=21) f (by simp) (by decide) (by decide) zon
 ·exact dD (a:=22) (b:=22) f (by simp) (by decide) (by decide) zom
 ·exact dD (a:=23) (b:=23) f (by simp) (by decide) (by decide) zol
 ·exact dD (a:=24) (b:=24) f (by simp) (by decide) (by decide) zok
 ·exact dD (a:=25) (b:=25) f (by simp) (by decide) (by decide) zoj
 ·exact dD (a:=26) (b:=26) f (by simp) (by decide) (by decide) zoi
 ·exact dD (a:=27) (b:=28) f (by simp) (by decide) (by decide) zoh
 exact dD (a:=27) (b:=28) f (by simp) (by decide) (by decide) zog
def ziX:List Ctr:=[mkC 167 [int] [] none [((.kb true),[]),((.kb false),[])]]
theorem bC:aB T Gm ziX:=hoA K .nil
def ziW:List Ctr:=[mkC 168 [int] [] none [((.kb true),[]),((.kb false),[])]]
theorem bg:aB T Gm ziW:=hoA K .nil
def ziV:List Ctr:=[mkC 171 [part] [] none [(.kb true,[]),(.kb false,[])]]
theorem aZ:aB T Gm ziV:=hoA K .nil
def ziY:List Ctr:=[mkC 215 [.sl 3 7,.fn 171 []] [] none [(.ir .i64 (-1) 1000000,[])]]
theorem Xz:aB T Gm ziY:=hoB K ((pU [⟨[0,1,7,8],fun e n=>(n+1,[au (.k 0) ⟨n+0,0⟩,au ⟨n+0,0⟩ (e 1)],[(0,.sl none 3 7 (e 0) (e 1)),(1,.fn 171 []),(7,.i .i64 (e 1)),(8,.i .i64 ⟨n+0,0⟩)],[],(e 1,⟨n+0,0⟩))⟩])) aZ
def ziZ:List Ctr:=[mkC 170 [.sl 3 7,.fn 171 []] [] none [(.kb true,[]),(.kb false,[])]]
theorem bD:aB T Gm ziZ:=hoA K (hpA Xz aZ)
end Ct
end
end Go.Proofs.YtcbeoccmflnejaaGreatDoor
