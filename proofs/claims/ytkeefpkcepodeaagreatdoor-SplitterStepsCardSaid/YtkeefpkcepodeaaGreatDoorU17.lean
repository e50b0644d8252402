/-.-/
import Derived.Lib.ItoaLen
import Derived.Lib.AtoiAllCases
import Derived.Lib.TrimU
import Derived.Lib.RuneCount
import Derived.Test.YtkeefpkcepodeaaGreatDoorEmU12
import Derived.Test.YtkeefpkcepodeaaGreatDoorU16
set_option linter.all false
namespace Go.Proofs.YtkeefpkcepodeaaGreatDoor
set_option maxRecDepth 100000
section
open Go.Em
structure Nod where
 name:qaW
 kind:Int
 schema:Int
 result:Int
 number:Int
 time:Int
 limit:Int
 text:qaW
 ty:Int×Int×Int×Int
 words:qaV
 elem:qaV
 fields:qaV
 types:qaV
 exprs:qaV
 calls:qaV
 rules:qaV
 next:qaV
def Nod.cells (n:Nod):List X:=[strX n.name,num n.kind,num n.schema,num n.result,num n.number,num n.time,num n.limit,strX n.text,num n.ty.1,num n.ty.2.1,num n.ty.2.2.1,num n.ty.2.2.2,.sl false 1 n.words,.sl false 7 n.elem,.sl false 11 n.fields,.sl false 7 n.types,.sl false 5 n.exprs,.sl false 6 n.rules,.sl false 2 n.calls,.sl false 1 n.next]
def isNode (c:List X):Prop:=∃(name:qaW) (k1 k2 k3 k4 k5 k6:Int) (text:qaW) (T:List X) (ty ex ru ca ne:qaV),c=[strX name,num k1,num k2,num k3,num k4,num k5,num k6,strX text]++(T++[.sl false 7 ty,.sl false 5 ex,.sl false 6 ru,.sl false 2 ca,.sl false 1 ne])/\KJ 3 T/\(∀x,x∈ty->KJ 3 x)/\(∀x,x∈ex->KN 3 x)/\(∀x,x∈ru->vW x)/\∀x,x∈ca->Uu x
def Nod.small (n:Nod):Prop:=n.name.size<=60/\n.text.size<=60/\sT 4 (dB n.ty.1 n.ty.2.1 n.ty.2.2.1 n.ty.2.2.2 n.words n.elem n.fields)/\n.exprs.length<=8/\(∀x,x∈n.exprs->sE 4 x)/\n.rules.length<=8/\∀x,x∈n.rules->zi x
theorem AP {c:List X}(h:isNode c):∃nd nd':Nod,c=nd.cells/\nd'.small/\∀N,220<=N->Gam.pureD (callF tab ext N) 25 [.agg nd.cells]=some (.agg nd'.cells):=by obtain ⟨j,B,E,F,H,J,L,l,T,W,S,V,Q,U,rfl,hT,A,u,y,q⟩:=h;obtain ⟨a,b,c,d,w,e,f,Y,Z,c',d',w',e',f',P,n,O,m,M,rfl,hs,hc⟩:=VO j l B E F H J L T W S V Q U hT A u y q;exact ⟨⟨j,B,E,F,H,J,L,l,(a,b,c,d),w,e,f,W,S,Q,V,U⟩,⟨gU 60 j,B,E,F,H,J,L,gU 60 l,(Y,Z,c',d'),w',e',f',P,n,m,O,M⟩,rfl,hs,hc⟩
end
section
open Go.Em Go.RowKit
theorem Tryz.own:ownKnob Tryz.prog.godebug=none:=by kernel_rfl
theorem Tryz.laidOut:laidOutB Tryz.prog=true:=by kernel_rfl
theorem Tryz.rowed:mapsRowed Tryz.prog=true:=by kernel_rfl
def tys:List TypeId:=[3,4,9,47,49,53,22,23,24,26,27,28,30,31,32,34,36,37,38,40,42,44,106,124,103,126,129,133]
theorem rD:Gt Tryz.prog tys=true:=by kernel_rfl
theorem zdm:tys.all (fun t=>decide (t<Tryz.prog.types.size))=true:=by kernel_rfl
theorem MR {t:TypeId}(h:t∈tys):t<Tryz.prog.types.size:=of_decide_eq_true (qao.1 zdm t h)
theorem xY:Kids Tryz.prog (fun t=>t∈tys/\t<Tryz.prog.types.size):=zaB (kids_rows Tryz.laidOut Tryz.rowed) rD
def fieldsOf (P:Program)(t:TypeId):Array Field:=match P.underlying t with
 |some (.struct fs)=>fs
 |_=>#[]
theorem zm7:Tryz.prog.underlying 3=some (.int .i64):=by kernel_rfl
theorem Iq:Tryz.prog.underlying 4=some .bool:=by kernel_rfl
theorem zm6:Tryz.prog.underlying 9=some .string:=by kernel_rfl
theorem zhB:Tryz.prog.underlying 49=some (.struct (fieldsOf Tryz.prog 49)):=by kernel_rfl
theorem zfy:(fieldsOf Tryz.prog 49).toList.map (·.type)=[3,3,47]:=by kernel_rfl
theorem zhP:Tryz.prog.underlying 26=some (.struct (fieldsOf Tryz.prog 26)):=by kernel_rfl
theorem zfF:(fieldsOf Tryz.prog 26).toList.map (·.type)=[3,3,3,3,22,23,24]:=by kernel_rfl
theorem zhM:Tryz.prog.underlying 30=some (.struct (fieldsOf Tryz.prog 30)):=by kernel_rfl
theorem zfE:(fieldsOf Tryz.prog 30).toList.map (·.type)=[28]:=by kernel_rfl
theorem zhJ:Tryz.prog.underlying 34=some (.struct (fieldsOf Tryz.prog 34)):=by kernel_rfl
theorem zfD:(fieldsOf Tryz.prog 34).toList.map (·.type)=[9,3,3,3,3,3,3,9,26,23,27,30,31,32]:=by kernel_rfl
theorem zhI:Tryz.prog.underlying 36=some (.struct (fieldsOf Tryz.prog 36)):=by kernel_rfl
theorem zfC:(fieldsOf Tryz.prog 36).toList.map (·.type)=[3,32]:=by kernel_rfl
theorem zhF:Tryz.prog.underlying 40=some (.struct (fieldsOf Tryz.prog 40)):=by kernel_rfl
theorem zfB:(fieldsOf Tryz.prog 40).toList.map (·.type)=[3,3,3,9,37,38]:=by kernel_rfl
theorem zhE:Tryz.prog.underlying 42=some (.struct (fieldsOf Tryz.prog 42)):=by kernel_rfl
theorem zfA:(fieldsOf Tryz.prog 42).toList.map (·.type)=[36,3,32,40]:=by kernel_rfl
theorem zhD:Tryz.prog.underlying 44=some (.struct (fieldsOf Tryz.prog 44)):=by kernel_rfl
theorem zfz:(fieldsOf Tryz.prog 44).toList.map (·.type)=[3,3,36,42,3,4,4,40]:=by kernel_rfl
theorem zdk:Tryz.prog.underlying 106=some (.struct (fieldsOf Tryz.prog 106)):=by kernel_rfl
theorem zbH:(fieldsOf Tryz.prog 106).toList.map (·.type)=[40,3,3,53,37]:=by kernel_rfl
theorem zdj:Tryz.prog.underlying 124=some (.struct (fieldsOf Tryz.prog 124)):=by kernel_rfl
theorem zbG:(fieldsOf Tryz.prog 124).toList.map (·.type)=[3,3,9,37,27]:=by kernel_rfl
theorem zdl:Tryz.prog.underlying 103=some (.struct (fieldsOf Tryz.prog 103)):=by kernel_rfl
theorem zbI:(fieldsOf Tryz.prog 103).toList.map (·.type)=[9,40]:=by kernel_rfl
theorem zdi:Tryz.prog.underlying 126=some (.struct (fieldsOf Tryz.prog 126)):=by kernel_rfl
theorem zbF:(fieldsOf Tryz.prog 126).toList.map (·.type)=[9,124]:=by kernel_rfl
theorem zdh:Tryz.prog.underlying 129=some (.struct (fieldsOf Tryz.prog 129)):=by kernel_rfl
theorem zbE:(fieldsOf Tryz.prog 129).toList.map (·.type)=[9,30]:=by kernel_rfl
theorem zdg:Tryz.prog.underlying 133=some (.struct (fieldsOf Tryz.prog 133)):=by kernel_rfl
theorem zbD:(fieldsOf Tryz.prog 133).toList.map (·.type)=[3,9,3,26,37]:=by kernel_rfl
theorem zhC:Tryz.prog.underlying 47=some (.slice 106):=by kernel_rfl
theorem zhA:Tryz.prog.underlying 53=some (.slice 42):=by kernel_rfl
theorem zhS:Tryz.prog.underlying 22=some (.slice 9):=by kernel_rfl
theorem zhR:Tryz.prog.underlying 23=some (.slice 26):=by kernel_rfl
theorem zhQ:Tryz.prog.underlying 24=some (.slice 133):=by kernel_rfl
theorem zhO:Tryz.prog.underlying 27=some (.slice 124):=by kernel_rfl
theorem zhN:Tryz.prog.underlying 28=some (.slice 126):=by kernel_rfl
theorem zhL:Tryz.prog.underlying 31=some (.slice 129):=by kernel_rfl
theorem zhK:Tryz.prog.underlying 32=some (.slice 3):=by kernel_rfl
theorem zhH:Tryz.prog.underlying 37=some (.slice 40):=by kernel_rfl
theorem zhG:Tryz.prog.underlying 38=some (.slice 103):=by kernel_rfl
theorem cells3:Tryz.prog.cellsOf 3=1:=by kernel_rfl
theorem cells9:Tryz.prog.cellsOf 9=1:=by kernel_rfl
theorem cells26:Tryz.prog.cellsOf 26=7:=by kernel_rfl
theorem cells40:Tryz.prog.cellsOf 40=6:=by kernel_rfl
theorem cells42:Tryz.prog.cellsOf 42=10:=by kernel_rfl
theorem zfZ:Tryz.prog.cellsOf 106=10:=by kernel_rfl
theorem zfY:Tryz.prog.cellsOf 124=5:=by kernel_rfl
theorem zf0:Tryz.prog.cellsOf 103=7:=by kernel_rfl
theorem zfX:Tryz.prog.cellsOf 126=6:=by kernel_rfl
theorem zfW:Tryz.prog.cellsOf 129=2:=by kernel_rfl
theorem zfV:Tryz.prog.cellsOf 133=11:=by kernel_rfl
variable {n:Nat} {xs:List X}
theorem aX (h:Shape Tryz.prog n 3 xs):∃z,xs=[num z]:=by obtain ⟨v,rfl,_⟩:=ZA zm7 h;exact ⟨v,rfl⟩
theorem fF (h:Shape Tryz.prog n 9 xs):∃s,xs=[strX s]:=by obtain ⟨v,rfl,_⟩:=Nr zm6 h;exact ⟨v,rfl⟩
theorem IJ (h:Shape Tryz.prog n 4 xs):∃b,xs=[boolX b]:=Wi Iq h
theorem V4 (h:Shape Tryz.prog n 47 xs):∃es,xs=[.sl false 10 es]/\∃m,m<n/\∀c,c∈es->Shape Tryz.prog m 106 c:=by obtain ⟨es,rfl,_,h⟩:=dS zhC h<;>simp_all[zfZ]
theorem V3 (h:Shape Tryz.prog n 53 xs):∃es,xs=[.sl false 10 es]/\∃m,m<n/\∀c,c∈es->Shape Tryz.prog m 42 c:=by obtain ⟨es,rfl,_,h⟩:=dS zhA h<;>simp_all[cells42]
theorem IG (h:Shape Tryz.prog n 22 xs):∃es,xs=[.sl false 1 es]/\∃m,m<n/\∀c,c∈es->Shape Tryz.prog m 9 c:=by obtain ⟨es,rfl,_,h⟩:=dS zhS h<;>simp_all[cells9]
theorem Aq (h:Shape Tryz.prog n 23 xs):∃es,xs=[.sl false 7 es]/\∃m,m<n/\∀c,c∈es->Shape Tryz.prog m 26 c:=by obtain ⟨es,rfl,_,h⟩:=dS zhR h<;>simp_all[cells26]
theorem IE (h:Shape Tryz.prog n 24 xs):∃es,xs=[.sl false 11 es]/\∃m,m<n/\∀c,c∈es->Shape Tryz.prog m 133 c:=by obtain ⟨es,rfl,_,h⟩:=dS zhQ h<;>simp_all[zfV]
theorem Ap (h:Shape Tryz.prog n 27 xs):∃es,xs=[.sl false 5 es]/\∃m,m<n/\∀c,c∈es->Shape Tryz.prog m 124 c:=by obtain ⟨es,rfl,_,h⟩:=dS zhO h<;>simp_all[zfY]
theorem V7 (h:Shape Tryz.prog n 28 xs):∃es,xs=[.sl false 6 es]/\∃m,m<n/\∀c,c∈es->Shape Tryz.prog m 126 c:=by obtain ⟨es,rfl,_,h⟩:=dS zhN h<;>simp_all[zfX]
theorem V6 (h:Shape Tryz.prog n 31 xs):∃es,xs=[.sl false 2 es]/\∃m,m<n/\∀c,c∈es->Shape Tryz.prog m 129 c:=by obtain ⟨es,rfl,_,h⟩:=dS zhL h<;>simp_all[zfW]
theorem IC (h:Shape Tryz.prog n 32 xs):∃es,xs=[.sl false 1 es]/\∃m,m<n/\∀c,c∈es->Shape Tryz.prog m 3 c:=by obtain ⟨es,rfl,_,h⟩:=dS zhK h<;>simp_all[cells3]
theorem oJ (h:Shape Tryz.prog n 37 xs):∃es,xs=[.sl false 6 es]/\∃m,m<n/\∀c,c∈es->Shape Tryz.prog m 40 c:=by obtain ⟨es,rfl,_,h⟩:=dS zhH h<;>simp_all[cells40]
theorem V5 (h:Shape Tryz.prog n 38 xs):∃es,xs=[.sl false 7 es]/\∃m,m<n/\∀c,c∈es->Shape Tryz.prog m 103 c:=by obtain ⟨es,rfl,_,h⟩:=dS zhG h<;>simp_all[zf0]
theorem VR (h:Shape Tryz.prog n 49 xs):∃m,m<n/\∃x0 x1 x2,xs=x0++(x1++(x2++[]))/\Shape Tryz.prog m 3 x0/\Shape Tryz.prog m 3 x1/\Shape Tryz.prog m 47 x2:=by
 obtain ⟨m,u,a⟩:=bJ zhB h;rw [zfy] at a;obtain ⟨x0,w,rfl,j,a⟩:=a;obtain ⟨x1,y,rfl,l,a⟩:=a;obtain ⟨x2,f,rfl,q,a⟩:=a;have a:f=[]:=a
 grind
theorem IB (h:Shape Tryz.prog n 26 xs):∃m,m<n/\∃x0 x1 x2 x3 x4 x5 x6,xs=x0++(x1++(x2++(x3++(x4++(x5++(x6++[]))))))/\Shape Tryz.prog m 3 x0/\Shape Tryz.prog m 3 x1/\Shape Tryz.prog m 3 x2/\Shape Tryz.prog m 3 x3/\Shape Tryz.prog m 22 x4/\Shape Tryz.prog m 23 x5/\Shape Tryz.prog m 24 x6:=by
 obtain ⟨m,B,a⟩:=bJ zhP h;rw [zfF] at a;obtain ⟨x0,E,rfl,j,a⟩:=a;obtain ⟨x1,F,rfl,l,a⟩:=a;obtain ⟨x2,H,rfl,q,a⟩:=a;obtain ⟨x3,J,rfl,u,a⟩:=a;obtain ⟨x4,L,rfl,w,a⟩:=a;obtain ⟨x5,M,rfl,y,a⟩:=a;obtain ⟨x6,f,rfl,A,a⟩:=a;have a:f=[]:=a
 grind
theorem VZ (h:Shape Tryz.prog n 30 xs):∃m,m<n/\∃x0,xs=x0++[]/\Shape Tryz.prog m 28 x0:=by
 obtain ⟨m,l,a⟩:=bJ zhM h;rw [zfE] at a;obtain ⟨x0,f,rfl,j,a⟩:=a;have a:f=[]:=a
 grind
theorem VY (h:Shape Tryz.prog n 34 xs):∃m,m<n/\∃x0 x1 x2 x3 x4 x5 x6 x7 x8 x9 x10 x11 x12 x13,xs=x0++(x1++(x2++(x3++(x4++(x5++(x6++(x7++(x8++(x9++(x10++(x11++(x12++(x13++[])))))))))))))/\Shape Tryz.prog m 9 x0/\Shape Tryz.prog m 3 x1/\Shape Tryz.prog m 3 x2/\Shape Tryz.prog m 3 x3/\Shape Tryz.prog m 3 x4/\Shape Tryz.prog m 3 x5/\Shape Tryz.prog m 3 x6/\Shape Tryz.prog m 9 x7/\Shape Tryz.prog m 26 x8/\Shape Tryz.prog m 23 x9/\Shape Tryz.prog m 27 x10/\Shape Tryz.prog m 30 x11/\Shape Tryz.prog m 31 x12/\Shape Tryz.prog m 32 x13:=by
 obtain ⟨m,Q,a⟩:=bJ zhJ h;rw [zfD] at a;obtain ⟨x0,S,rfl,B,a⟩:=a;obtain ⟨x1,U,rfl,E,a⟩:=a;obtain ⟨x2,V,rfl,F,a⟩:=a;obtain ⟨x3,W,rfl,H,a⟩:=a;obtain ⟨x4,Y,rfl,J,a⟩:=a;obtain ⟨x5,Z,rfl,L,a⟩:=a;obtain ⟨x6,r6,rfl,M,a⟩:=a;obtain ⟨x7,r7,rfl,N,a⟩:=a;obtain ⟨x8,r8,rfl,O,a⟩:=a;obtain ⟨x9,r9,rfl,P,a⟩:=a;obtain ⟨x10,w,rfl,j,a⟩:=a;obtain ⟨x11,y,rfl,l,a⟩:=a;obtain ⟨x12,A,rfl,q,a⟩:=a;obtain ⟨x13,f,rfl,u,a⟩:=a;have a:f=[]:=a
 grind
theorem VX (h:Shape Tryz.prog n 36 xs):∃m,m<n/\∃x0 x1,xs=x0++(x1++[])/\Shape Tryz.prog m 3 x0/\Shape Tryz.prog m 32 x1:=by
 obtain ⟨m,q,a⟩:=bJ zhI h;rw [zfC] at a;obtain ⟨x0,u,rfl,j,a⟩:=a;obtain ⟨x1,f,rfl,l,a⟩:=a;have a:f=[]:=a
 grind
theorem VW (h:Shape Tryz.prog n 40 xs):∃m,m<n/\∃x0 x1 x2 x3 x4 x5,xs=x0++(x1++(x2++(x3++(x4++(x5++[])))))/\Shape Tryz.prog m 3 x0/\Shape Tryz.prog m 3 x1/\Shape Tryz.prog m 3 x2/\Shape Tryz.prog m 9 x3/\Shape Tryz.prog m 37 x4/\Shape Tryz.prog m 38 x5:=by
 obtain ⟨m,A,a⟩:=bJ zhF h;rw [zfB] at a;obtain ⟨x0,B,rfl,j,a⟩:=a;obtain ⟨x1,E,rfl,l,a⟩:=a;obtain ⟨x2,F,rfl,q,a⟩:=a;obtain ⟨x3,H,rfl,u,a⟩:=a;obtain ⟨x4,J,rfl,w,a⟩:=a;obtain ⟨x5,f,rfl,y,a⟩:=a;have a:f=[]:=a
 grind
theorem VU (h:Shape Tryz.prog n 42 xs):∃m,m<n/\∃x0 x1 x2 x3,xs=x0++(x1++(x2++(x3++[])))/\Shape Tryz.prog m 36 x0/\Shape Tryz.prog m 3 x1/\Shape Tryz.prog m 32 x2/\Shape Tryz.prog m 40 x3:=by
 obtain ⟨m,w,a⟩:=bJ zhE h;rw [zfA] at a;obtain ⟨x0,y,rfl,j,a⟩:=a;obtain ⟨x1,A,rfl,l,a⟩:=a;obtain ⟨x2,B,rfl,q,a⟩:=a;obtain ⟨x3,f,rfl,u,a⟩:=a;have a:f=[]:=a
 grind
theorem VT (h:Shape Tryz.prog n 44 xs):∃m,m<n/\∃x0 x1 x2 x3 x4 x5 x6 x7,xs=x0++(x1++(x2++(x3++(x4++(x5++(x6++(x7++[])))))))/\Shape Tryz.prog m 3 x0/\Shape Tryz.prog m 3 x1/\Shape Tryz.prog m 36 x2/\Shape Tryz.prog m 42 x3/\Shape Tryz.prog m 3 x4/\Shape Tryz.prog m 4 x5/\Shape Tryz.prog m 4 x6/\Shape Tryz.prog m 40 x7:=by
 obtain ⟨m,E,a⟩:=bJ zhD h;rw [zfz] at a;obtain ⟨x0,F,rfl,j,a⟩:=a;obtain ⟨x1,H,rfl,l,a⟩:=a;obtain ⟨x2,J,rfl,q,a⟩:=a;obtain ⟨x3,L,rfl,u,a⟩:=a;obtain ⟨x4,M,rfl,w,a⟩:=a;obtain ⟨x5,N,rfl,y,a⟩:=a;obtain ⟨x6,O,rfl,A,a⟩:=a;obtain ⟨x7,f,rfl,B,a⟩:=a;have a:f=[]:=a
 grind
theorem Qa (h:Shape Tryz.prog n 106 xs):∃m,m<n/\∃x0 x1 x2 x3 x4,xs=x0++(x1++(x2++(x3++(x4++[]))))/\Shape Tryz.prog m 40 x0/\Shape Tryz.prog m 3 x1/\Shape Tryz.prog m 3 x2/\Shape Tryz.prog m 53 x3/\Shape Tryz.prog m 37 x4:=by
 obtain ⟨m,y,a⟩:=bJ zdk h;rw [zbH] at a;obtain ⟨x0,A,rfl,j,a⟩:=a;obtain ⟨x1,B,rfl,l,a⟩:=a;obtain ⟨x2,E,rfl,q,a⟩:=a;obtain ⟨x3,F,rfl,u,a⟩:=a;obtain ⟨x4,f,rfl,w,a⟩:=a;have a:f=[]:=a
 grind
theorem EG (h:Shape Tryz.prog n 124 xs):∃m,m<n/\∃x0 x1 x2 x3 x4,xs=x0++(x1++(x2++(x3++(x4++[]))))/\Shape Tryz.prog m 3 x0/\Shape Tryz.prog m 3 x1/\Shape Tryz.prog m 9 x2/\Shape Tryz.prog m 37 x3/\Shape Tryz.prog m 27 x4:=by
 obtain ⟨m,y,a⟩:=bJ zdj h;rw [zbG] at a;obtain ⟨x0,A,rfl,j,a⟩:=a;obtain ⟨x1,B,rfl,l,a⟩:=a;obtain ⟨x2,E,rfl,q,a⟩:=a;obtain ⟨x3,F,rfl,u,a⟩:=a;obtain ⟨x4,f,rfl,w,a⟩:=a;have a:f=[]:=a
 grind
theorem Qb (h:Shape Tryz.prog n 103 xs):∃m,m<n/\∃x0 x1,xs=x0++(x1++[])/\Shape Tryz.prog m 9 x0/\Shape Tryz.prog m 40 x1:=by
 obtain ⟨m,q,a⟩:=bJ zdl h;rw [zbI] at a;obtain ⟨x0,u,rfl,j,a⟩:=a;obtain ⟨x1,f,rfl,l,a⟩:=a;have a:f=[]:=a
 grind
theorem P9 (h:Shape Tryz.prog n 126 xs):∃m,m<n/\∃x0 x1,xs=x0++(x1++[])/\Shape Tryz.prog m 9 x0/\Shape Tryz.prog m 124 x1:=by
 obtain ⟨m,q,a⟩:=bJ zdi h;rw [zbF] at a;obtain ⟨x0,u,rfl,j,a⟩:=a;obtain ⟨x1,f,rfl,l,a⟩:=a;have a:f=[]:=a
 grind
theorem P8 (h:Shape Tryz.prog n 129 xs):∃m,m<n/\∃x0 x1,xs=x0++(x1++[])/\Shape Tryz.prog m 9 x0/\Shape Tryz.prog m 30 x1:=by
 obtain ⟨m,q,a⟩:=bJ zdh h;rw [zbE] at a;obtain ⟨x0,u,rfl,j,a⟩:=a;obtain ⟨x1,f,rfl,l,a⟩:=a;have a:f=[]:=a
 grind
theorem P7 (h:Shape Tryz.prog n 133 xs):∃m,m<n/\∃x0 x1 x2 x3 x4,xs=x0++(x1++(x2++(x3++(x4++[]))))/\Shape Tryz.prog m 3 x0/\Shape Tryz.prog m 9 x1/\Shape Tryz.prog m 3 x2/\Shape Tryz.prog m 26 x3/\Shape Tryz.prog m 37 x4:=by
 obtain ⟨m,y,a⟩:=bJ zdg h;rw [zbD] at a;obtain ⟨x0,A,rfl,j,a⟩:=a;obtain ⟨x1,B,rfl,l,a⟩:=a;obtain ⟨x2,E,rfl,q,a⟩:=a;obtain ⟨x3,F,rfl,u,a⟩:=a;obtain ⟨x4,f,rfl,w,a⟩:=a;have a:f=[]:=a
 grind
theorem rZ:∀(n:Nat) (xs:List X),Shape Tryz.prog n 40 xs->∃v:Val,xs=v.cells:=by
 intro n;induction n using Nat.strongRecOn with
 |_ n ih=>
  intro xs h;obtain ⟨m,U,W,Y,Z,x3,x4,x5,rfl,w,y,A,B,E,F⟩:=VW h;obtain ⟨k,rfl⟩:=aX w;obtain ⟨i,rfl⟩:=aX y;obtain ⟨s,rfl⟩:=aX A;obtain ⟨t,rfl⟩:=fF B;obtain ⟨es,rfl,O,L,H⟩:=oJ E;obtain ⟨j,rfl,V,M,J⟩:=V5 F;obtain ⟨l,rfl⟩:=AQ Val.cells fun c a=>ih O (by omega) c (H c a);obtain ⟨f,rfl⟩:=AQ (fun p:qaW×Val=>strX p.1::p.2.cells) (es:=j) fun c a=>by obtain ⟨P,N,y0,S,rfl,q,u⟩:=Qb (J c a);obtain ⟨Q,rfl⟩:=fF q;obtain ⟨v,rfl⟩:=ih P (by omega) S u;exact ⟨(Q,v),by simp⟩
  exact ⟨.mk k i s t l f,by grind[Val.cells,dN,mJ]⟩
theorem VQ (h:Shape Tryz.prog n 37 xs):∃l:List Val,xs=[.sl false 6 (ah l)]:=by obtain ⟨j,rfl,m,_,f⟩:=oJ h;obtain ⟨l,rfl⟩:=AQ Val.cells fun c a=>rZ m c (f c a);exact ⟨l,by rw [dN]⟩
theorem su {es:qaV}{m:Nat}(h:∀c,c∈es->Shape Tryz.prog m 40 c):∀c,c∈es->isVal c:=fun c a=>rZ m c (h c a)
theorem II (h:Shape Tryz.prog n 32 xs):∃l:List Int,xs=[.sl false 1 (aB l)]:=by obtain ⟨j,rfl,m,_,f⟩:=IC h;obtain ⟨l,rfl⟩:=AQ (fun z:Int=>[num z]) fun c a=>aX (f c a);exact ⟨l,rfl⟩
theorem Ns (h:Shape Tryz.prog n 36 xs):∃s:Stp,xs=s.cells:=by obtain ⟨m,j,l,q,rfl,a,f⟩:=VX h;obtain ⟨e,rfl⟩:=aX a;obtain ⟨p,rfl⟩:=II f;exact ⟨⟨e,p⟩,rfl⟩
theorem Nu (h:Shape Tryz.prog n 42 xs):∃s:Msg,xs=s.cells:=by obtain ⟨m,q,u,w,y,A,rfl,a,f,j,l⟩:=VU h;obtain ⟨s,rfl⟩:=Ns a;obtain ⟨k,rfl⟩:=aX f;obtain ⟨p,rfl⟩:=II j;obtain ⟨v,rfl⟩:=rZ _ _ l;exact ⟨⟨s,k,p,v⟩,by grind[Msg.cells,Stp.cells]⟩
theorem V9 (h:Shape Tryz.prog n 53 xs):∃l:List Msg,xs=[.sl false 10 (aI l)]:=by obtain ⟨j,rfl,m,_,f⟩:=V3 h;obtain ⟨l,rfl⟩:=AQ Msg.cells fun c a=>Nu (f c a);exact ⟨l,rfl⟩
theorem Zz (h:Shape Tryz.prog n 106 xs):∃s:Slt,xs=s.cells:=by obtain ⟨m,E,F,H,J,L,M,rfl,j,q,u,w,y⟩:=Qa h;obtain ⟨⟨k,i,s,t,l,f⟩,rfl⟩:=rZ _ _ j;obtain ⟨a,rfl⟩:=aX q;obtain ⟨b,rfl⟩:=aX u;obtain ⟨A,rfl⟩:=V9 w;obtain ⟨B,rfl⟩:=VQ y;exact ⟨⟨.mk k i s t l f,a,b,A,B⟩,rfl⟩
theorem Nq (h:Shape Tryz.prog n 49 xs):∃s:Stt,xs=s.cells:=by obtain ⟨m,A,E,F,H,rfl,f,j,q⟩:=VR h;obtain ⟨a,rfl⟩:=aX f;obtain ⟨b,rfl⟩:=aX j;obtain ⟨y,rfl,B,_,w⟩:=V4 q;obtain ⟨l,rfl⟩:=AQ Slt.cells fun c u=>Zz (w c u);exact ⟨⟨a,b,l⟩,rfl⟩
theorem sD (h:Shape Tryz.prog n 44 xs):∃i:Inp,xs=i.cells:=by obtain ⟨m,F,H,J,L,M,N,O,P,Q,rfl,l,q,u,w,y,A,B,E⟩:=VT h;obtain ⟨a,rfl⟩:=aX l;obtain ⟨b,rfl⟩:=aX q;obtain ⟨s,rfl⟩:=Ns u;obtain ⟨g,rfl⟩:=Nu w;obtain ⟨x,rfl⟩:=aX y;obtain ⟨f,rfl⟩:=IJ A;obtain ⟨j,rfl⟩:=IJ B;obtain ⟨v,rfl⟩:=rZ _ _ E;exact ⟨⟨a,b,s,g,x,f,j,v⟩,by simp [Inp.cells,Msg.cells,Stp.cells]⟩
theorem EI:∀(k:Nat) {n:Nat} {xs:List X},Shape Tryz.prog n 124 xs->KN k xs
 |0,n,xs,h=>by obtain ⟨m,hm,x0,x1,x2,x3,x4,rfl,h0,h1,h2,h3,h4⟩:=EG h;obtain ⟨o,rfl⟩:=aX h0;obtain ⟨i,rfl⟩:=aX h1;obtain ⟨t,rfl⟩:=fF h2;obtain ⟨vs,rfl,m1,_,hv⟩:=oJ h3;obtain ⟨es,rfl,m2,_,he⟩:=Ap h4;exact ⟨o,i,t,vs,es,rfl,su hv⟩
 |k+1,n,xs,h=>by obtain ⟨m,hm,x0,x1,x2,x3,x4,rfl,h0,h1,h2,h3,h4⟩:=EG h;obtain ⟨o,rfl⟩:=aX h0;obtain ⟨i,rfl⟩:=aX h1;obtain ⟨t,rfl⟩:=fF h2;obtain ⟨vs,rfl,m1,_,hv⟩:=oJ h3;obtain ⟨es,rfl,m2,_,he⟩:=Ap h4;exact ⟨o,i,t,vs,es,rfl,su hv,fun x hx=>EI k (he x hx)⟩
theorem yF:∀(k:Nat) {n:Nat} {xs:List X},Shape Tryz.prog n 26 xs->KJ k xs
 |0,n,xs,h=>by obtain ⟨m,hm,x0,x1,x2,x3,x4,x5,x6,rfl,h0,h1,h2,h3,h4,h5,h6⟩:=IB h;obtain ⟨a,rfl⟩:=aX h0;obtain ⟨b,rfl⟩:=aX h1;obtain ⟨c,rfl⟩:=aX h2;obtain ⟨d,rfl⟩:=aX h3;obtain ⟨w,rfl,m1,_,hw⟩:=IG h4;obtain ⟨e,rfl,m2,_,he⟩:=Aq h5;obtain ⟨f,rfl,m3,_,hf⟩:=IE h6;exact ⟨a,b,c,d,w,e,f,rfl,fun x hx=>fF (hw x hx)⟩
 |k+1,n,xs,h=>by obtain ⟨m,hm,x0,x1,x2,x3,x4,x5,x6,rfl,h0,h1,h2,h3,h4,h5,h6⟩:=IB h;obtain ⟨a,rfl⟩:=aX h0;obtain ⟨b,rfl⟩:=aX h1;obtain ⟨c,rfl⟩:=aX h2;obtain ⟨d,rfl⟩:=aX h3;obtain ⟨w,rfl,m1,_,hw⟩:=IG h4;obtain ⟨e,rfl,m2,_,he⟩:=Aq h5;obtain ⟨f,rfl,m3,_,hf⟩:=IE h6;refine ⟨a,b,c,d,w,e,f,rfl,fun x hx=>fF (hw x hx),fun x hx=>yF k (he x hx),fun x hx=>?_⟩;obtain ⟨m4,_,y0,y1,y2,T,y4,rfl,g0,g1,g2,g3,g4⟩:=P7 (hf x hx);obtain ⟨p,rfl⟩:=aX g0;obtain ⟨t,rfl⟩:=fF g1;obtain ⟨y,rfl⟩:=aX g2;obtain ⟨de,rfl,m5,_,hd⟩:=oJ g4;exact ⟨p,t,y,T,de,by simp,yF k g3,su hd⟩
theorem V8 (h:Shape Tryz.prog n 126 xs):vW xs:=by obtain ⟨m,l,q,j,rfl,a,f⟩:=P9 h;obtain ⟨t,rfl⟩:=fF a;exact ⟨t,j,by simp,EI 3 f⟩
theorem EH (h:Shape Tryz.prog n 30 xs):∃es,xs=[.sl false 6 es]/\∀x,x∈es->vW x:=by obtain ⟨m,l,u,rfl,a⟩:=VZ h;obtain ⟨es,rfl,q,_,f⟩:=V7 a;exact ⟨es,rfl,fun x j=>V8 (f x j)⟩
theorem Wh (h:Shape Tryz.prog n 129 xs):Uu xs:=by obtain ⟨m,q,u,w,rfl,f,j⟩:=P8 h;obtain ⟨t,rfl⟩:=fF f;obtain ⟨a,rfl,l⟩:=EH j;exact ⟨t,a,rfl,l⟩
theorem oK (h:Shape Tryz.prog n 34 xs):isNode xs:=by obtain ⟨m,hm,x0,x1,x2,x3,x4,x5,x6,x7,T,x9,pa,pb,pc,pd,rfl,J,L,M,N,O,P,Q,S,U,V,l,q,u,w⟩:=VY h;obtain ⟨f,rfl⟩:=fF J;obtain ⟨Y,rfl⟩:=aX L;obtain ⟨Z,rfl⟩:=aX M;obtain ⟨k3,rfl⟩:=aX N;obtain ⟨k4,rfl⟩:=aX O;obtain ⟨k5,rfl⟩:=aX P;obtain ⟨k6,rfl⟩:=aX Q;obtain ⟨j,rfl⟩:=fF S;obtain ⟨ty,rfl,_,_,E⟩:=Aq V;obtain ⟨H,rfl,_,_,A⟩:=Ap l;obtain ⟨ru,rfl,B⟩:=EH q;obtain ⟨F,rfl,_,_,y⟩:=V6 u;obtain ⟨ne,rfl,_,_,W⟩:=IC w;exact ⟨f,Y,Z,k3,k4,k5,k6,j,T,ty,H,ru,F,ne,by simp,yF 3 U,fun x a=>yF 3 (E x a),fun x a=>EI 3 (A x a),B,fun x a=>Wh (y x a)⟩
end
section
open Go Go.Em Go.Ab
namespace Ct
def T:Tab:=fun k=>match k with
 |1=>[[.i .i64 none none,.i .i64 none none,.i .i64 none none,.s 0 1000000,.sl 6 1 0 1000000,.sl 7 2 0 1000000]]
 |2=>[[.s 0 1000000,.i .i64 none none,.i .i64 none none,.i .i64 none none,.s 0 1000000,.sl 6 1 0 1000000,.sl 7 2 0 1000000]]
 |3=>[[.i .i64 none none]]
 |4=>[[.i .u8 (some 0) (some 255)]]
 |5=>[[.s 0 1000000]]
 |6=>[[.i .i64 none none,.i .i64 none none]]
 |7=>[[.i .i64 none none,.i .i64 (some 0) (some 1000000),.s 0 1000000]]
 |8=>[[.i .i64 none none,.i .i64 none none,.s 0 1000000,.sl 6 1 0 1000000,.sl 5 8 0 1000000]]
 |10=>[(1,1,1,0),(2,2,0,0),(3,3,0,1),(4,15,0,2),(16,16,0,1),(17,17,0,2),(18,20,0,1),(21,21,0,3),(22,22,0,0),(23,23,0,2),(24,24,0,3),(25,25,0,2),(26,26,0,0),(27,28,0,1)].map fun (q:Int×Int×Nat×Nat)=>[.i .i64 (some q.1) (some q.2.1),.i .i64 none none,.s 0 1000000,.sl 6 1 q.2.2.1 1000000,.sl 5 10 q.2.2.2 1000000]
 |11=>[[.i .i64 none none,.i .i64 none none,.i .i64 none none,.s 0 1000000,.sl 6 11 0 6,.sl 7 12 0 6]]
 |12=>[[.s 0 1000000,.i .i64 none none,.i .i64 none none,.i .i64 none none,.s 0 1000000,.sl 6 11 0 6,.sl 7 12 0 6]]
 |9=>[[.i .i64 (some (-999999999999999)) (some 999999999999999),.i .i64 (some 0) (some 12)]]
 |13=>[[.sl 3 7 1 1000000]]
 |14=>[[.i .i64 none none,.i .i64 none none,.i .i64 none none,.i .i64 none none,.sl 1 5 0 1000000,.sl 7 14 0 1000000,.sl 11 15 0 100]]
 |15=>[[.i .i64 none none,.s 0 1000000,.i .i64 none none,.i .i64 none none,.i .i64 none none,.i .i64 none none,.i .i64 none none,.sl 1 5 0 1000000,.sl 7 14 0 1000000,.sl 11 15 0 100,.sl 6 1 0 1000000]]
 |16=>[[.s 0 1000000,.i .i64 none none,.i .i64 none none,.s 0 1000000,.sl 6 1 0 1000000,.sl 5 8 0 1000000]]
 |21=>[[.i .i64 none none,.i .i64 none none,.i .i64 none none,.s 0 1000000,.sl 6 21 0 1000000,.sl 7 22 0 1000100]]
 |22=>[[.s 0 1000000,.i .i64 none none,.i .i64 none none,.i .i64 none none,.s 0 1000000,.sl 6 21 0 1000000,.sl 7 22 0 1000100]]
 |_=>[]
def K:Names:=fun sz=>match sz with
 |1=>[3,4,5]
 |2=>[9,6]
 |3=>[7]
 |5=>[10,8]
 |6=>[1]
 |7=>[2]
 |_=>[]
abbrev int:Sh:=.i .i64
abbrev err:Sh:=.ir .i64 0 100
def val:Sh:=.rc [int,int,int,.s,.slh 6 1,.slh 7 2]
def fld:Sh:=.rc [.s,int,int,int,.s,.slh 6 1,.slh 7 2]
def exp:Sh:=.rc [int,int,.s,.slh 6 1,.slh 5 8]
def pJ:List Sh:=[int,int,int,.s,.zQ 6 11 0 6,.zQ 7 12 0 6,err]
def zqK:Sh:=.rcb 0 6 [int,int,int,.s,.zQ 6 11 0 6,.zQ 7 12 0 6]
def zvc:Sh:=.rc [int,int,.s,.slh 6 1,.slh 5 10]
def zym:Sh:=.rc [int,int,.s,.zQ 6 1 0 1000000,.zQ 5 10 0 1000000]
def wfs:List (Int×Int×Int×Int):=[(1,1,1,0),(2,2,0,0),(3,3,0,1),(4,15,0,2),(16,16,0,1),(17,17,0,2),(18,20,0,1),(21,21,0,3),(22,22,0,0),(23,23,0,2),(24,24,0,3),(25,25,0,2),(26,26,0,0),(27,28,0,1)]
def YD:List (List Fact):=wfs.map fun q=>bd 2 q.1 q.2.1++[aj (.k q.2.2.1) ⟨5,0⟩,aj (.k q.2.2.2) ⟨6,0⟩]
def zcW:Sh:=.rc [int,int,int,.s,.zQ 6 11 0 6,.zQ 7 12 0 6]
def zs9:Sh:=.rc [.s,int,int,int,.s,.zQ 6 11 0 6,.zQ 7 12 0 6]
def uq:Sh:=.ag [int,int]
def Ud:Sh:=.ag [.ir .i64 (-999999999999999) 999999999999999,.ir .i64 0 12]
def part:Sh:=.ag [int,int,.s]
def zwx (a b c d:Nat):List (Value×X):=[(.int .i64 8,.fn a []),(.int .i64 9,.fn b []),(.int .i64 10,.fn c []),(.int .i64 11,.fn d [])]
def Z4:Sh:=.ag [int,.ir .i64 0 1000000,.s]
def K11:Names:=fun sz=>match sz with
 |1=>[3,4,5]
 |2=>[9,6]
 |3=>[7]
 |5=>[10,8]
 |6=>[11,1]
 |7=>[12,2]
 |_=>[]
def K2:Names:=fun sz=>match sz with
 |1=>[3,4,5,13]
 |2=>[9,6]
 |3=>[7]
 |5=>[10,8]
 |6=>[1]
 |7=>[2,14]
 |11=>[15]
 |_=>[]
def K3:Names:=fun sz=>match sz with
 |1=>[3,4,5,13]
 |2=>[9,6]
 |3=>[7]
 |5=>[10,8]
 |6=>[21,1]
 |7=>[22,2,14]
 |11=>[15]
 |_=>[]
def typ:Sh:=.rc [int,int,int,int,.slh 1 5,.slh 7 14,.zQ 11 15 0 100]
def zwj:Sh:=.rcb 0 8 [int,int,int,int,.slh 1 5,.slh 7 14,.zQ 11 15 0 100]
def tfd:Sh:=.rc [int,.s,int,int,int,int,int,.slh 1 5,.slh 7 14,.zQ 11 15 0 100,.slh 6 1]
def xQ:Sh:=.rc [int,int,int,.s,.slh 6 21,.zQ 7 22 0 1000100]
def zlg:Sh:=.rc [.s,int,int,int,.s,.slh 6 21,.zQ 7 22 0 1000100]
def KG (s:Nat):List (List Fact):=[[aj ⟨s,0⟩ (.k 0)],bd s 1 7,bd s 8 8,bd s 9 9,bd s 10 10,[aj (.k 11) ⟨s,0⟩]]
def fnd:List BSh:=[.var [.fn 154 [.p 1],.b],.var [.b]]
def xA:List (List Fact):=(List.range 9).map fun (k:Nat)=>[aj ⟨1,0⟩ (.k (Int.ofNat k)),aj ⟨16,0⟩ (.k (3000000*(14-Int.ofNat k)))]
def oV (m:Nat)(c:Sh):List (Sh×List BSh×List Fact):=[(xQ,[],[]),(.rc [int,int,int,.s,.bs 0,.zQ 7 22 0 1000100],[.DL 6 21 m (m+5)],[]),(.rc [int,int,int,.s,.slh 6 21,c],[.DL 7 22 m (m+6)],[])]
def oI:List (Sh×List BSh×List Fact):=[(xQ,[],[aj ⟨2,0⟩ (.k 8)]),(xQ,[],[aj (.k 10) ⟨2,0⟩]),(.rc [int,int,int,.s,.bs 0,.zQ 7 22 0 1000100],[.DL 6 21 16 21],[aj ⟨2,0⟩ (.k 8)]),(.rc [int,int,int,.s,.bs 0,.zQ 7 22 0 1000100],[.DL 6 21 16 21],[aj (.k 10) ⟨2,0⟩]),(.rc [int,int,int,.s,.slh 6 21,.bs 0],[.DL 7 22 16 22],bd 2 9 9)]
noncomputable abbrev Gm:Nat->Gam:=callF tab ext
end Ct
end
section
open Go Go.Em Go.Ab
def Back (f:FuncId)(args:List X)(x:X):Prop:=∃B,∀N,B<=N->callF tab ext N (.fn f) args []=some (x,[])
theorem gq {f:FuncId}{args:List X}{x y:X}(h:Back f args x)(hd:x.data [] false=some y):∃B,∀N,B<=N->Gam.pureD (callF tab ext N) f args=some y:=by obtain ⟨B,h⟩:=h;exact ⟨B,fun N a=>bf (h N a) hd⟩
theorem jZ {α β:Type}[Inhabited β](l:List α){R:α->β->Prop}{Q:α->β->Nat->Prop}(h:∀x,x∈l->∃y,R x y/\∃B,∀N,B<=N->Q x y N):∃(f:α->β) (B:Nat),∀x,x∈l->R x (f x)/\∀N,B<=N->Q x (f x) N:=by
 classical
 have n:∀x:α,∃y:β,x∈l->R x y/\∃B,∀N,B<=N->Q x y N:=fun x=>by
  by_cases j:x∈l;·obtain ⟨y,J⟩:=h x j;exact ⟨y,fun _=>J⟩
  exact ⟨default,fun e=>absurd e j⟩
 obtain ⟨f,q⟩:=Classical.axiomOfChoice n;have F:∀m:List α,(∀x,x∈m->x∈l)->∃B,∀x,x∈m->∀N,B<=N->Q x (f x) N:=by
  intro m;induction m with
  |nil=>exact fun _=>⟨0,fun x j=>by cases j⟩
  |cons a r ih=>
   intro u;obtain ⟨w,E⟩:=(q a (u a (qaq ..))).2;obtain ⟨A,n⟩:=ih (fun x j=>u x (qar _ j));refine ⟨max w A,fun x j N L=>?_⟩;rcases qal.1 j with rfl|j;·exact E N (by omega)
   exact n x j N (by omega)
 obtain ⟨B,H⟩:=F l (fun x j=>j);exact ⟨f,B,fun x j=>⟨(q x j).1,H x j⟩⟩
end
section
open Go Go.Em Go.Ab
variable {s:qaW}{f:FuncId}{h hi lo z:Int}{k:IntKind}{bx:List Bx}{xs:List X}{i n:Nat}{ρ:Rho}{t:Sh}{x:X}
namespace Ct
theorem gI {args:List X}{g:List X->List Bx->Option (X×List Bx)}(hg:ext f=some g){r:X}(h:g args []=some (r,bx)):∃B,∀N,B<=N->Gm N (.fn f) args []=some (r,bx):=
 ⟨1,fun N a=>by
  obtain ⟨M,rfl⟩:=pR_ N;show callF tab ext (M+1) (.fn f) args []=_
  grind[callF]⟩
def zyf:List Ctr:=[mkC 99 [.s,.s] [] none [(.ir .i64 (-1) 1,[])]]
theorem OZ:∀a b:List UInt8,-1<=Lib.compareBytes a b/\Lib.compareBytes a b<=1
 |[],[]=>by decide
 |[],_::_=>by grind[Lib.compareBytes]
 |_::_,[]=>by grind[Lib.compareBytes]
 |x::a,y::b=>by unfold Lib.compareBytes;have:=OZ a b<;>grind
theorem zbp:ak T Gm zyf:=.one (dh (fun o l=>by rw [qaa.1 l];exact ⟨rfl,rfl⟩) fun m f h j=>by
 match m,f,h,j with
 |[_,_],[],⟨⟨a,rfl,_⟩,⟨b,rfl,_⟩,_⟩,_=>have:=OZ a.data.toList b.data.toList;exact ⟨_,qaa.2 rfl,_,[],⟨_,rfl,this.1,this.2⟩,trivial,gI (g:=Bq) rfl rfl⟩)
def zye:List Ctr:=[mkC 163 [.s] [] none [(.b,[])]]
theorem zkK:ak T Gm zye:=.one (dh (fun o m=>by rw [qaa.1 m];exact ⟨rfl,rfl⟩) fun n f j l=>by
 match n,f,j,l with
 |[_],[],⟨⟨a,rfl,h⟩,_⟩,_=>unfold bW at h;exact ⟨_,qaa.2 rfl,_,[],⟨_,rfl⟩,trivial,gI (g:=pR) rfl (by show (if a.size<=_ then some (X.v (.bool (Lib.validD a.data.toList)),[]) else _)=_;rw [if_pos (by omega)])⟩)
theorem bsz (l:List UInt8):(⟨l.toArray⟩:qaW).size=l.length:=List.size_toArray ..
theorem bln (s:qaW):s.data.toList.length=s.size:=by intros;simp_all
theorem zeH {T:Tab}(ha:IsL T h [t] xs):∃x,xs=[x]/\t.Is T h x:=by
 match xs,ha with
 |[x],⟨h,_⟩=>grind
theorem zmL {T:Tab}{u:Sh}(ha:IsL T h [t,u] xs):∃x y,xs=[x,y]/\t.Is T h x/\u.Is T h y:=by
 match xs,ha with
 |[x,y],⟨h,h2,_⟩=>grind
theorem qQ {T:Tab}(hb:BIs T [] bx):bx=[]:=by
 match bx,hb with
 |[],_=>rfl
theorem zov {T:Tab}(hx:(Sh.ir k lo hi).Is T h x):∃z,x=.v (.int k z)/\lo<=z/\z<=hi:=hx
theorem zjc {T:Tab}(h1:lo<=z)(h2:z<=hi):(Sh.ir k lo hi).Is T h (.v (.int k z)):=⟨z,rfl,h1,h2⟩
theorem isS {T:Tab}(hx:Sh.s.Is T h x):∃s:qaW,x=.v (.string s)/\(s.size:Int)<=1000000:=hx
theorem zuy {T:Tab}(hx:(Sh.sr lo hi).Is T h x):∃s:qaW,x=.v (.string s)/\lo<=(s.size:Int)/\(s.size:Int)<=hi:=hx
theorem zuw {T:Tab}(h1:lo<=(s.size:Int))(h2:(s.size:Int)<=hi):(Sh.sr lo hi).Is T h (.v (.string s)):=⟨s,rfl,h1,h2⟩
theorem Ut (n:Int):1<=(Lib.itoa n).length:=by
 by_cases a:n<0
 ·obtain ⟨u,rfl⟩:∃u:Nat,n=-(u:Int):=⟨n.natAbs,by omega⟩
  grind[Lib.itoa_neg]
 obtain ⟨u,rfl⟩:∃u:Nat,n=u:=⟨n.toNat,by omega⟩<;>simp_all[Lib.itoa_nonneg,Lib.decDigits_length,Lib.nDigits_pos]
theorem KH (z:Int)(h1:-9223372036854775808<=z)(h2:z<=9223372036854775807):AU [.v (.int .i64 z)] []=some (.v (.string ⟨(Lib.itoa z).toArray⟩),[]):=by simp_all[AU]
def zu9:List Ctr:=[mkC 82 [.ir .i64 (-9223372036854775808) 9223372036854775807] [] none [(.sr 1 21,[])]]
theorem KW:ak T Gm zu9:=.one (dh (fun o l=>by rw [qaa.1 l];exact ⟨rfl,rfl⟩) fun w n h j=>by obtain ⟨x,rfl,m⟩:=zeH h;obtain rfl:=qQ j;obtain ⟨z,rfl,a,f⟩:=zov m;have q:=Lib.itoa_length_le z a f;have u:=Ut z;exact ⟨_,qaa.2 rfl,_,[],zuw (by grind[bsz]) (by grind[bsz]),trivial,gI (g:=AU) rfl (KH z a f)⟩)
theorem zgc (s:qaW)(h:(s.size:Int)<=1000000):∃v x,xI [.v (.string s)] []=some (.tup [.v (.int .i64 v),x],[])/\-9223372036854775808<=v/\v<=9223372036854775807/\(x=.ifc\/x=.v .nilIface):=by
 have a:=Lib.atoiSat_bounds s.data.toList;have j:s.size<=281474976710656:=by omega
 cases f:Lib.atoiAll s.data.toList with
 |ok v=>have:=Lib.atoiAll_bounds f;exact ⟨v,_,by simp_all[xI],this.1,this.2,.inr rfl⟩
 |range=>exact ⟨_,_,by simp_all[xI],a.1,a.2,.inl rfl⟩
 |_=>exact ⟨0,_,by simp_all[xI],by omega,by omega,.inl rfl⟩
def zyc:List Ctr:=[mkC 121 [.s] [] none [(.tu [.ir .i64 (-9223372036854775808) 9223372036854775807,.oi],[])]]
theorem zbo:ak T Gm zyc:=.one (dh (fun o q=>by rw [qaa.1 q];exact ⟨rfl,rfl⟩) fun A w l m=>by obtain ⟨x,rfl,u⟩:=zeH l;obtain rfl:=qQ m;obtain ⟨s,rfl,h⟩:=isS u;obtain ⟨v,y,n,a,f,j⟩:=zgc s h;exact ⟨_,qaa.2 rfl,.tup [.v (.int .i64 v),y],[],⟨_,rfl,zjc a f,j,trivial⟩,trivial,gI (g:=xI) rfl n⟩)
theorem iR {a b:Nat}{c:Int}(ha:a<n)(hb:b<n)(h:ρ a+c<=ρ b):(lt a c b).ok n ρ:=aC.2 ⟨ha,hb,by grind[Lin.v]⟩
theorem qw {T:Tab}{args:List Sh}{inb:List BSh}{mu:Option (Nat×Nat)}{outs:List Yh}(hs:(dO f args inb mu outs).Sat T ρ xs bx):IsL T 0 args xs/\BIs T inb bx:=by have z:=hs.zero;have a:aV (dO f args inb mu outs).m ρ ((vg (.k 0) 1 args).2.2++(zV (vg (.k 0) 1 args).2.1 inb).2.2):=hs.pre;have:=iD z args (h:=.k 0) (k:=1) a.left hs.args;rw [Lin.k_v z] at this;exact ⟨this,gK z inb (k:=(vg (.k 0) 1 args).2.1) a.right hs.inb⟩
theorem sS {T:Tab}(h:G T n ρ (.s ⟨i,0⟩) (.v (.string s))):(s.size:Int)=ρ i:=by
 cases h<;>grind[Lin.v]
theorem sI {T:Tab}(h:G T n ρ (.i k ⟨i,0⟩) (.v (.int k z))):z=ρ i:=by
 cases h<;>grind[Lin.v]
theorem gl2 {T:Tab}{a b:AX}{y:X}(h:GL T n ρ [a,b] [x,y]):G T n ρ a x/\G T n ρ b y:=by
 cases h with
 |cons h1 h2=>cases h2<;>grind
theorem IV (s:qaW)(c:Int)(h1:s.size=1)(h2:0<=c)(h3:c<=100):∃r:qaW,oM [.v (.string s),.v (.int .i64 c)] []=some (.v (.string r),[])/\(r.size:Int)=c:=by
 have a:c<=1000000:=by omega
 have b:s.size<=1000000:=by omega
 refine ⟨⟨(Lib.repeatL s.data.toList c.toNat).toArray⟩,by simp_all[oM],?_⟩;rw [bsz,Lib.repeatL_length,bln,h1,Nat.mul_one];omega
def zxX:List Ctr:=[dO 303 [.sr 1 1,.ir .i64 0 100] [] none [(.sr 0 100,[],[lt 3 0 2,lt 2 0 3])]]
theorem zkz:ak T Gm zxX:=.one fun ρ P F a=>by obtain ⟨j,l⟩:=qw a;obtain ⟨x,y,rfl,u,w⟩:=zmL j;obtain rfl:=qQ l;obtain ⟨s,rfl,B,E⟩:=zuy u;obtain ⟨c,rfl,f,h⟩:=zov w;obtain ⟨O,A⟩:=gl2 a.args;have H:c=ρ 2:=sI A;obtain ⟨r,m,L⟩:=IV s c (by omega) f h;refine jS (qaa.2 rfl) a.zero a.pos rfl rfl (zuw (s:=r) (by omega) (by omega)) (fun N ρ' n Q g q=>?_) (gI (g:=oM) rfl m);subst q;have J:(r.size:Int)=ρ' 3:=sS g;have M:=n.same 2 (by decide);exact .cons (iR (by decide) (by decide) (by omega)) (.cons (iR (by decide) (by decide) (by omega)) .nil)
theorem FU (c:List UInt8):∀l:List UInt8,Lib.indexAny l c<(l.length:Int)\/l=[]
 |[]=>.inr rfl
 |b::l=>by
  left;have:=FU c l;unfold Lib.indexAny;rw [qaG];split;·omega
  split;·omega
  rcases this with h|rfl;·omega
  rename_i h1 h2;exact absurd rfl h2
theorem QH (c l:List UInt8):Lib.indexAny l c+1<=(l.length:Int):=by
 rcases FU c l with h|rfl;·omega
 show (-1:Int)+1<=0<;>grind
theorem JB (s c:qaW):∀f pos,-1<=oh s c f pos/\oh s c f pos+1<=s.size
 |0,_=>⟨by grind[oh],by grind[oh]⟩
 |f+1,pos=>by
  unfold oh;split
  ·split;·omega
   exact JB s c f _
  grind
theorem zme (s:qaW)(h:(s.size:Int)<=1000000):∃z:Int,l9 [.v (.string s),.v (.string marks)] []=some (.v (.int .i64 z),[])/\-1<=z/\z+1<=s.size:=by
 have f:s.size<4294967281:=by omega
 have l:marks.size<4294967281:=by decide
 have m:Jz marks=true:=by decide
 have j:=Lib.indexAny_ge marks.data.toList s.data.toList;have a:=QH marks.data.toList s.data.toList;rw [bln] at a;unfold l9;dsimp only;split
 ·grind
 rw [if_pos ⟨f,rfl⟩];refine ⟨_,rfl,?_⟩;split<;>simp_all[JB]
def zyd:List Ctr:=[dO 118 [.s,.x (.v (.string ⟨#[46,91,63]⟩))] [] none [(.ir .i64 (-1) 1000000,[],[lt 2 1 1])]]
theorem zkI:ak T Gm zyd:=.one fun ρ N A a=>by obtain ⟨j,l⟩:=qw a;obtain ⟨x,y,rfl,u,f⟩:=zmL j;obtain rfl:=qQ l;obtain ⟨s,rfl,h⟩:=isS u;obtain ⟨f,_⟩:y=.v (.string ⟨#[46,91,63]⟩)/\_:=f;subst f;obtain ⟨w,M⟩:=gl2 a.args;have B:=sS w;obtain ⟨z,m,F,H⟩:=zme s h;refine jS (qaa.2 rfl) a.zero a.pos rfl rfl (zjc (z:=z) (by omega) (by omega)) (fun L ρ' n O g q=>?_) (gI (g:=l9) rfl m);subst q;have E:z=ρ' 2:=sI g;have J:=n.same 1 (by decide);exact .cons (iR (by decide) (by decide) (by omega)) .nil
theorem Cc (c:UInt8):∀l:List UInt8,Lib.indexByte l c+1<=(l.length:Int)
 |[]=>by show (-1:Int)+1<=0<;>grind
 |b::l=>by have:=Cc c l<;>grind[Lib.indexByte]
theorem zi6 (s c:qaW)(h:(s.size:Int)<=1000000)(hc:c.size=1):∃z:Int,ug [.v (.string s),.v (.string c)] []=some (.v (.int .i64 z),[])/\-1<=z/\z+1<=s.size:=by
 have j:s.size<4294967281:=by omega
 rw [<-bln] at hc;obtain ⟨b,l⟩:=List.length_eq_one_iff.1 hc;have a:=Lib.indexByte_ge s.data.toList b;have f:=Cc b s.data.toList<;>simp_all[ug]
def zxZ:List Ctr:=[dO 222 [.s,.sr 1 1] [] none [(.ir .i64 (-1) 1000000,[],[lt 3 1 1])]]
theorem zkA:ak T Gm zxZ:=.one fun ρ P E a=>by obtain ⟨h,j⟩:=qw a;obtain ⟨x,y,rfl,q,u⟩:=zmL h;obtain rfl:=qQ j;obtain ⟨s,rfl,f⟩:=isS q;obtain ⟨c,rfl,A,B⟩:=zuy u;obtain ⟨w,O⟩:=gl2 a.args;have F:=sS w;obtain ⟨z,l,J,L⟩:=zi6 s c f (by omega);refine jS (qaa.2 rfl) a.zero a.pos rfl rfl (zjc (z:=z) (by omega) (by omega)) (fun N ρ' m Q g n=>?_) (gI (g:=ug) rfl l);subst n;have H:z=ρ' 3:=sI g;have M:=m.same 1 (by decide);exact .cons (iR (by decide) (by decide) (by omega)) .nil
theorem OV (n a b c d:Nat)(h:0<n):1<=(Lib.decodeN n a b c d).2/\(Lib.decodeN n a b c d).2<=4/\(Lib.decodeN n a b c d).2<=n:=by unfold Lib.decodeN<;>grind
end Ct
end
section
open Go Go.Em Go.Ab
theorem jC {α:Type}{nIn:Nat}{b:C}{H:α->St}{I:α->Prop}{μ:α->Nat}{Q:Ex->St->Prop}
  (step:∀a,I a->(∃υ a' B,(∀M,B<=M->run (callF tab ext M) nIn M b (H a)=some (.norm,υ))/\canon nIn υ=some (H a')/\I a'/\μ a'<μ a)\/(∃e σ' B,e≠.norm/\Q e σ'/\∀M,B<=M->run (callF tab ext M) nIn M b (H a)=some (e,σ')))
  {a:α} {τ:St} (ha:I a) (hτ:canon nIn τ=some (H a)):∃e σ' B,Q e σ'/\∀M,B<=M->run (callF tab ext M) nIn M (.loop b) τ=some (e,σ'):=by
 have q:∀d a,μ a<=d->I a->∃e σ' B,Q e σ'/\∀M F υ,B<=M->d<F->canon nIn υ=some (H a)->iter nIn (run (callF tab ext M) nIn M b) F υ=some (e,σ'):=by
  intro d;induction d with
  |zero=>
   intro a N n;rcases step a n with ⟨_,a',_,_,_,_,O⟩|⟨e,σ',B,j,f,h⟩;·omega
   refine ⟨e,σ',B,f,fun M F υ l u m=>?_⟩;obtain ⟨F',rfl⟩:∃F',F=F'+1:=⟨F-1,by omega⟩;exact bF m (h M l) j
  |succ d ih=>
   intro a N n;rcases step a n with ⟨ω,a',w,A,E,J,P⟩|⟨e,σ',B,j,f,h⟩;·obtain ⟨e,σ',y,f,L⟩:=ih a' (by omega) J;refine ⟨e,σ',max w y,f,fun M F υ l u m=>?_⟩;obtain ⟨F',rfl⟩:∃F',F=F'+1:=⟨F-1,by omega⟩;exact dV m (A M (by omega)) (L M F' ω (by omega) (by omega) E)
   refine ⟨e,σ',B,f,fun M F υ l u m=>?_⟩;obtain ⟨F',rfl⟩:∃F',F=F'+1:=⟨F-1,by omega⟩;exact bF m (h M l) j
 obtain ⟨e,σ',B,f,h⟩:=q (μ a) a (Nat.le_refl _) ha;refine ⟨e,σ',max B (μ a+1),f,fun M l=>?_⟩;simp only [run];exact h M M τ (by omega) (by omega) hτ
end
section
open Go Go.Em Go.Ab
variable {R a m y:Int}
namespace Ct
theorem w64 {x:Int}(h1:-9223372036854775808<=x)(h2:x<=9223372036854775807):IntKind.i64.wrap x=x:=by grind[IntKind.wrap_i64]
theorem tq (k:Nat)(h:0<=a):a.tdiv k=a /k:=by grind
theorem zaN (N:Nat)(x lo hi:Int):Gam.pureD (callF tab ext (N+1)) 315 [num x,num lo,num hi]=some (boolX (decide (lo<=x)&&decide (x<=hi))):=by
 cases a:(decide (x>=lo)) with
 |true=>
  cases f:(decide (x<=hi)) with
  |true=>exact puA [(9,.b true),(13,.b true)] (pf2 a f) (boolX true)
  |false=>exact puA [(9,.b true),(13,.b false)] (pf2 a f) (boolX false)
 |false=>exact puA [(9,.b false)] (pf1 a) (boolX false)
def bef (y:Int):Int:=365*(y-1)+(y-1) /4-(y-1) /100+(y-1) /400
theorem G8 (N:Nat)(h1:1<=y)(h2:y<=10000):Gam.pureD (callF tab ext (N+1)) 316 [num y]=some (num (bef y)):=by
 have h:=tq 4 (show 0<=y-1 by omega);have a:=tq 100 (show 0<=y-1 by omega);have f:=tq 400 (show 0<=y-1 by omega);simp at h a f;have j:IntKind.i64.wrap (y-1)=y-1:=w64 (by omega) (by omega);have l:IntKind.i64.wrap (365*(y-1))=365*(y-1):=w64 (by omega) (by omega);have m:IntKind.i64.wrap ((y-1).tdiv 4)=(y-1) /4:=by rw [h];exact w64 (by omega) (by omega)
 have n:IntKind.i64.wrap (365*(y-1)+(y-1) /4)=365*(y-1)+(y-1) /4:=w64 (by omega) (by omega);have q:IntKind.i64.wrap ((y-1).tdiv 100)=(y-1) /100:=by rw [a];exact w64 (by omega) (by omega)
 have u:IntKind.i64.wrap (365*(y-1)+(y-1) /4-(y-1) /100)=365*(y-1)+(y-1) /4-(y-1) /100:=w64 (by omega) (by omega);have w:IntKind.i64.wrap ((y-1).tdiv 400)=(y-1) /400:=by rw [f];exact w64 (by omega) (by omega)
 have A:IntKind.i64.wrap (365*(y-1)+(y-1) /4-(y-1) /100+(y-1) /400)=bef y:=w64 (by omega) (by omega);exact puA [(5,.i (y-1)),(7,.i (365*(y-1))),(9,.i ((y-1) /4)),(10,.i (365*(y-1)+(y-1) /4)),(12,.i ((y-1) /100)),(13,.i (365*(y-1)+(y-1) /4-(y-1) /100)),(15,.i ((y-1) /400)),(16,.i (bef y))] (pf8 j l m n q u w A) (num (bef y))
def leap (y:Int):Bool:=y%4==0&&(y%100 !=0||y%400==0)
theorem tm (k:Nat)(h:0<=a):a.tmod k=a%k:=by grind
theorem zax (N:Nat)(h1:1<=y)(h2:y<=9999):Gam.pureD (callF tab ext (N+1+1)) 321 [num y]=some (boolX (leap y)):=by
 have a:=zaN N y 1 9999;rw [show (decide ((1:Int)<=y)&&decide (y<=9999))=true by grind] at a;have l:=tm 4 (show 0<=y by omega);have h:=tm 100 (show 0<=y by omega);have j:=tm 400 (show 0<=y by omega);simp at l h j;unfold leap;rw [<-l,<-h,<-j];cases h1:(y.tmod 4==0) with
 |true=>
  cases h2:(y.tmod 100 !=0) with
  |true=>exact puA [(4,.p (boolX true)),(8,.b true),(13,.b true)] (pf3 a h1 h2) (boolX true)
  |false=>
   cases f:(y.tmod 400==0) with
   |true=>exact puA [(4,.p (boolX true)),(8,.b true),(13,.b false),(17,.b true)] (pf4 a h1 h2 f) (boolX true)
   |false=>exact puA [(4,.p (boolX true)),(8,.b true),(13,.b false),(17,.b false)] (pf4 a h1 h2 f) (boolX false)
 |false=>exact puA [(4,.p (boolX true)),(8,.b false)] (pf2 a h1) (boolX false)
def md (l:Bool)(m:Int):Int:=if m=2 then (if l then 29 else 28) else if m=4\/m=6\/m=9\/m=11 then 30 else 31
def rest (l:Bool)(m:Int):Int:=
 if m=1 then 337+md l 2 else if m=2 then 306+md l 2 else if m=3 then 306 else if m=4 then 275 else if m=5 then 245 else if m=6 then 214 else if m=7 then 184 else if m=8 then 153 else if m=9 then 122 else if m=10 then 92 else if m=11 then 61 else if m=12 then 31 else 0
theorem zje (N:Nat)(h1:1<=y)(h2:y<=9999)(h3:1<=m)(h4:m<=12):Gam.pureD (callF tab ext (N+3)) 317 [num y,num m]=some (num (md (leap y) m)):=by
 have a:=zax N h1 h2;have f:m=1\/m=2\/m=3\/m=4\/m=5\/m=6\/m=7\/m=8\/m=9\/m=10\/m=11\/m=12:=by omega
 rcases f with rfl|rfl|rfl|rfl|rfl|rfl|rfl|rfl|rfl|rfl|rfl|rfl;·exact puA [] pf0 (num 31)
 ·generalize leap y=b at a ⊢;cases h:b with
  |true=>subst h;exact puA [(9,.p (boolX true)),(10,.b true)] (pf2 a (show true=true from rfl)) (num 29)
  |false=>subst h;exact puA [(9,.p (boolX false)),(10,.b false)] (pf2 a (show false=false from rfl)) (num 28)
 ·exact puA [] pf0 (num 31)
 ·exact puA [] pf0 (num 30)
 ·exact puA [] pf0 (num 31)
 ·exact puA [] pf0 (num 30)
 ·exact puA [] pf0 (num 31)
 ·exact puA [] pf0 (num 31)
 ·exact puA [] pf0 (num 30)
 ·exact puA [] pf0 (num 31)
 ·exact puA [] pf0 (num 30)
 exact puA [] pf0 (num 31)
theorem rest_step (l:Bool)(h3:1<=m)(h4:m<=12):rest l m=md l m+rest l (m+1):=by
 have a:m=1\/m=2\/m=3\/m=4\/m=5\/m=6\/m=7\/m=8\/m=9\/m=10\/m=11\/m=12:=by omega
 cases l<;>rcases a with rfl|rfl|rfl|rfl|rfl|rfl|rfl|rfl|rfl|rfl|rfl|rfl<;>rfl
theorem zet (l:Bool)(m:Int):28<=md l m/\md l m<=31:=by grind[md]
theorem ZL (l:Bool)(h3:1<=m)(h4:m<=12):rest l m<=400:=by
 have a:m=1\/m=2\/m=3\/m=4\/m=5\/m=6\/m=7\/m=8\/m=9\/m=10\/m=11\/m=12:=by omega
 cases l<;>rcases a with rfl|rfl|rfl|rfl|rfl|rfl|rfl|rfl|rfl|rfl|rfl|rfl<;>decide
theorem zga (y:Int):bef (y+1)-bef y=rest (leap y) 1:=by
 have:rest (leap y) 1=365+(if leap y then 1 else 0):=by cases leap y<;>rfl
 rw [this];unfold bef leap<;>grind
def zrm (y m r:Int):Prop:=1<=y/\y<=9999/\1<=m/\m<=12/\0<=r/\r<=30
theorem zyq {y1:Int}(r1:0<=R)(hy:1<=y1/\y1<=9999/\R<bef (y1+1)):∃y,(1<=y/\y<=9999/\R<bef (y+1)/\bef y<=R)/\∃B,∀M,B<=M->run (callF tab ext M) 0 M (.loop (loopAt 304 0)) ⟨[(2,num y1),(6,num R)],[]⟩=some (.exit 0,⟨[(2,num y),(6,num R),(19,boolX false)],[]⟩):=by
 obtain ⟨e,σ',m,⟨y,q,w,u⟩,j⟩:=jC (nIn:=0) (b:=loopAt 304 0) (H:=fun y:Int=>⟨[(2,num y),(6,num R)],[]⟩) (I:=fun y=>1<=y/\y<=9999/\R<bef (y+1)) (μ:=fun y=>y.toNat)
  (Q:=fun e σ'=>∃y:Int,e=.exit 0/\σ'=⟨[(2,num y),(6,num R),(19,boolX false)],[]⟩/\1<=y/\y<=9999/\R<bef (y+1)/\bef y<=R) (fun y ⟨i1,i2,i3⟩=>by
   have l:∀M,1<=M->Gam.pureD (callF tab ext M) 316 [num y]=some (num (bef y)):=fun M f=>by
    obtain ⟨M,rfl⟩:∃M',M=M'+1:=⟨M-1,by omega⟩
    grind[G8]
   cases h:decide (bef y>R) with
   |true=>
    have n:=of_decide_eq_true h;have A:2<=y:=by
     rcases Int.lt_or_le 1 y with h|h;·omega
     have:y=1:=by omega
     subst this;have:bef 1=0:=rfl;omega
    refine .inl ⟨⟨[(2,num (y-1)),(6,num R)],[]⟩,y-1,1,fun M f=>?_,by kernel_rfl,⟨by omega,by omega,by grind⟩,by omega⟩;exact ruA [(17,.p (num (bef y))),(19,.b true),(21,.i (y-1))] (pf3 (l M f) h (show IntKind.i64.wrap (y-1)=y-1 from w64 (by omega) (by omega)))
   |false=>have n:=of_decide_eq_false h;exact .inr ⟨_,_,1,(by grind),⟨y,rfl,rfl,i1,i2,i3,by omega⟩,fun M f=>ruA [(17,.p (num (bef y))),(19,.b false)] (pf2 (l M f) h)⟩)
  (τ:=⟨[(2,num y1),(6,num R)],[]⟩) (a:=y1) hy (by kernel_rfl)
 subst q w;exact ⟨y,u,m,j⟩
theorem zyp {r0:Int}(k1:1<=y)(k2:y<=9999)(h0:0<=r0)(h1:r0<rest (leap y) 1):∃m r,(1<=m/\m<=12/\0<=r/\r<=30)/\∃B,∀M,B<=M->run (callF tab ext M) 0 M (.loop (loopAt 304 1)) ⟨[(2,num y),(3,num 1),(6,num r0)],[]⟩=some (.exit 2,⟨[(2,num y),(3,num m),(6,num r),(30,boolX false)],[]⟩):=by
 obtain ⟨e,σ',n,⟨m,r,u,F,w⟩,l⟩:=jC (nIn:=0) (b:=loopAt 304 1) (H:=fun p:Int×Int=>⟨[(2,num y),(3,num p.1),(6,num p.2)],[]⟩) (I:=fun p=>1<=p.1/\p.1<=12/\0<=p.2/\p.2<rest (leap y) p.1) (μ:=fun p=>(13-p.1).toNat)
  (Q:=fun e σ'=>∃m r:Int,e=.exit 2/\σ'=⟨[(2,num y),(3,num m),(6,num r),(30,boolX false)],[]⟩/\1<=m/\m<=12/\0<=r/\r<=30) (fun p ⟨i1,i2,i3,i4⟩=>by
   obtain ⟨m,r⟩:=p;dsimp only at i1 i2 i3 i4 ⊢;have j:∀M,3<=M->Gam.pureD (callF tab ext M) 317 [num y,num m]=some (num (md (leap y) m)):=fun M f=>by obtain ⟨M,rfl⟩:∃M',M=M'+3:=⟨M-3,by omega⟩<;>simp_all[zje]
   have A:=zet (leap y) m;have E:=rest_step (leap y) i1 i2;have J:=ZL (leap y) i1 i2;generalize md (leap y) m=v at j A E;cases h:decide (r>=v) with
   |true=>
    have q:=of_decide_eq_true h;have L:m<=11:=by
     rcases Int.lt_or_le m 12 with h|h;·omega
     have:m=12:=by omega
     subst this;have:rest (leap y) (12+1)=0:=rfl;omega
    refine .inl ⟨⟨[(2,num y),(3,num (m+1)),(6,num (r-v))],[]⟩,(m+1,r-v),3,fun M f=>?_,by kernel_rfl,⟨by grind,by grind,by grind,by grind⟩,by grind⟩;exact ruA [(29,.p (num v)),(30,.b true),(36,.p (num v)),(37,.i (r-v)),(32,.i (m+1))] (pf5 (j M f) h (j M f) (show IntKind.i64.wrap (r-v)=r-v from w64 (by omega) (by omega)) (show IntKind.i64.wrap (m+1)=m+1 from w64 (by omega) (by omega)))
   |false=>have q:=of_decide_eq_false h;exact .inr ⟨_,_,3,(by grind),⟨m,r,rfl,rfl,i1,i2,i3,by omega⟩,fun M f=>ruA [(29,.p (num v)),(30,.b false)] (pf2 (j M f) h)⟩)
  (τ:=⟨[(2,num y),(3,num 1),(6,num r0)],[]⟩) (a:=(1,r0)) ⟨by grind,by grind,h0,h1⟩ (by kernel_rfl)
 subst u F;exact ⟨m,r,w,n,l⟩
theorem VJ (r1:0<=R)(r2:R<=3652058):∃y1,(if false=true then if 9999>R /365+1 then 9999 else R /365+1 else if 9999<R /365+1 then (9999:Int) else R /365+1)=y1/\1<=y1/\y1<=9999/\R<bef (y1+1):=by
 refine ⟨_,rfl,?_⟩;rw [if_neg (by decide)]
 grind[bef]
theorem civil (d:Int):Back 304 [num d] (.tup [num 0,num 0,num 0,num 2])\/∃y m r,zrm y m r/\Back 304 [num d] (.tup [num y,num m,num (r+1),num 0]):=by
 have a:=fun N=>zaN N d (-719162) 2932896;cases j:(decide (-719162<=d)&&decide (d<=2932896)) with
 |false=>rw [j] at a;refine .inl ⟨2,fun N L=>?_⟩;obtain ⟨M,rfl⟩:∃M,N=M+1+1:=⟨N-2,by omega⟩;exact caA [(8,.p (boolX false)),(9,.b true)] (pf2 (a M) (show (!false)=true from rfl)) (r:=some (.tup [num 0,num 0,num 0,num 2],[]))
 |true=>
  rw [j] at a;rw [qab,qaC,qaC] at j;obtain ⟨Z,d2⟩:=j;obtain ⟨R,O⟩:∃R,R=d- -719162:=⟨_,rfl⟩;have q:0<=R:=by omega
  have Y:R<=3652058:=by omega
  have P:R.tdiv 365=R /365:=tq 365 q;obtain ⟨y1,l,Q⟩:=VJ q Y;obtain ⟨y,⟨n,u,k3,k4⟩,w,f⟩:=zyq q Q;have kb:=zga y;have kr:=ZL (leap y) (m:=1) (by decide) (by decide);obtain ⟨m,r,⟨S,U,V,W⟩,A,h⟩:=zyp (r0:=R-bef y) n u (by omega) (by omega);refine .inr ⟨y,m,r,⟨n,u,S,U,V,W⟩,w+A+3,fun N L=>?_⟩;obtain ⟨M,rfl⟩:∃M,N=M+1+1:=⟨N-2,by omega⟩;have f:=f (M+1) (by omega);have h:=h (M+1) (by omega);rw [<-l] at f;have B:IntKind.i64.wrap (d- -719162)=R:=by rw [<-O];exact w64 (by omega) (by omega)
  have E:IntKind.i64.wrap (R.tdiv 365)=R /365:=by rw [P];exact w64 (by omega) (by omega)
  have F:IntKind.i64.wrap (R /365+1)=R /365+1:=w64 (by omega) (by omega);have H:IntKind.i64.wrap (R-bef y)=R-bef y:=w64 (by omega) (by omega);have J:IntKind.i64.wrap (r+1)=r+1:=w64 (by omega) (by omega);exact caB [(8,.p (boolX true)),(9,.b false),(11,.i R),(13,.i (R /365)),(14,.i (R /365+1)),(24,.p (num (bef y))),(25,.i (R-bef y)),(41,.i (r+1))] [(.exit 0,⟨[(2,num y),(6,num R),(19,boolX false)],[]⟩),(.exit 2,⟨[(2,num y),(3,num m),(6,num r),(30,boolX false)],[]⟩)] (zmF (a M) (show (!true)=false from rfl) B E F f (G8 M n (by omega)) H h J) (r:=some (.tup [num y,num m,num (r+1),num 0],[]))
theorem IU {h:Int}{z:Int}{T:Tab}{lo hi:Int}(h1:lo<=z)(h2:z<=hi):(Sh.ir .i64 lo hi).Is T h (num z):=⟨z,rfl,h1,h2⟩
def zxW:List Ctr:=[mkC 304 [int] [] none [(.tu [.ir .i64 0 9999,.ir .i64 0 12,.ir .i64 0 31,err],[])]]
theorem zky:ak T Gm zxW:=.one (dh (fun o l=>by rw [qaa.1 l];exact ⟨rfl,rfl⟩) fun n a f j=>by
 match n,a,f,j with
 |[_],[],⟨⟨d,rfl⟩,_⟩,_=>
  rcases civil d with h|⟨y,m,r,⟨q,u,w,A,B,E⟩,h⟩;·exact ⟨_,qaa.2 rfl,_,[],⟨[num 0,num 0,num 0,num 2],rfl,IU (by decide) (by decide),IU (by decide) (by decide),IU (by decide) (by decide),⟨2,rfl,by decide,by decide⟩,trivial⟩,trivial,h⟩
  exact ⟨_,qaa.2 rfl,_,[],⟨[num y,num m,num (r+1),num 0],rfl,IU (by omega) (by omega),IU (by omega) (by omega),IU (by omega) (by omega),⟨0,rfl,by decide,by decide⟩,trivial⟩,trivial,h⟩)
end Ct
end
section
open Go Go.Em Go.Ab
set_option linter.all false
namespace Ct
def zxJ:List Ctr:=[dO 117 [.k .i64 1,.dp [.sr 1 1000000]] [] none [(.ir .i64 1 1000000,[],[lt 2 0 1])]]
theorem zkb:ak T Gm zxJ:=hoA K11 zkI
def zxj:List Ctr:=[dO 177 [.s,.s] [] none [(.kb true,[],[lt 2 0 1]),(.kb false,[],[])]]
theorem zjW:ak T Gm zxj:=hoA K11 .nil
def zxI:List Ctr:=[dO 119 [.s,.s] [] none [(.kb true,[],[lt 2 0 1]),(.kb false,[],[])]]
theorem zka:ak T Gm zxI:=hoA K11 zjW
def zxi:List Ctr:=[dO 178 [.s,.sr 1 1] [] none [(.tu [.s,.s,.kb true],[],[lt 3 0 1,lt 4 0 1]),(.tu [.s,.s,.kb false],[],[lt 3 0 1,lt 4 0 1])]]
theorem zjV:ak T Gm zxi:=hoA K11 zkA
def zxH:List Ctr:=[dO 120 [.s,.sr 1 1] [] none [(.tu [.s,.s,.kb true],[],[lt 3 0 1,lt 4 0 1]),(.tu [.s,.s,.kb false],[],[lt 3 0 1,lt 4 0 1])]]
theorem zba:ak T Gm zxH:=hoA K11 zjV
def zxQ:List Ctr:=[dO 83 [.sr 1 1000000] [] none [(.tu [part,.s,.kb true],[],[lt 5 1 1]),(.tu [part,.s,.kb false],[],[])]]
theorem zkq:ak T Gm zxQ:=hoA K11 (hpA zkb (hpA zka (hpA zba (hpA zbo KW))))
def zsm:List Ctr:=[mkC 122 [.s] [] none [((.kb true),[]),((.kb false),[])]]
theorem Ru:ak T Gm zsm:=hoB K11 ((iQ [⟨[23,24,25],fun e n=>(n+1,[aj (.k 0) ⟨n+0,0⟩,aj ⟨n+0,0⟩ (e 1)],[(23,.sl (some false) 1 4 (.k 1) (e 1)),(24,.i .i64 (e 1)),(25,.i .i64 ⟨n+0,0⟩)],[],(e 1,⟨n+0,0⟩))⟩])) .nil
def zxP:List Ctr:=[dO 84 [part] [] none [(.kb true,[],bd 2 0 1000000),(.kb false,[],[])]]
theorem zbd:ak T Gm zxP:=hoA K11 Ru
def zxh:List Ctr:=[mkC 181 [Z4] [] none [(.sr 0 1000100,[])]]
theorem zjU:ak T Gm zxh:=hoA K11 KW
def zxG:List Ctr:=[mkC 123 [.sl 3 7] [] none [((err),[])]]
theorem zj9:ak T Gm zxG:=hoB K11 ((iQ [⟨[3,21,22,23],fun e n=>(n+2,[aj (.k 0) ⟨n+1,0⟩,aj ⟨n+1,0⟩ (e 2)],[(3,.i .i64 ⟨n+0,0⟩),(21,.sl none 3 7 (e 1) (e 2)),(22,.i .i64 (e 2)),(23,.i .i64 ⟨n+1,0⟩)],[],(e 2,⟨n+1,0⟩))⟩])) (hpA zbd zjU)
def zuU:List Ctr:=[mkC 101 [.sl 3 7,.fn 126 []] [] none [(.ir .i64 (-1) 1000000,[])]]
def zU:List Ctr:=[mkC 73 [.sl 3 7,.fn 126 []] [] none [(.kb true,[]),(.kb false,[])]]
def zxF:List Ctr:=[mkC 124 [Z4,zcW] [] none [(.kb true,[]),(.kb false,[])]]
theorem zj8:ak T Gm zxF:=hoA K11 .nil
def zw3:List Ctr:=[mkC 228 [zs9,.dp [.s]] [] none [(.kb true,[]),(.kb false,[])]]
theorem zaW:ak T Gm zw3:=hoA K11 .nil
def zoH:List Ctr:=[dO 95 [.slr 7 12 0 6,.fn 228 [.dp [.s]]] [] none [(.ir .i64 (-1) 5,[],[lt 4 1 2])]]
theorem Bc:ak T Gm zoH:=hoB K11 ((iQ [⟨[0,1,7,8],fun e n=>(n+1,[aj (.k 0) ⟨n+0,0⟩,aj ⟨n+0,0⟩ (e 1)],[(0,.sl none 7 12 (e 0) (e 1)),(1,.fn 228 [.dp [.s (e 2)]]),(7,.i .i64 (e 1)),(8,.i .i64 ⟨n+0,0⟩)],[],(e 1,⟨n+0,0⟩))⟩])) zaW
def zxg:List Ctr:=[dO 182 [zcW,.s] [] none [(.ir .i64 (-1) 5,[],[lt 9 1 7])]]
theorem zjT:ak T Gm zxg:=hoA K11 (hpA zaW Bc)
def zxE:List Ctr:=[dO 125 [Z4,zcW] [] none [(.slr 6 11 0 6,[],[lt 11 0 4])]]
theorem zj7:ak T Gm zxE:=hoA K11 zjT
def zcJ:List Ctr:=[mkC 60 [val] [] (some (1,0)) [(.ag [int,int,int,.s,.bs 0,.bs 1],[.DL 6 1 1 12,.DL 7 2 1 13])],mkC 60 [zcW] [] (some (1,0)) [(.ag [int,int,int,.s,.bs 0,.bs 1],[.DL 6 1 1 12,.DL 7 2 1 13])]]
theorem uh:ak T Gm zcJ:=hrA K11 ((iQ [⟨[1,2,3,12,13,14],fun e n=>(n+4,[aj ⟨n+0,0⟩ ⟨n+3,0⟩,aj ⟨n+1,0⟩ ⟨n+3,0⟩,aj (.k 0) ⟨n+2,0⟩,aj ⟨n+2,0⟩ (e 3),aj ⟨n+3,0⟩ ⟨n+0,0⟩,aj ⟨n+3,0⟩ ⟨n+1,0⟩,aj (.k 0) ⟨n+3,0⟩,aj ⟨n+3,0⟩ (e 4)],[(1,.ptr 0 (.k 0) 0),(2,.ptr 1 (.k 0) 0),(3,.ptr 2 (.k 0) 0),(12,.sl none 6 1 (e 3) (e 4)),(13,.i .i64 (e 4)),(14,.i .i64 ⟨n+0,0⟩)],[.var [.i .i64 (e 7),.i .i64 (e 8),.i .i64 (e 9),.s (e 10),.sl none 6 1 (e 3) (e 4),.sl none 7 2 (e 3) (e 14)],.var [.i .i64 (.k 0),.i .i64 (.k 0),.i .i64 (.k 0),.x (.v (.string ⟨#[]⟩)),.x (.sl true 6 []),.x (.sl true 7 [])],.var [.i .i64 (e 7),.i .i64 (e 8),.i .i64 (e 9),.s (e 10),.bs 3 (.k 0) ⟨n+1,0⟩,.x (.sl true 7 [])],.row 6 1 ⟨n+2,0⟩ ⟨n+3,0⟩],(e 4,⟨n+0,0⟩))⟩,⟨[2,3,27,28,29],fun e n=>(n+4,[aj ⟨n+0,0⟩ ⟨n+3,0⟩,aj ⟨n+1,0⟩ ⟨n+3,0⟩,aj (.k 0) ⟨n+2,0⟩,aj ⟨n+2,0⟩ (e 2),aj ⟨n+3,0⟩ ⟨n+0,0⟩,aj ⟨n+3,0⟩ ⟨n+1,0⟩,aj (.k 0) ⟨n+3,0⟩,aj ⟨n+3,0⟩ (e 3)],[(2,.ptr 0 (.k 0) 0),(3,.ptr 1 (.k 0) 0),(27,.sl none 7 2 (e 2) (e 3)),(28,.i .i64 (e 3)),(29,.i .i64 ⟨n+0,0⟩)],[.var [.i .i64 (.k 0),.i .i64 (.k 0),.i .i64 (.k 0),.x (.v (.string ⟨#[]⟩)),.x (.sl true 6 []),.x (.sl true 7 [])],.var [.i .i64 (e 9),.i .i64 (e 10),.i .i64 (e 11),.s (e 12),.bs 2 (.k 0) (e 14),.bs 3 (.k 0) ⟨n+1,0⟩],.row 6 1 (e 17) (e 18),.row 7 2 ⟨n+2,0⟩ ⟨n+3,0⟩],(e 3,⟨n+0,0⟩))⟩,⟨[1,2,3,12,13,14],fun e n=>(n+4,[aj ⟨n+0,0⟩ ⟨n+3,0⟩,aj ⟨n+1,0⟩ ⟨n+3,0⟩,aj (.k 0) ⟨n+2,0⟩,aj ⟨n+2,0⟩ (e 3),aj ⟨n+3,0⟩ ⟨n+0,0⟩,aj ⟨n+3,0⟩ ⟨n+1,0⟩,aj (.k 0) ⟨n+3,0⟩,aj ⟨n+3,0⟩ (e 4)],[(1,.ptr 0 (.k 0) 0),(2,.ptr 1 (.k 0) 0),(3,.ptr 2 (.k 0) 0),(12,.sl none 6 11 (e 3) (e 4)),(13,.i .i64 (e 4)),(14,.i .i64 ⟨n+0,0⟩)],[.var [.i .i64 (e 7),.i .i64 (e 8),.i .i64 (e 9),.s (e 10),.sl none 6 11 (e 3) (e 4),.sl none 7 12 (e 3) (e 14)],.var [.i .i64 (.k 0),.i .i64 (.k 0),.i .i64 (.k 0),.x (.v (.string ⟨#[]⟩)),.x (.sl true 6 []),.x (.sl true 7 [])],.var [.i .i64 (e 7),.i .i64 (e 8),.i .i64 (e 9),.s (e 10),.bs 3 (.k 0) ⟨n+1,0⟩,.x (.sl true 7 [])],.row 6 1 ⟨n+2,0⟩ ⟨n+3,0⟩],(e 4,⟨n+0,0⟩))⟩,⟨[2,3,27,28,29],fun e n=>(n+4,[aj ⟨n+0,0⟩ ⟨n+3,0⟩,aj ⟨n+1,0⟩ ⟨n+3,0⟩,aj (.k 0) ⟨n+2,0⟩,aj ⟨n+2,0⟩ (e 2),aj ⟨n+3,0⟩ ⟨n+0,0⟩,aj ⟨n+3,0⟩ ⟨n+1,0⟩,aj (.k 0) ⟨n+3,0⟩,aj ⟨n+3,0⟩ (e 3)],[(2,.ptr 0 (.k 0) 0),(3,.ptr 1 (.k 0) 0),(27,.sl none 7 12 (e 2) (e 3)),(28,.i .i64 (e 3)),(29,.i .i64 ⟨n+0,0⟩)],[.var [.i .i64 (.k 0),.i .i64 (.k 0),.i .i64 (.k 0),.x (.v (.string ⟨#[]⟩)),.x (.sl true 6 []),.x (.sl true 7 [])],.var [.i .i64 (e 9),.i .i64 (e 10),.i .i64 (e 11),.s (e 12),.bs 2 (.k 0) (e 14),.bs 3 (.k 0) ⟨n+1,0⟩],.row 6 1 (e 17) (e 18),.row 7 2 ⟨n+2,0⟩ ⟨n+3,0⟩],(e 3,⟨n+0,0⟩))⟩])) .nil
def zwX:List Ctr:=[dO 315 [int,int,int] [] none [(.kb true,[],[lt 2 0 1,lt 1 0 3]),(.kb false,[],[])]]
theorem zjG:ak T Gm zwX:=hoA K11 .nil
def zw0:List Ctr:=[mkC 306 [int] [] none [(.tu [int,.ir .i64 0 86399999,err],[])]]
theorem zjJ:ak T Gm zw0:=hoA K11 zjG
def zw1:List Ctr:=[mkC 305 [.ir .i64 (-1000000000000) 1000000000000,.ir .i64 0 10] [] none [(.sr 0 130,[])]]
theorem zaV:ak T Gm zw1:=hoA K11 (hpA KW zkz)
def zw6:List Ctr:=[mkC 285 [int] [] none [(.tu [.sr 0 400,err],[])]]
theorem zaZ:ak T Gm zw6:=hoA K11 (hpA zky zaV)
def zw5:List Ctr:=[mkC 286 [int] [] none [(.tu [.sr 0 2000,err],[])]]
theorem zjO:ak T Gm zw5:=hoA K11 (hpA zjJ (hpA zaZ zaV))
end Ct
end
section
open Go Go.Em Go.Ab
variable {f:FuncId}{inb:List BSh}{bx:List Bx}{args:List Sh}{xs:List X}{outs:List Yh}{a n:Nat}{Γ:Nat->Gam}{mu:Option (Nat×Nat)}{ρ:Rho}
namespace Ct
theorem uK {T:Tab}{bx':List Bx}{q:Yh}{r:X}(hq:q∈outs)(h0:ρ 0=0)(hp:0<(dO f args inb mu outs).m)(w1:q.1.own=true)(w2:q.2.1.all BSh.own=true)(h1:q.1.Is T 0 r)(h2:BIs T q.2.1 bx')
  (hF:∀n' ρ',More (dO f args inb mu outs).m ρ n' ρ'->ρ' 0=0->G T n' ρ' (q.1.bld (.k 0) (dO f args inb mu outs).m).1 r->GBs T n' ρ' (zV (q.1.bld (.k 0) (dO f args inb mu outs).m).2.1 q.2.1).1 bx'->n'=(zV (q.1.bld (.k 0) (dO f args inb mu outs).m).2.1 q.2.1).2.1->aV n' ρ' q.2.2)
  (h:∃B,∀N,B<=N->Γ N (.fn f) xs bx=some (r,bx')):(dO f args inb mu outs).Res T Γ ρ xs bx:=by
 obtain ⟨y,bs,F⟩:=q;dsimp only at w1 w2 h1 h2 hF;obtain ⟨B,H⟩:=h;obtain ⟨ρ1,l,A,u⟩:=Sh.fwd y (h:=.k 0) (n:=(dO f args inb mu outs).m) (ρ:=ρ) w1 hp h0 hp (by rw [Lin.k_v h0];omega);have j:=Nat.lt_of_lt_of_le hp l.le;obtain ⟨ρ2,a,E,w⟩:=vk bs w2 j (l.zero hp h0) h2;have J:=hF _ ρ2 (l.trans a) (a.zero j (l.zero hp h0)) (u.more a) w rfl;exact ⟨zrj (dO f args inb mu outs).m (y,bs,F),by rw [yR];grind,ρ2,r,bx',l.trans a,aV.append J (aV.append (a.facts A) E),u.more a,w,B,H⟩
theorem zm3 {T:Tab}(hc:(dO f args inb mu outs).Holds T Γ)(ho:I4 args=true)(hob:inb.all BSh.own=true)(ha:IsL T 0 args xs)(hb:BIs T inb bx):
  ∃ρ,GL T (dO f args inb mu outs).m ρ (vg (.k 0) 1 args).1 xs/\∃q,q∈outs/\∃n' ρ' r bx',More (dO f args inb mu outs).m ρ n' ρ'/\ρ' 0=0/\aV n' ρ' q.2.2/\G T n' ρ' (q.1.bld (.k 0) (dO f args inb mu outs).m).1 r/\q.1.Is T 0 r/\BIs T q.2.1 bx'/\∃B,∀N,B<=N->Γ N (.fn f) xs bx=some (r,bx'):=by
 obtain ⟨ρ,a⟩:=KD (f:=f) (mu:=mu) (outs:=outs) ho hob ha hb;exact ⟨ρ,a.args,EO a.zero a.pos (hc ρ xs bx a)⟩
theorem Gn {b:Nat}{c:Int}{F:List Fact}(h:aV n ρ F)(hm:lt a c b∈F):ρ a+c<=ρ b:=by have:=(aC.1 (h _ hm)).2.2<;>grind[Lin.v]
theorem ztu {lo hi:Int}(h0:ρ 0=0)(h:aV n ρ (bd a lo hi)):lo<=ρ a/\ρ a<=hi:=by have f:=(aC.1 (h (aj (.k lo) ⟨a,0⟩) (by simp [bd]))).2.2;have j:=(aC.1 (h (aj ⟨a,0⟩ (.k hi)) (by simp [bd]))).2.2<;>grind[Lin.k_v,Lin.v]
theorem isP {T:Tab}{h:Int}{x:X}(hx:part.Is T h x):∃(k i:Int) (nm:qaW),x=.agg [num k,num i,strX nm]/\(nm.size:Int)<=1000000:=by
 match x,hx with
 |_,⟨xs,rfl,hx⟩=>
  match xs,hx with
  |[_,_,_],⟨⟨k,rfl⟩,⟨i,rfl⟩,⟨nm,rfl,h⟩,_⟩=>exact ⟨k,i,nm,rfl,h⟩
theorem YQ (s:qaW)(h1:1<=s.size)(h2:s.size<=1000000):∃(k i:Int) (nm s2:qaW) (b:Bool),Back 83 [strX s] (.tup [.agg [num k,num i,strX nm],strX s2,boolX b])/\nm.size<=1000000/\(b=true->s2.size+1<=s.size):=by
 obtain ⟨ρ,g,q,j,L,ρ',r,n,E,z,A,B,f,m,l⟩:=zm3 (zkq _ (qaa.2 rfl)) rfl rfl (xs:=[strX s]) ⟨⟨s,rfl,by omega,by omega⟩,trivial⟩ (bx:=[]) trivial;have F:(s.size:Int)=ρ 1:=by
  cases g with
  |cons w _=>exact sS w
 have J:=E.same 1 (by decide);rcases qal.1 j with rfl|j
 ·obtain rfl:=qQ m;obtain ⟨xs,rfl,f⟩:∃xs,r=.tup xs/\IsL T 0 [part,.s,.kb true] xs:=f
  match xs,f,B with
  |[x,y,w],⟨hx,hy,a,_⟩,.tup (.cons _ (.cons gy _))=>obtain ⟨k,i,nm,rfl,h⟩:=isP hx;obtain ⟨s2,rfl,u⟩:=isS hy;have a:w=boolX true:=a;subst a;have H:(s2.size:Int)=ρ' 5:=sS gy;have:=Gn A (qaa.2 rfl);exact ⟨k,i,nm,s2,true,l,by omega,fun _=>by omega⟩
 obtain rfl:=qaa.1 j;obtain rfl:=qQ m;obtain ⟨xs,rfl,f⟩:∃xs,r=.tup xs/\IsL T 0 [part,.s,.kb false] xs:=f
 match xs,f with
 |[x,y,w],⟨hx,hy,a,_⟩=>obtain ⟨k,i,nm,rfl,h⟩:=isP hx;obtain ⟨s2,rfl,u⟩:=isS hy;have a:w=boolX false:=a;subst a;exact ⟨k,i,nm,s2,false,l,by omega,fun e=>by cases e⟩
theorem VB (k i:Int)(nm:qaW)(h:nm.size<=1000000):∃b,Back 84 [.agg [num k,num i,strX nm]] (boolX b)/\(b=true->0<=i/\i<=1000000):=by
 obtain ⟨ρ,g,q,f,E,ρ',r,m,u,z,n,A,a,l,j⟩:=zm3 (zbd _ (qaa.2 rfl)) rfl rfl (xs:=[.agg [num k,num i,strX nm]]) ⟨⟨_,rfl,⟨k,rfl⟩,⟨i,rfl⟩,⟨nm,rfl,by grind[bW]⟩,trivial⟩,trivial⟩ (bx:=[]) trivial;have y:i=ρ 2:=by
  cases g with
  |cons w _=>cases w with
   |agg w=>cases w with
    |cons _ w=>cases w with
     |cons w _=>exact sI w
 have B:=u.same 2 (by decide);rcases qal.1 f with rfl|f;·obtain rfl:=qQ l;have a:r=boolX true:=a;subst a;have:=ztu z n;exact ⟨true,j,fun _=>by omega⟩
 obtain rfl:=qaa.1 f;obtain rfl:=qQ l;have a:r=boolX false:=a;subst a;exact ⟨false,j,fun e=>by cases e⟩
end Ct
end
section
open Go Go.Em Go.Ab
variable {nm:qaW}{f:FuncId}{h h' i k:Int}{outs:List (Sh×List BSh)}{l:List Sh}{m x xs:List X}{hi lo n sz:Nat}{P:Nat->List X->Prop}{mu:Option (Nat×Nat)}{ρ:Rho}{t1:Sh}{x1:X}
namespace Ct
abbrev zpW:List Sh:=[int,int,int,.s,.zQ 6 11 0 6,.zQ 7 12 0 6]
theorem jX {x:X}(h:Ea P (.i .i64 none none) x):∃z,x=num z:=by
 match x,h with
 |.v (.int _ z),⟨rfl,_⟩=>exact ⟨z,rfl⟩
theorem zhd {x:X}(h:Ea P (.s lo hi) x):∃s:qaW,x=strX s/\lo<=s.size/\s.size<=hi:=by
 match x,h with
 |.v (.string s),⟨h1,h2⟩=>exact ⟨s,rfl,h1,h2⟩
theorem Dv {x:X}{k:Nat}(h:Ea P (.sl sz k lo hi) x):∃t es,x=.sl t sz es/\lo<=es.length/\es.length<=hi/\∀e,e∈es->P k e:=by
 match x,h with
 |.sl t _ es,⟨rfl,h1,h2,h3⟩=>grind
theorem d11 (hd:D T (h+1) 11 x):0<=h/\∃a b c s t l t' f,x=[num a,num b,num c,strX s,.sl t 6 l,.sl t' 7 f]/\s.size<=1000000/\l.length<=6/\f.length<=6/\(∀e,e∈l->D T h 11 e)/\∀e,e∈f->D T h 12 e:=by
 obtain ⟨w,m,n,j⟩:=mP hd;rw [qaa.1 n,Int.add_sub_cancel] at j
 match x,j with
 |[_,_,_,_,_,_],⟨k1,k2,k3,k4,k5,k6,_⟩=>
  obtain ⟨a,rfl⟩:=jX k1;obtain ⟨b,rfl⟩:=jX k2;obtain ⟨c,rfl⟩:=jX k3;obtain ⟨s,rfl,_,j⟩:=zhd k4;obtain ⟨t,l,rfl,_,A,u⟩:=Dv k5;obtain ⟨t',f,rfl,_,y,q⟩:=Dv k6
  grind
theorem zb0 (hd:D T (h+1) 11 x):0<=h/\IsL T h zpW x:=by obtain ⟨j,a,b,c,s,t,l,q,f,rfl,u,w,y,m,n⟩:=d11 hd;exact ⟨j,⟨a,rfl⟩,⟨b,rfl⟩,⟨c,rfl⟩,⟨s,rfl,by grind[bW]⟩,⟨t,l,rfl,by omega,by omega,m⟩,⟨q,f,rfl,by omega,by omega,n⟩,trivial⟩
theorem Gu {a b c:X}{d:X}{u v:Bool}{l f:qaV}(hd:D T h 11 [a,b,c,d,.sl u 6 l,.sl v 7 f]):D T h 11 [a,b,c,d,.sl false 6 l,.sl false 7 f]:=by obtain ⟨m,j,n,q⟩:=mP hd;obtain rfl:=qaa.1 n;obtain ⟨w,y,A,B,E,F,H⟩:=q;exact dI m (qaa.2 rfl) ⟨w,y,A,B,E,F,H⟩
theorem zjt (h0:0<=h)(hx:IsL T h zpW x):D T (h+1) 11 x:=by
 match x,hx with
 |[_,_,_,_,_,_],⟨⟨a,rfl⟩,⟨b,rfl⟩,⟨c,rfl⟩,⟨s,rfl,k1⟩,⟨t,l,rfl,k2,k3,k4⟩,⟨t',f,rfl,k5,k6,k7⟩,_⟩=>unfold bW at k1;refine dI (by omega) (qaa.2 rfl) ?_;rw [Int.add_sub_cancel];exact ⟨⟨rfl,(fun a e=>by cases e),(fun a e=>by cases e)⟩,⟨rfl,(fun a e=>by cases e),(fun a e=>by cases e)⟩,⟨rfl,(fun a e=>by cases e),(fun a e=>by cases e)⟩,⟨by omega,by omega⟩,⟨rfl,by omega,by omega,k4⟩,⟨rfl,by omega,by omega,k7⟩,trivial⟩
theorem zwv {T:Tab}(ho:I4 l=true)(hh:0<=h')(ha:IsL T h' l xs):∃ρ,ρ 1=h'/\(mkC f [.rc l] [] mu outs).Sat T ρ [.agg xs] []:=by
 have q:=bn (fun _=>(0:Int)) 1 h';obtain ⟨ρ1,j,w,y⟩:=gJ l (h:=⟨1,0⟩) (n:=2) (ρ:=pU (fun _=>(0:Int)) 1 h') ho (by omega) (q.zero (by omega) rfl) (by decide) (by rw [bU];omega);have u:=j.zero (by omega) (q.zero (by omega) rfl);have a:0<(vg ⟨1,0⟩ 2 l).2.1:=Nat.lt_of_lt_of_le (by omega) j.le;have m:1<(vg ⟨1,0⟩ 2 l).2.1:=Nat.lt_of_lt_of_le (by omega) j.le;refine ⟨ρ1,?_,u,a,?_,⟨[],qaa.2 rfl,.nil⟩,?_,.nil⟩;·rw [j.same 1 (by omega)]<;>simp_all[pU]
 ·refine aV.append ?_ .nil;show aV (vg ⟨1,0⟩ 2 l).2.1 ρ1 ((aj (.k 0) ⟨1,0⟩::(vg ⟨1,0⟩ 2 l).2.2)++[]);rw [List.append_nil];refine aV.cons (aC.2 ⟨a,m,?_⟩) w;rw [Lin.k_v u,j.lin (show (⟨1,0⟩:Lin).s<2 by decide),bU]<;>grind
 exact .cons (.agg y) .nil
theorem zwu {T:Tab}(h1:t1.own=true)(ho:I4 l=true)(hx:t1.Is T 0 x1)(hh:0<=h')(ha:IsL T h' l xs):
  ∃ρ,ρ (t1.bld (.k 0) 1).2.1=h'/\(mkC f [t1,.rc l] [] mu outs).Sat T ρ [x1,.agg xs] []:=by
 obtain ⟨ρ0,A,E,F⟩:=Sh.fwd t1 (h:=.k 0) (n:=1) (ρ:=fun _=>(0:Int)) h1 (by omega) rfl (by decide) hx;have J:=A.zero (by omega) rfl;generalize w:(t1.bld (.k 0) 1).2.1=n at A E F;have j:0<n:=Nat.lt_of_lt_of_le (by omega) A.le;have q:=bn ρ0 n h';obtain ⟨ρ1,a,N,O⟩:=gJ l (h:=⟨n,0⟩) (n:=n+1) (ρ:=pU ρ0 n h') ho (Nat.succ_pos _) (q.zero j J) (qae _) (by rw [bU];omega);have H:=a.zero (Nat.succ_pos _) (q.zero j J);have y:=Nat.lt_of_lt_of_le (Nat.succ_pos _) a.le;have u:=Nat.lt_of_lt_of_le (qae _) a.le;have B:(mkC f [t1,.rc l] [] mu outs).m=(vg ⟨n,0⟩ (n+1) l).2.1:=by rw [<-w];rfl
 have M:(mkC f [t1,.rc l] [] mu outs).pre=((t1.bld (.k 0) 1).2.2++((aj (.k 0) ⟨n,0⟩::(vg ⟨n,0⟩ (n+1) l).2.2)++[]))++[]:=by rw [<-w];rfl
 have L:(mkC f [t1,.rc l] [] mu outs).args=[(t1.bld (.k 0) 1).1,.agg (vg ⟨n,0⟩ (n+1) l).1]:=by rw [<-w];rfl
 refine ⟨ρ1,?_,H,by grind,?_,⟨[],qaa.2 rfl,.nil⟩,?_,.nil⟩;·rw [a.same n (qae _)]<;>simp_all[pU]
 ·rw [B,M];refine aV.append (aV.append ((q.trans a).facts E) (aV.append (aV.cons (aC.2 ⟨y,u,?_⟩) N) .nil)) .nil;rw [Lin.k_v H,a.lin (show (⟨n,0⟩:Lin).s<n+1 from qae _),bU]<;>simp_all
 rw [B,L];exact .cons (F.more (q.trans a)) (.cons (.agg O) .nil)
theorem zq2 {T:Tab}{outs:List Yh}(h1:t1.own=true)(ho:I4 l=true)(hx:t1.Is T 0 x1)(hh:0<=h')(ha:IsL T h' l xs):
  ∃ρ,ρ (t1.bld (.k 0) 1).2.1=h'/\(dO f [t1,.rc l] [] mu outs).Sat T ρ [x1,.agg xs] []:=by
 obtain ⟨ρ,h,a⟩:=zwu (f:=f) (mu:=mu) (outs:=outs.map fun o=>(o.1,o.2.1)) h1 ho hx hh ha;exact ⟨ρ,h,a.zero,a.pos,a.pre,a.alts,a.args,a.inb⟩
theorem zuA (h1:0<=i)(h2:i<=1000000)(h3:nm.size<=1000000):Z4.Is T h (.agg [num k,num i,strX nm]):=⟨_,rfl,⟨k,rfl⟩,⟨i,rfl,h1,h2⟩,⟨nm,rfl,by grind[bW]⟩,trivial⟩
theorem CO (h1:0<=i)(h2:i<=1000000)(h3:nm.size<=1000000)(hd:D T (h+1) 11 x):∃b,∃B,∀N,B<=N->Gam.pureD (callF tab ext N) 124 [.agg [num k,num i,strX nm],.agg x]=some (boolX b):=by
 obtain ⟨n,q⟩:=zb0 hd;obtain ⟨o,j,r,bx,a,m,B,l⟩:=eU (zj8 _ (qaa.2 rfl)) rfl rfl (xs:=[.agg [num k,num i,strX nm],.agg x]) ⟨zuA h1 h2 h3,⟨h,x,rfl,n,q⟩,trivial⟩ (bx:=[]) trivial;rcases qal.1 j with rfl|j;·obtain rfl:=qQ m;have a:r=boolX true:=a;subst a;exact ⟨true,B,fun N f=>bf (l N f) rfl⟩
 obtain rfl:=qaa.1 j;obtain rfl:=qQ m;have a:r=boolX false:=a;subst a;exact ⟨false,B,fun N f=>bf (l N f) rfl⟩
theorem Og (h1:0<=i)(h2:i<=1000000)(h3:nm.size<=1000000)(hd:D T (h+1) 11 x):∃ys,ys.length<=6/\(∀y,y∈ys->D T h 11 y)/\∃B,∀N,B<=N->Gam.pureD (callF tab ext N) 125 [.agg [num k,num i,strX nm],.agg x]=some (.sl false 6 ys):=by
 obtain ⟨u,S⟩:=zb0 hd;obtain ⟨ρ,m,j⟩:=zq2 (f:=125) (t1:=Z4) (l:=zpW) (mu:=none) (outs:=[(.slr 6 11 0 6,[],[lt 11 0 4])]) rfl rfl (zuA h1 h2 h3) u S;obtain ⟨q,Q,Z,ρ',r,n,P,z,E,L,O,H,B,A⟩:=EO j.zero j.pos (zj7 _ (qaa.2 rfl) ρ _ _ j);obtain rfl:=qaa.1 Q;obtain rfl:=qQ H;obtain ⟨t,ys,V,rfl,_,_,W,_⟩:=O;have Y:=P.same 4 (by decide);have m:ρ 4=h:=m;have M:=Gn E (qaa.2 rfl);have a:∀e,e∈ys->D T (ρ' 11) 11 e:=by
  cases L with
  |sl _ _ _ _ w=>intro e J;have:=w e J;unfold Lin.v at this;dsimp only at this;rw [show ρ' 11=ρ' 11+0 by omega];exact this
 exact ⟨ys,by omega,fun y U=>fP (by omega) (a y U),B,fun N F=>bf (A N F) rfl⟩
theorem zfs {T:Tab}{cs:List AX}{x:X}(h:G T n ρ (.agg cs) x):∃xs,x=.agg xs/\GL T n ρ cs xs:=by
 cases h<;>simp_all
theorem dW {T:Tab}{a:AX}{l:List AX}(h:GL T n ρ (a::l) m):∃x r,m=x::r/\G T n ρ a x/\GL T n ρ l r:=by
 cases h with
 |cons h1 h2=>grind
theorem zhb {T:Tab}(h:GL T n ρ [] m):m=[]:=by
 cases h;rfl
theorem g_i {T:Tab}{k:IntKind}{l:Lin}{x:X}(h:G T n ρ (.i k l) x):∃z,x=.v (.int k z):=by
 cases h<;>simp_all
theorem g_s {T:Tab}{l:Lin}{x:X}(h:G T n ρ (.s l) x):∃s:qaW,x=strX s/\(s.size:Int)=l.v ρ:=by
 cases h with
 |s h1 h2=>exact ⟨_,rfl,h2⟩
theorem zu6 {T:Tab}{t:Option Bool}{k:Nat}{h l:Lin}{x:X}(hg:G T n ρ (.sl t sz k h l) x):∃tt es,x=.sl tt sz es/\(es.length:Int)=l.v ρ/\∀e,e∈es->D T (h.v ρ) k e:=by
 cases hg with
 |sl h1 h2 h3 h4 h5=>grind
end Ct
end
section
open Go Go.Em Go.Ab
variable {h:Int}{τ:St}
namespace Ct
abbrev L9 (bx:List Bx):St:=⟨[(4,.sl true 6 []),(5,num 22)],bx⟩
section
variable (t2:Bool) (ps es:qaV) (np j n:Nat) (k i:Int) (nm:qaW)
abbrev inS (ns:qaV) (q m:Nat):St:=⟨[(1,.sl t2 3 ps),(9,.ptr 0 0 0),(10,.bs 1 0 q),(23,.sl t2 3 ps),(24,nat np),(25,nat j),(29,.sl true 6 es),(30,nat n),(31,nat m)],[.var [num k,num i,strX nm],.row 6 ns]⟩
abbrev inR (ns:qaV) (q m:Nat):St:=⟨[(1,.sl t2 3 ps),(9,.ptr 0 0 0),(10,.bs 1 0 q),(23,.sl t2 3 ps),(24,nat np),(25,nat j),(29,.bs 2 0 n),(30,nat n),(31,nat m)],[.var [num k,num i,strX nm],.row 6 ns,.row 6 es]⟩
abbrev eiS (ns:qaV) (q m:Nat):St:=⟨[(1,.sl t2 3 ps),(9,.ptr 0 0 0),(10,.bs 1 0 q),(23,.sl t2 3 ps),(24,nat np),(25,nat j),(29,.sl true 6 es),(30,nat n),(31,nat m),(32,boolX false)],[.var [num k,num i,strX nm],.row 6 ns]⟩
abbrev eiR (ns:qaV) (q m:Nat):St:=⟨[(1,.sl t2 3 ps),(9,.ptr 0 0 0),(10,.bs 1 0 q),(23,.sl t2 3 ps),(24,nat np),(25,nat j),(29,.bs 2 0 n),(30,nat n),(31,nat m),(32,boolX false)],[.var [num k,num i,strX nm],.row 6 ns,.row 6 es]⟩
end
def zmW (bx:List Bx):Prop:=(∃a ns b,bx=[.var a,.row 6 ns,.var b])\/(∃a ns es b,bx=[.var a,.row 6 ns,.row 6 es,.var b])
theorem hz {es:qaV}{m:Nat}{x:List X}(h:es[m]?=some x):es[0+m]?=some x:=by grind
theorem innerS (t2:Bool)(ps es:qaV)(np j n:Nat){k i:Int}{nm:qaW}(p1:0<=i)(p2:i<=1000000)(p3:nm.size<=1000000)(hn:n=es.length)(hes:∀e,e∈es->D T (h+1) 11 e)(hl:es.length<=50000)(hτ:canon 0 τ=some (inS t2 ps es np j n k i nm [] 0 0)):
  ∃e σ' B,((e=.ret/\∃bx,σ'=L9 bx/\zmW bx)\/(∃ns:qaV,e=.exit 2/\σ'=eiS t2 ps es np j n k i nm ns ns.length n/\ns.length<=6*n/\∀y,y∈ns->D T h 11 y))/\∀M,B<=M->run (callF tab ext M) 0 M (.loop (loopAt 85 1)) τ=some (e,σ'):=by
 refine jC (nIn:=0) (b:=loopAt 85 1) (H:=fun p:qaV×Nat×Nat=>inS t2 ps es np j n k i nm p.1 p.2.1 p.2.2) (I:=fun p=>p.2.1=p.1.length/\p.2.2<=n/\p.1.length<=6*p.2.2/\∀y,y∈p.1->D T h 11 y) (μ:=fun p=>n-p.2.2)
  (Q:=fun e σ'=>(e=.ret/\∃bx,σ'=L9 bx/\zmW bx)\/(∃ns:qaV,e=.exit 2/\σ'=eiS t2 ps es np j n k i nm ns ns.length n/\ns.length<=6*n/\∀y,y∈ns->D T h 11 y))
  (fun p hp=>?_) (a:=([],0,0)) ⟨rfl,Nat.zero_le _,Nat.zero_le _,fun y hy=>by grind⟩ hτ
 obtain ⟨ns,q,m⟩:=p;obtain ⟨U,i2,V,W⟩:=hp;dsimp only at U i2 V W ⊢;by_cases hm:m<n
 ·have P:=aH hm;have F:m<es.length:=by omega
  obtain ⟨x,N⟩:∃x,es[m]?=some x:=⟨_,qad F⟩;have E:=hes x (qan N);obtain ⟨h0,a,b,c,s,u,l,v,f,rfl,_⟩:=d11 E;have E:=Gu E;obtain ⟨g,O,S⟩:=CO (k:=k) p1 p2 p3 E;obtain ⟨A,y1,y2,Y,J⟩:=Og (k:=k) p1 p2 p3 E;cases g with
  |false=>exact .inr ⟨.ret,L9 [.var [num k,num i,strX nm],.row 6 ns,.var [num a,num b,num c,strX s,.sl u 6 l,.sl v 7 f]],O,(by grind),.inl ⟨rfl,_,rfl,.inl ⟨_,_,_,rfl⟩⟩,fun M Z=>ruA [(32,.b true),(33,.e [num a,num b,num c,strX s,.sl u 6 l,.sl v 7 f]),(37,.p (boolX false)),(38,.b true)] (pf4 P N (S M (by omega)) (show (!false)=true from rfl))⟩
  |true=>
   have w:0+q=ns.length/\cZ (q+A.length) (87+1)=true/\tC 1 (X.sl false 6 A).rows=false:=⟨by omega,jd (by omega) (by omega),rfl⟩;refine .inl ⟨⟨[(1,.sl t2 3 ps),(9,.ptr 0 0 0),(10,.bs 3 0 (q+A.length)),(23,.sl t2 3 ps),(24,nat np),(25,nat j),(29,.sl true 6 es),(30,nat n),(31,nat (m+1))],[.var [num k,num i,strX nm],.dead,.var [num a,num b,num c,strX s,.sl u 6 l,.sl v 7 f],.row 6 (ns++A)]⟩,(ns++A,q+A.length,m+1),max O Y,fun M Z=>?_,by kernel_rfl,⟨by grind,by grind,by grind,fun y hy=>?_⟩,by grind⟩;·exact ruA [(32,.b true),(33,.e [num a,num b,num c,strX s,.sl u 6 l,.sl v 7 f]),(37,.p (boolX true)),(38,.b false),(42,.p (.sl false 6 A)),(43,.app),(44,.i (Int.ofNat (m+1)))] (pf7 P N (S M (by omega)) (show (!true)=false from rfl) (J M (by omega)) w (ay (j:=m) (by omega)))
   grind
 have L:m=n:=by omega
 subst L;subst U;exact .inr ⟨_,_,0,(by grind),.inr ⟨ns,rfl,rfl,V,W⟩,fun M _=>ruA [(32,.b false)] (pf1 (aG (qas m)))⟩
theorem zox (t2:Bool)(ps es:qaV)(np j n:Nat){k i:Int}{nm:qaW}(p1:0<=i)(p2:i<=1000000)(p3:nm.size<=1000000)(hn:n=es.length)(hes:∀e,e∈es->D T (h+1) 11 e)(hl:es.length<=50000)(hτ:canon 0 τ=some (inR t2 ps es np j n k i nm [] 0 0)):
  ∃e σ' B,((e=.ret/\∃bx,σ'=L9 bx/\zmW bx)\/(∃ns:qaV,e=.exit 2/\σ'=eiR t2 ps es np j n k i nm ns ns.length n/\ns.length<=6*n/\∀y,y∈ns->D T h 11 y))/\∀M,B<=M->run (callF tab ext M) 0 M (.loop (loopAt 85 1)) τ=some (e,σ'):=by
 refine jC (nIn:=0) (b:=loopAt 85 1) (H:=fun p:qaV×Nat×Nat=>inR t2 ps es np j n k i nm p.1 p.2.1 p.2.2) (I:=fun p=>p.2.1=p.1.length/\p.2.2<=n/\p.1.length<=6*p.2.2/\∀y,y∈p.1->D T h 11 y) (μ:=fun p=>n-p.2.2)
  (Q:=fun e σ'=>(e=.ret/\∃bx,σ'=L9 bx/\zmW bx)\/(∃ns:qaV,e=.exit 2/\σ'=eiR t2 ps es np j n k i nm ns ns.length n/\ns.length<=6*n/\∀y,y∈ns->D T h 11 y))
  (fun p hp=>?_) (a:=([],0,0)) ⟨rfl,Nat.zero_le _,Nat.zero_le _,fun y hy=>by grind⟩ hτ
 obtain ⟨ns,q,m⟩:=p;obtain ⟨V,i2,W,Y⟩:=hp;dsimp only at V i2 W Y ⊢;by_cases L:m<n
 ·have S:=aH L;have F:m<es.length:=by omega
  obtain ⟨x,O⟩:∃x,es[m]?=some x:=⟨_,qad F⟩;have E:=hes x (qan O);obtain ⟨h0,a,b,c,s,u,l,v,f,rfl,_⟩:=d11 E;have E:=Gu E;obtain ⟨g,P,U⟩:=CO (k:=k) p1 p2 p3 E;obtain ⟨A,y1,y2,Z,J⟩:=Og (k:=k) p1 p2 p3 E;cases g with
  |false=>exact .inr ⟨.ret,L9 [.var [num k,num i,strX nm],.row 6 ns,.row 6 es,.var [num a,num b,num c,strX s,.sl u 6 l,.sl v 7 f]],P,(by grind),.inl ⟨rfl,_,rfl,.inr ⟨_,_,_,_,rfl⟩⟩,fun M hM=>ruA [(32,.b true),(33,.at),(34,.ld [num a,num b,num c,strX s,.sl u 6 l,.sl v 7 f]),(37,.p (boolX false)),(38,.b true)] (pf5 S L (hz O) (U M (by omega)) (show (!false)=true from rfl))⟩
  |true=>
   have w:0+q=ns.length/\cZ (q+A.length) (87+1)=true/\tC 1 (X.sl false 6 A).rows=false:=⟨by omega,jd (by omega) (by omega),rfl⟩;refine .inl ⟨⟨[(1,.sl t2 3 ps),(9,.ptr 0 0 0),(10,.bs 4 0 (q+A.length)),(23,.sl t2 3 ps),(24,nat np),(25,nat j),(29,.bs 2 0 n),(30,nat n),(31,nat (m+1))],[.var [num k,num i,strX nm],.dead,.row 6 es,.var [num a,num b,num c,strX s,.sl u 6 l,.sl v 7 f],.row 6 (ns++A)]⟩,(ns++A,q+A.length,m+1),max P Z,fun M hM=>?_,by kernel_rfl,⟨by grind,by grind,by grind,fun y hy=>?_⟩,by grind⟩;·exact ruA [(32,.b true),(33,.at),(34,.ld [num a,num b,num c,strX s,.sl u 6 l,.sl v 7 f]),(37,.p (boolX true)),(38,.b false),(42,.p (.sl false 6 A)),(43,.app),(44,.i (Int.ofNat (m+1)))] (pf8 S L (hz O) (U M (by omega)) (show (!true)=false from rfl) (J M (by omega)) w (ay (j:=m) (by omega)))
   grind
 have N:m=n:=by omega
 subst N;subst V;exact .inr ⟨_,_,0,(by grind),.inr ⟨ns,rfl,rfl,W,Y⟩,fun M _=>ruA [(32,.b false)] (pf1 (aG (qas m)))⟩
end Ct
end
section
open Go Go.Em Go.Ab
variable {e:List X}
section
variable (N:Nat) (k i s:Int) (t:qaW) (l f acc SV:qaV) (n j m:Nat) (v:Val) (nm:qaW) (a1 a2 a3:Int) (a4:qaW) (u w:Bool) (a5 a6:qaV)
theorem LQ (hv:Gam.pureD (callF tab ext N) 60 [.agg [num a1,num a2,num a3,strX a4,.sl false 6 a5,.sl false 7 a6]]=some (.agg v.cells))(hi:l[j]?=some [num a1,num a2,num a3,strX a4,.sl u 6 a5,.sl w 7 a6])(hj:j<n)(hn:n<2999999)(ha:j=acc.length):
  run (callF tab ext N) 0 N (loopAt 60 0) (clH k i s t l f acc n j)=some (.norm,ztl k i s t l f acc n j [num a1,num a2,num a3,strX a4,.sl u 6 a5,.sl w 7 a6] v.cells):=by
 obtain ⟨a,h,m,q,y,A⟩:=v;exact ruA [(15,.b true),(16,.e [num a1,num a2,num a3,strX a4,.sl u 6 a5,.sl w 7 a6]),(21,.p (.agg (Val.mk a h m q y A).cells)),(23,.app),(25,.i (Int.ofNat (j+1)))] (pf5 (aH hj) hi hv (L6 j 3 88 ha (by omega) (by omega)) (ay (j:=j) (by omega)))
theorem LU (hv:Gam.pureD (callF tab ext N) 60 [.agg [num a1,num a2,num a3,strX a4,.sl false 6 a5,.sl false 7 a6]]=some (.agg v.cells))(hi:f[j]?=some [strX nm,num a1,num a2,num a3,strX a4,.sl u 6 a5,.sl w 7 a6])(hj:j<n)(hn:n<2999999)(ha:j=SV.length):
  run (callF tab ext N) 0 N (loopAt 60 1) (cfH k i s t f acc SV n j m)=some (.norm,ztm k i s t f acc SV n j m [strX nm,num a1,num a2,num a3,strX a4,.sl u 6 a5,.sl w 7 a6] (strX nm::v.cells)):=by
 obtain ⟨a,h,l,q,y,A⟩:=v;exact ruA [(30,.b true),(31,.e [strX nm,num a1,num a2,num a3,strX a4,.sl u 6 a5,.sl w 7 a6]),(39,.p (.agg (Val.mk a h l q y A).cells)),(42,.app),(44,.i (Int.ofNat (j+1)))] (pf5 (aH hj) hi hv (L6 j 3 104 ha (by omega) (by omega)) (ay (j:=j) (by omega)))
end
namespace Ct
theorem Lp {n:Nat}(h:DN T (n+1) 21 e):∃(a b c:Int) (s:qaW) (t:Bool) (l:qaV) (t':Bool) (f:qaV),e=[num a,num b,num c,strX s,.sl t 6 l,.sl t' 7 f]/\s.size<=1000000/\l.length<=1000000/\f.length<=1000100/\(∀x,x∈l->DN T n 21 x)/\∀x,x∈f->DN T n 22 x:=by
 obtain ⟨j,m,q⟩:=h;obtain rfl:=qaa.1 m
 match e,q with
 |[.v (.int _ a),.v (.int _ b),.v (.int _ c),.v (.string s),.sl t _ l,.sl t' _ f],⟨⟨rfl,_⟩,⟨rfl,_⟩,⟨rfl,_⟩,h4,⟨rfl,_,h5,h6⟩,⟨rfl,_,h7,h8⟩,_⟩=>exact ⟨a,b,c,s,t,l,t',f,rfl,h4.2,h5,h7,h6,h8⟩
theorem U2 {n:Nat}(h:DN T n 22 e):∃(nm:qaW) (x:List X),e=strX nm::x/\nm.size<=1000000/\DN T n 21 x:=by
 cases n with
 |zero=>exact h.elim
 |succ n=>
  obtain ⟨a,f,j⟩:=h;obtain rfl:=qaa.1 f
  match e,j with
  |.v (.string s)::x,⟨h1,h2⟩=>exact ⟨s,x,rfl,h1.2,_,qaa.2 rfl,h2⟩
theorem Ee:∀{l:List Val},(∀v,v∈l->v.wide)->zX l
 |[],_=>by grind[zX]
 |v::r,h=>by simp only [zX];exact ⟨h v (qaq ..),Ee fun u hu=>h u (qar _ hu)⟩
theorem Ef:∀{l:List (qaW×Val)},(∀p,p∈l->p.2.wide)->xO l
 |[],_=>by grind[xO]
 |(n,v)::r,h=>by simp only [xO];exact ⟨h (n,v) (qaq ..),Ef fun u hu=>h u (qar _ hu)⟩
instance:Inhabited Val:=⟨.mk 0 0 0 ⟨#[]⟩ [] []⟩
def zta:List X->List X
 |[a,b,c,s,.sl _ 6 l,.sl _ 7 f]=>[a,b,c,s,.sl false 6 l,.sl false 7 f]
 |x=>x
theorem zb7:∀(n:Nat) (a b c:Int) (s:qaW) (l f:qaV),l.length<=1000000->f.length<=1000100->(∀e,e∈l->DN T n 21 e)->(∀e,e∈f->DN T n 22 e)->
  ∃v:Val,v.wide/\∃B,∀N,B<=N->Gam.pureD (callF tab ext N) 60 [.agg [num a,num b,num c,strX s,.sl false 6 l,.sl false 7 f]]=some (.agg v.cells):=by
 intro n;induction n with
 |zero=>
  intro a b c s l f hl hf P O;have el:=List.eq_nil_iff_forall_not_mem.2 fun e Y=>P e Y;have S:=List.eq_nil_iff_forall_not_mem.2 fun e Y=>by obtain ⟨_,x,rfl,_,h⟩:=U2 (O e Y);exact h
  subst el;subst S;refine ⟨.mk a b c s [] [],by simp_all[Val.wide,zX,xO],2,fun N L=>jY N (.mk a b c s [] []) (by grind[Val.size,iZ,rV]) (by grind[Val.size,iZ,rV])⟩
 |succ n ih=>
  intro a b c s l f hl hf P O;have hL:∃(g:Nat->Val) (B:Nat),∀j,j∈List.range l.length->(g j).wide/\∀N,B<=N->∃(a1 a2 a3:Int) (a4:qaW) (u w:Bool) (a5 a6:qaV),l[j]?=some [num a1,num a2,num a3,strX a4,.sl u 6 a5,.sl w 7 a6]/\Gam.pureD (callF tab ext N) 60 [.agg [num a1,num a2,num a3,strX a4,.sl false 6 a5,.sl false 7 a6]]=some (.agg (g j).cells):=
   jZ (List.range l.length) (R:=fun _ v=>Val.wide v) (Q:=fun j v N=>∃(a1 a2 a3:Int) (a4:qaW) (u w:Bool) (a5 a6:qaV),l[j]?=some [num a1,num a2,num a3,strX a4,.sl u 6 a5,.sl w 7 a6]/\Gam.pureD (callF tab ext N) 60 [.agg [num a1,num a2,num a3,strX a4,.sl false 6 a5,.sl false 7 a6]]=some (.agg v.cells)) fun j m=>by have m:=List.mem_range.1 m;obtain ⟨a1,a2,a3,a4,u,a5,w,a6,e,_,E,F,H,U⟩:=Lp (P _ (qaf m));obtain ⟨v,J,B,V⟩:=ih a1 a2 a3 a4 a5 a6 E F H U;exact ⟨v,J,B,fun N L=>⟨a1,a2,a3,a4,u,w,a5,a6,by grind,V N L⟩⟩
  have W:∃(g:Nat->qaW×Val) (B:Nat),∀j,j∈List.range f.length->(g j).2.wide/\∀N,B<=N->∃(a1 a2 a3:Int) (a4:qaW) (u w:Bool) (a5 a6:qaV),f[j]?=some [strX (g j).1,num a1,num a2,num a3,strX a4,.sl u 6 a5,.sl w 7 a6]/\Gam.pureD (callF tab ext N) 60 [.agg [num a1,num a2,num a3,strX a4,.sl false 6 a5,.sl false 7 a6]]=some (.agg (g j).2.cells):=
   jZ (List.range f.length) (R:=fun _ (p:qaW×Val)=>Val.wide p.2) (Q:=fun j p N=>∃(a1 a2 a3:Int) (a4:qaW) (u w:Bool) (a5 a6:qaV),f[j]?=some [strX p.1,num a1,num a2,num a3,strX a4,.sl u 6 a5,.sl w 7 a6]/\Gam.pureD (callF tab ext N) 60 [.agg [num a1,num a2,num a3,strX a4,.sl false 6 a5,.sl false 7 a6]]=some (.agg p.2.cells)) fun j m=>by have m:=List.mem_range.1 m;obtain ⟨nm,x,e0,_,hx⟩:=U2 (O _ (qaf m));obtain ⟨a1,a2,a3,a4,u,a5,w,a6,e,_,E,F,H,U⟩:=Lp hx;obtain ⟨v,J,B,V⟩:=ih a1 a2 a3 a4 a5 a6 E F H U;exact ⟨(nm,v),J,B,fun N L=>⟨a1,a2,a3,a4,u,w,a5,a6,by grind,V N L⟩⟩
  obtain ⟨g,B1,hg⟩:=hL;obtain ⟨q,B2,hq⟩:=W
  let y:=(List.range l.length).map g
  let A:=(List.range f.length).map q
  have el:y.length=l.length:=by simp [y]
  have S:A.length=f.length:=by simp [A]
  have cl:=aF y;have cf:=aT A;have gl:∀j,j<l.length->(ah y)[j]?=some (g j).cells:=fun j m=>by grind[dN]
  have gf:∀j,j<f.length->(au A)[j]?=some (strX (q j).1::(q j).2.cells):=fun j m=>by rw [mJ];grind
  refine ⟨.mk a b c s y A,?_,B1+B2+3000100,fun N L=>?_⟩
  ·simp only [Val.wide];refine ⟨⟨by omega,by omega⟩,Ee fun v J=>?_,Ef fun p hp=>?_⟩
   ·grind
   grind
  obtain ⟨M,rfl⟩:=pR_ N;have E:run (callF tab ext M) 0 M (.loop (loopAt 60 0)) (clH a b c s l f [] l.length 0)=some (.exit 0,clE a b c s l f (ah y) l.length l.length):=by
   refine aQ (σ:=fun j=>clH a b c s l f ((ah y).take j) l.length j) (k:=l.length) (D9 _ _ _ _ _ _ _ _ _) (fun j m=>?_) ?_ (by simp) (by omega)
   ·obtain ⟨a1,a2,a3,a4,u,w,a5,a6,Z,J⟩:=(hg j (List.mem_range.2 m)).2 M (by omega);refine ⟨_,LQ M a b c s l f _ l.length j (g j) a1 a2 a3 a4 u w a5 a6 J Z m (by omega) (by grind),?_⟩
    grind[zJ,bM]
   ·grind[U9]
  have F:run (callF tab ext M) 0 M (.loop (loopAt 60 1)) ⟨[(2,.ptr 1 0 0),(3,.ptr 2 0 0),(27,.sl false 7 f),(28,nat f.length),(29,nat 0)],[.var [num a,num b,num c,strX s,.sl false 6 l,.sl false 7 f],.var CS,.var [num a,num b,num c,strX s,.bs 3 0 l.length,.bs 4 0 0],.row 6 (ah y),.row 7 []]⟩=some (.exit 2,cfE a b c s f (ah y) (au A) f.length f.length l.length):=by
   refine aQ (σ:=fun j=>cfH a b c s f (ah y) ((au A).take j) f.length j l.length) (k:=f.length) (by kernel_rfl) (fun j m=>?_) ?_ (by simp) (by omega)
   ·obtain ⟨a1,a2,a3,a4,u,w,a5,a6,Z,J⟩:=(hq j (List.mem_range.2 m)).2 M (by omega);refine ⟨_,LU M a b c s f _ _ f.length j l.length (q j).2 (q j).1 a1 a2 a3 a4 u w a5 a6 J Z m (by omega) (by grind),?_⟩
    grind[zK,bM]
   ·grind[Va]
  have H:(X.agg [num a,num b,num c,strX s,.bs 0 0 l.length,.bs 1 0 f.length]).data [.row 6 (ah y),.row 7 (au A)] false=some (.agg (Val.mk a b c s y A).cells):=by
   have e1:l.length=(ah y).length:=by omega
   have e2:f.length=(au A).length:=by omega
   rw [e1,e2];simp [X.data,dH,rowOf,Val.cells,num,strX]
  clear hg hq gl gf el S;generalize ah y=CL at E F H;generalize au A=CF at E F H;generalize l.length=n1 at E F H;generalize f.length=n2 at E F H;exact pure_of [] [(.exit 0,clE a b c s l f CL n1 n1),(.exit 2,cfE a b c s f CL CF n2 n2 n1)] (pf2 E F) (bx:=[.row 6 CL,.row 7 CF]) (by kernel_rfl) H
theorem zfT {H:Int}{x:List X}(hd:D T H 21 x):∃v:Val,v.wide/\∃B,∀N,B<=N->Gam.pureD (callF tab ext N) 60 [.agg (zta x)]=some (.agg v.cells):=by
 unfold D at hd;cases h:H.toNat with
 |zero=>rw [h] at hd;exact hd.elim
 |succ n=>rw [h] at hd;obtain ⟨a,b,c,s,t,l,w,f,rfl,_,j,m,q,u⟩:=Lp hd;exact zb7 n a b c s l f j m q u
end Ct
end
end Go.Proofs.YtkeefpkcepodeaaGreatDoor
