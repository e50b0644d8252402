/-.-/
import Derived.Lib.ItoaLen
import Derived.Lib.AtoiAllCases
import Derived.Lib.TrimU
import Derived.Lib.RuneCount
import Derived.Test.YtpcjeobkehmhpaaGreatDoorEmV7
import Derived.Test.YtpcjeobkehmhpaaGreatDoorEmV8
import Derived.Test.YtpcjeobkehmhpaaGreatDoorEmV12
import Derived.Test.YtpcjeobkehmhpaaGreatDoorV13
import Derived.Test.YtpcjeobkehmhpaaGreatDoorV15
import Derived.Test.YtpcjeobkehmhpaaGreatDoorV16
set_option linter.all false
namespace Go.Proofs.YtpcjeobkehmhpaaGreatDoor
set_option maxRecDepth 100000
section
open Go.Em
structure Nod where
 name:qaY
 kind:Int
 schema:Int
 result:Int
 number:Int
 time:Int
 limit:Int
 text:qaY
 ty:Int×Int×Int×Int
 words:qaX
 elem:qaX
 fields:qaX
 types:qaX
 exprs:qaX
 calls:qaX
 rules:qaX
 next:qaX
def Nod.cells (n:Nod):List X:=[aF n.name,num n.kind,num n.schema,num n.result,num n.number,num n.time,num n.limit,aF n.text,num n.ty.1,num n.ty.2.1,num n.ty.2.2.1,num n.ty.2.2.2,.sl false 1 n.words,.sl false 7 n.elem,.sl false 11 n.fields,.sl false 7 n.types,.sl false 5 n.exprs,.sl false 6 n.rules,.sl false 2 n.calls,.sl false 1 n.next]
def isNode (c:List X):Prop:=∃(name:qaY) (k1 k2 k3 k4 k5 k6:Int) (text:qaY) (T:List X) (ty ex ru ca ne:qaX),c=[aF name,num k1,num k2,num k3,num k4,num k5,num k6,aF text]++(T++[.sl false 7 ty,.sl false 5 ex,.sl false 6 ru,.sl false 2 ca,.sl false 1 ne])/\Jg 3 T/\(∀x,x∈ty->Jg 3 x)/\(∀x,x∈ex->Ji 3 x)/\(∀x,x∈ru->ug x)/\∀x,x∈ca->Tj x
def Nod.small (n:Nod):Prop:=n.name.size<=60/\n.text.size<=60/\sT 4 (dK n.ty.1 n.ty.2.1 n.ty.2.2.1 n.ty.2.2.2 n.words n.elem n.fields)/\n.exprs.length<=8/\(∀x,x∈n.exprs->sE 4 x)/\n.rules.length<=8/\∀x,x∈n.rules->wI x
theorem Gq {c:List X}(h:isNode c):∃nd nd':Nod,c=nd.cells/\nd'.small/\∀N,220<=N->Gam.aC (ah tab ext N) 14 [.agg nd.cells]=some (.agg nd'.cells):=by obtain ⟨j,u,m,q,H,L,y,l,T,W,Q,U,V,S,rfl,hT,J,O,E,A⟩:=h;obtain ⟨a,b,c,d,w,e,f,a',Z,c',d',w',e',f',n,B,F,P,M,rfl,Y,hc⟩:=UL j l u m q H L y T W Q U V S hT J O E A;exact ⟨⟨j,u,m,q,H,L,y,l,(a,b,c,d),w,e,f,W,Q,V,U,S⟩,⟨gV 60 j,u,m,q,H,L,y,gV 60 l,(a',Z,c',d'),w',e',f',n,B,P,F,M⟩,rfl,Y,hc⟩
end
section
open Go.Em Go.RowKit
theorem Tryz.own:ownKnob Tryz.prog.godebug=none:=by kernel_rfl
theorem Tryz.laidOut:laidOutB Tryz.prog=true:=by kernel_rfl
theorem Tryz.rowed:mapsRowed Tryz.prog=true:=by kernel_rfl
def tys:List TypeId:=[3,4,9,35,37,53,22,23,24,26,27,28,30,31,32,34,39,40,41,43,45,47,87,81,118,103,106,143]
theorem KH:DL Tryz.prog tys=true:=by kernel_rfl
theorem zcR:tys.all (fun t=>decide (t<Tryz.prog.types.size))=true:=by kernel_rfl
theorem zf7 {t:TypeId}(h:t∈tys):t<Tryz.prog.types.size:=of_decide_eq_true (qaq.1 zcR t h)
theorem Rq:Kids Tryz.prog (fun t=>t∈tys/\t<Tryz.prog.types.size):=ZN (kids_rows Tryz.laidOut Tryz.rowed) KH
def fieldsOf (P:Program)(t:TypeId):Array Field:=match P.underlying t with
 |some (.struct fs)=>fs
 |_=>#[]
theorem zmD:Tryz.prog.underlying 3=some (.int .i64):=by kernel_rfl
theorem XK:Tryz.prog.underlying 4=some .bool:=by kernel_rfl
theorem zmC:Tryz.prog.underlying 9=some .string:=by kernel_rfl
theorem zhb:Tryz.prog.underlying 37=some (.struct (fieldsOf Tryz.prog 37)):=by kernel_rfl
theorem ze7:(fieldsOf Tryz.prog 37).toList.map (·.type)=[3,3,35]:=by kernel_rfl
theorem zhj:Tryz.prog.underlying 26=some (.struct (fieldsOf Tryz.prog 26)):=by kernel_rfl
theorem zfa:(fieldsOf Tryz.prog 26).toList.map (·.type)=[3,3,3,3,22,23,24]:=by kernel_rfl
theorem zhg:Tryz.prog.underlying 30=some (.struct (fieldsOf Tryz.prog 30)):=by kernel_rfl
theorem ze9:(fieldsOf Tryz.prog 30).toList.map (·.type)=[28]:=by kernel_rfl
theorem zhd:Tryz.prog.underlying 34=some (.struct (fieldsOf Tryz.prog 34)):=by kernel_rfl
theorem ze8:(fieldsOf Tryz.prog 34).toList.map (·.type)=[9,3,3,3,3,3,3,9,26,23,27,30,31,32]:=by kernel_rfl
theorem zha:Tryz.prog.underlying 39=some (.struct (fieldsOf Tryz.prog 39)):=by kernel_rfl
theorem ze6:(fieldsOf Tryz.prog 39).toList.map (·.type)=[3,32]:=by kernel_rfl
theorem zg7:Tryz.prog.underlying 43=some (.struct (fieldsOf Tryz.prog 43)):=by kernel_rfl
theorem ze5:(fieldsOf Tryz.prog 43).toList.map (·.type)=[3,3,3,9,40,41]:=by kernel_rfl
theorem zg6:Tryz.prog.underlying 45=some (.struct (fieldsOf Tryz.prog 45)):=by kernel_rfl
theorem ze4:(fieldsOf Tryz.prog 45).toList.map (·.type)=[39,3,32,43]:=by kernel_rfl
theorem zg5:Tryz.prog.underlying 47=some (.struct (fieldsOf Tryz.prog 47)):=by kernel_rfl
theorem ze3:(fieldsOf Tryz.prog 47).toList.map (·.type)=[3,3,39,45,3,4,4,43]:=by kernel_rfl
theorem zg2:Tryz.prog.underlying 87=some (.struct (fieldsOf Tryz.prog 87)):=by kernel_rfl
theorem ze1:(fieldsOf Tryz.prog 87).toList.map (·.type)=[43,3,3,53,40]:=by kernel_rfl
theorem zg3:Tryz.prog.underlying 81=some (.struct (fieldsOf Tryz.prog 81)):=by kernel_rfl
theorem ze2:(fieldsOf Tryz.prog 81).toList.map (·.type)=[3,3,9,40,27]:=by kernel_rfl
theorem zcO:Tryz.prog.underlying 118=some (.struct (fieldsOf Tryz.prog 118)):=by kernel_rfl
theorem zba:(fieldsOf Tryz.prog 118).toList.map (·.type)=[9,43]:=by kernel_rfl
theorem zcQ:Tryz.prog.underlying 103=some (.struct (fieldsOf Tryz.prog 103)):=by kernel_rfl
theorem zbc:(fieldsOf Tryz.prog 103).toList.map (·.type)=[9,81]:=by kernel_rfl
theorem zcP:Tryz.prog.underlying 106=some (.struct (fieldsOf Tryz.prog 106)):=by kernel_rfl
theorem zbb:(fieldsOf Tryz.prog 106).toList.map (·.type)=[9,30]:=by kernel_rfl
theorem zcN:Tryz.prog.underlying 143=some (.struct (fieldsOf Tryz.prog 143)):=by kernel_rfl
theorem za9:(fieldsOf Tryz.prog 143).toList.map (·.type)=[3,9,3,26,40]:=by kernel_rfl
theorem zhc:Tryz.prog.underlying 35=some (.slice 87):=by kernel_rfl
theorem zg4:Tryz.prog.underlying 53=some (.slice 45):=by kernel_rfl
theorem zhm:Tryz.prog.underlying 22=some (.slice 9):=by kernel_rfl
theorem zhl:Tryz.prog.underlying 23=some (.slice 26):=by kernel_rfl
theorem zhk:Tryz.prog.underlying 24=some (.slice 143):=by kernel_rfl
theorem zhi:Tryz.prog.underlying 27=some (.slice 81):=by kernel_rfl
theorem zhh:Tryz.prog.underlying 28=some (.slice 103):=by kernel_rfl
theorem zhf:Tryz.prog.underlying 31=some (.slice 106):=by kernel_rfl
theorem zhe:Tryz.prog.underlying 32=some (.slice 3):=by kernel_rfl
theorem zg9:Tryz.prog.underlying 40=some (.slice 43):=by kernel_rfl
theorem zg8:Tryz.prog.underlying 41=some (.slice 118):=by kernel_rfl
theorem cells3:Tryz.prog.cellsOf 3=1:=by kernel_rfl
theorem cells9:Tryz.prog.cellsOf 9=1:=by kernel_rfl
theorem cells26:Tryz.prog.cellsOf 26=7:=by kernel_rfl
theorem cells43:Tryz.prog.cellsOf 43=6:=by kernel_rfl
theorem zk7:Tryz.prog.cellsOf 45=10:=by kernel_rfl
theorem zk5:Tryz.prog.cellsOf 87=10:=by kernel_rfl
theorem zk6:Tryz.prog.cellsOf 81=5:=by kernel_rfl
theorem zfm:Tryz.prog.cellsOf 118=7:=by kernel_rfl
theorem zfo:Tryz.prog.cellsOf 103=6:=by kernel_rfl
theorem zfn:Tryz.prog.cellsOf 106=2:=by kernel_rfl
theorem zfl:Tryz.prog.cellsOf 143=11:=by kernel_rfl
variable {n:Nat} {xs:List X}
theorem bf (h:Shape Tryz.prog n 3 xs):∃z,xs=[num z]:=by obtain ⟨v,rfl,_⟩:=YF zmD h;exact ⟨v,rfl⟩
theorem fF (h:Shape Tryz.prog n 9 xs):∃s,xs=[aF s]:=by obtain ⟨v,rfl,_⟩:=Lc zmC h;exact ⟨v,rfl⟩
theorem FT (h:Shape Tryz.prog n 4 xs):∃b,xs=[aj b]:=U9 XK h
theorem U3 (h:Shape Tryz.prog n 35 xs):∃es,xs=[.sl false 10 es]/\∃m,m<n/\∀c,c∈es->Shape Tryz.prog m 87 c:=by obtain ⟨es,rfl,_,h⟩:=dW zhc h<;>simp_all[zk5]
theorem U1 (h:Shape Tryz.prog n 53 xs):∃es,xs=[.sl false 10 es]/\∃m,m<n/\∀c,c∈es->Shape Tryz.prog m 45 c:=by obtain ⟨es,rfl,_,h⟩:=dW zg4 h<;>simp_all[zk7]
theorem FM (h:Shape Tryz.prog n 22 xs):∃es,xs=[.sl false 1 es]/\∃m,m<n/\∀c,c∈es->Shape Tryz.prog m 9 c:=by obtain ⟨es,rfl,_,h⟩:=dW zhm h<;>simp_all[cells9]
theorem xB (h:Shape Tryz.prog n 23 xs):∃es,xs=[.sl false 7 es]/\∃m,m<n/\∀c,c∈es->Shape Tryz.prog m 26 c:=by obtain ⟨es,rfl,_,h⟩:=dW zhl h<;>simp_all[cells26]
theorem FK (h:Shape Tryz.prog n 24 xs):∃es,xs=[.sl false 11 es]/\∃m,m<n/\∀c,c∈es->Shape Tryz.prog m 143 c:=by obtain ⟨es,rfl,_,h⟩:=dW zhk h<;>simp_all[zfl]
theorem xA (h:Shape Tryz.prog n 27 xs):∃es,xs=[.sl false 5 es]/\∃m,m<n/\∀c,c∈es->Shape Tryz.prog m 81 c:=by obtain ⟨es,rfl,_,h⟩:=dW zhi h<;>simp_all[zk6]
theorem U5 (h:Shape Tryz.prog n 28 xs):∃es,xs=[.sl false 6 es]/\∃m,m<n/\∀c,c∈es->Shape Tryz.prog m 103 c:=by obtain ⟨es,rfl,_,h⟩:=dW zhh h<;>simp_all[zfo]
theorem U4 (h:Shape Tryz.prog n 31 xs):∃es,xs=[.sl false 2 es]/\∃m,m<n/\∀c,c∈es->Shape Tryz.prog m 106 c:=by obtain ⟨es,rfl,_,h⟩:=dW zhf h<;>simp_all[zfn]
theorem FI (h:Shape Tryz.prog n 32 xs):∃es,xs=[.sl false 1 es]/\∃m,m<n/\∀c,c∈es->Shape Tryz.prog m 3 c:=by obtain ⟨es,rfl,_,h⟩:=dW zhe h<;>simp_all[cells3]
theorem nT (h:Shape Tryz.prog n 40 xs):∃es,xs=[.sl false 6 es]/\∃m,m<n/\∀c,c∈es->Shape Tryz.prog m 43 c:=by obtain ⟨es,rfl,_,h⟩:=dW zg9 h<;>simp_all[cells43]
theorem U2 (h:Shape Tryz.prog n 41 xs):∃es,xs=[.sl false 7 es]/\∃m,m<n/\∀c,c∈es->Shape Tryz.prog m 118 c:=by obtain ⟨es,rfl,_,h⟩:=dW zg8 h<;>simp_all[zfm]
theorem UY (h:Shape Tryz.prog n 37 xs):∃m,m<n/\∃x0 x1 x2,xs=x0++(x1++(x2++[]))/\Shape Tryz.prog m 3 x0/\Shape Tryz.prog m 3 x1/\Shape Tryz.prog m 35 x2:=by
 obtain ⟨m,l,a⟩:=bU zhb h;rw [ze7] at a;obtain ⟨x0,u,rfl,y,a⟩:=a;obtain ⟨x1,j,rfl,A,a⟩:=a;obtain ⟨x2,f,rfl,q,a⟩:=a;have a:f=[]:=a
 grind
theorem FH (h:Shape Tryz.prog n 26 xs):∃m,m<n/\∃x0 x1 x2 x3 x4 x5 x6,xs=x0++(x1++(x2++(x3++(x4++(x5++(x6++[]))))))/\Shape Tryz.prog m 3 x0/\Shape Tryz.prog m 3 x1/\Shape Tryz.prog m 3 x2/\Shape Tryz.prog m 3 x3/\Shape Tryz.prog m 22 x4/\Shape Tryz.prog m 23 x5/\Shape Tryz.prog m 24 x6:=by
 obtain ⟨m,F,a⟩:=bU zhj h;rw [zfa] at a;obtain ⟨x0,q,rfl,u,a⟩:=a;obtain ⟨x1,E,rfl,N,a⟩:=a;obtain ⟨x2,B,rfl,l,a⟩:=a;obtain ⟨x3,J,rfl,M,a⟩:=a;obtain ⟨x4,H,rfl,A,a⟩:=a;obtain ⟨x5,L,rfl,j,a⟩:=a;obtain ⟨x6,f,rfl,y,a⟩:=a;have a:f=[]:=a
 grind
theorem U0 (h:Shape Tryz.prog n 30 xs):∃m,m<n/\∃x0,xs=x0++[]/\Shape Tryz.prog m 28 x0:=by
 obtain ⟨m,j,a⟩:=bU zhg h;rw [ze9] at a;obtain ⟨x0,f,rfl,l,a⟩:=a;have a:f=[]:=a
 grind
theorem UZ (h:Shape Tryz.prog n 34 xs):∃m,m<n/\∃x0 x1 x2 x3 x4 x5 x6 x7 x8 x9 x10 x11 x12 x13,xs=x0++(x1++(x2++(x3++(x4++(x5++(x6++(x7++(x8++(x9++(x10++(x11++(x12++(x13++[])))))))))))))/\Shape Tryz.prog m 9 x0/\Shape Tryz.prog m 3 x1/\Shape Tryz.prog m 3 x2/\Shape Tryz.prog m 3 x3/\Shape Tryz.prog m 3 x4/\Shape Tryz.prog m 3 x5/\Shape Tryz.prog m 3 x6/\Shape Tryz.prog m 9 x7/\Shape Tryz.prog m 26 x8/\Shape Tryz.prog m 23 x9/\Shape Tryz.prog m 27 x10/\Shape Tryz.prog m 30 x11/\Shape Tryz.prog m 31 x12/\Shape Tryz.prog m 32 x13:=by
 obtain ⟨m,L,a⟩:=bU zhd h;rw [ze8] at a;obtain ⟨x0,E,rfl,U,a⟩:=a;obtain ⟨x1,J,rfl,h1,a⟩:=a;obtain ⟨x2,F,rfl,S,a⟩:=a;obtain ⟨x3,r3,rfl,N,a⟩:=a;obtain ⟨x4,r4,rfl,W,a⟩:=a;obtain ⟨x5,r5,rfl,Q,a⟩:=a;obtain ⟨x6,r6,rfl,V,a⟩:=a;obtain ⟨x7,H,rfl,Z,a⟩:=a;obtain ⟨x8,O,rfl,M,a⟩:=a;obtain ⟨x9,Y,rfl,P,a⟩:=a;obtain ⟨x10,y,rfl,l,a⟩:=a;obtain ⟨x11,q,rfl,u,a⟩:=a;obtain ⟨x12,j,rfl,A,a⟩:=a;obtain ⟨x13,f,rfl,B,a⟩:=a;have a:f=[]:=a
 grind
theorem UW (h:Shape Tryz.prog n 39 xs):∃m,m<n/\∃x0 x1,xs=x0++(x1++[])/\Shape Tryz.prog m 3 x0/\Shape Tryz.prog m 32 x1:=by
 obtain ⟨m,j,a⟩:=bU zha h;rw [ze6] at a;obtain ⟨x0,l,rfl,q,a⟩:=a;obtain ⟨x1,f,rfl,u,a⟩:=a;have a:f=[]:=a
 grind
theorem UU (h:Shape Tryz.prog n 43 xs):∃m,m<n/\∃x0 x1 x2 x3 x4 x5,xs=x0++(x1++(x2++(x3++(x4++(x5++[])))))/\Shape Tryz.prog m 3 x0/\Shape Tryz.prog m 3 x1/\Shape Tryz.prog m 3 x2/\Shape Tryz.prog m 9 x3/\Shape Tryz.prog m 40 x4/\Shape Tryz.prog m 41 x5:=by
 obtain ⟨m,E,a⟩:=bU zg7 h;rw [ze5] at a;obtain ⟨x0,q,rfl,u,a⟩:=a;obtain ⟨x1,B,rfl,L,a⟩:=a;obtain ⟨x2,A,rfl,l,a⟩:=a;obtain ⟨x3,H,rfl,J,a⟩:=a;obtain ⟨x4,F,rfl,y,a⟩:=a;obtain ⟨x5,f,rfl,j,a⟩:=a;have a:f=[]:=a
 grind
theorem UR (h:Shape Tryz.prog n 45 xs):∃m,m<n/\∃x0 x1 x2 x3,xs=x0++(x1++(x2++(x3++[])))/\Shape Tryz.prog m 39 x0/\Shape Tryz.prog m 3 x1/\Shape Tryz.prog m 32 x2/\Shape Tryz.prog m 43 x3:=by
 obtain ⟨m,l,a⟩:=bU zg6 h;rw [ze4] at a;obtain ⟨x0,u,rfl,y,a⟩:=a;obtain ⟨x1,j,rfl,E,a⟩:=a;obtain ⟨x2,A,rfl,q,a⟩:=a;obtain ⟨x3,f,rfl,B,a⟩:=a;have a:f=[]:=a
 grind
theorem UQ (h:Shape Tryz.prog n 47 xs):∃m,m<n/\∃x0 x1 x2 x3 x4 x5 x6 x7,xs=x0++(x1++(x2++(x3++(x4++(x5++(x6++(x7++[])))))))/\Shape Tryz.prog m 3 x0/\Shape Tryz.prog m 3 x1/\Shape Tryz.prog m 39 x2/\Shape Tryz.prog m 45 x3/\Shape Tryz.prog m 3 x4/\Shape Tryz.prog m 4 x5/\Shape Tryz.prog m 4 x6/\Shape Tryz.prog m 43 x7:=by
 obtain ⟨m,H,a⟩:=bU zg5 h;rw [ze3] at a;obtain ⟨x0,q,rfl,u,a⟩:=a;obtain ⟨x1,F,rfl,P,a⟩:=a;obtain ⟨x2,B,rfl,l,a⟩:=a;obtain ⟨x3,M,rfl,O,a⟩:=a;obtain ⟨x4,J,rfl,A,a⟩:=a;obtain ⟨x5,N,rfl,j,a⟩:=a;obtain ⟨x6,L,rfl,y,a⟩:=a;obtain ⟨x7,f,rfl,E,a⟩:=a;have a:f=[]:=a
 grind
theorem UO (h:Shape Tryz.prog n 87 xs):∃m,m<n/\∃x0 x1 x2 x3 x4,xs=x0++(x1++(x2++(x3++(x4++[]))))/\Shape Tryz.prog m 43 x0/\Shape Tryz.prog m 3 x1/\Shape Tryz.prog m 3 x2/\Shape Tryz.prog m 53 x3/\Shape Tryz.prog m 40 x4:=by
 obtain ⟨m,B,a⟩:=bU zg2 h;rw [ze1] at a;obtain ⟨x0,l,rfl,q,a⟩:=a;obtain ⟨x1,A,rfl,H,a⟩:=a;obtain ⟨x2,y,rfl,j,a⟩:=a;obtain ⟨x3,E,rfl,F,a⟩:=a;obtain ⟨x4,f,rfl,u,a⟩:=a;have a:f=[]:=a
 grind
theorem FD (h:Shape Tryz.prog n 81 xs):∃m,m<n/\∃x0 x1 x2 x3 x4,xs=x0++(x1++(x2++(x3++(x4++[]))))/\Shape Tryz.prog m 3 x0/\Shape Tryz.prog m 3 x1/\Shape Tryz.prog m 9 x2/\Shape Tryz.prog m 40 x3/\Shape Tryz.prog m 27 x4:=by
 obtain ⟨m,B,a⟩:=bU zg3 h;rw [ze2] at a;obtain ⟨x0,l,rfl,q,a⟩:=a;obtain ⟨x1,A,rfl,H,a⟩:=a;obtain ⟨x2,y,rfl,j,a⟩:=a;obtain ⟨x3,E,rfl,F,a⟩:=a;obtain ⟨x4,f,rfl,u,a⟩:=a;have a:f=[]:=a
 grind
theorem Oy (h:Shape Tryz.prog n 118 xs):∃m,m<n/\∃x0 x1,xs=x0++(x1++[])/\Shape Tryz.prog m 9 x0/\Shape Tryz.prog m 43 x1:=by
 obtain ⟨m,j,a⟩:=bU zcO h;rw [zba] at a;obtain ⟨x0,l,rfl,q,a⟩:=a;obtain ⟨x1,f,rfl,u,a⟩:=a;have a:f=[]:=a
 grind
theorem OA (h:Shape Tryz.prog n 103 xs):∃m,m<n/\∃x0 x1,xs=x0++(x1++[])/\Shape Tryz.prog m 9 x0/\Shape Tryz.prog m 81 x1:=by
 obtain ⟨m,j,a⟩:=bU zcQ h;rw [zbc] at a;obtain ⟨x0,l,rfl,q,a⟩:=a;obtain ⟨x1,f,rfl,u,a⟩:=a;have a:f=[]:=a
 grind
theorem Oz (h:Shape Tryz.prog n 106 xs):∃m,m<n/\∃x0 x1,xs=x0++(x1++[])/\Shape Tryz.prog m 9 x0/\Shape Tryz.prog m 30 x1:=by
 obtain ⟨m,j,a⟩:=bU zcP h;rw [zbb] at a;obtain ⟨x0,l,rfl,q,a⟩:=a;obtain ⟨x1,f,rfl,u,a⟩:=a;have a:f=[]:=a
 grind
theorem Ox (h:Shape Tryz.prog n 143 xs):∃m,m<n/\∃x0 x1 x2 x3 x4,xs=x0++(x1++(x2++(x3++(x4++[]))))/\Shape Tryz.prog m 3 x0/\Shape Tryz.prog m 9 x1/\Shape Tryz.prog m 3 x2/\Shape Tryz.prog m 26 x3/\Shape Tryz.prog m 40 x4:=by
 obtain ⟨m,B,a⟩:=bU zcN h;rw [za9] at a;obtain ⟨x0,l,rfl,q,a⟩:=a;obtain ⟨x1,A,rfl,H,a⟩:=a;obtain ⟨x2,y,rfl,j,a⟩:=a;obtain ⟨x3,E,rfl,F,a⟩:=a;obtain ⟨x4,f,rfl,u,a⟩:=a;have a:f=[]:=a
 grind
theorem qK:∀(n:Nat) (xs:List X),Shape Tryz.prog n 43 xs->∃v:Val,xs=v.cells:=by
 intro n;induction n using Nat.strongRecOn with
 |_ n ih=>
  intro xs h;obtain ⟨m,Z,V,x1,x2,x3,W,x5,rfl,N,U,L,F,P,J⟩:=UU h;obtain ⟨k,rfl⟩:=bf N;obtain ⟨i,rfl⟩:=bf U;obtain ⟨s,rfl⟩:=bf L;obtain ⟨t,rfl⟩:=fF F;obtain ⟨es,rfl,S,O,j⟩:=nT P;obtain ⟨E,rfl,Y,A,B⟩:=U2 J;obtain ⟨l,rfl⟩:=yg Val.cells fun c a=>ih S (by omega) c (j c a);obtain ⟨f,rfl⟩:=yg (fun p:qaY×Val=>aF p.1::p.2.cells) (es:=E) fun c a=>by obtain ⟨H,u,y0,y,rfl,q,M⟩:=Oy (B c a);obtain ⟨Q,rfl⟩:=fF q;obtain ⟨v,rfl⟩:=ih H (by omega) y M;exact ⟨(Q,v),by simp⟩
  exact ⟨.mk k i s t l f,by grind[Val.cells,kD,rX]⟩
theorem UN (h:Shape Tryz.prog n 40 xs):∃l:List Val,xs=[.sl false 6 (au l)]:=by obtain ⟨j,rfl,m,_,a⟩:=nT h;obtain ⟨l,rfl⟩:=yg Val.cells fun c f=>qK m c (a c f);exact ⟨l,by rw [kD]⟩
theorem qL {es:qaX}{m:Nat}(h:∀c,c∈es->Shape Tryz.prog m 43 c):∀c,c∈es->isVal c:=fun c a=>qK m c (h c a)
theorem FQ (h:Shape Tryz.prog n 32 xs):∃l:List Int,xs=[.sl false 1 (aI l)]:=by obtain ⟨j,rfl,m,_,a⟩:=FI h;obtain ⟨l,rfl⟩:=yg (fun z:Int=>[num z]) fun c f=>bf (a c f);exact ⟨l,rfl⟩
theorem Ld (h:Shape Tryz.prog n 39 xs):∃s:Stp,xs=s.cells:=by obtain ⟨m,l,j,q,rfl,a,f⟩:=UW h;obtain ⟨e,rfl⟩:=bf a;obtain ⟨p,rfl⟩:=FQ f;exact ⟨⟨e,p⟩,rfl⟩
theorem Le (h:Shape Tryz.prog n 45 xs):∃s:Msg,xs=s.cells:=by obtain ⟨m,u,q,A,y,B,rfl,f,l,a,j⟩:=UR h;obtain ⟨s,rfl⟩:=Ld f;obtain ⟨k,rfl⟩:=bf l;obtain ⟨p,rfl⟩:=FQ a;obtain ⟨v,rfl⟩:=qK _ _ j;exact ⟨⟨s,k,p,v⟩,by grind[Msg.cells,Stp.cells]⟩
theorem U7 (h:Shape Tryz.prog n 53 xs):∃l:List Msg,xs=[.sl false 10 (aP l)]:=by obtain ⟨j,rfl,m,_,a⟩:=U1 h;obtain ⟨l,rfl⟩:=yg Msg.cells fun c f=>Le (a c f);exact ⟨l,rfl⟩
theorem YE (h:Shape Tryz.prog n 87 xs):∃s:Slt,xs=s.cells:=by obtain ⟨m,J,F,M,L,N,H,rfl,y,E,j,B,A⟩:=UO h;obtain ⟨⟨k,i,s,t,l,f⟩,rfl⟩:=qK _ _ y;obtain ⟨a,rfl⟩:=bf E;obtain ⟨b,rfl⟩:=bf j;obtain ⟨q,rfl⟩:=U7 B;obtain ⟨u,rfl⟩:=UN A;exact ⟨⟨.mk k i s t l f,a,b,q,u⟩,rfl⟩
theorem La (h:Shape Tryz.prog n 37 xs):∃s:Stt,xs=s.cells:=by obtain ⟨m,B,A,J,H,rfl,q,y,j⟩:=UY h;obtain ⟨a,rfl⟩:=bf q;obtain ⟨b,rfl⟩:=bf y;obtain ⟨E,rfl,F,_,f⟩:=U3 j;obtain ⟨l,rfl⟩:=yg Slt.cells fun c u=>YE (f c u);exact ⟨⟨a,b,l⟩,rfl⟩
theorem Lh (h:Shape Tryz.prog n 47 xs):∃i:Inp,xs=i.cells:=by obtain ⟨m,N,H,Q,P,S,L,O,J,M,rfl,l,F,j,E,y,f,u,A⟩:=UQ h;obtain ⟨a,rfl⟩:=bf l;obtain ⟨b,rfl⟩:=bf F;obtain ⟨s,rfl⟩:=Ld j;obtain ⟨g,rfl⟩:=Le E;obtain ⟨x,rfl⟩:=bf y;obtain ⟨q,rfl⟩:=FT f;obtain ⟨B,rfl⟩:=FT u;obtain ⟨v,rfl⟩:=qK _ _ A;exact ⟨⟨a,b,s,g,x,q,B,v⟩,by simp [Inp.cells,Msg.cells,Stp.cells]⟩
theorem Bh:∀(k:Nat) {n:Nat} {xs:List X},Shape Tryz.prog n 81 xs->Ji k xs
 |0,n,xs,h=>by obtain ⟨m,hm,x0,x1,x2,x3,x4,rfl,h0,h1,h2,h3,h4⟩:=FD h;obtain ⟨o,rfl⟩:=bf h0;obtain ⟨i,rfl⟩:=bf h1;obtain ⟨t,rfl⟩:=fF h2;obtain ⟨vs,rfl,m1,_,hv⟩:=nT h3;obtain ⟨es,rfl,m2,_,he⟩:=xA h4;exact ⟨o,i,t,vs,es,rfl,qL hv⟩
 |k+1,n,xs,h=>by obtain ⟨m,hm,x0,x1,x2,x3,x4,rfl,h0,h1,h2,h3,h4⟩:=FD h;obtain ⟨o,rfl⟩:=bf h0;obtain ⟨i,rfl⟩:=bf h1;obtain ⟨t,rfl⟩:=fF h2;obtain ⟨vs,rfl,m1,_,hv⟩:=nT h3;obtain ⟨es,rfl,m2,_,he⟩:=xA h4;exact ⟨o,i,t,vs,es,rfl,qL hv,fun x hx=>Bh k (he x hx)⟩
theorem vK:∀(k:Nat) {n:Nat} {xs:List X},Shape Tryz.prog n 26 xs->Jg k xs
 |0,n,xs,h=>by obtain ⟨m,hm,x0,x1,x2,x3,x4,x5,x6,rfl,h0,h1,h2,h3,h4,h5,h6⟩:=FH h;obtain ⟨a,rfl⟩:=bf h0;obtain ⟨b,rfl⟩:=bf h1;obtain ⟨c,rfl⟩:=bf h2;obtain ⟨d,rfl⟩:=bf h3;obtain ⟨w,rfl,m1,_,hw⟩:=FM h4;obtain ⟨e,rfl,m2,_,he⟩:=xB h5;obtain ⟨f,rfl,m3,_,hf⟩:=FK h6;exact ⟨a,b,c,d,w,e,f,rfl,fun x hx=>fF (hw x hx)⟩
 |k+1,n,xs,h=>by obtain ⟨m,hm,x0,x1,x2,x3,x4,x5,x6,rfl,h0,h1,h2,h3,h4,h5,h6⟩:=FH h;obtain ⟨a,rfl⟩:=bf h0;obtain ⟨b,rfl⟩:=bf h1;obtain ⟨c,rfl⟩:=bf h2;obtain ⟨d,rfl⟩:=bf h3;obtain ⟨w,rfl,m1,_,hw⟩:=FM h4;obtain ⟨e,rfl,m2,_,he⟩:=xB h5;obtain ⟨f,rfl,m3,_,hf⟩:=FK h6;refine ⟨a,b,c,d,w,e,f,rfl,fun x hx=>fF (hw x hx),fun x hx=>vK k (he x hx),fun x hx=>?_⟩;obtain ⟨m4,_,y0,y1,y2,T,y4,rfl,g0,g1,g2,g3,g4⟩:=Ox (hf x hx);obtain ⟨p,rfl⟩:=bf g0;obtain ⟨t,rfl⟩:=fF g1;obtain ⟨y,rfl⟩:=bf g2;obtain ⟨de,rfl,m5,_,hd⟩:=nT g4;exact ⟨p,t,y,T,de,by simp,vK k g3,qL hd⟩
theorem U6 (h:Shape Tryz.prog n 103 xs):ug xs:=by obtain ⟨m,q,l,f,rfl,a,j⟩:=OA h;obtain ⟨t,rfl⟩:=fF a;exact ⟨t,f,by simp,Bh 3 j⟩
theorem Bg (h:Shape Tryz.prog n 30 xs):∃es,xs=[.sl false 6 es]/\∀x,x∈es->ug x:=by obtain ⟨m,q,l,rfl,f⟩:=U0 h;obtain ⟨es,rfl,u,_,a⟩:=U5 f;exact ⟨es,rfl,fun x j=>U6 (a x j)⟩
theorem U8 (h:Shape Tryz.prog n 106 xs):Tj xs:=by obtain ⟨m,u,q,y,rfl,j,l⟩:=Oz h;obtain ⟨t,rfl⟩:=fF j;obtain ⟨f,rfl,a⟩:=Bg l;exact ⟨t,f,rfl,a⟩
theorem FN (h:Shape Tryz.prog n 34 xs):isNode xs:=by obtain ⟨m,hm,x0,x1,x2,x3,x4,x5,x6,x7,T,x9,V,pa,U,L,rfl,h0,h1,h2,Q,h4,Z,h6,h7,P,S,q,u,A,E⟩:=UZ h;obtain ⟨a,rfl⟩:=fF h0;obtain ⟨M,rfl⟩:=bf h1;obtain ⟨H,rfl⟩:=bf h2;obtain ⟨N,rfl⟩:=bf Q;obtain ⟨Y,rfl⟩:=bf h4;obtain ⟨k5,rfl⟩:=bf Z;obtain ⟨O,rfl⟩:=bf h6;obtain ⟨f,rfl⟩:=fF h7;obtain ⟨ty,rfl,_,_,B⟩:=xB S;obtain ⟨J,rfl,_,_,F⟩:=xA q;obtain ⟨ru,rfl,y⟩:=Bg u;obtain ⟨ca,rfl,_,_,l⟩:=U4 A;obtain ⟨W,rfl,_,_,pb⟩:=FI E;exact ⟨a,M,H,N,Y,k5,O,f,T,ty,J,ru,ca,W,by simp,vK 3 P,fun x j=>vK 3 (B x j),fun x j=>Bh 3 (F x j),y,fun x j=>U8 (l x j)⟩
end
section
open Go Go.Em Go.Ab
namespace Ct
def T:Tab:=fun k=>match k with
 |1=>[[.i .i64 none none,.i .i64 none none,.i .i64 none none,.s 0 1000000,.sl 6 1 0 1000000,.sl 7 2 0 1000000]]
 |2=>[[.s 0 1000000,.i .i64 none none,.i .i64 none none,.i .i64 none none,.s 0 1000000,.sl 6 1 0 1000000,.sl 7 2 0 1000000]]
 |3=>[[.i .i64 none none]]
 |4=>[[.i .u8 (some 0) (some 255)]]
 |5=>[[.s 0 1000000]]
 |6=>[[.i .i64 none none,.i .i64 none none]]
 |7=>[[.i .i64 none none,.i .i64 (some 0) (some 1000000),.s 0 1000000]]
 |8=>[[.i .i64 none none,.i .i64 none none,.s 0 1000000,.sl 6 1 0 1000000,.sl 5 8 0 1000000]]
 |10=>[(1,1,1,0),(2,2,0,0),(3,3,0,1),(4,15,0,2),(16,16,0,1),(17,17,0,2),(18,20,0,1),(21,21,0,3),(22,22,0,0),(23,23,0,2),(24,24,0,3),(25,25,0,2),(26,26,0,0),(27,28,0,1)].map fun (q:Int×Int×Nat×Nat)=>[.i .i64 (some q.1) (some q.2.1),.i .i64 none none,.s 0 1000000,.sl 6 1 q.2.2.1 1000000,.sl 5 10 q.2.2.2 1000000]
 |11=>[[.i .i64 none none,.i .i64 none none,.i .i64 none none,.s 0 1000000,.sl 6 11 0 6,.sl 7 12 0 6]]
 |12=>[[.s 0 1000000,.i .i64 none none,.i .i64 none none,.i .i64 none none,.s 0 1000000,.sl 6 11 0 6,.sl 7 12 0 6]]
 |9=>[[.i .i64 (some (-999999999999999)) (some 999999999999999),.i .i64 (some 0) (some 12)]]
 |13=>[[.sl 3 7 1 1000000]]
 |14=>[[.i .i64 none none,.i .i64 none none,.i .i64 none none,.i .i64 none none,.sl 1 5 0 1000000,.sl 7 14 0 1000000,.sl 11 15 0 100]]
 |15=>[[.i .i64 none none,.s 0 1000000,.i .i64 none none,.i .i64 none none,.i .i64 none none,.i .i64 none none,.i .i64 none none,.sl 1 5 0 1000000,.sl 7 14 0 1000000,.sl 11 15 0 100,.sl 6 1 0 1000000]]
 |16=>[[.s 0 1000000,.i .i64 none none,.i .i64 none none,.s 0 1000000,.sl 6 1 0 1000000,.sl 5 8 0 1000000]]
 |21=>[[.i .i64 none none,.i .i64 none none,.i .i64 none none,.s 0 1000000,.sl 6 21 0 1000000,.sl 7 22 0 1000100]]
 |22=>[[.s 0 1000000,.i .i64 none none,.i .i64 none none,.i .i64 none none,.s 0 1000000,.sl 6 21 0 1000000,.sl 7 22 0 1000100]]
 |_=>[]
def K:Names:=fun sz=>match sz with
 |1=>[3,4,5]
 |2=>[9,6]
 |3=>[7]
 |5=>[10,8]
 |6=>[1]
 |7=>[2]
 |_=>[]
abbrev int:Sh:=.i .i64
abbrev err:Sh:=.ir .i64 0 100
def val:Sh:=.rc [int,int,int,.s,.slh 6 1,.slh 7 2]
def fld:Sh:=.rc [.s,int,int,int,.s,.slh 6 1,.slh 7 2]
def exp:Sh:=.rc [int,int,.s,.slh 6 1,.slh 5 8]
def oN:List Sh:=[int,int,int,.s,.xq 6 11 0 6,.xq 7 12 0 6,err]
def zql:Sh:=.rcb 0 6 [int,int,int,.s,.xq 6 11 0 6,.xq 7 12 0 6]
def zuu:Sh:=.rc [int,int,.s,.slh 6 1,.slh 5 10]
def zxw:Sh:=.rc [int,int,.s,.xq 6 1 0 1000000,.xq 5 10 0 1000000]
def wfs:List (Int×Int×Int×Int):=[(1,1,1,0),(2,2,0,0),(3,3,0,1),(4,15,0,2),(16,16,0,1),(17,17,0,2),(18,20,0,1),(21,21,0,3),(22,22,0,0),(23,23,0,2),(24,24,0,3),(25,25,0,2),(26,26,0,0),(27,28,0,1)]
def XE:List (List Fact):=wfs.map fun q=>bd 2 q.1 q.2.1++[ak (.k q.2.2.1) ⟨5,0⟩,ak (.k q.2.2.2) ⟨6,0⟩]
def zcs:Sh:=.rc [int,int,int,.s,.xq 6 11 0 6,.xq 7 12 0 6]
def zsr:Sh:=.rc [.s,int,int,int,.s,.xq 6 11 0 6,.xq 7 12 0 6]
def rV:Sh:=.ag [int,int]
def Sr:Sh:=.ag [.ir .i64 (-999999999999999) 999999999999999,.ir .i64 0 12]
def part:Sh:=.ag [int,int,.s]
def zvJ (a b c d:Nat):List (Value×X):=[(.int .i64 8,.fn a []),(.int .i64 9,.fn b []),(.int .i64 10,.fn c []),(.int .i64 11,.fn d [])]
def Za:Sh:=.ag [int,.ir .i64 0 1000000,.s]
def K11:Names:=fun sz=>match sz with
 |1=>[3,4,5]
 |2=>[9,6]
 |3=>[7]
 |5=>[10,8]
 |6=>[11,1]
 |7=>[12,2]
 |_=>[]
def K2:Names:=fun sz=>match sz with
 |1=>[3,4,5,13]
 |2=>[9,6]
 |3=>[7]
 |5=>[10,8]
 |6=>[1]
 |7=>[2,14]
 |11=>[15]
 |_=>[]
def K3:Names:=fun sz=>match sz with
 |1=>[3,4,5,13]
 |2=>[9,6]
 |3=>[7]
 |5=>[10,8]
 |6=>[21,1]
 |7=>[22,2,14]
 |11=>[15]
 |_=>[]
def typ:Sh:=.rc [int,int,int,int,.slh 1 5,.slh 7 14,.xq 11 15 0 100]
def zvA:Sh:=.rcb 0 8 [int,int,int,int,.slh 1 5,.slh 7 14,.xq 11 15 0 100]
def tfd:Sh:=.rc [int,.s,int,int,int,int,int,.slh 1 5,.slh 7 14,.xq 11 15 0 100,.slh 6 1]
def vg:Sh:=.rc [int,int,int,.s,.slh 6 21,.xq 7 22 0 1000100]
def zkN:Sh:=.rc [.s,int,int,int,.s,.slh 6 21,.xq 7 22 0 1000100]
def Jd (s:Nat):List (List Fact):=[[ak ⟨s,0⟩ (.k 0)],bd s 1 7,bd s 8 8,bd s 9 9,bd s 10 10,[ak (.k 11) ⟨s,0⟩]]
def fnd:List BSh:=[.var [.fn 137 [.p 1],.b],.var [.b]]
def uN:List (List Fact):=(List.range 9).map fun (k:Nat)=>[ak ⟨1,0⟩ (.k (Int.ofNat k)),ak ⟨16,0⟩ (.k (3000000*(14-Int.ofNat k)))]
def oV (m:Nat)(c:Sh):List (Sh×List BSh×List Fact):=[(vg,[],[]),(.rc [int,int,int,.s,.bs 0,.xq 7 22 0 1000100],[.y7 6 21 m (m+5)],[]),(.rc [int,int,int,.s,.slh 6 21,c],[.y7 7 22 m (m+6)],[])]
def oI:List (Sh×List BSh×List Fact):=[(vg,[],[ak ⟨2,0⟩ (.k 8)]),(vg,[],[ak (.k 10) ⟨2,0⟩]),(.rc [int,int,int,.s,.bs 0,.xq 7 22 0 1000100],[.y7 6 21 16 21],[ak ⟨2,0⟩ (.k 8)]),(.rc [int,int,int,.s,.bs 0,.xq 7 22 0 1000100],[.y7 6 21 16 21],[ak (.k 10) ⟨2,0⟩]),(.rc [int,int,int,.s,.slh 6 21,.bs 0],[.y7 7 22 16 22],bd 2 9 9)]
noncomputable abbrev Gm:Nat->Gam:=ah tab ext
end Ct
end
section
open Go Go.Em Go.Ab
def Back (f:FuncId)(args:List X)(x:X):Prop:=∃B,∀N,B<=N->ah tab ext N (.fn f) args []=some (x,[])
theorem ig {f:FuncId}{args:List X}{x y:X}(h:Back f args x)(hd:x.data [] false=some y):∃B,∀N,B<=N->Gam.aC (ah tab ext N) f args=some y:=by obtain ⟨B,h⟩:=h;exact ⟨B,fun N a=>aZ (h N a) hd⟩
theorem oK {α β:Type}[Inhabited β](l:List α){R:α->β->Prop}{Q:α->β->Nat->Prop}(h:∀x,x∈l->∃y,R x y/\∃B,∀N,B<=N->Q x y N):∃(f:α->β) (B:Nat),∀x,x∈l->R x (f x)/\∀N,B<=N->Q x (f x) N:=by
 classical
 have n:∀x:α,∃y:β,x∈l->R x y/\∃B,∀N,B<=N->Q x y N:=fun x=>by
  by_cases j:x∈l;·obtain ⟨y,A⟩:=h x j;exact ⟨y,fun _=>A⟩
  exact ⟨default,fun e=>absurd e j⟩
 obtain ⟨f,u⟩:=Classical.axiomOfChoice n;have J:∀m:List α,(∀x,x∈m->x∈l)->∃B,∀x,x∈m->∀N,B<=N->Q x (f x) N:=by
  intro m;induction m with
  |nil=>exact fun _=>⟨0,fun x j=>by cases j⟩
  |cons a r ih=>
   intro q;obtain ⟨E,L⟩:=(u a (q a (qar ..))).2;obtain ⟨H,n⟩:=ih (fun x j=>q x (qap _ j));refine ⟨max E H,fun x j N M=>?_⟩;rcases qak.1 j with rfl|j;·exact L N (by omega)
   exact n x j N (by omega)
 obtain ⟨B,F⟩:=J l (fun x j=>j);exact ⟨f,B,fun x j=>⟨(u x j).1,F x j⟩⟩
end
section
open Go Go.Em Go.Ab
variable {s:qaY}{f:FuncId}{h hi lo z:Int}{k:IntKind}{bx:List Bx}{xs:List X}{i n:Nat}{ρ:Rho}{t:Sh}{x:X}
namespace Ct
theorem gJ {args:List X}{g:List X->List Bx->Option (X×List Bx)}(hg:ext f=some g){r:X}(h:g args []=some (r,bx)):∃B,∀N,B<=N->Gm N (.fn f) args []=some (r,bx):=
 ⟨1,fun N a=>by
  obtain ⟨M,rfl⟩:=pR_ N;show ah tab ext (M+1) (.fn f) args []=_
  grind[ah]⟩
def zxq:List Ctr:=[mkC 118 [.s,.s] [] none [(.ir .i64 (-1) 1,[])]]
theorem ND:∀a b:List UInt8,-1<=Lib.compareBytes a b/\Lib.compareBytes a b<=1
 |[],[]=>by decide
 |[],_::_=>by grind[Lib.compareBytes]
 |_::_,[]=>by grind[Lib.compareBytes]
 |x::a,y::b=>by unfold Lib.compareBytes;have:=ND a b<;>grind
theorem zaS:ay T Gm zxq:=.one (dH (fun o l=>by rw [qaa.1 l];exact ⟨rfl,rfl⟩) fun j h f m=>by
 match j,h,f,m with
 |[_,_],[],⟨⟨a,rfl,_⟩,⟨b,rfl,_⟩,_⟩,_=>have:=ND a.data.toList b.data.toList;exact ⟨_,qaa.2 rfl,_,[],⟨_,rfl,this.1,this.2⟩,trivial,gJ (g:=yJ) rfl rfl⟩)
def zxp:List Ctr:=[mkC 146 [.s] [] none [(.b,[])]]
theorem zkg:ay T Gm zxp:=.one (dH (fun o m=>by rw [qaa.1 m];exact ⟨rfl,rfl⟩) fun l j f n=>by
 match l,j,f,n with
 |[_],[],⟨⟨a,rfl,h⟩,_⟩,_=>unfold bT at h;exact ⟨_,qaa.2 rfl,_,[],⟨_,rfl⟩,trivial,gJ (g:=oQ) rfl (by show (if a.size<=_ then some (X.v (.bool (Lib.validD a.data.toList)),[]) else _)=_;rw [if_pos (by omega)])⟩)
theorem bsz (l:List UInt8):(⟨l.toArray⟩:qaY).size=l.length:=List.size_toArray ..
theorem bln (s:qaY):s.data.toList.length=s.size:=by intros;simp_all
theorem zd9 {T:Tab}(ha:IsL T h [t] xs):∃x,xs=[x]/\t.Is T h x:=by
 match xs,ha with
 |[x],⟨h,_⟩=>grind
theorem zmi {T:Tab}{u:Sh}(ha:IsL T h [t,u] xs):∃x y,xs=[x,y]/\t.Is T h x/\u.Is T h y:=by
 match xs,ha with
 |[x,y],⟨h,h2,_⟩=>grind
theorem nK {T:Tab}(hb:BIs T [] bx):bx=[]:=by
 match bx,hb with
 |[],_=>rfl
theorem zn9 {T:Tab}(hx:(Sh.ir k lo hi).Is T h x):∃z,x=.v (.int k z)/\lo<=z/\z<=hi:=hx
theorem ziE {T:Tab}(h1:lo<=z)(h2:z<=hi):(Sh.ir k lo hi).Is T h (.v (.int k z)):=⟨z,rfl,h1,h2⟩
theorem isS {T:Tab}(hx:Sh.s.Is T h x):∃s:qaY,x=.v (.string s)/\(s.size:Int)<=1000000:=hx
theorem ztP {T:Tab}(hx:(Sh.sr lo hi).Is T h x):∃s:qaY,x=.v (.string s)/\lo<=(s.size:Int)/\(s.size:Int)<=hi:=hx
theorem ztM {T:Tab}(h1:lo<=(s.size:Int))(h2:(s.size:Int)<=hi):(Sh.sr lo hi).Is T h (.v (.string s)):=⟨s,rfl,h1,h2⟩
theorem Ti (n:Int):1<=(Lib.itoa n).length:=by
 by_cases a:n<0
 ·obtain ⟨u,rfl⟩:∃u:Nat,n=-(u:Int):=⟨n.natAbs,by omega⟩
  grind[Lib.itoa_neg]
 obtain ⟨u,rfl⟩:∃u:Nat,n=u:=⟨n.toNat,by omega⟩<;>simp_all[Lib.itoa_nonneg,Lib.decDigits_length,Lib.nDigits_pos]
theorem Je (z:Int)(h1:-9223372036854775808<=z)(h2:z<=9223372036854775807):yh [.v (.int .i64 z)] []=some (.v (.string ⟨(Lib.itoa z).toArray⟩),[]):=by simp_all[yh]
def zur:List Ctr:=[mkC 64 [.ir .i64 (-9223372036854775808) 9223372036854775807] [] none [(.sr 1 21,[])]]
theorem Jr:ay T Gm zur:=.one (dH (fun o h=>by rw [qaa.1 h];exact ⟨rfl,rfl⟩) fun u q j m=>by obtain ⟨x,rfl,l⟩:=zd9 j;obtain rfl:=nK m;obtain ⟨z,rfl,f,a⟩:=zn9 l;have y:=Lib.itoa_length_le z f a;have n:=Ti z;exact ⟨_,qaa.2 rfl,_,[],ztM (by grind[bsz]) (by grind[bsz]),trivial,gJ (g:=yh) rfl (Je z f a)⟩)
theorem zfF (s:qaY)(h:(s.size:Int)<=1000000):∃v x,uT [.v (.string s)] []=some (.tup [.v (.int .i64 v),x],[])/\-9223372036854775808<=v/\v<=9223372036854775807/\(x=.ifc\/x=.v .nilIface):=by
 have a:=Lib.atoiSat_bounds s.data.toList;have j:s.size<=281474976710656:=by omega
 cases f:Lib.atoiAll s.data.toList with
 |ok v=>have:=Lib.atoiAll_bounds f;exact ⟨v,_,by simp_all[uT],this.1,this.2,.inr rfl⟩
 |range=>exact ⟨_,_,by simp_all[uT],a.1,a.2,.inl rfl⟩
 |_=>exact ⟨0,_,by simp_all[uT],by omega,by omega,.inl rfl⟩
def zxn:List Ctr:=[mkC 192 [.s] [] none [(.tu [.ir .i64 (-9223372036854775808) 9223372036854775807,.oi],[])]]
theorem zaR:ay T Gm zxn:=.one (dH (fun o f=>by rw [qaa.1 f];exact ⟨rfl,rfl⟩) fun B A m l=>by obtain ⟨x,rfl,n⟩:=zd9 m;obtain rfl:=nK l;obtain ⟨s,rfl,h⟩:=isS n;obtain ⟨v,y,a,u,j,q⟩:=zfF s h;exact ⟨_,qaa.2 rfl,.tup [.v (.int .i64 v),y],[],⟨_,rfl,ziE u j,q,trivial⟩,trivial,gJ (g:=uT) rfl a⟩)
theorem iZ {a b:Nat}{c:Int}(ha:a<n)(hb:b<n)(h:ρ a+c<=ρ b):(lt a c b).ok n ρ:=aJ.2 ⟨ha,hb,by grind[Lin.v]⟩
theorem pG {T:Tab}{args:List Sh}{inb:List BSh}{mu:Option (Nat×Nat)}{outs:List Xl}(hs:(dS f args inb mu outs).Sat T ρ xs bx):IsL T 0 args xs/\BIs T inb bx:=by have z:=hs.zero;have a:aY (dS f args inb mu outs).m ρ ((oO (.k 0) 1 args).2.2++(um (oO (.k 0) 1 args).2.1 inb).2.2):=hs.pre;have:=iG z args (h:=.k 0) (k:=1) a.left hs.args;rw [Lin.k_v z] at this;exact ⟨this,gQ z inb (k:=(oO (.k 0) 1 args).2.1) a.right hs.inb⟩
theorem sS {T:Tab}(h:G T n ρ (.s ⟨i,0⟩) (.v (.string s))):(s.size:Int)=ρ i:=by
 cases h<;>grind[Lin.v]
theorem sI {T:Tab}(h:G T n ρ (.i k ⟨i,0⟩) (.v (.int k z))):z=ρ i:=by
 cases h<;>grind[Lin.v]
theorem gl2 {T:Tab}{a b:AX}{y:X}(h:GL T n ρ [a,b] [x,y]):G T n ρ a x/\G T n ρ b y:=by
 cases h with
 |cons h1 h2=>cases h2<;>grind
theorem F7 (s:qaY)(c:Int)(h1:s.size=1)(h2:0<=c)(h3:c<=100):∃r:qaY,nX [.v (.string s),.v (.int .i64 c)] []=some (.v (.string r),[])/\(r.size:Int)=c:=by
 have a:c<=1000000:=by omega
 have b:s.size<=1000000:=by omega
 refine ⟨⟨(Lib.repeatL s.data.toList c.toNat).toArray⟩,by simp_all[nX],?_⟩;rw [bsz,Lib.repeatL_length,bln,h1,Nat.mul_one];omega
def zw8:List Ctr:=[dS 305 [.sr 1 1,.ir .i64 0 100] [] none [(.sr 0 100,[],[lt 3 0 2,lt 2 0 3])]]
theorem zj5:ay T Gm zw8:=.one fun ρ S L a=>by obtain ⟨j,B⟩:=pG a;obtain ⟨x,y,rfl,u,h⟩:=zmi j;obtain rfl:=nK B;obtain ⟨s,rfl,F,J⟩:=ztP u;obtain ⟨c,rfl,l,q⟩:=zn9 h;obtain ⟨N,A⟩:=gl2 a.args;have O:c=ρ 2:=sI A;obtain ⟨r,f,E⟩:=F7 s c (by omega) l q;refine jY (qaa.2 rfl) a.zero a.pos rfl rfl (ztM (s:=r) (by omega) (by omega)) (fun M ρ' n P g m=>?_) (gJ (g:=nX) rfl f);subst m;have Q:(r.size:Int)=ρ' 3:=sS g;have H:=n.same 2 (by decide);exact .cons (iZ (by decide) (by decide) (by omega)) (.cons (iZ (by decide) (by decide) (by omega)) .nil)
theorem Dh (c:List UInt8):∀l:List UInt8,Lib.indexAny l c<(l.length:Int)\/l=[]
 |[]=>.inr rfl
 |b::l=>by
  left;have:=Dh c l;unfold Lib.indexAny;rw [qaG];split;·omega
  split;·omega
  rcases this with h|rfl;·omega
  rename_i h1 h2;exact absurd rfl h2
theorem Py (c l:List UInt8):Lib.indexAny l c+1<=(l.length:Int):=by
 rcases Dh c l with h|rfl;·omega
 show (-1:Int)+1<=0<;>grind
theorem Hy (s c:qaY):∀f pos,-1<=nJ s c f pos/\nJ s c f pos+1<=s.size
 |0,_=>⟨by grind[nJ],by grind[nJ]⟩
 |f+1,pos=>by
  unfold nJ;split
  ·split;·omega
   exact Hy s c f _
  grind
theorem zlL (s:qaY)(h:(s.size:Int)<=1000000):∃z:Int,lT [.v (.string s),.v (.string marks)] []=some (.v (.int .i64 z),[])/\-1<=z/\z+1<=s.size:=by
 have f:s.size<4294967281:=by omega
 have m:marks.size<4294967281:=by decide
 have j:Hu marks=true:=by decide
 have l:=Lib.indexAny_ge marks.data.toList s.data.toList;have a:=Py marks.data.toList s.data.toList;rw [bln] at a;unfold lT;dsimp only;split
 ·grind
 rw [if_pos ⟨f,rfl⟩];refine ⟨_,rfl,?_⟩;split<;>simp_all[Hy]
def zxo:List Ctr:=[dS 189 [.s,.x (.v (.string ⟨#[46,91,63]⟩))] [] none [(.ir .i64 (-1) 1000000,[],[lt 2 1 1])]]
theorem zke:ay T Gm zxo:=.one fun ρ O F a=>by obtain ⟨l,A⟩:=pG a;obtain ⟨x,y,rfl,u,f⟩:=zmi l;obtain rfl:=nK A;obtain ⟨s,rfl,j⟩:=isS u;obtain ⟨f,_⟩:y=.v (.string ⟨#[46,91,63]⟩)/\_:=f;subst f;obtain ⟨m,N⟩:=gl2 a.args;have B:=sS m;obtain ⟨z,h,P,E⟩:=zlL s j;refine jY (qaa.2 rfl) a.zero a.pos rfl rfl (ziE (z:=z) (by omega) (by omega)) (fun H ρ' q L g n=>?_) (gJ (g:=lT) rfl h);subst n;have M:z=ρ' 2:=sI g;have J:=q.same 1 (by decide);exact .cons (iZ (by decide) (by decide) (by omega)) .nil
theorem zo (c:UInt8):∀l:List UInt8,Lib.indexByte l c+1<=(l.length:Int)
 |[]=>by show (-1:Int)+1<=0<;>grind
 |b::l=>by have:=zo c l<;>grind[Lib.indexByte]
theorem zix (s c:qaY)(h:(s.size:Int)<=1000000)(hc:c.size=1):∃z:Int,rO [.v (.string s),.v (.string c)] []=some (.v (.int .i64 z),[])/\-1<=z/\z+1<=s.size:=by
 have l:s.size<4294967281:=by omega
 rw [<-bln] at hc;obtain ⟨b,j⟩:=List.length_eq_one_iff.1 hc;have f:=Lib.indexByte_ge s.data.toList b;have a:=zo b s.data.toList<;>simp_all[rO]
def zxa:List Ctr:=[dS 289 [.s,.sr 1 1] [] none [(.ir .i64 (-1) 1000000,[],[lt 3 1 1])]]
theorem zj6:ay T Gm zxa:=.one fun ρ Q H a=>by obtain ⟨l,A⟩:=pG a;obtain ⟨x,y,rfl,u,h⟩:=zmi l;obtain rfl:=nK A;obtain ⟨s,rfl,j⟩:=isS u;obtain ⟨c,rfl,F,M⟩:=ztP h;obtain ⟨m,P⟩:=gl2 a.args;have B:=sS m;obtain ⟨z,f,S,E⟩:=zix s c j (by omega);refine jY (qaa.2 rfl) a.zero a.pos rfl rfl (ziE (z:=z) (by omega) (by omega)) (fun J ρ' q N g n=>?_) (gJ (g:=rO) rfl f);subst n;have O:z=ρ' 3:=sI g;have L:=q.same 1 (by decide);exact .cons (iZ (by decide) (by decide) (by omega)) .nil
theorem Nw (n a b c d:Nat)(h:0<n):1<=(Lib.decodeN n a b c d).2/\(Lib.decodeN n a b c d).2<=4/\(Lib.decodeN n a b c d).2<=n:=by unfold Lib.decodeN<;>grind
end Ct
end
section
open Go Go.Em Go.Ab
theorem jI {α:Type}{nIn:Nat}{b:C}{H:α->St}{I:α->Prop}{μ:α->Nat}{Q:Ex->St->Prop}
  (step:∀a,I a->(∃υ a' B,(∀M,B<=M->run (ah tab ext M) nIn M b (H a)=some (.norm,υ))/\canon nIn υ=some (H a')/\I a'/\μ a'<μ a)\/(∃e σ' B,e≠.norm/\Q e σ'/\∀M,B<=M->run (ah tab ext M) nIn M b (H a)=some (e,σ')))
  {a:α} {τ:St} (ha:I a) (hτ:canon nIn τ=some (H a)):∃e σ' B,Q e σ'/\∀M,B<=M->run (ah tab ext M) nIn M (.loop b) τ=some (e,σ'):=by
 have n:∀d a,μ a<=d->I a->∃e σ' B,Q e σ'/\∀M F υ,B<=M->d<F->canon nIn υ=some (H a)->iter nIn (run (ah tab ext M) nIn M b) F υ=some (e,σ'):=by
  intro d;induction d with
  |zero=>
   intro a N q;rcases step a q with ⟨_,a',_,_,_,_,L⟩|⟨e,σ',B,f,j,h⟩;·omega
   refine ⟨e,σ',B,j,fun M F υ l u m=>?_⟩;obtain ⟨F',rfl⟩:∃F',F=F'+1:=⟨F-1,by omega⟩;exact bK m (h M l) f
  |succ d ih=>
   intro a N q;rcases step a q with ⟨ω,a',y,P,E,O,S⟩|⟨e,σ',B,f,j,h⟩;·obtain ⟨e,σ',J,j,A⟩:=ih a' (by omega) O;refine ⟨e,σ',max y J,j,fun M F υ l u m=>?_⟩;obtain ⟨F',rfl⟩:∃F',F=F'+1:=⟨F-1,by omega⟩;exact dY m (P M (by omega)) (A M F' ω (by omega) (by omega) E)
   refine ⟨e,σ',B,j,fun M F υ l u m=>?_⟩;obtain ⟨F',rfl⟩:∃F',F=F'+1:=⟨F-1,by omega⟩;exact bK m (h M l) f
 obtain ⟨e,σ',B,j,h⟩:=n (μ a) a (Nat.le_refl _) ha;refine ⟨e,σ',max B (μ a+1),j,fun M l=>?_⟩;simp only [run];exact h M M τ (by omega) (by omega) hτ
end
section
open Go Go.Em Go.Ab
variable {R a m y:Int}
namespace Ct
theorem w64 {x:Int}(h1:-9223372036854775808<=x)(h2:x<=9223372036854775807):IntKind.i64.wrap x=x:=by grind[IntKind.wrap_i64]
theorem tq (k:Nat)(h:0<=a):a.tdiv k=a /k:=by grind
theorem Z8 (N:Nat)(x lo hi:Int):Gam.aC (ah tab ext (N+1)) 322 [num x,num lo,num hi]=some (aj (decide (lo<=x)&&decide (x<=hi))):=by
 cases a:(decide (x>=lo)) with
 |true=>
  cases f:(decide (x<=hi)) with
  |true=>exact puA [(9,.b true),(13,.b true)] (pf2 a f) (aj true)
  |false=>exact puA [(9,.b true),(13,.b false)] (pf2 a f) (aj false)
 |false=>exact puA [(9,.b false)] (pf1 a) (aj false)
def bef (y:Int):Int:=365*(y-1)+(y-1) /4-(y-1) /100+(y-1) /400
theorem Ei (N:Nat)(h1:1<=y)(h2:y<=10000):Gam.aC (ah tab ext (N+1)) 323 [num y]=some (num (bef y)):=by
 have a:=tq 4 (show 0<=y-1 by omega);have f:=tq 100 (show 0<=y-1 by omega);have h:=tq 400 (show 0<=y-1 by omega);simp at a f h;have m:IntKind.i64.wrap (y-1)=y-1:=w64 (by omega) (by omega);have q:IntKind.i64.wrap (365*(y-1))=365*(y-1):=w64 (by omega) (by omega);have l:IntKind.i64.wrap ((y-1).tdiv 4)=(y-1) /4:=by rw [a];exact w64 (by omega) (by omega)
 have u:IntKind.i64.wrap (365*(y-1)+(y-1) /4)=365*(y-1)+(y-1) /4:=w64 (by omega) (by omega);have n:IntKind.i64.wrap ((y-1).tdiv 100)=(y-1) /100:=by rw [f];exact w64 (by omega) (by omega)
 have A:IntKind.i64.wrap (365*(y-1)+(y-1) /4-(y-1) /100)=365*(y-1)+(y-1) /4-(y-1) /100:=w64 (by omega) (by omega);have B:IntKind.i64.wrap ((y-1).tdiv 400)=(y-1) /400:=by rw [h];exact w64 (by omega) (by omega)
 have j:IntKind.i64.wrap (365*(y-1)+(y-1) /4-(y-1) /100+(y-1) /400)=bef y:=w64 (by omega) (by omega);exact puA [(5,.i (y-1)),(7,.i (365*(y-1))),(9,.i ((y-1) /4)),(10,.i (365*(y-1)+(y-1) /4)),(12,.i ((y-1) /100)),(13,.i (365*(y-1)+(y-1) /4-(y-1) /100)),(15,.i ((y-1) /400)),(16,.i (bef y))] (pf8 m q l u n A B j) (num (bef y))
def leap (y:Int):Bool:=y%4==0&&(y%100 !=0||y%400==0)
theorem tm (k:Nat)(h:0<=a):a.tmod k=a%k:=by grind
theorem ZJ (N:Nat)(h1:1<=y)(h2:y<=9999):Gam.aC (ah tab ext (N+1+1)) 330 [num y]=some (aj (leap y)):=by
 have a:=Z8 N y 1 9999;rw [show (decide ((1:Int)<=y)&&decide (y<=9999))=true by grind] at a;have h:=tm 4 (show 0<=y by omega);have j:=tm 100 (show 0<=y by omega);have l:=tm 400 (show 0<=y by omega);simp at h j l;unfold leap;rw [<-h,<-j,<-l];cases h1:(y.tmod 4==0) with
 |true=>
  cases h2:(y.tmod 100 !=0) with
  |true=>exact puA [(4,.p (aj true)),(8,.b true),(13,.b true)] (pf3 a h1 h2) (aj true)
  |false=>
   cases f:(y.tmod 400==0) with
   |true=>exact puA [(4,.p (aj true)),(8,.b true),(13,.b false),(17,.b true)] (pf4 a h1 h2 f) (aj true)
   |false=>exact puA [(4,.p (aj true)),(8,.b true),(13,.b false),(17,.b false)] (pf4 a h1 h2 f) (aj false)
 |false=>exact puA [(4,.p (aj true)),(8,.b false)] (pf2 a h1) (aj false)
def md (l:Bool)(m:Int):Int:=if m=2 then (if l then 29 else 28) else if m=4\/m=6\/m=9\/m=11 then 30 else 31
def rest (l:Bool)(m:Int):Int:=
 if m=1 then 337+md l 2 else if m=2 then 306+md l 2 else if m=3 then 306 else if m=4 then 275 else if m=5 then 245 else if m=6 then 214 else if m=7 then 184 else if m=8 then 153 else if m=9 then 122 else if m=10 then 92 else if m=11 then 61 else if m=12 then 31 else 0
theorem ziH (N:Nat)(h1:1<=y)(h2:y<=9999)(h3:1<=m)(h4:m<=12):Gam.aC (ah tab ext (N+3)) 324 [num y,num m]=some (num (md (leap y) m)):=by
 have a:=ZJ N h1 h2;have f:m=1\/m=2\/m=3\/m=4\/m=5\/m=6\/m=7\/m=8\/m=9\/m=10\/m=11\/m=12:=by omega
 rcases f with rfl|rfl|rfl|rfl|rfl|rfl|rfl|rfl|rfl|rfl|rfl|rfl;·exact puA [] pf0 (num 31)
 ·generalize leap y=b at a ⊢;cases h:b with
  |true=>subst h;exact puA [(9,.p (aj true)),(10,.b true)] (pf2 a (show true=true from rfl)) (num 29)
  |false=>subst h;exact puA [(9,.p (aj false)),(10,.b false)] (pf2 a (show false=false from rfl)) (num 28)
 ·exact puA [] pf0 (num 31)
 ·exact puA [] pf0 (num 30)
 ·exact puA [] pf0 (num 31)
 ·exact puA [] pf0 (num 30)
 ·exact puA [] pf0 (num 31)
 ·exact puA [] pf0 (num 31)
 ·exact puA [] pf0 (num 30)
 ·exact puA [] pf0 (num 31)
 ·exact puA [] pf0 (num 30)
 exact puA [] pf0 (num 31)
theorem rest_step (l:Bool)(h3:1<=m)(h4:m<=12):rest l m=md l m+rest l (m+1):=by
 have a:m=1\/m=2\/m=3\/m=4\/m=5\/m=6\/m=7\/m=8\/m=9\/m=10\/m=11\/m=12:=by omega
 cases l<;>rcases a with rfl|rfl|rfl|rfl|rfl|rfl|rfl|rfl|rfl|rfl|rfl|rfl<;>rfl
theorem zdS (l:Bool)(m:Int):28<=md l m/\md l m<=31:=by grind[md]
theorem YO (l:Bool)(h3:1<=m)(h4:m<=12):rest l m<=400:=by
 have a:m=1\/m=2\/m=3\/m=4\/m=5\/m=6\/m=7\/m=8\/m=9\/m=10\/m=11\/m=12:=by omega
 cases l<;>rcases a with rfl|rfl|rfl|rfl|rfl|rfl|rfl|rfl|rfl|rfl|rfl|rfl<;>decide
theorem zfA (y:Int):bef (y+1)-bef y=rest (leap y) 1:=by
 have:rest (leap y) 1=365+(if leap y then 1 else 0):=by cases leap y<;>rfl
 rw [this];unfold bef leap<;>grind
def zqU (y m r:Int):Prop:=1<=y/\y<=9999/\1<=m/\m<=12/\0<=r/\r<=30
theorem zxz {y1:Int}(r1:0<=R)(hy:1<=y1/\y1<=9999/\R<bef (y1+1)):∃y,(1<=y/\y<=9999/\R<bef (y+1)/\bef y<=R)/\∃B,∀M,B<=M->run (ah tab ext M) 0 M (.loop (aH 306 0)) ⟨[(2,num y1),(6,num R)],[]⟩=some (.exit 0,⟨[(2,num y),(6,num R),(19,aj false)],[]⟩):=by
 obtain ⟨e,σ',n,⟨y,m,A,q⟩,j⟩:=jI (nIn:=0) (b:=aH 306 0) (H:=fun y:Int=>⟨[(2,num y),(6,num R)],[]⟩) (I:=fun y=>1<=y/\y<=9999/\R<bef (y+1)) (μ:=fun y=>y.toNat)
  (Q:=fun e σ'=>∃y:Int,e=.exit 0/\σ'=⟨[(2,num y),(6,num R),(19,aj false)],[]⟩/\1<=y/\y<=9999/\R<bef (y+1)/\bef y<=R) (fun y ⟨i1,i2,i3⟩=>by
   have l:∀M,1<=M->Gam.aC (ah tab ext M) 323 [num y]=some (num (bef y)):=fun M f=>by
    obtain ⟨M,rfl⟩:∃M',M=M'+1:=⟨M-1,by omega⟩
    grind[Ei]
   cases h:decide (bef y>R) with
   |true=>
    have u:=of_decide_eq_true h;have E:2<=y:=by
     rcases Int.lt_or_le 1 y with h|h;·omega
     have:y=1:=by omega
     subst this;have:bef 1=0:=rfl;omega
    refine .inl ⟨⟨[(2,num (y-1)),(6,num R)],[]⟩,y-1,1,fun M f=>?_,by kernel_rfl,⟨by omega,by omega,by grind⟩,by omega⟩;exact ruA [(17,.p (num (bef y))),(19,.b true),(21,.i (y-1))] (pf3 (l M f) h (show IntKind.i64.wrap (y-1)=y-1 from w64 (by omega) (by omega)))
   |false=>have u:=of_decide_eq_false h;exact .inr ⟨_,_,1,(by grind),⟨y,rfl,rfl,i1,i2,i3,by omega⟩,fun M f=>ruA [(17,.p (num (bef y))),(19,.b false)] (pf2 (l M f) h)⟩)
  (τ:=⟨[(2,num y1),(6,num R)],[]⟩) (a:=y1) hy (by kernel_rfl)
 subst m A;exact ⟨y,q,n,j⟩
theorem zxy {r0:Int}(k1:1<=y)(k2:y<=9999)(h0:0<=r0)(h1:r0<rest (leap y) 1):∃m r,(1<=m/\m<=12/\0<=r/\r<=30)/\∃B,∀M,B<=M->run (ah tab ext M) 0 M (.loop (aH 306 1)) ⟨[(2,num y),(3,num 1),(6,num r0)],[]⟩=some (.exit 2,⟨[(2,num y),(3,num m),(6,num r),(30,aj false)],[]⟩):=by
 obtain ⟨e,σ',A,⟨m,r,n,J,q⟩,l⟩:=jI (nIn:=0) (b:=aH 306 1) (H:=fun p:Int×Int=>⟨[(2,num y),(3,num p.1),(6,num p.2)],[]⟩) (I:=fun p=>1<=p.1/\p.1<=12/\0<=p.2/\p.2<rest (leap y) p.1) (μ:=fun p=>(13-p.1).toNat)
  (Q:=fun e σ'=>∃m r:Int,e=.exit 2/\σ'=⟨[(2,num y),(3,num m),(6,num r),(30,aj false)],[]⟩/\1<=m/\m<=12/\0<=r/\r<=30) (fun p ⟨i1,i2,i3,i4⟩=>by
   obtain ⟨m,r⟩:=p;dsimp only at i1 i2 i3 i4 ⊢;have j:∀M,3<=M->Gam.aC (ah tab ext M) 324 [num y,num m]=some (num (md (leap y) m)):=fun M f=>by obtain ⟨M,rfl⟩:∃M',M=M'+3:=⟨M-3,by omega⟩<;>simp_all[ziH]
   have F:=zdS (leap y) m;have u:=rest_step (leap y) i1 i2;have L:=YO (leap y) i1 i2;generalize md (leap y) m=v at j F u;cases h:decide (r>=v) with
   |true=>
    have E:=of_decide_eq_true h;have N:m<=11:=by
     rcases Int.lt_or_le m 12 with h|h;·omega
     have:m=12:=by omega
     subst this;have:rest (leap y) (12+1)=0:=rfl;omega
    refine .inl ⟨⟨[(2,num y),(3,num (m+1)),(6,num (r-v))],[]⟩,(m+1,r-v),3,fun M f=>?_,by kernel_rfl,⟨by grind,by grind,by grind,by grind⟩,by grind⟩;exact ruA [(29,.p (num v)),(30,.b true),(36,.p (num v)),(37,.i (r-v)),(32,.i (m+1))] (pf5 (j M f) h (j M f) (show IntKind.i64.wrap (r-v)=r-v from w64 (by omega) (by omega)) (show IntKind.i64.wrap (m+1)=m+1 from w64 (by omega) (by omega)))
   |false=>have E:=of_decide_eq_false h;exact .inr ⟨_,_,3,(by grind),⟨m,r,rfl,rfl,i1,i2,i3,by omega⟩,fun M f=>ruA [(29,.p (num v)),(30,.b false)] (pf2 (j M f) h)⟩)
  (τ:=⟨[(2,num y),(3,num 1),(6,num r0)],[]⟩) (a:=(1,r0)) ⟨by grind,by grind,h0,h1⟩ (by kernel_rfl)
 subst n J;exact ⟨m,r,q,A,l⟩
theorem UH (r1:0<=R)(r2:R<=3652058):∃y1,(if false=true then if 9999>R /365+1 then 9999 else R /365+1 else if 9999<R /365+1 then (9999:Int) else R /365+1)=y1/\1<=y1/\y1<=9999/\R<bef (y1+1):=by
 refine ⟨_,rfl,?_⟩;rw [if_neg (by decide)]
 grind[bef]
theorem civil (d:Int):Back 306 [num d] (.tup [num 0,num 0,num 0,num 2])\/∃y m r,zqU y m r/\Back 306 [num d] (.tup [num y,num m,num (r+1),num 0]):=by
 have f:=fun N=>Z8 N d (-719162) 2932896;cases j:(decide (-719162<=d)&&decide (d<=2932896)) with
 |false=>rw [j] at f;refine .inl ⟨2,fun N Y=>?_⟩;obtain ⟨M,rfl⟩:∃M,N=M+1+1:=⟨N-2,by omega⟩;exact caA [(8,.p (aj false)),(9,.b true)] (pf2 (f M) (show (!false)=true from rfl)) (r:=some (.tup [num 0,num 0,num 0,num 2],[]))
 |true=>
  rw [j] at f;rw [qab,qaF,qaF] at j;obtain ⟨d1,d2⟩:=j;obtain ⟨R,H⟩:∃R,R=d- -719162:=⟨_,rfl⟩;have n:0<=R:=by omega
  have F:R<=3652058:=by omega
  have U:R.tdiv 365=R /365:=tq 365 n;obtain ⟨y1,q,Q⟩:=UH n F;obtain ⟨y,⟨l,u,k3,k4⟩,A,a⟩:=zxz n Q;have kb:=zfA y;have kr:=YO (leap y) (m:=1) (by decide) (by decide);obtain ⟨m,r,⟨W,E,B,P⟩,Z,h⟩:=zxy (r0:=R-bef y) l u (by omega) (by omega);refine .inr ⟨y,m,r,⟨l,u,W,E,B,P⟩,A+Z+3,fun N Y=>?_⟩;obtain ⟨M,rfl⟩:∃M,N=M+1+1:=⟨N-2,by omega⟩;have a:=a (M+1) (by omega);have h:=h (M+1) (by omega);rw [<-q] at a;have S:IntKind.i64.wrap (d- -719162)=R:=by rw [<-H];exact w64 (by omega) (by omega)
  have V:IntKind.i64.wrap (R.tdiv 365)=R /365:=by rw [U];exact w64 (by omega) (by omega)
  have J:IntKind.i64.wrap (R /365+1)=R /365+1:=w64 (by omega) (by omega);have O:IntKind.i64.wrap (R-bef y)=R-bef y:=w64 (by omega) (by omega);have L:IntKind.i64.wrap (r+1)=r+1:=w64 (by omega) (by omega);exact caB [(8,.p (aj true)),(9,.b false),(11,.i R),(13,.i (R /365)),(14,.i (R /365+1)),(24,.p (num (bef y))),(25,.i (R-bef y)),(41,.i (r+1))] [(.exit 0,⟨[(2,num y),(6,num R),(19,aj false)],[]⟩),(.exit 2,⟨[(2,num y),(3,num m),(6,num r),(30,aj false)],[]⟩)] (znC (f M) (show (!true)=false from rfl) S V J a (Ei M l (by omega)) O h L) (r:=some (.tup [num y,num m,num (r+1),num 0],[]))
theorem F6 {h:Int}{z:Int}{T:Tab}{lo hi:Int}(h1:lo<=z)(h2:z<=hi):(Sh.ir .i64 lo hi).Is T h (num z):=⟨z,rfl,h1,h2⟩
def zw7:List Ctr:=[mkC 306 [int] [] none [(.tu [.ir .i64 0 9999,.ir .i64 0 12,.ir .i64 0 31,err],[])]]
theorem zj4:ay T Gm zw7:=.one (dH (fun o a=>by rw [qaa.1 a];exact ⟨rfl,rfl⟩) fun n l j f=>by
 match n,l,j,f with
 |[_],[],⟨⟨d,rfl⟩,_⟩,_=>
  rcases civil d with h|⟨y,m,r,⟨E,u,B,q,A,F⟩,h⟩;·exact ⟨_,qaa.2 rfl,_,[],⟨[num 0,num 0,num 0,num 2],rfl,F6 (by decide) (by decide),F6 (by decide) (by decide),F6 (by decide) (by decide),⟨2,rfl,by decide,by decide⟩,trivial⟩,trivial,h⟩
  exact ⟨_,qaa.2 rfl,_,[],⟨[num y,num m,num (r+1),num 0],rfl,F6 (by omega) (by omega),F6 (by omega) (by omega),F6 (by omega) (by omega),⟨0,rfl,by decide,by decide⟩,trivial⟩,trivial,h⟩)
end Ct
end
section
open Go Go.Em Go.Ab
set_option linter.all false
namespace Ct
def zwS:List Ctr:=[dS 188 [.k .i64 1,.dp [.sr 1 1000000]] [] none [(.ir .i64 1 1000000,[],[lt 2 0 1])]]
theorem zjH:ay T Gm zwS:=hoA K11 zke
def zwq:List Ctr:=[dS 250 [.s,.s] [] none [(.kb true,[],[lt 2 0 1]),(.kb false,[],[])]]
theorem zjs:ay T Gm zwq:=hoA K11 .nil
def zwR:List Ctr:=[dS 190 [.s,.s] [] none [(.kb true,[],[lt 2 0 1]),(.kb false,[],[])]]
theorem zjG:ay T Gm zwR:=hoA K11 zjs
def zwp:List Ctr:=[dS 251 [.s,.sr 1 1] [] none [(.tu [.s,.s,.kb true],[],[lt 3 0 1,lt 4 0 1]),(.tu [.s,.s,.kb false],[],[lt 3 0 1,lt 4 0 1])]]
theorem zjr:ay T Gm zwp:=hoA K11 zj6
def zwQ:List Ctr:=[dS 191 [.s,.sr 1 1] [] none [(.tu [.s,.s,.kb true],[],[lt 3 0 1,lt 4 0 1]),(.tu [.s,.s,.kb false],[],[lt 3 0 1,lt 4 0 1])]]
theorem zaz:ay T Gm zwQ:=hoA K11 zjr
def zw0:List Ctr:=[dS 122 [.sr 1 1000000] [] none [(.tu [part,.s,.kb true],[],[lt 5 1 1]),(.tu [part,.s,.kb false],[],[])]]
theorem zjW:ay T Gm zw0:=hoA K11 (hpA zjH (hpA zjG (hpA zaz (hpA zaR Jr))))
def zrH:List Ctr:=[mkC 130 [.s] [] none [((.kb true),[]),((.kb false),[])]]
theorem Qk:ay T Gm zrH:=hoB K11 ((iQ [⟨[23,24,25],fun e n=>(n+1,[ak (.k 0) ⟨n+0,0⟩,ak ⟨n+0,0⟩ (e 1)],[(23,.sl (some false) 1 4 (.k 1) (e 1)),(24,.i .i64 (e 1)),(25,.i .i64 ⟨n+0,0⟩)],[],(e 1,⟨n+0,0⟩))⟩])) .nil
def zwZ:List Ctr:=[dS 123 [part] [] none [(.kb true,[],bd 2 0 1000000),(.kb false,[],[])]]
theorem zaC:ay T Gm zwZ:=hoA K11 Qk
def zwo:List Ctr:=[mkC 298 [Za] [] none [(.sr 0 1000100,[])]]
theorem zjq:ay T Gm zwo:=hoA K11 Jr
def zwP:List Ctr:=[mkC 263 [.sl 3 7] [] none [((err),[])]]
theorem zjF:ay T Gm zwP:=hoB K11 ((iQ [⟨[3,21,22,23],fun e n=>(n+2,[ak (.k 0) ⟨n+1,0⟩,ak ⟨n+1,0⟩ (e 2)],[(3,.i .i64 ⟨n+0,0⟩),(21,.sl none 3 7 (e 1) (e 2)),(22,.i .i64 (e 2)),(23,.i .i64 ⟨n+1,0⟩)],[],(e 2,⟨n+1,0⟩))⟩])) (hpA zaC zjq)
def zwM:List Ctr:=[mkC 266 [part] [] none [((.kb true),[]),((.kb false),[])]]
theorem zay:ay T Gm zwM:=hoA K11 .nil
def zrF:List Ctr:=[mkC 124 [.sl 3 7,.fn 266 []] [] none [(.ir .i64 (-1) 1000000,[])]]
theorem Qj:ay T Gm zrF:=hoB K11 ((iQ [⟨[0,1,7,8],fun e n=>(n+1,[ak (.k 0) ⟨n+0,0⟩,ak ⟨n+0,0⟩ (e 1)],[(0,.sl none 3 7 (e 0) (e 1)),(1,.fn 266 []),(7,.i .i64 (e 1)),(8,.i .i64 ⟨n+0,0⟩)],[],(e 1,⟨n+0,0⟩))⟩])) zay
def zjZ:List Ctr:=[mkC 90 [.sl 3 7,.fn 266 []] [] none [(.kb true,[]),(.kb false,[])]]
theorem Ql:ay T Gm zjZ:=hoA K11 Qj
def zwY:List Ctr:=[mkC 226 [.sl 3 7] [] none [((.kb true),[]),((.kb false),[])]]
theorem zjV:ay T Gm zwY:=hoA K11 (hpA Ql zay)
def zwO:List Ctr:=[mkC 264 [Za,zcs] [] none [(.kb true,[]),(.kb false,[])]]
theorem zjE:ay T Gm zwO:=hoA K11 .nil
def zwa:List Ctr:=[mkC 315 [zsr,.dp [.s]] [] none [(.kb true,[]),(.kb false,[])]]
theorem zaj:ay T Gm zwa:=hoA K11 .nil
def zom:List Ctr:=[dS 115 [.slr 7 12 0 6,.fn 315 [.dp [.s]]] [] none [(.ir .i64 (-1) 5,[],[lt 4 1 2])]]
theorem yB:ay T Gm zom:=hoB K11 ((iQ [⟨[0,1,7,8],fun e n=>(n+1,[ak (.k 0) ⟨n+0,0⟩,ak ⟨n+0,0⟩ (e 1)],[(0,.sl none 7 12 (e 0) (e 1)),(1,.fn 315 [.dp [.s (e 2)]]),(7,.i .i64 (e 1)),(8,.i .i64 ⟨n+0,0⟩)],[],(e 1,⟨n+0,0⟩))⟩])) zaj
def zwn:List Ctr:=[dS 299 [zcs,.s] [] none [(.ir .i64 (-1) 5,[],[lt 9 1 7])]]
theorem zjo:ay T Gm zwn:=hoA K11 (hpA zaj yB)
def zwN:List Ctr:=[dS 265 [Za,zcs] [] none [(.slr 6 11 0 6,[],[lt 11 0 4])]]
theorem zjD:ay T Gm zwN:=hoA K11 zjo
def zci:List Ctr:=[mkC 46 [val] [] (some (1,0)) [(.ag [int,int,int,.s,.bs 0,.bs 1],[.y7 6 1 1 12,.y7 7 2 1 13])],mkC 46 [zcs] [] (some (1,0)) [(.ag [int,int,int,.s,.bs 0,.bs 1],[.y7 6 1 1 12,.y7 7 2 1 13])]]
theorem pV:ay T Gm zci:=hrA K11 ((iQ [⟨[1,2,3,12,13,14],fun e n=>(n+4,[ak ⟨n+0,0⟩ ⟨n+3,0⟩,ak ⟨n+1,0⟩ ⟨n+3,0⟩,ak (.k 0) ⟨n+2,0⟩,ak ⟨n+2,0⟩ (e 3),ak ⟨n+3,0⟩ ⟨n+0,0⟩,ak ⟨n+3,0⟩ ⟨n+1,0⟩,ak (.k 0) ⟨n+3,0⟩,ak ⟨n+3,0⟩ (e 4)],[(1,.ptr 0 (.k 0) 0),(2,.ptr 1 (.k 0) 0),(3,.ptr 2 (.k 0) 0),(12,.sl none 6 1 (e 3) (e 4)),(13,.i .i64 (e 4)),(14,.i .i64 ⟨n+0,0⟩)],[.var [.i .i64 (e 7),.i .i64 (e 8),.i .i64 (e 9),.s (e 10),.sl none 6 1 (e 3) (e 4),.sl none 7 2 (e 3) (e 14)],.var [.i .i64 (.k 0),.i .i64 (.k 0),.i .i64 (.k 0),.x (.v (.string ⟨#[]⟩)),.x (.sl true 6 []),.x (.sl true 7 [])],.var [.i .i64 (e 7),.i .i64 (e 8),.i .i64 (e 9),.s (e 10),.bs 3 (.k 0) ⟨n+1,0⟩,.x (.sl true 7 [])],.row 6 1 ⟨n+2,0⟩ ⟨n+3,0⟩],(e 4,⟨n+0,0⟩))⟩,⟨[2,3,27,28,29],fun e n=>(n+4,[ak ⟨n+0,0⟩ ⟨n+3,0⟩,ak ⟨n+1,0⟩ ⟨n+3,0⟩,ak (.k 0) ⟨n+2,0⟩,ak ⟨n+2,0⟩ (e 2),ak ⟨n+3,0⟩ ⟨n+0,0⟩,ak ⟨n+3,0⟩ ⟨n+1,0⟩,ak (.k 0) ⟨n+3,0⟩,ak ⟨n+3,0⟩ (e 3)],[(2,.ptr 0 (.k 0) 0),(3,.ptr 1 (.k 0) 0),(27,.sl none 7 2 (e 2) (e 3)),(28,.i .i64 (e 3)),(29,.i .i64 ⟨n+0,0⟩)],[.var [.i .i64 (.k 0),.i .i64 (.k 0),.i .i64 (.k 0),.x (.v (.string ⟨#[]⟩)),.x (.sl true 6 []),.x (.sl true 7 [])],.var [.i .i64 (e 9),.i .i64 (e 10),.i .i64 (e 11),.s (e 12),.bs 2 (.k 0) (e 14),.bs 3 (.k 0) ⟨n+1,0⟩],.row 6 1 (e 17) (e 18),.row 7 2 ⟨n+2,0⟩ ⟨n+3,0⟩],(e 3,⟨n+0,0⟩))⟩,⟨[1,2,3,12,13,14],fun e n=>(n+4,[ak ⟨n+0,0⟩ ⟨n+3,0⟩,ak ⟨n+1,0⟩ ⟨n+3,0⟩,ak (.k 0) ⟨n+2,0⟩,ak ⟨n+2,0⟩ (e 3),ak ⟨n+3,0⟩ ⟨n+0,0⟩,ak ⟨n+3,0⟩ ⟨n+1,0⟩,ak (.k 0) ⟨n+3,0⟩,ak ⟨n+3,0⟩ (e 4)],[(1,.ptr 0 (.k 0) 0),(2,.ptr 1 (.k 0) 0),(3,.ptr 2 (.k 0) 0),(12,.sl none 6 11 (e 3) (e 4)),(13,.i .i64 (e 4)),(14,.i .i64 ⟨n+0,0⟩)],[.var [.i .i64 (e 7),.i .i64 (e 8),.i .i64 (e 9),.s (e 10),.sl none 6 11 (e 3) (e 4),.sl none 7 12 (e 3) (e 14)],.var [.i .i64 (.k 0),.i .i64 (.k 0),.i .i64 (.k 0),.x (.v (.string ⟨#[]⟩)),.x (.sl true 6 []),.x (.sl true 7 [])],.var [.i .i64 (e 7),.i .i64 (e 8),.i .i64 (e 9),.s (e 10),.bs 3 (.k 0) ⟨n+1,0⟩,.x (.sl true 7 [])],.row 6 1 ⟨n+2,0⟩ ⟨n+3,0⟩],(e 4,⟨n+0,0⟩))⟩,⟨[2,3,27,28,29],fun e n=>(n+4,[ak ⟨n+0,0⟩ ⟨n+3,0⟩,ak ⟨n+1,0⟩ ⟨n+3,0⟩,ak (.k 0) ⟨n+2,0⟩,ak ⟨n+2,0⟩ (e 2),ak ⟨n+3,0⟩ ⟨n+0,0⟩,ak ⟨n+3,0⟩ ⟨n+1,0⟩,ak (.k 0) ⟨n+3,0⟩,ak ⟨n+3,0⟩ (e 3)],[(2,.ptr 0 (.k 0) 0),(3,.ptr 1 (.k 0) 0),(27,.sl none 7 12 (e 2) (e 3)),(28,.i .i64 (e 3)),(29,.i .i64 ⟨n+0,0⟩)],[.var [.i .i64 (.k 0),.i .i64 (.k 0),.i .i64 (.k 0),.x (.v (.string ⟨#[]⟩)),.x (.sl true 6 []),.x (.sl true 7 [])],.var [.i .i64 (e 9),.i .i64 (e 10),.i .i64 (e 11),.s (e 12),.bs 2 (.k 0) (e 14),.bs 3 (.k 0) ⟨n+1,0⟩],.row 6 1 (e 17) (e 18),.row 7 2 ⟨n+2,0⟩ ⟨n+3,0⟩],(e 3,⟨n+0,0⟩))⟩])) .nil
def zv4:List Ctr:=[dS 322 [int,int,int] [] none [(.kb true,[],[lt 2 0 1,lt 1 0 3]),(.kb false,[],[])]]
theorem zjb:ay T Gm zv4:=hoA K11 .nil
def zv7:List Ctr:=[mkC 308 [int] [] none [(.tu [int,.ir .i64 0 86399999,err],[])]]
theorem zje:ay T Gm zv7:=hoA K11 zjb
def zv8:List Ctr:=[mkC 307 [.ir .i64 (-1000000000000) 1000000000000,.ir .i64 0 10] [] none [(.sr 0 130,[])]]
theorem zai:ay T Gm zv8:=hoA K11 (hpA Jr zj5)
def zwd:List Ctr:=[mkC 279 [int] [] none [(.tu [.sr 0 400,err],[])]]
theorem zam:ay T Gm zwd:=hoA K11 (hpA zj4 zai)
def zwc:List Ctr:=[mkC 280 [int] [] none [(.tu [.sr 0 2000,err],[])]]
theorem zjj:ay T Gm zwc:=hoA K11 (hpA zje (hpA zam zai))
end Ct
end
section
open Go Go.Em Go.Ab
variable {f:FuncId}{inb:List BSh}{bx:List Bx}{args:List Sh}{xs:List X}{outs:List Xl}{a n:Nat}{Γ:Nat->Gam}{mu:Option (Nat×Nat)}{ρ:Rho}
namespace Ct
theorem sG {T:Tab}{bx':List Bx}{q:Xl}{r:X}(hq:q∈outs)(h0:ρ 0=0)(hp:0<(dS f args inb mu outs).m)(w1:q.1.own=true)(w2:q.2.1.all BSh.own=true)(h1:q.1.Is T 0 r)(h2:BIs T q.2.1 bx')
  (hF:∀n' ρ',More (dS f args inb mu outs).m ρ n' ρ'->ρ' 0=0->G T n' ρ' (q.1.bld (.k 0) (dS f args inb mu outs).m).1 r->GBs T n' ρ' (um (q.1.bld (.k 0) (dS f args inb mu outs).m).2.1 q.2.1).1 bx'->n'=(um (q.1.bld (.k 0) (dS f args inb mu outs).m).2.1 q.2.1).2.1->aY n' ρ' q.2.2)
  (h:∃B,∀N,B<=N->Γ N (.fn f) xs bx=some (r,bx')):(dS f args inb mu outs).Res T Γ ρ xs bx:=by
 obtain ⟨A,bs,F⟩:=q;dsimp only at w1 w2 h1 h2 hF;obtain ⟨B,L⟩:=h;obtain ⟨ρ1,l,E,u⟩:=Sh.fwd A (h:=.k 0) (n:=(dS f args inb mu outs).m) (ρ:=ρ) w1 hp h0 hp (by rw [Lin.k_v h0];omega);have j:=Nat.lt_of_lt_of_le hp l.le;obtain ⟨ρ2,a,H,y⟩:=sZ bs w2 j (l.zero hp h0) h2;have J:=hF _ ρ2 (l.trans a) (a.zero j (l.zero hp h0)) (u.more a) y rfl;exact ⟨zqR (dS f args inb mu outs).m (A,bs,F),by rw [wz];grind,ρ2,r,bx',l.trans a,aY.append J (aY.append (a.facts E) H),u.more a,y,B,L⟩
theorem zmz {T:Tab}(hc:(dS f args inb mu outs).Holds T Γ)(ho:Gj args=true)(hob:inb.all BSh.own=true)(ha:IsL T 0 args xs)(hb:BIs T inb bx):
  ∃ρ,GL T (dS f args inb mu outs).m ρ (oO (.k 0) 1 args).1 xs/\∃q,q∈outs/\∃n' ρ' r bx',More (dS f args inb mu outs).m ρ n' ρ'/\ρ' 0=0/\aY n' ρ' q.2.2/\G T n' ρ' (q.1.bld (.k 0) (dS f args inb mu outs).m).1 r/\q.1.Is T 0 r/\BIs T q.2.1 bx'/\∃B,∀N,B<=N->Γ N (.fn f) xs bx=some (r,bx'):=by
 obtain ⟨ρ,a⟩:=I9 (f:=f) (mu:=mu) (outs:=outs) ho hob ha hb;exact ⟨ρ,a.args,BK a.zero a.pos (hc ρ xs bx a)⟩
theorem DF {b:Nat}{c:Int}{F:List Fact}(h:aY n ρ F)(hm:lt a c b∈F):ρ a+c<=ρ b:=by have:=(aJ.1 (h _ hm)).2.2<;>grind[Lin.v]
theorem zsK {lo hi:Int}(h0:ρ 0=0)(h:aY n ρ (bd a lo hi)):lo<=ρ a/\ρ a<=hi:=by have j:=(aJ.1 (h (ak (.k lo) ⟨a,0⟩) (by simp [bd]))).2.2;have f:=(aJ.1 (h (ak ⟨a,0⟩ (.k hi)) (by simp [bd]))).2.2<;>grind[Lin.k_v,Lin.v]
theorem isP {T:Tab}{h:Int}{x:X}(hx:part.Is T h x):∃(k i:Int) (nm:qaY),x=.agg [num k,num i,aF nm]/\(nm.size:Int)<=1000000:=by
 match x,hx with
 |_,⟨xs,rfl,hx⟩=>
  match xs,hx with
  |[_,_,_],⟨⟨k,rfl⟩,⟨i,rfl⟩,⟨nm,rfl,h⟩,_⟩=>exact ⟨k,i,nm,rfl,h⟩
theorem XV (s:qaY)(h1:1<=s.size)(h2:s.size<=1000000):∃(k i:Int) (nm s2:qaY) (b:Bool),Back 122 [aF s] (.tup [.agg [num k,num i,aF nm],aF s2,aj b])/\nm.size<=1000000/\(b=true->s2.size+1<=s.size):=by
 obtain ⟨ρ,g,q,h,H,ρ',r,u,E,z,n,A,f,m,l⟩:=zmz (zjW _ (qaa.2 rfl)) rfl rfl (xs:=[aF s]) ⟨⟨s,rfl,by omega,by omega⟩,trivial⟩ (bx:=[]) trivial;have F:(s.size:Int)=ρ 1:=by
  cases g with
  |cons w _=>exact sS w
 have J:=E.same 1 (by decide);rcases qak.1 h with rfl|h
 ·obtain rfl:=nK m;obtain ⟨xs,rfl,f⟩:∃xs,r=.tup xs/\IsL T 0 [part,.s,.kb true] xs:=f
  match xs,f,A with
  |[x,y,w],⟨hx,hy,a,_⟩,.tup (.cons _ (.cons gy _))=>obtain ⟨k,i,nm,rfl,j⟩:=isP hx;obtain ⟨s2,rfl,B⟩:=isS hy;have a:w=aj true:=a;subst a;have L:(s2.size:Int)=ρ' 5:=sS gy;have:=DF n (qaa.2 rfl);exact ⟨k,i,nm,s2,true,l,by omega,fun _=>by omega⟩
 obtain rfl:=qaa.1 h;obtain rfl:=nK m;obtain ⟨xs,rfl,f⟩:∃xs,r=.tup xs/\IsL T 0 [part,.s,.kb false] xs:=f
 match xs,f with
 |[x,y,w],⟨hx,hy,a,_⟩=>obtain ⟨k,i,nm,rfl,j⟩:=isP hx;obtain ⟨s2,rfl,B⟩:=isS hy;have a:w=aj false:=a;subst a;exact ⟨k,i,nm,s2,false,l,by omega,fun e=>by cases e⟩
theorem Uy (k i:Int)(nm:qaY)(h:nm.size<=1000000):∃b,Back 123 [.agg [num k,num i,aF nm]] (aj b)/\(b=true->0<=i/\i<=1000000):=by
 obtain ⟨ρ,g,q,f,B,ρ',r,n,u,z,m,A,a,l,j⟩:=zmz (zaC _ (qaa.2 rfl)) rfl rfl (xs:=[.agg [num k,num i,aF nm]]) ⟨⟨_,rfl,⟨k,rfl⟩,⟨i,rfl⟩,⟨nm,rfl,by grind[bT]⟩,trivial⟩,trivial⟩ (bx:=[]) trivial;have E:i=ρ 2:=by
  cases g with
  |cons w _=>cases w with
   |agg w=>cases w with
    |cons _ w=>cases w with
     |cons w _=>exact sI w
 have y:=u.same 2 (by decide);rcases qak.1 f with rfl|f;·obtain rfl:=nK l;have a:r=aj true:=a;subst a;have:=zsK z m;exact ⟨true,j,fun _=>by omega⟩
 obtain rfl:=qaa.1 f;obtain rfl:=nK l;have a:r=aj false:=a;subst a;exact ⟨false,j,fun e=>by cases e⟩
end Ct
end
section
open Go Go.Em Go.Ab
namespace Ct
def zw6:List Ctr:=[dS 295 [.sl 1 5] [] none [(.bs 0,[.row 1 5],[lt 3 0 5,lt 5 0 3])]]
theorem zj3:ay T Gm zw6:=.one fun ρ L E f=>by
 obtain ⟨h,A⟩:=pG f;obtain ⟨x,rfl,y⟩:=zd9 h;obtain rfl:=nK A;obtain ⟨t,a,j,rfl,n,u,m⟩:=y;unfold bT at u;refine sG (q:=(.bs 0,[.row 1 5],[lt 3 0 5,lt 5 0 3])) (qaa.2 rfl) f.zero f.pos rfl rfl (r:=.bs 0 0 a.length) (bx':=[.row 1 a]) ⟨a.length,rfl,by grind[bT]⟩ ⟨⟨a,j,rfl,n,by grind[bT],m⟩,trivial⟩ (fun F ρ' J z g B l=>?_) (gJ (g:=D6 1) rfl ?_)
 ·subst l;have H:(a.length:Int)=ρ' 3:=by
   cases g with
   |bs _ _ _ q=>rw [q];unfold Lin.v;show ρ' 3+0=_;omega
  have M:(a.length:Int)=ρ' 5:=by
   cases B with
   |cons g _=>cases g with
    |row _ _ q _=>rw [q];unfold Lin.v;show ρ' 5+0=_;omega
  exact .cons (iZ (by decide) (by decide) (by omega)) (.cons (iZ (by decide) (by decide) (by omega)) .nil)
 show (if 1=1/\a.length<=1000000 then _ else _)=_
 grind
def zq9 (k:Nat):Ctr:=(dS 132 [.bsr 0 0 1001000,int,.slr 7 k 1 1] [.zcb 7 k 1001000] none [(.bsr 1 0 1002000,[.dead,.zcb 7 k 1002000],[lt 7 (-1) 1,lt 1 1 7,lt 7 0 9,lt 9 0 7])]).with [[lt 1 0 6,lt 6 0 1,lt 2 0 1,ak (.k 0) ⟨2,0⟩,ak ⟨6,0⟩ (.k 1001000)]]
theorem Z5 (k:Nat):(zq9 k).Holds T Gm:=fun ρ H F f=>by
 have h:(dS 132 [.bsr 0 0 1001000,int,.slr 7 k 1 1] [.zcb 7 k 1001000] none [(.bsr 1 0 1002000,[.dead,.zcb 7 k 1002000],[lt 7 (-1) 1,lt 1 1 7,lt 7 0 9,lt 9 0 7])]).Sat T ρ H F:=⟨f.zero,f.pos,f.pre,⟨[],qaa.2 rfl,.nil⟩,f.args,f.inb⟩;obtain ⟨p,O,m⟩:=f.alts;obtain rfl:=qaa.1 O;obtain ⟨J,S⟩:=pG h;have Q:=h.args;have y:=h.inb
 match H,J,Q with
 |[_,_,_],⟨⟨n,rfl,n0,n1⟩,⟨z,rfl⟩,⟨t,es,h3,rfl,hh3,hl1,hl2,hd3⟩,_⟩,.cons P (.cons g2 _)=>
  match F,S,y with
  |[_],⟨⟨rows,h5,rfl,hh5,hl5,hd5⟩,_⟩,.cons L _=>
   have e1:(n:Int)=ρ 1:=by
    cases P with
    |bs _ _ _ q=>grind[Lin.v]
   have e2:z=ρ 2:=sI g2;have Z:(rows.length:Int)=ρ 6:=by
    cases L with
    |row _ _ q _=>grind[Lin.v]
   have f1:=DF (a:=1) (b:=6) (c:=0) m (qar ..);have f2:=DF (a:=6) (b:=1) (c:=0) m (qap _ (qar ..));have f3:=DF (a:=2) (b:=1) (c:=0) m (qap _ (qap _ (qar ..)));have U:0<=ρ 2:=by have:=(aJ.1 (m (ak (.k 0) ⟨2,0⟩) (qap _ (qap _ (qap _ (qar ..)))))).2.2;rw [Lin.k_v h.zero] at this;unfold Lin.v at this;dsimp only at this;omega
   match es,hl1,hl2,hd3 with
   |[e],_,_,hd3=>
    have hz:z.toNat<=rows.length:=by omega
    have l:(rows.take z.toNat++[e]++rows.drop z.toNat).length=rows.length+1:=by simp only [qaw,qah,qaK,List.length_singleton];omega
    obtain rfl:n=rows.length:=by omega
    refine sG (q:=(.bsr 1 0 1002000,[.dead,.zcb 7 k 1002000],[lt 7 (-1) 1,lt 1 1 7,lt 7 0 9,lt 9 0 7])) (qaa.2 rfl) h.zero h.pos rfl rfl (r:=.bs 1 0 (rows.length+1)) (bx':=[.dead,.row 7 (rows.take z.toNat++[e]++rows.drop z.toNat)])
     ⟨rows.length+1,rfl,by omega,by omega⟩ ⟨rfl,⟨_,max h3 h5,rfl,by omega,by omega,fun x j=>?_⟩,trivial⟩ (fun V ρ' N Y g A M=>?_) (zbh (g:=Z4 7) rfl ?_)
    ·simp only [qaO,qaa] at j;rcases j with (j|rfl)|j;·exact gu (by omega) (hd5 x (List.mem_of_mem_take j))
     ·exact gu (by omega) (hd3 x (qaa.2 rfl))
     exact gu (by omega) (hd5 x (List.mem_of_mem_drop j))
    ·subst M;have W:=N.same 1 (show 1<7 by decide);have e7:((rows.length+1:Nat):Int)=ρ' 7:=by
      cases g with
      |bs _ _ _ q=>rw [q];unfold Lin.v;show ρ' 7+0=_;omega
     have e9:((rows.length+1:Nat):Int)=ρ' 9:=by
      cases A with
      |cons _ A=>cases A with
       |cons g _=>cases g with
        |row _ _ q _=>rw [<-l,q];unfold Lin.v;show ρ' 9+0=_;omega
     have B:(1:Nat)<10:=by decide
     have u:(7:Nat)<10:=by decide
     have E:(9:Nat)<10:=by decide
     exact .cons (iZ u B (by omega)) (.cons (iZ B u (by omega)) (.cons (iZ u E (by omega)) (.cons (iZ E u (by omega)) .nil)))
    show (if 7=7/\7=7/\rows.length=rows.length/\rows.length<=2000000/\0<=z/\z.toNat<=rows.length then _ else _)=_
    grind
where
 zbh {f:FuncId} {args:List X} {inb:List Bx} {g:List X->List Bx->Option (X×List Bx)} (hg:ext f=some g) {r:X} {bx:List Bx} (h:g args inb=some (r,bx)):∃B,∀N,B<=N->Gm N (.fn f) args inb=some (r,bx):=
  ⟨1,fun N hN=>by
   obtain ⟨M,rfl⟩:=pR_ N;show ah tab ext (M+1) (.fn f) args inb=_
   grind[ah]⟩
def zxd:List Ctr:=[zq9 2,zq9 22]
theorem zaO:ay T Gm zxd:=.cons (Z5 2) (.one (Z5 22))
theorem VP {n:Nat}{ρ:Rho}(h0:ρ 0=0){s:Nat}(hn:0<n)(hs:s<n):∃p,p∈Jd s/\aY n ρ p:=by
 have up:∀{c:Int},ρ s<=c->(ak ⟨s,0⟩ (.k c)).ok n ρ:=fun h=>aJ.2 ⟨hs,hn,by grind[Lin.k_v,Lin.v]⟩;have a:∀{c:Int},c<=ρ s->(ak (.k c) ⟨s,0⟩).ok n ρ:=fun h=>aJ.2 ⟨hn,hs,by grind[Lin.k_v,Lin.v]⟩;have y:∀{lo hi:Int},lo<=ρ s->ρ s<=hi->aY n ρ (bd s lo hi):=fun l f=>.cons (a l) (.cons (up f) .nil);unfold Jd;by_cases j:ρ s<=0;·exact ⟨_,qar ..,.cons (up j) .nil⟩
 by_cases q:ρ s<=7
 ·grind
 by_cases A:ρ s<=8
 ·grind
 by_cases m:ρ s<=9
 ·grind
 by_cases u:ρ s<=10
 ·grind
 exact ⟨_,qap _ (qap _ (qap _ (qap _ (qap _ (qar ..))))),.cons (a (by omega)) .nil⟩
end Ct
end
section
open Go Go.Em Go.Ab
namespace Ct
theorem Y0 (N:Nat):ah tab ext (N+61) (.fn 62) [.sl false 7 []] []=some (.agg [num 9,num 0,num 0,bD,.sl false 6 [],.sl false 7 []],[]):=caA [] (pf1 (Nat.le_refl 0))
def zxs:List Ctr:=[mkC 62 [.x (.sl false 7 [])] [] none [(val,[])]]
theorem zkj:ay T Gm zxs:=.one (dH (fun o f=>by rw [qaa.1 f];exact ⟨rfl,rfl⟩) fun m l h j=>by obtain ⟨x,rfl,rfl,_⟩:=zd9 h;obtain rfl:=nK j;refine ⟨_,qaa.2 rfl,.agg [num 9,num 0,num 0,bD,.sl false 6 [],.sl false 7 []],[],⟨0,_,rfl,by decide,⟨9,rfl⟩,⟨0,rfl⟩,⟨0,rfl⟩,⟨⟨#[]⟩,rfl,by decide⟩,⟨false,[],rfl,by decide,fun e a=>by cases a⟩,⟨false,[],rfl,by decide,fun e a=>by cases a⟩,trivial⟩,trivial,61,fun N n=>?_⟩;obtain ⟨M,rfl⟩:∃M,N=M+61:=⟨N-61,by omega⟩;exact Y0 M)
end Ct
end
end Go.Proofs.YtpcjeobkehmhpaaGreatDoor
