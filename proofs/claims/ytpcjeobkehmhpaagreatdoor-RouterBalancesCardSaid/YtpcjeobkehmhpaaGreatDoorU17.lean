/-.-/
import Derived.Lib.ItoaLen
import Derived.Lib.AtoiAllCases
import Derived.Lib.TrimU
import Derived.Lib.RuneCount
import Derived.Test.YtpcjeobkehmhpaaGreatDoorEmU7
import Derived.Test.YtpcjeobkehmhpaaGreatDoorEmU8
import Derived.Test.YtpcjeobkehmhpaaGreatDoorEmU12
import Derived.Test.YtpcjeobkehmhpaaGreatDoorU13
import Derived.Test.YtpcjeobkehmhpaaGreatDoorU14
import Derived.Test.YtpcjeobkehmhpaaGreatDoorU16
set_option linter.unusedSimpArgs false
set_option linter.unusedVariables false
namespace Go.Proofs.YtpcjeobkehmhpaaGreatDoor
open Go.Em
set_option maxRecDepth 100000
structure Nod where
 name:qaZ
 kind:Int
 schema:Int
 result:Int
 number:Int
 time:Int
 limit:Int
 text:qaZ
 ty:Int×Int×Int×Int
 words:qaY
 elem:qaY
 fields:qaY
 types:qaY
 exprs:qaY
 calls:qaY
 rules:qaY
 next:qaY
def Nod.cells (n:Nod):List X:=[aC n.name,num n.kind,num n.schema,num n.result,num n.number,num n.time,num n.limit,aC n.text,num n.ty.1,num n.ty.2.1,num n.ty.2.2.1,num n.ty.2.2.2,.sl false 1 n.words,.sl false 7 n.elem,.sl false 11 n.fields,.sl false 7 n.types,.sl false 5 n.exprs,.sl false 6 n.rules,.sl false 2 n.calls,.sl false 1 n.next]
def isNode (c:List X):Prop:=∃(name:qaZ) (k1 k2 k3 k4 k5 k6:Int) (text:qaZ) (T:List X) (ty ex ru ca ne:qaY),c=[aC name,num k1,num k2,num k3,num k4,num k5,num k6,aC text]++(T++[.sl false 7 ty,.sl false 5 ex,.sl false 6 ru,.sl false 2 ca,.sl false 1 ne])/\Jo 3 T/\(∀x,x∈ty->Jo 3 x)/\(∀x,x∈ex->Jq 3 x)/\(∀x,x∈ru->tY x)/\∀x,x∈ca->SS x
def Nod.small (n:Nod):Prop:=n.name.size<=60/\n.text.size<=60/\sT 4 (dI n.ty.1 n.ty.2.1 n.ty.2.2.1 n.ty.2.2.2 n.words n.elem n.fields)/\n.exprs.length<=8/\(∀x,x∈n.exprs->sE 4 x)/\n.rules.length<=8/\∀x,x∈n.rules->wE x
theorem Gj {c:List X}(h:isNode c):∃nd nd':Nod,c=nd.cells/\nd'.small/\∀N,220<=N->Gam.aF (ah tab ext N) 14 [.agg nd.cells]=some (.agg nd'.cells):=by obtain ⟨name,k1,k2,k3,k4,k5,k6,text,T,ty,ex,ru,ca,ne,rfl,hT,hty,hex,hru,hca⟩:=h;obtain ⟨a,b,c,d,w,e,f,a',b',c',d',w',e',f',ty',ex',ru',ca',ne',rfl,hs,hc⟩:=UA name text k1 k2 k3 k4 k5 k6 T ty ex ru ca ne hT hty hex hru hca;exact ⟨⟨name,k1,k2,k3,k4,k5,k6,text,(a,b,c,d),w,e,f,ty,ex,ca,ru,ne⟩,⟨gK 60 name,k1,k2,k3,k4,k5,k6,gK 60 text,(a',b',c',d'),w',e',f',ty',ex',ca',ru',ne'⟩,rfl,hs,hc⟩
end Go.Proofs.YtpcjeobkehmhpaaGreatDoor
namespace Go.Proofs.YtpcjeobkehmhpaaGreatDoor
open Go.Em Go.RowKit
set_option maxRecDepth 100000
theorem Tryz.own:ownKnob Tryz.prog.godebug=none:=by kernel_rfl
theorem Tryz.laidOut:laidOutB Tryz.prog=true:=by kernel_rfl
theorem Tryz.rowed:mapsRowed Tryz.prog=true:=by kernel_rfl
def tys:List TypeId:=[3,4,9,35,37,53,22,23,24,26,27,28,30,31,32,34,39,40,41,43,45,47,87,81,118,103,106,143]
theorem AB:DC Tryz.prog tys=true:=by kernel_rfl
theorem zcy:tys.all (fun t=>decide (t<Tryz.prog.types.size))=true:=by kernel_rfl
theorem XC {t:TypeId}(h:t∈tys):t<Tryz.prog.types.size:=of_decide_eq_true (qas.1 zcy t h)
theorem Ii:Kids Tryz.prog (fun t=>t∈tys/\t<Tryz.prog.types.size):=ZA (kids_rows Tryz.laidOut Tryz.rowed) AB
def fieldsOf (P:Program)(t:TypeId):Array Field:=match P.underlying t with
 |some (.struct fs)=>fs
 |_=>#[]
theorem zl6:Tryz.prog.underlying 3=some (.int .i64):=by kernel_rfl
theorem Rk:Tryz.prog.underlying 4=some .bool:=by kernel_rfl
theorem zl5:Tryz.prog.underlying 9=some .string:=by kernel_rfl
theorem zgJ:Tryz.prog.underlying 37=some (.struct (fieldsOf Tryz.prog 37)):=by kernel_rfl
theorem zeL:(fieldsOf Tryz.prog 37).toList.map (·.type)=[3,3,35]:=by kernel_rfl
theorem zgR:Tryz.prog.underlying 26=some (.struct (fieldsOf Tryz.prog 26)):=by kernel_rfl
theorem zeO:(fieldsOf Tryz.prog 26).toList.map (·.type)=[3,3,3,3,22,23,24]:=by kernel_rfl
theorem zgO:Tryz.prog.underlying 30=some (.struct (fieldsOf Tryz.prog 30)):=by kernel_rfl
theorem zeN:(fieldsOf Tryz.prog 30).toList.map (·.type)=[28]:=by kernel_rfl
theorem zgL:Tryz.prog.underlying 34=some (.struct (fieldsOf Tryz.prog 34)):=by kernel_rfl
theorem zeM:(fieldsOf Tryz.prog 34).toList.map (·.type)=[9,3,3,3,3,3,3,9,26,23,27,30,31,32]:=by kernel_rfl
theorem zgI:Tryz.prog.underlying 39=some (.struct (fieldsOf Tryz.prog 39)):=by kernel_rfl
theorem zeK:(fieldsOf Tryz.prog 39).toList.map (·.type)=[3,32]:=by kernel_rfl
theorem zgF:Tryz.prog.underlying 43=some (.struct (fieldsOf Tryz.prog 43)):=by kernel_rfl
theorem zeJ:(fieldsOf Tryz.prog 43).toList.map (·.type)=[3,3,3,9,40,41]:=by kernel_rfl
theorem zgE:Tryz.prog.underlying 45=some (.struct (fieldsOf Tryz.prog 45)):=by kernel_rfl
theorem zeI:(fieldsOf Tryz.prog 45).toList.map (·.type)=[39,3,32,43]:=by kernel_rfl
theorem zgD:Tryz.prog.underlying 47=some (.struct (fieldsOf Tryz.prog 47)):=by kernel_rfl
theorem zeH:(fieldsOf Tryz.prog 47).toList.map (·.type)=[3,3,39,45,3,4,4,43]:=by kernel_rfl
theorem zgA:Tryz.prog.underlying 87=some (.struct (fieldsOf Tryz.prog 87)):=by kernel_rfl
theorem zeF:(fieldsOf Tryz.prog 87).toList.map (·.type)=[43,3,3,53,40]:=by kernel_rfl
theorem zgB:Tryz.prog.underlying 81=some (.struct (fieldsOf Tryz.prog 81)):=by kernel_rfl
theorem zeG:(fieldsOf Tryz.prog 81).toList.map (·.type)=[3,3,9,40,27]:=by kernel_rfl
theorem zcv:Tryz.prog.underlying 118=some (.struct (fieldsOf Tryz.prog 118)):=by kernel_rfl
theorem zaV:(fieldsOf Tryz.prog 118).toList.map (·.type)=[9,43]:=by kernel_rfl
theorem zcx:Tryz.prog.underlying 103=some (.struct (fieldsOf Tryz.prog 103)):=by kernel_rfl
theorem zaX:(fieldsOf Tryz.prog 103).toList.map (·.type)=[9,81]:=by kernel_rfl
theorem zcw:Tryz.prog.underlying 106=some (.struct (fieldsOf Tryz.prog 106)):=by kernel_rfl
theorem zaW:(fieldsOf Tryz.prog 106).toList.map (·.type)=[9,30]:=by kernel_rfl
theorem zcu:Tryz.prog.underlying 143=some (.struct (fieldsOf Tryz.prog 143)):=by kernel_rfl
theorem zaU:(fieldsOf Tryz.prog 143).toList.map (·.type)=[3,9,3,26,40]:=by kernel_rfl
theorem zgK:Tryz.prog.underlying 35=some (.slice 87):=by kernel_rfl
theorem zgC:Tryz.prog.underlying 53=some (.slice 45):=by kernel_rfl
theorem zgU:Tryz.prog.underlying 22=some (.slice 9):=by kernel_rfl
theorem zgT:Tryz.prog.underlying 23=some (.slice 26):=by kernel_rfl
theorem zgS:Tryz.prog.underlying 24=some (.slice 143):=by kernel_rfl
theorem zgQ:Tryz.prog.underlying 27=some (.slice 81):=by kernel_rfl
theorem zgP:Tryz.prog.underlying 28=some (.slice 103):=by kernel_rfl
theorem zgN:Tryz.prog.underlying 31=some (.slice 106):=by kernel_rfl
theorem zgM:Tryz.prog.underlying 32=some (.slice 3):=by kernel_rfl
theorem zgH:Tryz.prog.underlying 40=some (.slice 43):=by kernel_rfl
theorem zgG:Tryz.prog.underlying 41=some (.slice 118):=by kernel_rfl
theorem cells3:Tryz.prog.cellsOf 3=1:=by kernel_rfl
theorem cells9:Tryz.prog.cellsOf 9=1:=by kernel_rfl
theorem cells26:Tryz.prog.cellsOf 26=7:=by kernel_rfl
theorem cells43:Tryz.prog.cellsOf 43=6:=by kernel_rfl
theorem zkA:Tryz.prog.cellsOf 45=10:=by kernel_rfl
theorem zky:Tryz.prog.cellsOf 87=10:=by kernel_rfl
theorem zkz:Tryz.prog.cellsOf 81=5:=by kernel_rfl
theorem ze0:Tryz.prog.cellsOf 118=7:=by kernel_rfl
theorem ze2:Tryz.prog.cellsOf 103=6:=by kernel_rfl
theorem ze1:Tryz.prog.cellsOf 106=2:=by kernel_rfl
theorem zeZ:Tryz.prog.cellsOf 143=11:=by kernel_rfl
variable {n:Nat} {xs:List X}
theorem aZ (h:Shape Tryz.prog n 3 xs):∃z,xs=[num z]:=by obtain ⟨v,rfl,_⟩:=Yw zl6 h;exact ⟨v,rfl⟩
theorem fB (h:Shape Tryz.prog n 9 xs):∃s,xs=[aC s]:=by obtain ⟨v,rfl,_⟩:=Lr zl5 h;exact ⟨v,rfl⟩
theorem FM (h:Shape Tryz.prog n 4 xs):∃b,xs=[ak b]:=U0 Rk h
theorem UQ (h:Shape Tryz.prog n 35 xs):∃es,xs=[.sl false 10 es]/\∃m,m<n/\∀c,c∈es->Shape Tryz.prog m 87 c:=by obtain ⟨es,rfl,_,h⟩:=dS zgK h<;>simp_all[zky]
theorem UN (h:Shape Tryz.prog n 53 xs):∃es,xs=[.sl false 10 es]/\∃m,m<n/\∀c,c∈es->Shape Tryz.prog m 45 c:=by obtain ⟨es,rfl,_,h⟩:=dS zgC h<;>simp_all[zkA]
theorem FI (h:Shape Tryz.prog n 22 xs):∃es,xs=[.sl false 1 es]/\∃m,m<n/\∀c,c∈es->Shape Tryz.prog m 9 c:=by obtain ⟨es,rfl,_,h⟩:=dS zgU h<;>simp_all[cells9]
theorem xg (h:Shape Tryz.prog n 23 xs):∃es,xs=[.sl false 7 es]/\∃m,m<n/\∀c,c∈es->Shape Tryz.prog m 26 c:=by obtain ⟨es,rfl,_,h⟩:=dS zgT h<;>simp_all[cells26]
theorem FH (h:Shape Tryz.prog n 24 xs):∃es,xs=[.sl false 11 es]/\∃m,m<n/\∀c,c∈es->Shape Tryz.prog m 143 c:=by obtain ⟨es,rfl,_,h⟩:=dS zgS h<;>simp_all[zeZ]
theorem wZ (h:Shape Tryz.prog n 27 xs):∃es,xs=[.sl false 5 es]/\∃m,m<n/\∀c,c∈es->Shape Tryz.prog m 81 c:=by obtain ⟨es,rfl,_,h⟩:=dS zgQ h<;>simp_all[zkz]
theorem UU (h:Shape Tryz.prog n 28 xs):∃es,xs=[.sl false 6 es]/\∃m,m<n/\∀c,c∈es->Shape Tryz.prog m 103 c:=by obtain ⟨es,rfl,_,h⟩:=dS zgP h<;>simp_all[ze2]
theorem UR (h:Shape Tryz.prog n 31 xs):∃es,xs=[.sl false 2 es]/\∃m,m<n/\∀c,c∈es->Shape Tryz.prog m 106 c:=by obtain ⟨es,rfl,_,h⟩:=dS zgN h<;>simp_all[ze1]
theorem FD (h:Shape Tryz.prog n 32 xs):∃es,xs=[.sl false 1 es]/\∃m,m<n/\∀c,c∈es->Shape Tryz.prog m 3 c:=by obtain ⟨es,rfl,_,h⟩:=dS zgM h<;>simp_all[cells3]
theorem nO (h:Shape Tryz.prog n 40 xs):∃es,xs=[.sl false 6 es]/\∃m,m<n/\∀c,c∈es->Shape Tryz.prog m 43 c:=by obtain ⟨es,rfl,_,h⟩:=dS zgH h<;>simp_all[cells43]
theorem UO (h:Shape Tryz.prog n 41 xs):∃es,xs=[.sl false 7 es]/\∃m,m<n/\∀c,c∈es->Shape Tryz.prog m 118 c:=by obtain ⟨es,rfl,_,h⟩:=dS zgG h<;>simp_all[ze0]
theorem UK (h:Shape Tryz.prog n 37 xs):∃m,m<n/\∃x0 x1 x2,xs=x0++(x1++(x2++[]))/\Shape Tryz.prog m 3 x0/\Shape Tryz.prog m 3 x1/\Shape Tryz.prog m 35 x2:=by
 obtain ⟨m,hm,hk⟩:=bU zgJ h;rw [zeL] at hk;obtain ⟨x0,r0,rfl,h0,hk⟩:=hk;obtain ⟨x1,r1,rfl,h1,hk⟩:=hk;obtain ⟨x2,r2,rfl,h2,hk⟩:=hk;have hk:r2=[]:=hk
 grind
theorem FC (h:Shape Tryz.prog n 26 xs):∃m,m<n/\∃x0 x1 x2 x3 x4 x5 x6,xs=x0++(x1++(x2++(x3++(x4++(x5++(x6++[]))))))/\Shape Tryz.prog m 3 x0/\Shape Tryz.prog m 3 x1/\Shape Tryz.prog m 3 x2/\Shape Tryz.prog m 3 x3/\Shape Tryz.prog m 22 x4/\Shape Tryz.prog m 23 x5/\Shape Tryz.prog m 24 x6:=by
 obtain ⟨m,hm,hk⟩:=bU zgR h;rw [zeO] at hk;obtain ⟨x0,r0,rfl,h0,hk⟩:=hk;obtain ⟨x1,r1,rfl,h1,hk⟩:=hk;obtain ⟨x2,r2,rfl,h2,hk⟩:=hk;obtain ⟨x3,r3,rfl,h3,hk⟩:=hk;obtain ⟨x4,r4,rfl,h4,hk⟩:=hk;obtain ⟨x5,r5,rfl,h5,hk⟩:=hk;obtain ⟨x6,r6,rfl,h6,hk⟩:=hk;have hk:r6=[]:=hk
 grind
theorem UM (h:Shape Tryz.prog n 30 xs):∃m,m<n/\∃x0,xs=x0++[]/\Shape Tryz.prog m 28 x0:=by
 obtain ⟨m,hm,hk⟩:=bU zgO h;rw [zeN] at hk;obtain ⟨x0,r0,rfl,h0,hk⟩:=hk;have hk:r0=[]:=hk
 grind
theorem UL (h:Shape Tryz.prog n 34 xs):∃m,m<n/\∃x0 x1 x2 x3 x4 x5 x6 x7 x8 x9 x10 x11 x12 x13,xs=x0++(x1++(x2++(x3++(x4++(x5++(x6++(x7++(x8++(x9++(x10++(x11++(x12++(x13++[])))))))))))))/\Shape Tryz.prog m 9 x0/\Shape Tryz.prog m 3 x1/\Shape Tryz.prog m 3 x2/\Shape Tryz.prog m 3 x3/\Shape Tryz.prog m 3 x4/\Shape Tryz.prog m 3 x5/\Shape Tryz.prog m 3 x6/\Shape Tryz.prog m 9 x7/\Shape Tryz.prog m 26 x8/\Shape Tryz.prog m 23 x9/\Shape Tryz.prog m 27 x10/\Shape Tryz.prog m 30 x11/\Shape Tryz.prog m 31 x12/\Shape Tryz.prog m 32 x13:=by
 obtain ⟨m,hm,hk⟩:=bU zgL h;rw [zeM] at hk;obtain ⟨x0,r0,rfl,h0,hk⟩:=hk;obtain ⟨x1,r1,rfl,h1,hk⟩:=hk;obtain ⟨x2,r2,rfl,h2,hk⟩:=hk;obtain ⟨x3,r3,rfl,h3,hk⟩:=hk;obtain ⟨x4,r4,rfl,h4,hk⟩:=hk;obtain ⟨x5,r5,rfl,h5,hk⟩:=hk;obtain ⟨x6,r6,rfl,h6,hk⟩:=hk;obtain ⟨x7,r7,rfl,h7,hk⟩:=hk;obtain ⟨x8,r8,rfl,h8,hk⟩:=hk;obtain ⟨x9,r9,rfl,h9,hk⟩:=hk;obtain ⟨x10,r10,rfl,h10,hk⟩:=hk;obtain ⟨x11,r11,rfl,h11,hk⟩:=hk;obtain ⟨x12,r12,rfl,h12,hk⟩:=hk;obtain ⟨x13,r13,rfl,h13,hk⟩:=hk;have hk:r13=[]:=hk
 grind
theorem UJ (h:Shape Tryz.prog n 39 xs):∃m,m<n/\∃x0 x1,xs=x0++(x1++[])/\Shape Tryz.prog m 3 x0/\Shape Tryz.prog m 32 x1:=by
 obtain ⟨m,hm,hk⟩:=bU zgI h;rw [zeK] at hk;obtain ⟨x0,r0,rfl,h0,hk⟩:=hk;obtain ⟨x1,r1,rfl,h1,hk⟩:=hk;have hk:r1=[]:=hk
 grind
theorem UH (h:Shape Tryz.prog n 43 xs):∃m,m<n/\∃x0 x1 x2 x3 x4 x5,xs=x0++(x1++(x2++(x3++(x4++(x5++[])))))/\Shape Tryz.prog m 3 x0/\Shape Tryz.prog m 3 x1/\Shape Tryz.prog m 3 x2/\Shape Tryz.prog m 9 x3/\Shape Tryz.prog m 40 x4/\Shape Tryz.prog m 41 x5:=by
 obtain ⟨m,hm,hk⟩:=bU zgF h;rw [zeJ] at hk;obtain ⟨x0,r0,rfl,h0,hk⟩:=hk;obtain ⟨x1,r1,rfl,h1,hk⟩:=hk;obtain ⟨x2,r2,rfl,h2,hk⟩:=hk;obtain ⟨x3,r3,rfl,h3,hk⟩:=hk;obtain ⟨x4,r4,rfl,h4,hk⟩:=hk;obtain ⟨x5,r5,rfl,h5,hk⟩:=hk;have hk:r5=[]:=hk
 grind
theorem UG (h:Shape Tryz.prog n 45 xs):∃m,m<n/\∃x0 x1 x2 x3,xs=x0++(x1++(x2++(x3++[])))/\Shape Tryz.prog m 39 x0/\Shape Tryz.prog m 3 x1/\Shape Tryz.prog m 32 x2/\Shape Tryz.prog m 43 x3:=by
 obtain ⟨m,hm,hk⟩:=bU zgE h;rw [zeI] at hk;obtain ⟨x0,r0,rfl,h0,hk⟩:=hk;obtain ⟨x1,r1,rfl,h1,hk⟩:=hk;obtain ⟨x2,r2,rfl,h2,hk⟩:=hk;obtain ⟨x3,r3,rfl,h3,hk⟩:=hk;have hk:r3=[]:=hk
 grind
theorem UF (h:Shape Tryz.prog n 47 xs):∃m,m<n/\∃x0 x1 x2 x3 x4 x5 x6 x7,xs=x0++(x1++(x2++(x3++(x4++(x5++(x6++(x7++[])))))))/\Shape Tryz.prog m 3 x0/\Shape Tryz.prog m 3 x1/\Shape Tryz.prog m 39 x2/\Shape Tryz.prog m 45 x3/\Shape Tryz.prog m 3 x4/\Shape Tryz.prog m 4 x5/\Shape Tryz.prog m 4 x6/\Shape Tryz.prog m 43 x7:=by
 obtain ⟨m,hm,hk⟩:=bU zgD h;rw [zeH] at hk;obtain ⟨x0,r0,rfl,h0,hk⟩:=hk;obtain ⟨x1,r1,rfl,h1,hk⟩:=hk;obtain ⟨x2,r2,rfl,h2,hk⟩:=hk;obtain ⟨x3,r3,rfl,h3,hk⟩:=hk;obtain ⟨x4,r4,rfl,h4,hk⟩:=hk;obtain ⟨x5,r5,rfl,h5,hk⟩:=hk;obtain ⟨x6,r6,rfl,h6,hk⟩:=hk;obtain ⟨x7,r7,rfl,h7,hk⟩:=hk;have hk:r7=[]:=hk
 grind
theorem UE (h:Shape Tryz.prog n 87 xs):∃m,m<n/\∃x0 x1 x2 x3 x4,xs=x0++(x1++(x2++(x3++(x4++[]))))/\Shape Tryz.prog m 43 x0/\Shape Tryz.prog m 3 x1/\Shape Tryz.prog m 3 x2/\Shape Tryz.prog m 53 x3/\Shape Tryz.prog m 40 x4:=by
 obtain ⟨m,hm,hk⟩:=bU zgA h;rw [zeF] at hk;obtain ⟨x0,r0,rfl,h0,hk⟩:=hk;obtain ⟨x1,r1,rfl,h1,hk⟩:=hk;obtain ⟨x2,r2,rfl,h2,hk⟩:=hk;obtain ⟨x3,r3,rfl,h3,hk⟩:=hk;obtain ⟨x4,r4,rfl,h4,hk⟩:=hk;have hk:r4=[]:=hk
 grind
theorem FB (h:Shape Tryz.prog n 81 xs):∃m,m<n/\∃x0 x1 x2 x3 x4,xs=x0++(x1++(x2++(x3++(x4++[]))))/\Shape Tryz.prog m 3 x0/\Shape Tryz.prog m 3 x1/\Shape Tryz.prog m 9 x2/\Shape Tryz.prog m 40 x3/\Shape Tryz.prog m 27 x4:=by
 obtain ⟨m,hm,hk⟩:=bU zgB h;rw [zeG] at hk;obtain ⟨x0,r0,rfl,h0,hk⟩:=hk;obtain ⟨x1,r1,rfl,h1,hk⟩:=hk;obtain ⟨x2,r2,rfl,h2,hk⟩:=hk;obtain ⟨x3,r3,rfl,h3,hk⟩:=hk;obtain ⟨x4,r4,rfl,h4,hk⟩:=hk;have hk:r4=[]:=hk
 grind
theorem Ox (h:Shape Tryz.prog n 118 xs):∃m,m<n/\∃x0 x1,xs=x0++(x1++[])/\Shape Tryz.prog m 9 x0/\Shape Tryz.prog m 43 x1:=by
 obtain ⟨m,hm,hk⟩:=bU zcv h;rw [zaV] at hk;obtain ⟨x0,r0,rfl,h0,hk⟩:=hk;obtain ⟨x1,r1,rfl,h1,hk⟩:=hk;have hk:r1=[]:=hk
 grind
theorem Oz (h:Shape Tryz.prog n 103 xs):∃m,m<n/\∃x0 x1,xs=x0++(x1++[])/\Shape Tryz.prog m 9 x0/\Shape Tryz.prog m 81 x1:=by
 obtain ⟨m,hm,hk⟩:=bU zcx h;rw [zaX] at hk;obtain ⟨x0,r0,rfl,h0,hk⟩:=hk;obtain ⟨x1,r1,rfl,h1,hk⟩:=hk;have hk:r1=[]:=hk
 grind
theorem Oy (h:Shape Tryz.prog n 106 xs):∃m,m<n/\∃x0 x1,xs=x0++(x1++[])/\Shape Tryz.prog m 9 x0/\Shape Tryz.prog m 30 x1:=by
 obtain ⟨m,hm,hk⟩:=bU zcw h;rw [zaW] at hk;obtain ⟨x0,r0,rfl,h0,hk⟩:=hk;obtain ⟨x1,r1,rfl,h1,hk⟩:=hk;have hk:r1=[]:=hk
 grind
theorem Ov (h:Shape Tryz.prog n 143 xs):∃m,m<n/\∃x0 x1 x2 x3 x4,xs=x0++(x1++(x2++(x3++(x4++[]))))/\Shape Tryz.prog m 3 x0/\Shape Tryz.prog m 9 x1/\Shape Tryz.prog m 3 x2/\Shape Tryz.prog m 26 x3/\Shape Tryz.prog m 40 x4:=by
 obtain ⟨m,hm,hk⟩:=bU zcu h;rw [zaU] at hk;obtain ⟨x0,r0,rfl,h0,hk⟩:=hk;obtain ⟨x1,r1,rfl,h1,hk⟩:=hk;obtain ⟨x2,r2,rfl,h2,hk⟩:=hk;obtain ⟨x3,r3,rfl,h3,hk⟩:=hk;obtain ⟨x4,r4,rfl,h4,hk⟩:=hk;have hk:r4=[]:=hk
 grind
theorem qG:∀(n:Nat) (xs:List X),Shape Tryz.prog n 43 xs->∃v:Val,xs=v.cells:=by
 intro n;induction n using Nat.strongRecOn with
 |_ n ih=>
  intro xs h;obtain ⟨m,hm,x0,x1,x2,x3,x4,x5,rfl,h0,h1,h2,h3,h4,h5⟩:=UH h;obtain ⟨k,rfl⟩:=aZ h0;obtain ⟨i,rfl⟩:=aZ h1;obtain ⟨s,rfl⟩:=aZ h2;obtain ⟨t,rfl⟩:=fB h3;obtain ⟨es,rfl,m1,hm1,he⟩:=nO h4;obtain ⟨fs,rfl,m2,hm2,hf⟩:=UO h5;obtain ⟨l,rfl⟩:=xX Val.cells fun c hc=>ih m1 (by omega) c (he c hc);obtain ⟨f,rfl⟩:=xX (fun p:qaZ×Val=>aC p.1::p.2.cells) (es:=fs) fun c hc=>by obtain ⟨m3,hm3,y0,y1,rfl,g0,g1⟩:=Ox (hf c hc);obtain ⟨nm,rfl⟩:=fB g0;obtain ⟨v,rfl⟩:=ih m3 (by omega) y1 g1;exact ⟨(nm,v),by simp⟩
  exact ⟨.mk k i s t l f,by grind[Val.cells,jW,rO]⟩
theorem UD (h:Shape Tryz.prog n 40 xs):∃l:List Val,xs=[.sl false 6 (au l)]:=by obtain ⟨es,rfl,m,_,he⟩:=nO h;obtain ⟨l,rfl⟩:=xX Val.cells fun c hc=>qG m c (he c hc);exact ⟨l,by rw [jW]⟩
theorem qH {es:qaY}{m:Nat}(h:∀c,c∈es->Shape Tryz.prog m 43 c):∀c,c∈es->isVal c:=fun c hc=>qG m c (h c hc)
theorem FK (h:Shape Tryz.prog n 32 xs):∃l:List Int,xs=[.sl false 1 (aI l)]:=by obtain ⟨es,rfl,m,_,he⟩:=FD h;obtain ⟨l,rfl⟩:=xX (fun z:Int=>[num z]) fun c hc=>aZ (he c hc);exact ⟨l,rfl⟩
theorem Ls (h:Shape Tryz.prog n 39 xs):∃s:Stp,xs=s.cells:=by obtain ⟨m,hm,x0,x1,rfl,h0,h1⟩:=UJ h;obtain ⟨e,rfl⟩:=aZ h0;obtain ⟨p,rfl⟩:=FK h1;exact ⟨⟨e,p⟩,rfl⟩
theorem Lu (h:Shape Tryz.prog n 45 xs):∃s:Msg,xs=s.cells:=by obtain ⟨m,hm,x0,x1,x2,x3,rfl,h0,h1,h2,h3⟩:=UG h;obtain ⟨s,rfl⟩:=Ls h0;obtain ⟨k,rfl⟩:=aZ h1;obtain ⟨p,rfl⟩:=FK h2;obtain ⟨v,rfl⟩:=qG _ _ h3;exact ⟨⟨s,k,p,v⟩,by grind[Msg.cells,Stp.cells]⟩
theorem UY (h:Shape Tryz.prog n 53 xs):∃l:List Msg,xs=[.sl false 10 (aP l)]:=by obtain ⟨es,rfl,m,_,he⟩:=UN h;obtain ⟨l,rfl⟩:=xX Msg.cells fun c hc=>Lu (he c hc);exact ⟨l,rfl⟩
theorem Yv (h:Shape Tryz.prog n 87 xs):∃s:Slt,xs=s.cells:=by obtain ⟨m,hm,x0,x1,x2,x3,x4,rfl,h0,h1,h2,h3,h4⟩:=UE h;obtain ⟨⟨k,i,s,t,l,f⟩,rfl⟩:=qG _ _ h0;obtain ⟨a,rfl⟩:=aZ h1;obtain ⟨b,rfl⟩:=aZ h2;obtain ⟨ms,rfl⟩:=UY h3;obtain ⟨vs,rfl⟩:=UD h4;exact ⟨⟨.mk k i s t l f,a,b,ms,vs⟩,rfl⟩
theorem Ba (h:Shape Tryz.prog n 37 xs):∃s:Stt,xs=s.cells:=by obtain ⟨m,hm,x0,x1,x2,rfl,h0,h1,h2⟩:=UK h;obtain ⟨a,rfl⟩:=aZ h0;obtain ⟨b,rfl⟩:=aZ h1;obtain ⟨es,rfl,m',_,he⟩:=UQ h2;obtain ⟨l,rfl⟩:=xX Slt.cells fun c hc=>Yv (he c hc);exact ⟨⟨a,b,l⟩,rfl⟩
theorem Bd (h:Shape Tryz.prog n 47 xs):∃i:Inp,xs=i.cells:=by obtain ⟨m,hm,x0,x1,x2,x3,x4,x5,x6,x7,rfl,h0,h1,h2,h3,h4,h5,h6,h7⟩:=UF h;obtain ⟨a,rfl⟩:=aZ h0;obtain ⟨b,rfl⟩:=aZ h1;obtain ⟨s,rfl⟩:=Ls h2;obtain ⟨g,rfl⟩:=Lu h3;obtain ⟨x,rfl⟩:=aZ h4;obtain ⟨b1,rfl⟩:=FM h5;obtain ⟨b2,rfl⟩:=FM h6;obtain ⟨v,rfl⟩:=qG _ _ h7;exact ⟨⟨a,b,s,g,x,b1,b2,v⟩,by simp [Inp.cells,Msg.cells,Stp.cells]⟩
theorem Bf:∀(k:Nat) {n:Nat} {xs:List X},Shape Tryz.prog n 81 xs->Jq k xs
 |0,n,xs,h=>by obtain ⟨m,hm,x0,x1,x2,x3,x4,rfl,h0,h1,h2,h3,h4⟩:=FB h;obtain ⟨o,rfl⟩:=aZ h0;obtain ⟨i,rfl⟩:=aZ h1;obtain ⟨t,rfl⟩:=fB h2;obtain ⟨vs,rfl,m1,_,hv⟩:=nO h3;obtain ⟨es,rfl,m2,_,he⟩:=wZ h4;exact ⟨o,i,t,vs,es,rfl,qH hv⟩
 |k+1,n,xs,h=>by obtain ⟨m,hm,x0,x1,x2,x3,x4,rfl,h0,h1,h2,h3,h4⟩:=FB h;obtain ⟨o,rfl⟩:=aZ h0;obtain ⟨i,rfl⟩:=aZ h1;obtain ⟨t,rfl⟩:=fB h2;obtain ⟨vs,rfl,m1,_,hv⟩:=nO h3;obtain ⟨es,rfl,m2,_,he⟩:=wZ h4;exact ⟨o,i,t,vs,es,rfl,qH hv,fun x hx=>Bf k (he x hx)⟩
theorem vC:∀(k:Nat) {n:Nat} {xs:List X},Shape Tryz.prog n 26 xs->Jo k xs
 |0,n,xs,h=>by obtain ⟨m,hm,x0,x1,x2,x3,x4,x5,x6,rfl,h0,h1,h2,h3,h4,h5,h6⟩:=FC h;obtain ⟨a,rfl⟩:=aZ h0;obtain ⟨b,rfl⟩:=aZ h1;obtain ⟨c,rfl⟩:=aZ h2;obtain ⟨d,rfl⟩:=aZ h3;obtain ⟨w,rfl,m1,_,hw⟩:=FI h4;obtain ⟨e,rfl,m2,_,he⟩:=xg h5;obtain ⟨f,rfl,m3,_,hf⟩:=FH h6;exact ⟨a,b,c,d,w,e,f,rfl,fun x hx=>fB (hw x hx)⟩
 |k+1,n,xs,h=>by obtain ⟨m,hm,x0,x1,x2,x3,x4,x5,x6,rfl,h0,h1,h2,h3,h4,h5,h6⟩:=FC h;obtain ⟨a,rfl⟩:=aZ h0;obtain ⟨b,rfl⟩:=aZ h1;obtain ⟨c,rfl⟩:=aZ h2;obtain ⟨d,rfl⟩:=aZ h3;obtain ⟨w,rfl,m1,_,hw⟩:=FI h4;obtain ⟨e,rfl,m2,_,he⟩:=xg h5;obtain ⟨f,rfl,m3,_,hf⟩:=FH h6;refine ⟨a,b,c,d,w,e,f,rfl,fun x hx=>fB (hw x hx),fun x hx=>vC k (he x hx),fun x hx=>?_⟩;obtain ⟨m4,_,y0,y1,y2,T,y4,rfl,g0,g1,g2,g3,g4⟩:=Ov (hf x hx);obtain ⟨p,rfl⟩:=aZ g0;obtain ⟨t,rfl⟩:=fB g1;obtain ⟨y,rfl⟩:=aZ g2;obtain ⟨de,rfl,m5,_,hd⟩:=nO g4;exact ⟨p,t,y,T,de,by simp,vC k g3,qH hd⟩
theorem UW (h:Shape Tryz.prog n 103 xs):tY xs:=by obtain ⟨m,hm,x0,x1,rfl,h0,h1⟩:=Oz h;obtain ⟨t,rfl⟩:=fB h0;exact ⟨t,x1,by simp,Bf 3 h1⟩
theorem Bc (h:Shape Tryz.prog n 30 xs):∃es,xs=[.sl false 6 es]/\∀x,x∈es->tY x:=by obtain ⟨m,hm,x0,rfl,h0⟩:=UM h;obtain ⟨es,rfl,m1,_,he⟩:=UU h0;exact ⟨es,rfl,fun x hx=>UW (he x hx)⟩
theorem UZ (h:Shape Tryz.prog n 106 xs):SS xs:=by obtain ⟨m,hm,x0,x1,rfl,h0,h1⟩:=Oy h;obtain ⟨t,rfl⟩:=fB h0;obtain ⟨es,rfl,he⟩:=Bc h1;exact ⟨t,es,rfl,he⟩
theorem xq (h:Shape Tryz.prog n 34 xs):isNode xs:=by obtain ⟨m,hm,x0,x1,x2,x3,x4,x5,x6,x7,T,x9,x10,x11,x12,x13,rfl,h0,h1,h2,h3,h4,h5,h6,h7,h8,h9,h10,h11,h12,h13⟩:=UL h;obtain ⟨name,rfl⟩:=fB h0;obtain ⟨k1,rfl⟩:=aZ h1;obtain ⟨k2,rfl⟩:=aZ h2;obtain ⟨k3,rfl⟩:=aZ h3;obtain ⟨k4,rfl⟩:=aZ h4;obtain ⟨k5,rfl⟩:=aZ h5;obtain ⟨k6,rfl⟩:=aZ h6;obtain ⟨text,rfl⟩:=fB h7;obtain ⟨ty,rfl,_,_,hty⟩:=xg h9;obtain ⟨ex,rfl,_,_,hex⟩:=wZ h10;obtain ⟨ru,rfl,hru⟩:=Bc h11;obtain ⟨ca,rfl,_,_,hca⟩:=UR h12;obtain ⟨ne,rfl,_,_,hne⟩:=FD h13;exact ⟨name,k1,k2,k3,k4,k5,k6,text,T,ty,ex,ru,ca,ne,by simp,vC 3 h8,fun x hx=>vC 3 (hty x hx),fun x hx=>Bf 3 (hex x hx),hru,fun x hx=>UZ (hca x hx)⟩
end Go.Proofs.YtpcjeobkehmhpaaGreatDoor
namespace Go.Proofs.YtpcjeobkehmhpaaGreatDoor
open Go Go.Em Go.Ab
set_option maxRecDepth 100000
namespace Ct
def T:Tab:=fun k=>match k with
 |1=>[[.i .i64 none none,.i .i64 none none,.i .i64 none none,.s 0 1000000,.sl 6 1 0 1000000,.sl 7 2 0 1000000]]
 |2=>[[.s 0 1000000,.i .i64 none none,.i .i64 none none,.i .i64 none none,.s 0 1000000,.sl 6 1 0 1000000,.sl 7 2 0 1000000]]
 |3=>[[.i .i64 none none]]
 |4=>[[.i .u8 (some 0) (some 255)]]
 |5=>[[.s 0 1000000]]
 |6=>[[.i .i64 none none,.i .i64 none none]]
 |7=>[[.i .i64 none none,.i .i64 (some 0) (some 1000000),.s 0 1000000]]
 |8=>[[.i .i64 none none,.i .i64 none none,.s 0 1000000,.sl 6 1 0 1000000,.sl 5 8 0 1000000]]
 |10=>[(1,1,1,0),(2,2,0,0),(3,3,0,1),(4,15,0,2),(16,16,0,1),(17,17,0,2),(18,20,0,1),(21,21,0,3),(22,22,0,0),(23,23,0,2),(24,24,0,3),(25,25,0,2),(26,26,0,0),(27,28,0,1)].map fun (q:Int×Int×Nat×Nat)=>[.i .i64 (some q.1) (some q.2.1),.i .i64 none none,.s 0 1000000,.sl 6 1 q.2.2.1 1000000,.sl 5 10 q.2.2.2 1000000]
 |11=>[[.i .i64 none none,.i .i64 none none,.i .i64 none none,.s 0 1000000,.sl 6 11 0 6,.sl 7 12 0 6]]
 |12=>[[.s 0 1000000,.i .i64 none none,.i .i64 none none,.i .i64 none none,.s 0 1000000,.sl 6 11 0 6,.sl 7 12 0 6]]
 |9=>[[.i .i64 (some (-999999999999999)) (some 999999999999999),.i .i64 (some 0) (some 12)]]
 |13=>[[.sl 3 7 1 1000000]]
 |14=>[[.i .i64 none none,.i .i64 none none,.i .i64 none none,.i .i64 none none,.sl 1 5 0 1000000,.sl 7 14 0 1000000,.sl 11 15 0 100]]
 |15=>[[.i .i64 none none,.s 0 1000000,.i .i64 none none,.i .i64 none none,.i .i64 none none,.i .i64 none none,.i .i64 none none,.sl 1 5 0 1000000,.sl 7 14 0 1000000,.sl 11 15 0 100,.sl 6 1 0 1000000]]
 |16=>[[.s 0 1000000,.i .i64 none none,.i .i64 none none,.s 0 1000000,.sl 6 1 0 1000000,.sl 5 8 0 1000000]]
 |21=>[[.i .i64 none none,.i .i64 none none,.i .i64 none none,.s 0 1000000,.sl 6 21 0 1000000,.sl 7 22 0 1000100]]
 |22=>[[.s 0 1000000,.i .i64 none none,.i .i64 none none,.i .i64 none none,.s 0 1000000,.sl 6 21 0 1000000,.sl 7 22 0 1000100]]
 |_=>[]
def K:Names:=fun sz=>match sz with
 |1=>[3,4,5]
 |2=>[9,6]
 |3=>[7]
 |5=>[10,8]
 |6=>[1]
 |7=>[2]
 |_=>[]
abbrev int:Sh:=.i .i64
abbrev err:Sh:=.ir .i64 0 100
def val:Sh:=.rc [int,int,int,.s,.slh 6 1,.slh 7 2]
def fld:Sh:=.rc [.s,int,int,int,.s,.slh 6 1,.slh 7 2]
def exp:Sh:=.rc [int,int,.s,.slh 6 1,.slh 5 8]
def oL:List Sh:=[int,int,int,.s,.wW 6 11 0 6,.wW 7 12 0 6,err]
def zps:Sh:=.rcb 0 6 [int,int,int,.s,.wW 6 11 0 6,.wW 7 12 0 6]
def ztA:Sh:=.rc [int,int,.s,.slh 6 1,.slh 5 10]
def zwL:Sh:=.rc [int,int,.s,.wW 6 1 0 1000000,.wW 5 10 0 1000000]
def wfs:List (Int×Int×Int×Int):=[(1,1,1,0),(2,2,0,0),(3,3,0,1),(4,15,0,2),(16,16,0,1),(17,17,0,2),(18,20,0,1),(21,21,0,3),(22,22,0,0),(23,23,0,2),(24,24,0,3),(25,25,0,2),(26,26,0,0),(27,28,0,1)]
def Xw:List (List Fact):=wfs.map fun q=>bd 2 q.1 q.2.1++[aj (.k q.2.2.1) ⟨5,0⟩,aj (.k q.2.2.2) ⟨6,0⟩]
def zca:Sh:=.rc [int,int,int,.s,.wW 6 11 0 6,.wW 7 12 0 6]
def zry:Sh:=.rc [.s,int,int,int,.s,.wW 6 11 0 6,.wW 7 12 0 6]
def rJ:Sh:=.ag [int,int]
def Sj:Sh:=.ag [.ir .i64 (-999999999999999) 999999999999999,.ir .i64 0 12]
def part:Sh:=.ag [int,int,.s]
def zuT (a b c d:Nat):List (Value×X):=[(.int .i64 8,.fn a []),(.int .i64 9,.fn b []),(.int .i64 10,.fn c []),(.int .i64 11,.fn d [])]
def YX:Sh:=.ag [int,.ir .i64 0 1000000,.s]
def K11:Names:=fun sz=>match sz with
 |1=>[3,4,5]
 |2=>[9,6]
 |3=>[7]
 |5=>[10,8]
 |6=>[11,1]
 |7=>[12,2]
 |_=>[]
def K2:Names:=fun sz=>match sz with
 |1=>[3,4,5,13]
 |2=>[9,6]
 |3=>[7]
 |5=>[10,8]
 |6=>[1]
 |7=>[2,14]
 |11=>[15]
 |_=>[]
def K3:Names:=fun sz=>match sz with
 |1=>[3,4,5,13]
 |2=>[9,6]
 |3=>[7]
 |5=>[10,8]
 |6=>[21,1]
 |7=>[22,2,14]
 |11=>[15]
 |_=>[]
def typ:Sh:=.rc [int,int,int,int,.slh 1 5,.slh 7 14,.wW 11 15 0 100]
def zuJ:Sh:=.rcb 0 8 [int,int,int,int,.slh 1 5,.slh 7 14,.wW 11 15 0 100]
def tfd:Sh:=.rc [int,.s,int,int,int,int,int,.slh 1 5,.slh 7 14,.wW 11 15 0 100,.slh 6 1]
def uU:Sh:=.rc [int,int,int,.s,.slh 6 21,.wW 7 22 0 1000100]
def zkg:Sh:=.rc [.s,int,int,int,.s,.slh 6 21,.wW 7 22 0 1000100]
def Jf (s:Nat):List (List Fact):=[[aj ⟨s,0⟩ (.k 0)],bd s 1 7,bd s 8 8,bd s 9 9,bd s 10 10,[aj (.k 11) ⟨s,0⟩]]
def fnd:List BSh:=[.var [.fn 137 [.p 1],.b],.var [.b]]
def uG:List (List Fact):=(List.range 9).map fun (k:Nat)=>[aj ⟨1,0⟩ (.k (Int.ofNat k)),aj ⟨16,0⟩ (.k (3000000*(14-Int.ofNat k)))]
def oV (m:Nat)(c:Sh):List (Sh×List BSh×List Fact):=[(uU,[],[]),(.rc [int,int,int,.s,.bs 0,.wW 7 22 0 1000100],[.yX 6 21 m (m+5)],[]),(.rc [int,int,int,.s,.slh 6 21,c],[.yX 7 22 m (m+6)],[])]
def oI:List (Sh×List BSh×List Fact):=[(uU,[],[aj ⟨2,0⟩ (.k 8)]),(uU,[],[aj (.k 10) ⟨2,0⟩]),(.rc [int,int,int,.s,.bs 0,.wW 7 22 0 1000100],[.yX 6 21 16 21],[aj ⟨2,0⟩ (.k 8)]),(.rc [int,int,int,.s,.bs 0,.wW 7 22 0 1000100],[.yX 6 21 16 21],[aj (.k 10) ⟨2,0⟩]),(.rc [int,int,int,.s,.slh 6 21,.bs 0],[.yX 7 22 16 22],bd 2 9 9)]
noncomputable abbrev Gm:Nat->Gam:=ah tab ext
end Ct
end Go.Proofs.YtpcjeobkehmhpaaGreatDoor
namespace Go.Proofs.YtpcjeobkehmhpaaGreatDoor
open Go Go.Em Go.Ab
set_option maxRecDepth 100000
def Back (f:FuncId)(args:List X)(x:X):Prop:=∃B,∀N,B<=N->ah tab ext N (.fn f) args []=some (x,[])
theorem gY {f:FuncId}{args:List X}{x y:X}(h:Back f args x)(hd:x.data [] false=some y):∃B,∀N,B<=N->Gam.aF (ah tab ext N) f args=some y:=by obtain ⟨B,h⟩:=h;exact ⟨B,fun N hN=>aY (h N hN) hd⟩
theorem oG {α β:Type}[Inhabited β](l:List α){R:α->β->Prop}{Q:α->β->Nat->Prop}(h:∀x,x∈l->∃y,R x y/\∃B,∀N,B<=N->Q x y N):∃(f:α->β) (B:Nat),∀x,x∈l->R x (f x)/\∀N,B<=N->Q x (f x) N:=by
 classical
 have h2:∀x:α,∃y:β,x∈l->R x y/\∃B,∀N,B<=N->Q x y N:=fun x=>by
  by_cases hx:x∈l;·obtain ⟨y,hy⟩:=h x hx;exact ⟨y,fun _=>hy⟩
  exact ⟨default,fun e=>absurd e hx⟩
 obtain ⟨f,hf⟩:=Classical.axiomOfChoice h2;have h3:∀m:List α,(∀x,x∈m->x∈l)->∃B,∀x,x∈m->∀N,B<=N->Q x (f x) N:=by
  intro m;induction m with
  |nil=>exact fun _=>⟨0,fun x hx=>by cases hx⟩
  |cons a r ih=>
   intro hm;obtain ⟨B1,h1⟩:=(hf a (hm a (qap ..))).2;obtain ⟨B2,h2⟩:=ih (fun x hx=>hm x (qam _ hx));refine ⟨max B1 B2,fun x hx N hN=>?_⟩;rcases qaj.1 hx with rfl|hx;·exact h1 N (by omega)
   exact h2 x hx N (by omega)
 obtain ⟨B,hB⟩:=h3 l (fun x hx=>hx);exact ⟨f,B,fun x hx=>⟨(hf x hx).1,hB x hx⟩⟩
end Go.Proofs.YtpcjeobkehmhpaaGreatDoor
namespace Go.Proofs.YtpcjeobkehmhpaaGreatDoor
open Go Go.Em Go.Ab
set_option maxRecDepth 100000
variable {s:qaZ}{f:FuncId}{h hi lo z:Int}{k:IntKind}{bx:List Bx}{xs:List X}{i n:Nat}{ρ:Rho}{t:Sh}{x:X}
namespace Ct
theorem gB {args:List X}{g:List X->List Bx->Option (X×List Bx)}(hg:ext f=some g){r:X}(h:g args []=some (r,bx)):∃B,∀N,B<=N->Gm N (.fn f) args []=some (r,bx):=
 ⟨1,fun N hN=>by obtain ⟨M,rfl⟩:∃M,N=M+1:=⟨N-1,by omega⟩;show ah tab ext (M+1) (.fn f) args []=_;unfold ah;rw [hg];exact h⟩
def zwE:List Ctr:=[mkC 118 [.s,.s] [] none [(.ir .i64 (-1) 1,[])]]
theorem NC:∀a b:List UInt8,-1<=Lib.compareBytes a b/\Lib.compareBytes a b<=1
 |[],[]=>by decide
 |[],_::_=>by unfold Lib.compareBytes;decide
 |_::_,[]=>by unfold Lib.compareBytes;decide
 |x::a,y::b=>by
  unfold Lib.compareBytes;have:=NC a b
  repeat' split
  all_goals first|exact this|omega
theorem zaG:ay T Gm zwE:=.one (dF (fun o ho=>by rw [qaa.1 ho];exact ⟨rfl,rfl⟩) fun xs bx ha hb=>by
 match xs,bx,ha,hb with
 |[_,_],[],⟨⟨a,rfl,_⟩,⟨b,rfl,_⟩,_⟩,_=>have:=NC a.data.toList b.data.toList;exact ⟨_,qaa.2 rfl,_,[],⟨_,rfl,this.1,this.2⟩,trivial,gB (g:=yG) rfl rfl⟩)
def zwD:List Ctr:=[mkC 146 [.s] [] none [(.b,[])]]
theorem zjJ:ay T Gm zwD:=.one (dF (fun o ho=>by rw [qaa.1 ho];exact ⟨rfl,rfl⟩) fun xs bx ha hb=>by
 match xs,bx,ha,hb with
 |[_],[],⟨⟨a,rfl,h⟩,_⟩,_=>unfold bT at h;exact ⟨_,qaa.2 rfl,_,[],⟨_,rfl⟩,trivial,gB (g:=oO) rfl (by show (if a.size<=_ then some (X.v (.bool (Lib.validD a.data.toList)),[]) else _)=_;rw [if_pos (by omega)])⟩)
theorem bsz (l:List UInt8):(⟨l.toArray⟩:qaZ).size=l.length:=List.size_toArray ..
theorem bln (s:qaZ):s.data.toList.length=s.size:=Array.length_toList ..
theorem zdN {T:Tab}(ha:IsL T h [t] xs):∃x,xs=[x]/\t.Is T h x:=by
 match xs,ha with
 |[x],⟨h,_⟩=>exact ⟨x,rfl,h⟩
theorem zlM {T:Tab}{u:Sh}(ha:IsL T h [t,u] xs):∃x y,xs=[x,y]/\t.Is T h x/\u.Is T h y:=by
 match xs,ha with
 |[x,y],⟨h,h2,_⟩=>exact ⟨x,y,rfl,h,h2⟩
theorem nD {T:Tab}(hb:BIs T [] bx):bx=[]:=by
 match bx,hb with
 |[],_=>rfl
theorem znl {T:Tab}(hx:(Sh.ir k lo hi).Is T h x):∃z,x=.v (.int k z)/\lo<=z/\z<=hi:=hx
theorem zh8 {T:Tab}(h1:lo<=z)(h2:z<=hi):(Sh.ir k lo hi).Is T h (.v (.int k z)):=⟨z,rfl,h1,h2⟩
theorem isS {T:Tab}(hx:Sh.s.Is T h x):∃s:qaZ,x=.v (.string s)/\(s.size:Int)<=1000000:=hx
theorem zsS {T:Tab}(hx:(Sh.sr lo hi).Is T h x):∃s:qaZ,x=.v (.string s)/\lo<=(s.size:Int)/\(s.size:Int)<=hi:=hx
theorem zsQ {T:Tab}(h1:lo<=(s.size:Int))(h2:(s.size:Int)<=hi):(Sh.sr lo hi).Is T h (.v (.string s)):=⟨s,rfl,h1,h2⟩
theorem SQ (n:Int):1<=(Lib.itoa n).length:=by
 by_cases hneg:n<0;·obtain ⟨u,rfl⟩:∃u:Nat,n=-(u:Int):=⟨n.natAbs,by omega⟩;rw [Lib.itoa_neg u (by omega),qaz];omega
 obtain ⟨u,rfl⟩:∃u:Nat,n=u:=⟨n.toNat,by omega⟩;rw [Lib.itoa_nonneg,Lib.decDigits_length];exact Lib.nDigits_pos u
theorem Jl (z:Int)(h1:-9223372036854775808<=z)(h2:z<=9223372036854775807):xY [.v (.int .i64 z)] []=some (.v (.string ⟨(Lib.itoa z).toArray⟩),[]):=by simp only [xY,h1,h2,and_self,if_true]
def ztx:List Ctr:=[mkC 64 [.ir .i64 (-9223372036854775808) 9223372036854775807] [] none [(.sr 1 21,[])]]
theorem JB:ay T Gm ztx:=.one (dF (fun o ho=>by rw [qaa.1 ho];exact ⟨rfl,rfl⟩) fun xs bx ha hb=>by obtain ⟨x,rfl,hx⟩:=zdN ha;obtain rfl:=nD hb;obtain ⟨z,rfl,h1,h2⟩:=znl hx;have k1:=Lib.itoa_length_le z h1 h2;have k2:=SQ z;exact ⟨_,qaa.2 rfl,_,[],zsQ (by rw [bsz];omega) (by rw [bsz];omega),trivial,gB (g:=xY) rfl (Jl z h1 h2)⟩)
theorem zfh (s:qaZ)(h:(s.size:Int)<=1000000):∃v x,uM [.v (.string s)] []=some (.tup [.v (.int .i64 v),x],[])/\-9223372036854775808<=v/\v<=9223372036854775807/\(x=.ifc\/x=.v .nilIface):=by
 have hs:=Lib.atoiSat_bounds s.data.toList;have hb:s.size<=281474976710656:=by omega
 cases hv:Lib.atoiAll s.data.toList with
 |ok v=>have:=Lib.atoiAll_bounds hv;exact ⟨v,_,by simp only [uM,hb,if_true,hv],this.1,this.2,.inr rfl⟩
 |range=>exact ⟨_,_,by simp only [uM,hb,if_true,hv],hs.1,hs.2,.inl rfl⟩
 |_=>exact ⟨0,_,by simp only [uM,hb,if_true,hv],by omega,by omega,.inl rfl⟩
def zwB:List Ctr:=[mkC 192 [.s] [] none [(.tu [.ir .i64 (-9223372036854775808) 9223372036854775807,.oi],[])]]
theorem zaF:ay T Gm zwB:=.one (dF (fun o ho=>by rw [qaa.1 ho];exact ⟨rfl,rfl⟩) fun xs bx ha hb=>by obtain ⟨x,rfl,hx⟩:=zdN ha;obtain rfl:=nD hb;obtain ⟨s,rfl,h⟩:=isS hx;obtain ⟨v,y,he,h1,h2,h3⟩:=zfh s h;exact ⟨_,qaa.2 rfl,.tup [.v (.int .i64 v),y],[],⟨_,rfl,zh8 h1 h2,h3,trivial⟩,trivial,gB (g:=uM) rfl he⟩)
theorem iR {a b:Nat}{c:Int}(ha:a<n)(hb:b<n)(h:ρ a+c<=ρ b):(lt a c b).ok n ρ:=aJ.2 ⟨ha,hb,by unfold Lin.v;dsimp only;omega⟩
theorem o9 {T:Tab}{args:List Sh}{inb:List BSh}{mu:Option (Nat×Nat)}{outs:List Xd}(hs:(dM f args inb mu outs).Sat T ρ xs bx):IsL T 0 args xs/\BIs T inb bx:=by have z:=hs.zero;have hp:aX (dM f args inb mu outs).m ρ ((mO (.k 0) 1 args).2.2++(qy (mO (.k 0) 1 args).2.1 inb).2.2):=hs.pre;have:=iE z args (h:=.k 0) (k:=1) hp.left hs.args;rw [Lin.k_v z] at this;exact ⟨this,gI z inb (k:=(mO (.k 0) 1 args).2.1) hp.right hs.inb⟩
theorem sS {T:Tab}(h:G T n ρ (.s ⟨i,0⟩) (.v (.string s))):(s.size:Int)=ρ i:=by
 cases h with
 |s q1 q2=>rw [q2];unfold Lin.v;dsimp only;omega
theorem sI {T:Tab}(h:G T n ρ (.i k ⟨i,0⟩) (.v (.int k z))):z=ρ i:=by
 cases h with
 |i q1 q2=>rw [q2];unfold Lin.v;dsimp only;omega
theorem gl2 {T:Tab}{a b:AX}{y:X}(h:GL T n ρ [a,b] [x,y]):G T n ρ a x/\G T n ρ b y:=by
 cases h with
 |cons h1 h2=>cases h2 with
  |cons h2 h3=>exact ⟨h1,h2⟩
theorem FX (s:qaZ)(c:Int)(h1:s.size=1)(h2:0<=c)(h3:c<=100):∃r:qaZ,nU [.v (.string s),.v (.int .i64 c)] []=some (.v (.string r),[])/\(r.size:Int)=c:=by
 have a:c<=1000000:=by omega
 have b:s.size<=1000000:=by omega
 refine ⟨⟨(Lib.repeatL s.data.toList c.toNat).toArray⟩,by simp only [nU,h2,a,b,and_self,if_true],?_⟩;rw [bsz,Lib.repeatL_length,bln,h1,Nat.mul_one];omega
def zwl:List Ctr:=[dM 305 [.sr 1 1,.ir .i64 0 100] [] none [(.sr 0 100,[],[lt 3 0 2,lt 2 0 3])]]
theorem zjy:ay T Gm zwl:=.one fun ρ xs bx hs=>by obtain ⟨ha,hb⟩:=o9 hs;obtain ⟨x,y,rfl,hx,hy⟩:=zlM ha;obtain rfl:=nD hb;obtain ⟨s,rfl,a1,a2⟩:=zsS hx;obtain ⟨c,rfl,a3,a4⟩:=znl hy;obtain ⟨w1,w2⟩:=gl2 hs.args;have e2:c=ρ 2:=sI w2;obtain ⟨r,he,hr⟩:=FX s c (by omega) a3 a4;refine jT (qaa.2 rfl) hs.zero hs.pos rfl rfl (zsQ (s:=r) (by omega) (by omega)) (fun n' ρ' hm z' g hn=>?_) (gB (g:=nU) rfl he);subst hn;have e3:(r.size:Int)=ρ' 3:=sS g;have k2:ρ' 2=ρ 2:=hm.same 2 (by decide);exact .cons (iR (by decide) (by decide) (by omega)) (.cons (iR (by decide) (by decide) (by omega)) .nil)
theorem CZ (c:List UInt8):∀l:List UInt8,Lib.indexAny l c<(l.length:Int)\/l=[]
 |[]=>.inr rfl
 |b::l=>by
  left;have:=CZ c l;unfold Lib.indexAny;rw [qaz];split;·omega
  split;·omega
  rcases this with h|rfl;·omega
  rename_i h1 h2;exact absurd rfl h2
theorem Po (c l:List UInt8):Lib.indexAny l c+1<=(l.length:Int):=by
 rcases CZ c l with h|rfl;·omega
 show (-1:Int)+1<=0;decide
theorem Hf (s c:qaZ):∀f pos,-1<=ny s c f pos/\ny s c f pos+1<=s.size
 |0,_=>⟨by unfold ny;omega,by unfold ny;omega⟩
 |f+1,pos=>by
  unfold ny;split
  ·split;·omega
   exact Hf s c f _
  omega
theorem zle (s:qaZ)(h:(s.size:Int)<=1000000):∃z:Int,lJ [.v (.string s),.v (.string marks)] []=some (.v (.int .i64 z),[])/\-1<=z/\z+1<=s.size:=by
 have h1:s.size<4294967281:=by omega
 have h2:marks.size<4294967281:=by decide
 have h3:G9 marks=true:=by decide
 have b1:=Lib.indexAny_ge marks.data.toList s.data.toList;have b2:=Po marks.data.toList s.data.toList;rw [bln] at b2;unfold lJ;dsimp only;split;·exact ⟨_,rfl,b1,b2⟩
 rw [if_pos ⟨h1,rfl⟩];refine ⟨_,rfl,?_⟩;split;·exact Hf s marks s.size 0
 exact ⟨b1,b2⟩
def zwC:List Ctr:=[dM 189 [.s,.x (.v (.string ⟨#[46,91,63]⟩))] [] none [(.ir .i64 (-1) 1000000,[],[lt 2 1 1])]]
theorem zjH:ay T Gm zwC:=.one fun ρ xs bx hs=>by obtain ⟨ha,hb⟩:=o9 hs;obtain ⟨x,y,rfl,hx,hy⟩:=zlM ha;obtain rfl:=nD hb;obtain ⟨s,rfl,a1⟩:=isS hx;obtain ⟨hy,_⟩:y=.v (.string ⟨#[46,91,63]⟩)/\_:=hy;subst hy;obtain ⟨w1,w2⟩:=gl2 hs.args;have e1:=sS w1;obtain ⟨z,he,h1,h2⟩:=zle s a1;refine jT (qaa.2 rfl) hs.zero hs.pos rfl rfl (zh8 (z:=z) (by omega) (by omega)) (fun n' ρ' hm z' g hn=>?_) (gB (g:=lJ) rfl he);subst hn;have e3:z=ρ' 2:=sI g;have k1:ρ' 1=ρ 1:=hm.same 1 (by decide);exact .cons (iR (by decide) (by decide) (by omega)) .nil
theorem zh (c:UInt8):∀l:List UInt8,Lib.indexByte l c+1<=(l.length:Int)
 |[]=>by show (-1:Int)+1<=0;decide
 |b::l=>by
  have:=zh c l;unfold Lib.indexByte;rw [qaz];split;·omega
  split<;>omega
theorem zh1 (s c:qaZ)(h:(s.size:Int)<=1000000)(hc:c.size=1):∃z:Int,rE [.v (.string s),.v (.string c)] []=some (.v (.int .i64 z),[])/\-1<=z/\z+1<=s.size:=by
 have h1:s.size<4294967281:=by omega
 rw [<-bln] at hc;obtain ⟨b,hb⟩:=List.length_eq_one_iff.1 hc;have b1:=Lib.indexByte_ge s.data.toList b;have b2:=zh b s.data.toList;rw [bln] at b2;exact ⟨_,by simp only [rE,hb,h1,if_true],b1,b2⟩
def zwn:List Ctr:=[dM 289 [.s,.sr 1 1] [] none [(.ir .i64 (-1) 1000000,[],[lt 3 1 1])]]
theorem zjz:ay T Gm zwn:=.one fun ρ xs bx hs=>by obtain ⟨ha,hb⟩:=o9 hs;obtain ⟨x,y,rfl,hx,hy⟩:=zlM ha;obtain rfl:=nD hb;obtain ⟨s,rfl,a1⟩:=isS hx;obtain ⟨c,rfl,a2,a3⟩:=zsS hy;obtain ⟨w1,w2⟩:=gl2 hs.args;have e1:=sS w1;obtain ⟨z,he,h1,h2⟩:=zh1 s c a1 (by omega);refine jT (qaa.2 rfl) hs.zero hs.pos rfl rfl (zh8 (z:=z) (by omega) (by omega)) (fun n' ρ' hm z' g hn=>?_) (gB (g:=rE) rfl he);subst hn;have e3:z=ρ' 3:=sI g;have k1:ρ' 1=ρ 1:=hm.same 1 (by decide);exact .cons (iR (by decide) (by decide) (by omega)) .nil
theorem Nu (n a b c d:Nat)(h:0<n):1<=(Lib.decodeN n a b c d).2/\(Lib.decodeN n a b c d).2<=4/\(Lib.decodeN n a b c d).2<=n:=by
 unfold Lib.decodeN
 repeat' split
 all_goals first|omega|(dsimp only;omega)
end Ct
end Go.Proofs.YtpcjeobkehmhpaaGreatDoor
namespace Go.Proofs.YtpcjeobkehmhpaaGreatDoor
open Go Go.Em Go.Ab
set_option maxRecDepth 100000
theorem jC {α:Type}{nIn:Nat}{b:C}{H:α->St}{I:α->Prop}{μ:α->Nat}{Q:Ex->St->Prop}
  (step:∀a,I a->(∃υ a' B,(∀M,B<=M->run (ah tab ext M) nIn M b (H a)=some (.norm,υ))/\canon nIn υ=some (H a')/\I a'/\μ a'<μ a)\/(∃e σ' B,e≠.norm/\Q e σ'/\∀M,B<=M->run (ah tab ext M) nIn M b (H a)=some (e,σ')))
  {a:α} {τ:St} (ha:I a) (hτ:canon nIn τ=some (H a)):∃e σ' B,Q e σ'/\∀M,B<=M->run (ah tab ext M) nIn M (.loop b) τ=some (e,σ'):=by
 have key:∀d a,μ a<=d->I a->∃e σ' B,Q e σ'/\∀M F υ,B<=M->d<F->canon nIn υ=some (H a)->iter nIn (run (ah tab ext M) nIn M b) F υ=some (e,σ'):=by
  intro d;induction d with
  |zero=>
   intro a hd hI;rcases step a hI with ⟨_,a',_,_,_,_,hlt⟩|⟨e,σ',B,hne,hQ,h⟩;·omega
   refine ⟨e,σ',B,hQ,fun M F υ hM hF hc=>?_⟩;obtain ⟨F',rfl⟩:∃F',F=F'+1:=⟨F-1,by omega⟩;exact bK hc (h M hM) hne
  |succ d ih=>
   intro a hd hI;rcases step a hI with ⟨ω,a',B1,h1,h2,h3,h4⟩|⟨e,σ',B,hne,hQ,h⟩;·obtain ⟨e,σ',B2,hQ,h5⟩:=ih a' (by omega) h3;refine ⟨e,σ',max B1 B2,hQ,fun M F υ hM hF hc=>?_⟩;obtain ⟨F',rfl⟩:∃F',F=F'+1:=⟨F-1,by omega⟩;exact dV hc (h1 M (by omega)) (h5 M F' ω (by omega) (by omega) h2)
   refine ⟨e,σ',B,hQ,fun M F υ hM hF hc=>?_⟩;obtain ⟨F',rfl⟩:∃F',F=F'+1:=⟨F-1,by omega⟩;exact bK hc (h M hM) hne
 obtain ⟨e,σ',B,hQ,h⟩:=key (μ a) a (Nat.le_refl _) ha;refine ⟨e,σ',max B (μ a+1),hQ,fun M hM=>?_⟩;simp only [run];exact h M M τ (by omega) (by omega) hτ
end Go.Proofs.YtpcjeobkehmhpaaGreatDoor
namespace Go.Proofs.YtpcjeobkehmhpaaGreatDoor
open Go Go.Em Go.Ab
set_option maxRecDepth 100000
variable {R a m y:Int}
namespace Ct
theorem w64 {x:Int}(h1:-9223372036854775808<=x)(h2:x<=9223372036854775807):IntKind.i64.wrap x=x:=by rw [IntKind.wrap_i64];omega
theorem tq (k:Nat)(h:0<=a):a.tdiv k=a /k:=Int.tdiv_eq_ediv_of_nonneg h
theorem ZO (N:Nat)(x lo hi:Int):Gam.aF (ah tab ext (N+1)) 322 [num x,num lo,num hi]=some (ak (decide (lo<=x)&&decide (x<=hi))):=by
 cases h1:(decide (x>=lo)) with
 |true=>
  cases h2:(decide (x<=hi)) with
  |true=>exact puA [(9,.b true),(13,.b true)] (pf2 h1 h2) (ak true)
  |false=>exact puA [(9,.b true),(13,.b false)] (pf2 h1 h2) (ak false)
 |false=>exact puA [(9,.b false)] (pf1 h1) (ak false)
def bef (y:Int):Int:=365*(y-1)+(y-1) /4-(y-1) /100+(y-1) /400
theorem Ea (N:Nat)(h1:1<=y)(h2:y<=10000):Gam.aF (ah tab ext (N+1)) 323 [num y]=some (num (bef y)):=by
 have q4:=tq 4 (show 0<=y-1 by omega);have q1:=tq 100 (show 0<=y-1 by omega);have q2:=tq 400 (show 0<=y-1 by omega);simp only [Int.cast_ofNat_Int] at q4 q1 q2;have a1:IntKind.i64.wrap (y-1)=y-1:=w64 (by omega) (by omega);have a2:IntKind.i64.wrap (365*(y-1))=365*(y-1):=w64 (by omega) (by omega);have a3:IntKind.i64.wrap ((y-1).tdiv 4)=(y-1) /4:=by rw [q4];exact w64 (by omega) (by omega)
 have a4:IntKind.i64.wrap (365*(y-1)+(y-1) /4)=365*(y-1)+(y-1) /4:=w64 (by omega) (by omega);have a5:IntKind.i64.wrap ((y-1).tdiv 100)=(y-1) /100:=by rw [q1];exact w64 (by omega) (by omega)
 have a6:IntKind.i64.wrap (365*(y-1)+(y-1) /4-(y-1) /100)=365*(y-1)+(y-1) /4-(y-1) /100:=w64 (by omega) (by omega);have a7:IntKind.i64.wrap ((y-1).tdiv 400)=(y-1) /400:=by rw [q2];exact w64 (by omega) (by omega)
 have a8:IntKind.i64.wrap (365*(y-1)+(y-1) /4-(y-1) /100+(y-1) /400)=bef y:=w64 (by omega) (by omega);exact puA [(5,.i (y-1)),(7,.i (365*(y-1))),(9,.i ((y-1) /4)),(10,.i (365*(y-1)+(y-1) /4)),(12,.i ((y-1) /100)),(13,.i (365*(y-1)+(y-1) /4-(y-1) /100)),(15,.i ((y-1) /400)),(16,.i (bef y))] (pf8 a1 a2 a3 a4 a5 a6 a7 a8) (num (bef y))
def leap (y:Int):Bool:=y%4==0&&(y%100 !=0||y%400==0)
theorem tm (k:Nat)(h:0<=a):a.tmod k=a%k:=Int.tmod_eq_emod_of_nonneg h
theorem Zv (N:Nat)(h1:1<=y)(h2:y<=9999):Gam.aF (ah tab ext (N+1+1)) 330 [num y]=some (ak (leap y)):=by
 have hin:=ZO N y 1 9999;rw [show (decide ((1:Int)<=y)&&decide (y<=9999))=true by simp [h1,h2]] at hin;have q4:=tm 4 (show 0<=y by omega);have q1:=tm 100 (show 0<=y by omega);have q2:=tm 400 (show 0<=y by omega);simp only [Int.cast_ofNat_Int] at q4 q1 q2;unfold leap;rw [<-q4,<-q1,<-q2];cases h1:(y.tmod 4==0) with
 |true=>
  cases h2:(y.tmod 100 !=0) with
  |true=>exact puA [(4,.p (ak true)),(8,.b true),(13,.b true)] (pf3 hin h1 h2) (ak true)
  |false=>
   cases h3:(y.tmod 400==0) with
   |true=>exact puA [(4,.p (ak true)),(8,.b true),(13,.b false),(17,.b true)] (pf4 hin h1 h2 h3) (ak true)
   |false=>exact puA [(4,.p (ak true)),(8,.b true),(13,.b false),(17,.b false)] (pf4 hin h1 h2 h3) (ak false)
 |false=>exact puA [(4,.p (ak true)),(8,.b false)] (pf2 hin h1) (ak false)
def md (l:Bool)(m:Int):Int:=if m=2 then (if l then 29 else 28) else if m=4\/m=6\/m=9\/m=11 then 30 else 31
def rest (l:Bool)(m:Int):Int:=
 if m=1 then 337+md l 2 else if m=2 then 306+md l 2 else if m=3 then 306 else if m=4 then 275 else if m=5 then 245 else if m=6 then 214 else if m=7 then 184 else if m=8 then 153 else if m=9 then 122 else if m=10 then 92 else if m=11 then 61 else if m=12 then 31 else 0
theorem zia (N:Nat)(h1:1<=y)(h2:y<=9999)(h3:1<=m)(h4:m<=12):Gam.aF (ah tab ext (N+3)) 324 [num y,num m]=some (num (md (leap y) m)):=by
 have hin:=Zv N h1 h2;have hm:m=1\/m=2\/m=3\/m=4\/m=5\/m=6\/m=7\/m=8\/m=9\/m=10\/m=11\/m=12:=by omega
 rcases hm with rfl|rfl|rfl|rfl|rfl|rfl|rfl|rfl|rfl|rfl|rfl|rfl;·exact puA [] pf0 (num 31)
 ·generalize leap y=b at hin ⊢;cases h:b with
  |true=>subst h;exact puA [(9,.p (ak true)),(10,.b true)] (pf2 hin (show true=true from rfl)) (num 29)
  |false=>subst h;exact puA [(9,.p (ak false)),(10,.b false)] (pf2 hin (show false=false from rfl)) (num 28)
 ·exact puA [] pf0 (num 31)
 ·exact puA [] pf0 (num 30)
 ·exact puA [] pf0 (num 31)
 ·exact puA [] pf0 (num 30)
 ·exact puA [] pf0 (num 31)
 ·exact puA [] pf0 (num 31)
 ·exact puA [] pf0 (num 30)
 ·exact puA [] pf0 (num 31)
 ·exact puA [] pf0 (num 30)
 exact puA [] pf0 (num 31)
theorem rest_step (l:Bool)(h3:1<=m)(h4:m<=12):rest l m=md l m+rest l (m+1):=by
 have hm:m=1\/m=2\/m=3\/m=4\/m=5\/m=6\/m=7\/m=8\/m=9\/m=10\/m=11\/m=12:=by omega
 cases l<;>rcases hm with rfl|rfl|rfl|rfl|rfl|rfl|rfl|rfl|rfl|rfl|rfl|rfl<;>rfl
theorem zdx (l:Bool)(m:Int):28<=md l m/\md l m<=31:=by
 unfold md
 repeat' split
 all_goals omega
theorem YE (l:Bool)(h3:1<=m)(h4:m<=12):rest l m<=400:=by
 have hm:m=1\/m=2\/m=3\/m=4\/m=5\/m=6\/m=7\/m=8\/m=9\/m=10\/m=11\/m=12:=by omega
 cases l<;>rcases hm with rfl|rfl|rfl|rfl|rfl|rfl|rfl|rfl|rfl|rfl|rfl|rfl<;>decide
theorem zfc (y:Int):bef (y+1)-bef y=rest (leap y) 1:=by
 have:rest (leap y) 1=365+(if leap y then 1 else 0):=by cases leap y<;>rfl
 rw [this];unfold bef leap;by_cases a:y%4=0
 ·by_cases b:y%100=0
  ·by_cases c:y%400=0;·simp only [a,b,c];simp;omega
   have c':(y%400==0)=false:=by simpa using c
   simp only [a,b,c'];simp;omega
  have b':(y%100 !=0)=true:=by simpa using b
  simp only [a,b'];simp;omega
 have a':(y%4==0)=false:=by simpa using a
 simp only [a'];simp;omega
def zpZ (y m r:Int):Prop:=1<=y/\y<=9999/\1<=m/\m<=12/\0<=r/\r<=30
theorem zwO {y1:Int}(r1:0<=R)(hy:1<=y1/\y1<=9999/\R<bef (y1+1)):∃y,(1<=y/\y<=9999/\R<bef (y+1)/\bef y<=R)/\∃B,∀M,B<=M->run (ah tab ext M) 0 M (.loop (aH 306 0)) ⟨[(2,num y1),(6,num R)],[]⟩=some (.exit 0,⟨[(2,num y),(6,num R),(19,ak false)],[]⟩):=by
 obtain ⟨e,σ',B1,⟨y,he,hσ,hk⟩,hl1⟩:=jC (nIn:=0) (b:=aH 306 0) (H:=fun y:Int=>⟨[(2,num y),(6,num R)],[]⟩) (I:=fun y=>1<=y/\y<=9999/\R<bef (y+1)) (μ:=fun y=>y.toNat)
  (Q:=fun e σ'=>∃y:Int,e=.exit 0/\σ'=⟨[(2,num y),(6,num R),(19,ak false)],[]⟩/\1<=y/\y<=9999/\R<bef (y+1)/\bef y<=R) (fun y ⟨i1,i2,i3⟩=>by
   have hb:∀M,1<=M->Gam.aF (ah tab ext M) 323 [num y]=some (num (bef y)):=fun M hM=>by obtain ⟨M,rfl⟩:∃M',M=M'+1:=⟨M-1,by omega⟩;exact Ea M i1 (by omega)
   cases h:decide (bef y>R) with
   |true=>
    have h':bef y>R:=of_decide_eq_true h;have y2:2<=y:=by
     rcases Int.lt_or_le 1 y with h|h;·omega
     have:y=1:=by omega
     subst this;have:bef 1=0:=rfl;omega
    refine .inl ⟨⟨[(2,num (y-1)),(6,num R)],[]⟩,y-1,1,fun M hM=>?_,by kernel_rfl,⟨by omega,by omega,by rw [Int.sub_add_cancel];omega⟩,by omega⟩;exact ruA [(17,.p (num (bef y))),(19,.b true),(21,.i (y-1))] (pf3 (hb M hM) h (show IntKind.i64.wrap (y-1)=y-1 from w64 (by omega) (by omega)))
   |false=>have h':¬bef y>R:=of_decide_eq_false h;exact .inr ⟨_,_,1,(by intro e;cases e),⟨y,rfl,rfl,i1,i2,i3,by omega⟩,fun M hM=>ruA [(17,.p (num (bef y))),(19,.b false)] (pf2 (hb M hM) h)⟩)
  (τ:=⟨[(2,num y1),(6,num R)],[]⟩) (a:=y1) hy (by kernel_rfl)
 subst he hσ;exact ⟨y,hk,B1,hl1⟩
theorem zwN {r0:Int}(k1:1<=y)(k2:y<=9999)(h0:0<=r0)(h1:r0<rest (leap y) 1):∃m r,(1<=m/\m<=12/\0<=r/\r<=30)/\∃B,∀M,B<=M->run (ah tab ext M) 0 M (.loop (aH 306 1)) ⟨[(2,num y),(3,num 1),(6,num r0)],[]⟩=some (.exit 2,⟨[(2,num y),(3,num m),(6,num r),(30,ak false)],[]⟩):=by
 obtain ⟨e,σ',B2,⟨m,r,he,hσ,hk⟩,hl2⟩:=jC (nIn:=0) (b:=aH 306 1) (H:=fun p:Int×Int=>⟨[(2,num y),(3,num p.1),(6,num p.2)],[]⟩) (I:=fun p=>1<=p.1/\p.1<=12/\0<=p.2/\p.2<rest (leap y) p.1) (μ:=fun p=>(13-p.1).toNat)
  (Q:=fun e σ'=>∃m r:Int,e=.exit 2/\σ'=⟨[(2,num y),(3,num m),(6,num r),(30,ak false)],[]⟩/\1<=m/\m<=12/\0<=r/\r<=30) (fun p ⟨i1,i2,i3,i4⟩=>by
   obtain ⟨m,r⟩:=p;dsimp only at i1 i2 i3 i4 ⊢;have hb:∀M,3<=M->Gam.aF (ah tab ext M) 324 [num y,num m]=some (num (md (leap y) m)):=fun M hM=>by obtain ⟨M,rfl⟩:∃M',M=M'+3:=⟨M-3,by omega⟩;exact zia M k1 k2 i1 i2
   have hm:=zdx (leap y) m;have hs:=rest_step (leap y) i1 i2;have hr:=YE (leap y) i1 i2;generalize md (leap y) m=v at hb hm hs;cases h:decide (r>=v) with
   |true=>
    have h':r>=v:=of_decide_eq_true h;have m2:m<=11:=by
     rcases Int.lt_or_le m 12 with h|h;·omega
     have:m=12:=by omega
     subst this;have:rest (leap y) (12+1)=0:=rfl;omega
    refine .inl ⟨⟨[(2,num y),(3,num (m+1)),(6,num (r-v))],[]⟩,(m+1,r-v),3,fun M hM=>?_,by kernel_rfl,⟨by dsimp only;omega,by dsimp only;omega,by dsimp only;omega,by dsimp only;omega⟩,by dsimp only;omega⟩;exact ruA [(29,.p (num v)),(30,.b true),(36,.p (num v)),(37,.i (r-v)),(32,.i (m+1))] (pf5 (hb M hM) h (hb M hM) (show IntKind.i64.wrap (r-v)=r-v from w64 (by omega) (by omega)) (show IntKind.i64.wrap (m+1)=m+1 from w64 (by omega) (by omega)))
   |false=>have h':¬r>=v:=of_decide_eq_false h;exact .inr ⟨_,_,3,(by intro e;cases e),⟨m,r,rfl,rfl,i1,i2,i3,by omega⟩,fun M hM=>ruA [(29,.p (num v)),(30,.b false)] (pf2 (hb M hM) h)⟩)
  (τ:=⟨[(2,num y),(3,num 1),(6,num r0)],[]⟩) (a:=(1,r0)) ⟨by dsimp only;omega,by dsimp only;omega,h0,h1⟩ (by kernel_rfl)
 subst he hσ;exact ⟨m,r,hk,B2,hl2⟩
theorem Uw (r1:0<=R)(r2:R<=3652058):∃y1,(if false=true then if 9999>R /365+1 then 9999 else R /365+1 else if 9999<R /365+1 then (9999:Int) else R /365+1)=y1/\1<=y1/\y1<=9999/\R<bef (y1+1):=by refine ⟨_,rfl,?_⟩;rw [if_neg (by decide)];unfold bef;split<;>omega
theorem civil (d:Int):Back 306 [num d] (.tup [num 0,num 0,num 0,num 2])\/∃y m r,zpZ y m r/\Back 306 [num d] (.tup [num y,num m,num (r+1),num 0]):=by
 have hin:=fun N=>ZO N d (-719162) 2932896;cases hr:(decide (-719162<=d)&&decide (d<=2932896)) with
 |false=>rw [hr] at hin;refine .inl ⟨2,fun N hN=>?_⟩;obtain ⟨M,rfl⟩:∃M,N=M+1+1:=⟨N-2,by omega⟩;exact caA [(8,.p (ak false)),(9,.b true)] (pf2 (hin M) (show (!false)=true from rfl)) (r:=some (.tup [num 0,num 0,num 0,num 2],[]))
 |true=>
  rw [hr] at hin;rw [qab,qaF,qaF] at hr;obtain ⟨d1,d2⟩:=hr;obtain ⟨R,hR⟩:∃R,R=d- -719162:=⟨_,rfl⟩;have r1:0<=R:=by omega
  have r2:R<=3652058:=by omega
  have hq:R.tdiv 365=R /365:=tq 365 r1;obtain ⟨y1,hy1,hy⟩:=Uw r1 r2;obtain ⟨y,⟨k1,k2,k3,k4⟩,B1,hl1⟩:=zwO r1 hy;have kb:=zfc y;have kr:=YE (leap y) (m:=1) (by decide) (by decide);obtain ⟨m,r,⟨k5,k6,k7,k8⟩,B2,hl2⟩:=zwN (r0:=R-bef y) k1 k2 (by omega) (by omega);refine .inr ⟨y,m,r,⟨k1,k2,k5,k6,k7,k8⟩,B1+B2+3,fun N hN=>?_⟩;obtain ⟨M,rfl⟩:∃M,N=M+1+1:=⟨N-2,by omega⟩;have hl1:=hl1 (M+1) (by omega);have hl2:=hl2 (M+1) (by omega);rw [<-hy1] at hl1;have a1:IntKind.i64.wrap (d- -719162)=R:=by rw [<-hR];exact w64 (by omega) (by omega)
  have a2:IntKind.i64.wrap (R.tdiv 365)=R /365:=by rw [hq];exact w64 (by omega) (by omega)
  have a3:IntKind.i64.wrap (R /365+1)=R /365+1:=w64 (by omega) (by omega);have a4:IntKind.i64.wrap (R-bef y)=R-bef y:=w64 (by omega) (by omega);have a5:IntKind.i64.wrap (r+1)=r+1:=w64 (by omega) (by omega);exact caB [(8,.p (ak true)),(9,.b false),(11,.i R),(13,.i (R /365)),(14,.i (R /365+1)),(24,.p (num (bef y))),(25,.i (R-bef y)),(41,.i (r+1))] [(.exit 0,⟨[(2,num y),(6,num R),(19,ak false)],[]⟩),(.exit 2,⟨[(2,num y),(3,num m),(6,num r),(30,ak false)],[]⟩)] (zmZ (hin M) (show (!true)=false from rfl) a1 a2 a3 hl1 (Ea M k1 (by omega)) a4 hl2 a5) (r:=some (.tup [num y,num m,num (r+1),num 0],[]))
theorem FW {h:Int}{z:Int}{T:Tab}{lo hi:Int}(h1:lo<=z)(h2:z<=hi):(Sh.ir .i64 lo hi).Is T h (num z):=⟨z,rfl,h1,h2⟩
def zwk:List Ctr:=[mkC 306 [int] [] none [(.tu [.ir .i64 0 9999,.ir .i64 0 12,.ir .i64 0 31,err],[])]]
theorem zjx:ay T Gm zwk:=.one (dF (fun o ho=>by rw [qaa.1 ho];exact ⟨rfl,rfl⟩) fun xs bx ha hb=>by
 match xs,bx,ha,hb with
 |[_],[],⟨⟨d,rfl⟩,_⟩,_=>
  rcases civil d with h|⟨y,m,r,⟨k1,k2,k3,k4,k5,k6⟩,h⟩;·exact ⟨_,qaa.2 rfl,_,[],⟨[num 0,num 0,num 0,num 2],rfl,FW (by decide) (by decide),FW (by decide) (by decide),FW (by decide) (by decide),⟨2,rfl,by decide,by decide⟩,trivial⟩,trivial,h⟩
  exact ⟨_,qaa.2 rfl,_,[],⟨[num y,num m,num (r+1),num 0],rfl,FW (by omega) (by omega),FW (by omega) (by omega),FW (by omega) (by omega),⟨0,rfl,by decide,by decide⟩,trivial⟩,trivial,h⟩)
end Ct
end Go.Proofs.YtpcjeobkehmhpaaGreatDoor
namespace Go.Proofs.YtpcjeobkehmhpaaGreatDoor
open Go Go.Em Go.Ab
set_option maxRecDepth 100000
set_option linter.all false
namespace Ct
def zv4:List Ctr:=[dM 188 [.k .i64 1,.dp [.sr 1 1000000]] [] none [(.ir .i64 1 1000000,[],[lt 2 0 1])]]
theorem zi9:ay T Gm zv4:=hoA K11 zjH
def zvD:List Ctr:=[dM 250 [.s,.s] [] none [(.kb true,[],[lt 2 0 1]),(.kb false,[],[])]]
theorem ziU:ay T Gm zvD:=hoA K11 .nil
def zv3:List Ctr:=[dM 190 [.s,.s] [] none [(.kb true,[],[lt 2 0 1]),(.kb false,[],[])]]
theorem zi8:ay T Gm zv3:=hoA K11 ziU
def zvC:List Ctr:=[dM 251 [.s,.sr 1 1] [] none [(.tu [.s,.s,.kb true],[],[lt 3 0 1,lt 4 0 1]),(.tu [.s,.s,.kb false],[],[lt 3 0 1,lt 4 0 1])]]
theorem ziT:ay T Gm zvC:=hoA K11 zjz
def zv2:List Ctr:=[dM 191 [.s,.sr 1 1] [] none [(.tu [.s,.s,.kb true],[],[lt 3 0 1,lt 4 0 1]),(.tu [.s,.s,.kb false],[],[lt 3 0 1,lt 4 0 1])]]
theorem zam:ay T Gm zv2:=hoA K11 ziT
def zwc:List Ctr:=[dM 122 [.sr 1 1000000] [] none [(.tu [part,.s,.kb true],[],[lt 5 1 1]),(.tu [part,.s,.kb false],[],[])]]
theorem zjo:ay T Gm zwc:=hoA K11 (hpA zi9 (hpA zi8 (hpA zam (hpA zaF JB))))
def zqK:List Ctr:=[mkC 130 [.s] [] none [((.kb true),[]),((.kb false),[])]]
theorem Qh:ay T Gm zqK:=hoB K11 ((iM [⟨[23,24,25],fun e n=>(n+1,[aj (.k 0) ⟨n+0,0⟩,aj ⟨n+0,0⟩ (e 1)],[(23,.sl (some false) 1 4 (.k 1) (e 1)),(24,.i .i64 (e 1)),(25,.i .i64 ⟨n+0,0⟩)],[],(e 1,⟨n+0,0⟩))⟩])) .nil
def zwb:List Ctr:=[dM 123 [part] [] none [(.kb true,[],bd 2 0 1000000),(.kb false,[],[])]]
theorem zaq:ay T Gm zwb:=hoA K11 Qh
def zvB:List Ctr:=[mkC 298 [YX] [] none [(.sr 0 1000100,[])]]
theorem ziS:ay T Gm zvB:=hoA K11 JB
def zv1:List Ctr:=[mkC 263 [.sl 3 7] [] none [((err),[])]]
theorem zi7:ay T Gm zv1:=hoB K11 ((iM [⟨[3,21,22,23],fun e n=>(n+2,[aj (.k 0) ⟨n+1,0⟩,aj ⟨n+1,0⟩ (e 2)],[(3,.i .i64 ⟨n+0,0⟩),(21,.sl none 3 7 (e 1) (e 2)),(22,.i .i64 (e 2)),(23,.i .i64 ⟨n+1,0⟩)],[],(e 2,⟨n+1,0⟩))⟩])) (hpA zaq ziS)
def zvY:List Ctr:=[mkC 266 [part] [] none [((.kb true),[]),((.kb false),[])]]
theorem zal:ay T Gm zvY:=hoA K11 .nil
def zqI:List Ctr:=[mkC 124 [.sl 3 7,.fn 266 []] [] none [(.ir .i64 (-1) 1000000,[])]]
theorem Qg:ay T Gm zqI:=hoB K11 ((iM [⟨[0,1,7,8],fun e n=>(n+1,[aj (.k 0) ⟨n+0,0⟩,aj ⟨n+0,0⟩ (e 1)],[(0,.sl none 3 7 (e 0) (e 1)),(1,.fn 266 []),(7,.i .i64 (e 1)),(8,.i .i64 ⟨n+0,0⟩)],[],(e 1,⟨n+0,0⟩))⟩])) zal
def zjs:List Ctr:=[mkC 90 [.sl 3 7,.fn 266 []] [] none [(.kb true,[]),(.kb false,[])]]
theorem Qj:ay T Gm zjs:=hoA K11 Qg
def zwa:List Ctr:=[mkC 226 [.sl 3 7] [] none [((.kb true),[]),((.kb false),[])]]
theorem zjn:ay T Gm zwa:=hoA K11 (hpA Qj zal)
def zv0:List Ctr:=[mkC 264 [YX,zca] [] none [(.kb true,[]),(.kb false,[])]]
theorem zi6:ay T Gm zv0:=hoA K11 .nil
def zvn:List Ctr:=[mkC 315 [zry,.dp [.s]] [] none [(.kb true,[]),(.kb false,[])]]
theorem Z5:ay T Gm zvn:=hoA K11 .nil
def znx:List Ctr:=[dM 115 [.slr 7 12 0 6,.fn 315 [.dp [.s]]] [] none [(.ir .i64 (-1) 5,[],[lt 4 1 2])]]
theorem yu:ay T Gm znx:=hoB K11 ((iM [⟨[0,1,7,8],fun e n=>(n+1,[aj (.k 0) ⟨n+0,0⟩,aj ⟨n+0,0⟩ (e 1)],[(0,.sl none 7 12 (e 0) (e 1)),(1,.fn 315 [.dp [.s (e 2)]]),(7,.i .i64 (e 1)),(8,.i .i64 ⟨n+0,0⟩)],[],(e 1,⟨n+0,0⟩))⟩])) Z5
def zvA:List Ctr:=[dM 299 [zca,.s] [] none [(.ir .i64 (-1) 5,[],[lt 9 1 7])]]
theorem ziR:ay T Gm zvA:=hoA K11 (hpA Z5 yu)
def zvZ:List Ctr:=[dM 265 [YX,zca] [] none [(.slr 6 11 0 6,[],[lt 11 0 4])]]
theorem zi5:ay T Gm zvZ:=hoA K11 ziR
def zb0:List Ctr:=[mkC 46 [val] [] (some (1,0)) [(.ag [int,int,int,.s,.bs 0,.bs 1],[.yX 6 1 1 12,.yX 7 2 1 13])],mkC 46 [zca] [] (some (1,0)) [(.ag [int,int,int,.s,.bs 0,.bs 1],[.yX 6 1 1 12,.yX 7 2 1 13])]]
theorem pO:ay T Gm zb0:=hrA K11 ((iM [⟨[1,2,3,12,13,14],fun e n=>(n+4,[aj ⟨n+0,0⟩ ⟨n+3,0⟩,aj ⟨n+1,0⟩ ⟨n+3,0⟩,aj (.k 0) ⟨n+2,0⟩,aj ⟨n+2,0⟩ (e 3),aj ⟨n+3,0⟩ ⟨n+0,0⟩,aj ⟨n+3,0⟩ ⟨n+1,0⟩,aj (.k 0) ⟨n+3,0⟩,aj ⟨n+3,0⟩ (e 4)],[(1,.ptr 0 (.k 0) 0),(2,.ptr 1 (.k 0) 0),(3,.ptr 2 (.k 0) 0),(12,.sl none 6 1 (e 3) (e 4)),(13,.i .i64 (e 4)),(14,.i .i64 ⟨n+0,0⟩)],[.var [.i .i64 (e 7),.i .i64 (e 8),.i .i64 (e 9),.s (e 10),.sl none 6 1 (e 3) (e 4),.sl none 7 2 (e 3) (e 14)],.var [.i .i64 (.k 0),.i .i64 (.k 0),.i .i64 (.k 0),.x (.v (.string ⟨#[]⟩)),.x (.sl true 6 []),.x (.sl true 7 [])],.var [.i .i64 (e 7),.i .i64 (e 8),.i .i64 (e 9),.s (e 10),.bs 3 (.k 0) ⟨n+1,0⟩,.x (.sl true 7 [])],.row 6 1 ⟨n+2,0⟩ ⟨n+3,0⟩],(e 4,⟨n+0,0⟩))⟩,⟨[2,3,27,28,29],fun e n=>(n+4,[aj ⟨n+0,0⟩ ⟨n+3,0⟩,aj ⟨n+1,0⟩ ⟨n+3,0⟩,aj (.k 0) ⟨n+2,0⟩,aj ⟨n+2,0⟩ (e 2),aj ⟨n+3,0⟩ ⟨n+0,0⟩,aj ⟨n+3,0⟩ ⟨n+1,0⟩,aj (.k 0) ⟨n+3,0⟩,aj ⟨n+3,0⟩ (e 3)],[(2,.ptr 0 (.k 0) 0),(3,.ptr 1 (.k 0) 0),(27,.sl none 7 2 (e 2) (e 3)),(28,.i .i64 (e 3)),(29,.i .i64 ⟨n+0,0⟩)],[.var [.i .i64 (.k 0),.i .i64 (.k 0),.i .i64 (.k 0),.x (.v (.string ⟨#[]⟩)),.x (.sl true 6 []),.x (.sl true 7 [])],.var [.i .i64 (e 9),.i .i64 (e 10),.i .i64 (e 11),.s (e 12),.bs 2 (.k 0) (e 14),.bs 3 (.k 0) ⟨n+1,0⟩],.row 6 1 (e 17) (e 18),.row 7 2 ⟨n+2,0⟩ ⟨n+3,0⟩],(e 3,⟨n+0,0⟩))⟩,⟨[1,2,3,12,13,14],fun e n=>(n+4,[aj ⟨n+0,0⟩ ⟨n+3,0⟩,aj ⟨n+1,0⟩ ⟨n+3,0⟩,aj (.k 0) ⟨n+2,0⟩,aj ⟨n+2,0⟩ (e 3),aj ⟨n+3,0⟩ ⟨n+0,0⟩,aj ⟨n+3,0⟩ ⟨n+1,0⟩,aj (.k 0) ⟨n+3,0⟩,aj ⟨n+3,0⟩ (e 4)],[(1,.ptr 0 (.k 0) 0),(2,.ptr 1 (.k 0) 0),(3,.ptr 2 (.k 0) 0),(12,.sl none 6 11 (e 3) (e 4)),(13,.i .i64 (e 4)),(14,.i .i64 ⟨n+0,0⟩)],[.var [.i .i64 (e 7),.i .i64 (e 8),.i .i64 (e 9),.s (e 10),.sl none 6 11 (e 3) (e 4),.sl none 7 12 (e 3) (e 14)],.var [.i .i64 (.k 0),.i .i64 (.k 0),.i .i64 (.k 0),.x (.v (.string ⟨#[]⟩)),.x (.sl true 6 []),.x (.sl true 7 [])],.var [.i .i64 (e 7),.i .i64 (e 8),.i .i64 (e 9),.s (e 10),.bs 3 (.k 0) ⟨n+1,0⟩,.x (.sl true 7 [])],.row 6 1 ⟨n+2,0⟩ ⟨n+3,0⟩],(e 4,⟨n+0,0⟩))⟩,⟨[2,3,27,28,29],fun e n=>(n+4,[aj ⟨n+0,0⟩ ⟨n+3,0⟩,aj ⟨n+1,0⟩ ⟨n+3,0⟩,aj (.k 0) ⟨n+2,0⟩,aj ⟨n+2,0⟩ (e 2),aj ⟨n+3,0⟩ ⟨n+0,0⟩,aj ⟨n+3,0⟩ ⟨n+1,0⟩,aj (.k 0) ⟨n+3,0⟩,aj ⟨n+3,0⟩ (e 3)],[(2,.ptr 0 (.k 0) 0),(3,.ptr 1 (.k 0) 0),(27,.sl none 7 12 (e 2) (e 3)),(28,.i .i64 (e 3)),(29,.i .i64 ⟨n+0,0⟩)],[.var [.i .i64 (.k 0),.i .i64 (.k 0),.i .i64 (.k 0),.x (.v (.string ⟨#[]⟩)),.x (.sl true 6 []),.x (.sl true 7 [])],.var [.i .i64 (e 9),.i .i64 (e 10),.i .i64 (e 11),.s (e 12),.bs 2 (.k 0) (e 14),.bs 3 (.k 0) ⟨n+1,0⟩],.row 6 1 (e 17) (e 18),.row 7 2 ⟨n+2,0⟩ ⟨n+3,0⟩],(e 3,⟨n+0,0⟩))⟩])) .nil
def zvh:List Ctr:=[dM 322 [int,int,int] [] none [(.kb true,[],[lt 2 0 1,lt 1 0 3]),(.kb false,[],[])]]
theorem ziE:ay T Gm zvh:=hoA K11 .nil
def zvk:List Ctr:=[mkC 308 [int] [] none [(.tu [int,.ir .i64 0 86399999,err],[])]]
theorem ziH:ay T Gm zvk:=hoA K11 ziE
def zvl:List Ctr:=[mkC 307 [.ir .i64 (-1000000000000) 1000000000000,.ir .i64 0 10] [] none [(.sr 0 130,[])]]
theorem Z4:ay T Gm zvl:=hoA K11 (hpA JB zjy)
def zvq:List Ctr:=[mkC 279 [int] [] none [(.tu [.sr 0 400,err],[])]]
theorem Z9:ay T Gm zvq:=hoA K11 (hpA zjx Z4)
def zvp:List Ctr:=[mkC 280 [int] [] none [(.tu [.sr 0 2000,err],[])]]
theorem ziM:ay T Gm zvp:=hoA K11 (hpA ziH (hpA Z9 Z4))
end Ct
end Go.Proofs.YtpcjeobkehmhpaaGreatDoor
namespace Go.Proofs.YtpcjeobkehmhpaaGreatDoor
open Go Go.Em Go.Ab
set_option maxRecDepth 100000
variable {f:FuncId}{inb:List BSh}{bx:List Bx}{args:List Sh}{xs:List X}{outs:List Xd}{a n:Nat}{Γ:Nat->Gam}{mu:Option (Nat×Nat)}{ρ:Rho}
namespace Ct
theorem rW {T:Tab}{bx':List Bx}{q:Xd}{r:X}(hq:q∈outs)(h0:ρ 0=0)(hp:0<(dM f args inb mu outs).m)(w1:q.1.own=true)(w2:q.2.1.all BSh.own=true)(h1:q.1.Is T 0 r)(h2:BIs T q.2.1 bx')
  (hF:∀n' ρ',More (dM f args inb mu outs).m ρ n' ρ'->ρ' 0=0->G T n' ρ' (q.1.bld (.k 0) (dM f args inb mu outs).m).1 r->GBs T n' ρ' (qy (q.1.bld (.k 0) (dM f args inb mu outs).m).2.1 q.2.1).1 bx'->n'=(qy (q.1.bld (.k 0) (dM f args inb mu outs).m).2.1 q.2.1).2.1->aX n' ρ' q.2.2)
  (h:∃B,∀N,B<=N->Γ N (.fn f) xs bx=some (r,bx')):(dM f args inb mu outs).Res T Γ ρ xs bx:=by
 obtain ⟨sh,bs,F⟩:=q;dsimp only at w1 w2 h1 h2 hF;obtain ⟨B,hB⟩:=h;obtain ⟨ρ1,m1,f1,g1⟩:=Sh.fwd sh (h:=.k 0) (n:=(dM f args inb mu outs).m) (ρ:=ρ) w1 hp h0 hp (by rw [Lin.k_v h0];exact h1);have hn1:=Nat.lt_of_lt_of_le hp m1.le;obtain ⟨ρ2,m2,f2,g2⟩:=sQ bs w2 hn1 (m1.zero hp h0) h2;have hf:=hF _ ρ2 (m1.trans m2) (m2.zero hn1 (m1.zero hp h0)) (g1.more m2) g2 rfl;exact ⟨zpW (dM f args inb mu outs).m (sh,bs,F),by rw [vV];exact qal.2 ⟨_,hq,rfl⟩,ρ2,r,bx',m1.trans m2,aX.append hf (aX.append (m2.facts f1) f2),g1.more m2,g2,B,hB⟩
theorem zl2 {T:Tab}(hc:(dM f args inb mu outs).Holds T Γ)(ho:F8 args=true)(hob:inb.all BSh.own=true)(ha:IsL T 0 args xs)(hb:BIs T inb bx):
  ∃ρ,GL T (dM f args inb mu outs).m ρ (mO (.k 0) 1 args).1 xs/\∃q,q∈outs/\∃n' ρ' r bx',More (dM f args inb mu outs).m ρ n' ρ'/\ρ' 0=0/\aX n' ρ' q.2.2/\G T n' ρ' (q.1.bld (.k 0) (dM f args inb mu outs).m).1 r/\q.1.Is T 0 r/\BIs T q.2.1 bx'/\∃B,∀N,B<=N->Γ N (.fn f) xs bx=some (r,bx'):=by
 obtain ⟨ρ,hs⟩:=Jc (f:=f) (mu:=mu) (outs:=outs) ho hob ha hb;exact ⟨ρ,hs.args,BD hs.zero hs.pos (hc ρ xs bx hs)⟩
theorem Dw {b:Nat}{c:Int}{F:List Fact}(h:aX n ρ F)(hm:lt a c b∈F):ρ a+c<=ρ b:=by have:=(aJ.1 (h _ hm)).2.2;unfold Lin.v at this;dsimp only at this;omega
theorem zrR {lo hi:Int}(h0:ρ 0=0)(h:aX n ρ (bd a lo hi)):lo<=ρ a/\ρ a<=hi:=by have h1:=(aJ.1 (h (aj (.k lo) ⟨a,0⟩) (by simp [bd]))).2.2;have h2:=(aJ.1 (h (aj ⟨a,0⟩ (.k hi)) (by simp [bd]))).2.2;rw [Lin.k_v h0] at h1 h2;unfold Lin.v at h1 h2;dsimp only at h1 h2;omega
theorem isP {T:Tab}{h:Int}{x:X}(hx:part.Is T h x):∃(k i:Int) (nm:qaZ),x=.agg [num k,num i,aC nm]/\(nm.size:Int)<=1000000:=by
 match x,hx with
 |_,⟨xs,rfl,hx⟩=>
  match xs,hx with
  |[_,_,_],⟨⟨k,rfl⟩,⟨i,rfl⟩,⟨nm,rfl,h⟩,_⟩=>exact ⟨k,i,nm,rfl,h⟩
theorem XK (s:qaZ)(h1:1<=s.size)(h2:s.size<=1000000):∃(k i:Int) (nm s2:qaZ) (b:Bool),Back 122 [aC s] (.tup [.agg [num k,num i,aC nm],aC s2,ak b])/\nm.size<=1000000/\(b=true->s2.size+1<=s.size):=by
 obtain ⟨ρ,g,q,hq,n',ρ',r,bx',hm,z,hF,hg,hi,hb,hB⟩:=zl2 (zjo _ (qaa.2 rfl)) rfl rfl (xs:=[aC s]) ⟨⟨s,rfl,by omega,by omega⟩,trivial⟩ (bx:=[]) trivial;have e1:(s.size:Int)=ρ 1:=by
  cases g with
  |cons w _=>exact sS w
 have k1:ρ' 1=ρ 1:=hm.same 1 (by decide);rcases qaj.1 hq with rfl|hq
 ·obtain rfl:=nD hb;obtain ⟨xs,rfl,hi⟩:∃xs,r=.tup xs/\IsL T 0 [part,.s,.kb true] xs:=hi
  match xs,hi,hg with
  |[x,y,w],⟨hx,hy,hw,_⟩,.tup (.cons _ (.cons gy _))=>obtain ⟨k,i,nm,rfl,hnm⟩:=isP hx;obtain ⟨s2,rfl,h3⟩:=isS hy;have hw:w=ak true:=hw;subst hw;have e5:(s2.size:Int)=ρ' 5:=sS gy;have:=Dw hF (qaa.2 rfl);exact ⟨k,i,nm,s2,true,hB,by omega,fun _=>by omega⟩
 obtain rfl:=qaa.1 hq;obtain rfl:=nD hb;obtain ⟨xs,rfl,hi⟩:∃xs,r=.tup xs/\IsL T 0 [part,.s,.kb false] xs:=hi
 match xs,hi with
 |[x,y,w],⟨hx,hy,hw,_⟩=>obtain ⟨k,i,nm,rfl,hnm⟩:=isP hx;obtain ⟨s2,rfl,h3⟩:=isS hy;have hw:w=ak false:=hw;subst hw;exact ⟨k,i,nm,s2,false,hB,by omega,fun e=>by cases e⟩
theorem Ul (k i:Int)(nm:qaZ)(h:nm.size<=1000000):∃b,Back 123 [.agg [num k,num i,aC nm]] (ak b)/\(b=true->0<=i/\i<=1000000):=by
 obtain ⟨ρ,g,q,hq,n',ρ',r,bx',hm,z,hF,hg,hi,hb,hB⟩:=zl2 (zaq _ (qaa.2 rfl)) rfl rfl (xs:=[.agg [num k,num i,aC nm]]) ⟨⟨_,rfl,⟨k,rfl⟩,⟨i,rfl⟩,⟨nm,rfl,by unfold bT;omega⟩,trivial⟩,trivial⟩ (bx:=[]) trivial;have e2:i=ρ 2:=by
  cases g with
  |cons w _=>cases w with
   |agg w=>cases w with
    |cons _ w=>cases w with
     |cons w _=>exact sI w
 have k2:ρ' 2=ρ 2:=hm.same 2 (by decide);rcases qaj.1 hq with rfl|hq;·obtain rfl:=nD hb;have hi:r=ak true:=hi;subst hi;have:=zrR z hF;exact ⟨true,hB,fun _=>by omega⟩
 obtain rfl:=qaa.1 hq;obtain rfl:=nD hb;have hi:r=ak false:=hi;subst hi;exact ⟨false,hB,fun e=>by cases e⟩
end Ct
end Go.Proofs.YtpcjeobkehmhpaaGreatDoor
namespace Go.Proofs.YtpcjeobkehmhpaaGreatDoor
open Go Go.Em Go.Ab
set_option maxRecDepth 100000
namespace Ct
def zwj:List Ctr:=[dM 295 [.sl 1 5] [] none [(.bs 0,[.row 1 5],[lt 3 0 5,lt 5 0 3])]]
theorem zjw:ay T Gm zwj:=.one fun ρ xs bx hs=>by
 obtain ⟨ha,hb⟩:=o9 hs;obtain ⟨x,rfl,hx⟩:=zdN ha;obtain rfl:=nD hb;obtain ⟨t,es,h',rfl,hh,hl,hd⟩:=hx;unfold bT at hl;refine rW (q:=(.bs 0,[.row 1 5],[lt 3 0 5,lt 5 0 3])) (qaa.2 rfl) hs.zero hs.pos rfl rfl (r:=.bs 0 0 es.length) (bx':=[.row 1 es]) ⟨es.length,rfl,by unfold bT;omega⟩ ⟨⟨es,h',rfl,hh,by unfold bT;omega,hd⟩,trivial⟩ (fun n' ρ' hm z g gb hn=>?_) (gB (g:=DV 1) rfl ?_)
 ·subst hn;have e3:(es.length:Int)=ρ' 3:=by
   cases g with
   |bs _ _ _ q=>rw [q];unfold Lin.v;show ρ' 3+0=_;omega
  have e5:(es.length:Int)=ρ' 5:=by
   cases gb with
   |cons g _=>cases g with
    |row _ _ q _=>rw [q];unfold Lin.v;show ρ' 5+0=_;omega
  exact .cons (iR (by decide) (by decide) (by omega)) (.cons (iR (by decide) (by decide) (by omega)) .nil)
 show (if 1=1/\es.length<=1000000 then _ else _)=_;rw [if_pos ⟨rfl,by omega⟩]
def zqe (k:Nat):Ctr:=(dM 132 [.bsr 0 0 1001000,int,.slr 7 k 1 1] [.zbS 7 k 1001000] none [(.bsr 1 0 1002000,[.dead,.zbS 7 k 1002000],[lt 7 (-1) 1,lt 1 1 7,lt 7 0 9,lt 9 0 7])]).with [[lt 1 0 6,lt 6 0 1,lt 2 0 1,aj (.k 0) ⟨2,0⟩,aj ⟨6,0⟩ (.k 1001000)]]
theorem ZM (k:Nat):(zqe k).Holds T Gm:=fun ρ xs bx hs0=>by
 have hs:(dM 132 [.bsr 0 0 1001000,int,.slr 7 k 1 1] [.zbS 7 k 1001000] none [(.bsr 1 0 1002000,[.dead,.zbS 7 k 1002000],[lt 7 (-1) 1,lt 1 1 7,lt 7 0 9,lt 9 0 7])]).Sat T ρ xs bx:=⟨hs0.zero,hs0.pos,hs0.pre,⟨[],qaa.2 rfl,.nil⟩,hs0.args,hs0.inb⟩;obtain ⟨p,hp,hF⟩:=hs0.alts;obtain rfl:=qaa.1 hp;obtain ⟨ha,hb⟩:=o9 hs;have hg:=hs.args;have hgb:=hs.inb
 match xs,ha,hg with
 |[_,_,_],⟨⟨n,rfl,n0,n1⟩,⟨z,rfl⟩,⟨t,es,h3,rfl,hh3,hl1,hl2,hd3⟩,_⟩,.cons g1 (.cons g2 _)=>
  match bx,hb,hgb with
  |[_],⟨⟨rows,h5,rfl,hh5,hl5,hd5⟩,_⟩,.cons w1 _=>
   have e1:(n:Int)=ρ 1:=by
    cases g1 with
    |bs _ _ _ q=>rw [q];unfold Lin.v;show ρ 1+0=_;omega
   have e2:z=ρ 2:=sI g2;have e6:(rows.length:Int)=ρ 6:=by
    cases w1 with
    |row _ _ q _=>rw [q];unfold Lin.v;show ρ 6+0=_;omega
   have f1:=Dw (a:=1) (b:=6) (c:=0) hF (qap ..);have f2:=Dw (a:=6) (b:=1) (c:=0) hF (qam _ (qap ..));have f3:=Dw (a:=2) (b:=1) (c:=0) hF (qam _ (qam _ (qap ..)));have f4:0<=ρ 2:=by have:=(aJ.1 (hF (aj (.k 0) ⟨2,0⟩) (qam _ (qam _ (qam _ (qap ..)))))).2.2;rw [Lin.k_v hs.zero] at this;unfold Lin.v at this;dsimp only at this;omega
   match es,hl1,hl2,hd3 with
   |[e],_,_,hd3=>
    have hz:z.toNat<=rows.length:=by omega
    have hlen:(rows.take z.toNat++[e]++rows.drop z.toNat).length=rows.length+1:=by simp only [qau,qaf,qaL,List.length_singleton];omega
    obtain rfl:n=rows.length:=by omega
    refine rW (q:=(.bsr 1 0 1002000,[.dead,.zbS 7 k 1002000],[lt 7 (-1) 1,lt 1 1 7,lt 7 0 9,lt 9 0 7])) (qaa.2 rfl) hs.zero hs.pos rfl rfl (r:=.bs 1 0 (rows.length+1)) (bx':=[.dead,.row 7 (rows.take z.toNat++[e]++rows.drop z.toNat)])
     ⟨rows.length+1,rfl,by omega,by omega⟩ ⟨rfl,⟨_,max h3 h5,rfl,by omega,by omega,fun x hx=>?_⟩,trivial⟩ (fun n' ρ' hm zz g gb hn=>?_) (za1 (g:=ZL 7) rfl ?_)
    ·simp only [qaK,qaa] at hx;rcases hx with (hx|rfl)|hx;·exact fU (by omega) (hd5 x (List.mem_of_mem_take hx))
     ·exact fU (by omega) (hd3 x (qaa.2 rfl))
     exact fU (by omega) (hd5 x (List.mem_of_mem_drop hx))
    ·subst hn;have k1:ρ' 1=ρ 1:=hm.same 1 (show 1<7 by decide);have e7:((rows.length+1:Nat):Int)=ρ' 7:=by
      cases g with
      |bs _ _ _ q=>rw [q];unfold Lin.v;show ρ' 7+0=_;omega
     have e9:((rows.length+1:Nat):Int)=ρ' 9:=by
      cases gb with
      |cons _ gb=>cases gb with
       |cons g _=>cases g with
        |row _ _ q _=>rw [<-hlen,q];unfold Lin.v;show ρ' 9+0=_;omega
     have m1:(1:Nat)<10:=by decide
     have m7:(7:Nat)<10:=by decide
     have m9:(9:Nat)<10:=by decide
     exact .cons (iR m7 m1 (by omega)) (.cons (iR m1 m7 (by omega)) (.cons (iR m7 m9 (by omega)) (.cons (iR m9 m7 (by omega)) .nil)))
    show (if 7=7/\7=7/\rows.length=rows.length/\rows.length<=2000000/\0<=z/\z.toNat<=rows.length then _ else _)=_;rw [if_pos ⟨rfl,rfl,rfl,by omega,by omega,hz⟩]
where
 za1 {f:FuncId} {args:List X} {inb:List Bx} {g:List X->List Bx->Option (X×List Bx)} (hg:ext f=some g) {r:X} {bx:List Bx} (h:g args inb=some (r,bx)):∃B,∀N,B<=N->Gm N (.fn f) args inb=some (r,bx):=
  ⟨1,fun N hN=>by obtain ⟨M,rfl⟩:∃M,N=M+1:=⟨N-1,by omega⟩;show ah tab ext (M+1) (.fn f) args inb=_;unfold ah;rw [hg];exact h⟩
def zwq:List Ctr:=[zqe 2,zqe 22]
theorem zaC:ay T Gm zwq:=.cons (ZM 2) (.one (ZM 22))
theorem VB {n:Nat}{ρ:Rho}(h0:ρ 0=0){s:Nat}(hn:0<n)(hs:s<n):∃p,p∈Jf s/\aX n ρ p:=by
 have up:∀{c:Int},ρ s<=c->(aj ⟨s,0⟩ (.k c)).ok n ρ:=fun h=>aJ.2 ⟨hs,hn,by rw [Lin.k_v h0];unfold Lin.v;dsimp only;omega⟩;have dn:∀{c:Int},c<=ρ s->(aj (.k c) ⟨s,0⟩).ok n ρ:=fun h=>aJ.2 ⟨hn,hs,by rw [Lin.k_v h0];unfold Lin.v;dsimp only;omega⟩;have b2:∀{lo hi:Int},lo<=ρ s->ρ s<=hi->aX n ρ (bd s lo hi):=fun h1 h2=>.cons (dn h1) (.cons (up h2) .nil);unfold Jf;by_cases k1:ρ s<=0;·exact ⟨_,qap ..,.cons (up k1) .nil⟩
 by_cases k2:ρ s<=7;·exact ⟨_,qam _ (qap ..),b2 (by omega) k2⟩
 by_cases k3:ρ s<=8;·exact ⟨_,qam _ (qam _ (qap ..)),b2 (by omega) k3⟩
 by_cases k4:ρ s<=9;·exact ⟨_,qam _ (qam _ (qam _ (qap ..))),b2 (by omega) k4⟩
 by_cases k5:ρ s<=10;·exact ⟨_,qam _ (qam _ (qam _ (qam _ (qap ..)))),b2 (by omega) k5⟩
 exact ⟨_,qam _ (qam _ (qam _ (qam _ (qam _ (qap ..))))),.cons (dn (by omega)) .nil⟩
end Ct
end Go.Proofs.YtpcjeobkehmhpaaGreatDoor
namespace Go.Proofs.YtpcjeobkehmhpaaGreatDoor
open Go Go.Em Go.Ab
set_option maxRecDepth 100000
namespace Ct
theorem YO (N:Nat):ah tab ext (N+61) (.fn 62) [.sl false 7 []] []=some (.agg [num 9,num 0,num 0,bD,.sl false 6 [],.sl false 7 []],[]):=caA [] (pf1 (Nat.le_refl 0))
def zwG:List Ctr:=[mkC 62 [.x (.sl false 7 [])] [] none [(val,[])]]
theorem zjM:ay T Gm zwG:=.one (dF (fun o ho=>by rw [qaa.1 ho];exact ⟨rfl,rfl⟩) fun xs bx ha hb=>by obtain ⟨x,rfl,rfl,_⟩:=zdN ha;obtain rfl:=nD hb;refine ⟨_,qaa.2 rfl,.agg [num 9,num 0,num 0,bD,.sl false 6 [],.sl false 7 []],[],⟨0,_,rfl,by decide,⟨9,rfl⟩,⟨0,rfl⟩,⟨0,rfl⟩,⟨⟨#[]⟩,rfl,by decide⟩,⟨false,[],rfl,by decide,fun e he=>by cases he⟩,⟨false,[],rfl,by decide,fun e he=>by cases he⟩,trivial⟩,trivial,61,fun N hN=>?_⟩;obtain ⟨M,rfl⟩:∃M,N=M+61:=⟨N-61,by omega⟩;exact YO M)
end Ct
end Go.Proofs.YtpcjeobkehmhpaaGreatDoor
