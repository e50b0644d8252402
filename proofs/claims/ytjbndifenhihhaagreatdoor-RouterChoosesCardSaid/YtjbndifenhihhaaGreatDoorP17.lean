/- Nodes, cut to their sizes. -/
import Derived.Lib.ItoaLen
import Derived.Lib.AtoiAllCases
import Derived.Lib.TrimU
import Derived.Lib.RuneCount
import Derived.Test.YtjbndifenhihhaaGreatDoorEmP8
import Derived.Test.YtjbndifenhihhaaGreatDoorEmP12
import Derived.Test.YtjbndifenhihhaaGreatDoorP13
import Derived.Test.YtjbndifenhihhaaGreatDoorP15
import Derived.Test.YtjbndifenhihhaaGreatDoorP16
namespace Go.Proofs.YtjbndifenhihhaaGreatDoor
open Go.Em
set_option maxRecDepth 100000
structure Nod where
 name:ByteArray
 kind:Int
 schema:Int
 result:Int
 number:Int
 time:Int
 limit:Int
 text:ByteArray
 ty:Int×Int×Int×Int
 words:List (List X)
 elem:List (List X)
 fields:List (List X)
 types:List (List X)
 exprs:List (List X)
 calls:List (List X)
 rules:List (List X)
 next:List (List X)
def Nod.cells (n:Nod):List X:=[strX n.name,num n.kind,num n.schema,num n.result,num n.number,num n.time,num n.limit,strX n.text,num n.ty.1,num n.ty.2.1,num n.ty.2.2.1,num n.ty.2.2.2,.sl false 1 n.words,.sl false 7 n.elem,.sl false 11 n.fields,.sl false 7 n.types,.sl false 5 n.exprs,.sl false 6 n.rules,.sl false 2 n.calls,.sl false 1 n.next]
def isNode (c:List X):Prop:=∃(name:ByteArray) (k1 k2 k3 k4 k5 k6:Int) (text:ByteArray) (T:List X) (ty ex ru ca ne:List (List X)),c=[strX name,num k1,num k2,num k3,num k4,num k5,num k6,strX text]++(T++[.sl false 7 ty,.sl false 5 ex,.sl false 6 ru,.sl false 2 ca,.sl false 1 ne])∧EM 3 T∧(∀x,x∈ty→EM 3 x)∧(∀x,x∈ex→EO 3 x)∧(∀x,x∈ru→qL x)∧∀x,x∈ca→Oz x
def Nod.small (n:Nod):Prop:=n.name.size≤60∧n.text.size≤60∧sT 4 (jw n.ty.1 n.ty.2.1 n.ty.2.2.1 n.ty.2.2.2 n.words n.elem n.fields)∧n.exprs.length≤8∧(∀x,x∈n.exprs→sE 4 x)∧n.rules.length≤8∧∀x,x∈n.rules→zF x
theorem CV {c:List X}(h:isNode c):∃nd nd':Nod,c=nd.cells∧nd'.small∧∀N,220≤N→Gam.pureD (callF tab ext N) 20 [.agg nd.cells]=some (.agg nd'.cells):=by
 obtain ⟨name,k1,k2,k3,k4,k5,k6,text,T,ty,ex,ru,ca,ne,rfl,hT,hty,hex,hru,hca⟩:=h
 obtain ⟨a,b,c,d,w,e,f,a',b',c',d',w',e',f',ty',ex',ru',ca',ne',rfl,hs,hc⟩:=PZ name text k1 k2 k3 k4 k5 k6 T ty ex ru ca ne hT hty hex hru hca
 exact ⟨⟨name,k1,k2,k3,k4,k5,k6,text,(a,b,c,d),w,e,f,ty,ex,ca,ru,ne⟩,⟨fB 60 name,k1,k2,k3,k4,k5,k6,fB 60 text,(a',b',c',d'),w',e',f',ty',ex',ca',ru',ne'⟩,rfl,hs,hc⟩
end Go.Proofs.YtjbndifenhihhaaGreatDoor
namespace Go.Proofs.YtjbndifenhihhaaGreatDoor
open Go.Em Go.RowKit
set_option maxRecDepth 100000
theorem Tryz.own:ownKnob Tryz.prog.godebug=none:=by kernel_rfl
theorem Tryz.laidOut:laidOutB Tryz.prog=true:=by kernel_rfl
theorem Tryz.rowed:mapsRowed Tryz.prog=true:=by kernel_rfl
def tys:List TypeId:=[3,4,9,35,37,57,22,23,24,26,27,28,30,31,32,34,39,40,41,43,45,47,78,104,132,123,126,194]
theorem Gu:Ad Tryz.prog tys=true:=by kernel_rfl
theorem Yi:tys.all (fun t=>decide (t<Tryz.prog.types.size))=true:=by kernel_rfl
theorem za6 {t:TypeId}(h:t∈tys):t<Tryz.prog.types.size:=of_decide_eq_true (List.all_eq_true.1 Yi t h)
theorem Nq:Kids Tryz.prog (fun t=>t∈tys∧t<Tryz.prog.types.size):=Vw (kids_rows Tryz.laidOut Tryz.rowed) Gu
def fieldsOf (P:Program)(t:TypeId):Array Field:=match P.underlying t with
 |some (.struct fs)=>fs
 |_=>#[]
theorem zge:Tryz.prog.underlying 3=some (.int .i64):=by kernel_rfl
theorem TB:Tryz.prog.underlying 4=some .bool:=by kernel_rfl
theorem zgd:Tryz.prog.underlying 9=some .string:=by kernel_rfl
theorem zbO:Tryz.prog.underlying 37=some (.struct (fieldsOf Tryz.prog 37)):=by kernel_rfl
theorem zaf:(fieldsOf Tryz.prog 37).toList.map (·.type)=[3,3,35]:=by kernel_rfl
theorem zbW:Tryz.prog.underlying 26=some (.struct (fieldsOf Tryz.prog 26)):=by kernel_rfl
theorem zaj:(fieldsOf Tryz.prog 26).toList.map (·.type)=[3,3,3,3,22,23,24]:=by kernel_rfl
theorem zbT:Tryz.prog.underlying 30=some (.struct (fieldsOf Tryz.prog 30)):=by kernel_rfl
theorem zai:(fieldsOf Tryz.prog 30).toList.map (·.type)=[28]:=by kernel_rfl
theorem zbQ:Tryz.prog.underlying 34=some (.struct (fieldsOf Tryz.prog 34)):=by kernel_rfl
theorem zah:(fieldsOf Tryz.prog 34).toList.map (·.type)=[9,3,3,3,3,3,3,9,26,23,27,30,31,32]:=by kernel_rfl
theorem zbN:Tryz.prog.underlying 39=some (.struct (fieldsOf Tryz.prog 39)):=by kernel_rfl
theorem zae:(fieldsOf Tryz.prog 39).toList.map (·.type)=[3,32]:=by kernel_rfl
theorem zbK:Tryz.prog.underlying 43=some (.struct (fieldsOf Tryz.prog 43)):=by kernel_rfl
theorem zad:(fieldsOf Tryz.prog 43).toList.map (·.type)=[3,3,3,9,40,41]:=by kernel_rfl
theorem zbJ:Tryz.prog.underlying 45=some (.struct (fieldsOf Tryz.prog 45)):=by kernel_rfl
theorem zac:(fieldsOf Tryz.prog 45).toList.map (·.type)=[39,3,32,43]:=by kernel_rfl
theorem zbI:Tryz.prog.underlying 47=some (.struct (fieldsOf Tryz.prog 47)):=by kernel_rfl
theorem zab:(fieldsOf Tryz.prog 47).toList.map (·.type)=[3,3,39,45,3,4,4,43]:=by kernel_rfl
theorem zbG:Tryz.prog.underlying 78=some (.struct (fieldsOf Tryz.prog 78)):=by kernel_rfl
theorem zaa:(fieldsOf Tryz.prog 78).toList.map (·.type)=[43,3,3,57,40]:=by kernel_rfl
theorem Yh:Tryz.prog.underlying 104=some (.struct (fieldsOf Tryz.prog 104)):=by kernel_rfl
theorem WH:(fieldsOf Tryz.prog 104).toList.map (·.type)=[3,3,9,40,27]:=by kernel_rfl
theorem Ye:Tryz.prog.underlying 132=some (.struct (fieldsOf Tryz.prog 132)):=by kernel_rfl
theorem WC:(fieldsOf Tryz.prog 132).toList.map (·.type)=[9,43]:=by kernel_rfl
theorem Yg:Tryz.prog.underlying 123=some (.struct (fieldsOf Tryz.prog 123)):=by kernel_rfl
theorem WG:(fieldsOf Tryz.prog 123).toList.map (·.type)=[9,104]:=by kernel_rfl
theorem Yf:Tryz.prog.underlying 126=some (.struct (fieldsOf Tryz.prog 126)):=by kernel_rfl
theorem WE:(fieldsOf Tryz.prog 126).toList.map (·.type)=[9,30]:=by kernel_rfl
theorem Yd:Tryz.prog.underlying 194=some (.struct (fieldsOf Tryz.prog 194)):=by kernel_rfl
theorem WB:(fieldsOf Tryz.prog 194).toList.map (·.type)=[3,9,3,26,40]:=by kernel_rfl
theorem zbP:Tryz.prog.underlying 35=some (.slice 78):=by kernel_rfl
theorem zbH:Tryz.prog.underlying 57=some (.slice 45):=by kernel_rfl
theorem zbZ:Tryz.prog.underlying 22=some (.slice 9):=by kernel_rfl
theorem zbY:Tryz.prog.underlying 23=some (.slice 26):=by kernel_rfl
theorem zbX:Tryz.prog.underlying 24=some (.slice 194):=by kernel_rfl
theorem zbV:Tryz.prog.underlying 27=some (.slice 104):=by kernel_rfl
theorem zbU:Tryz.prog.underlying 28=some (.slice 123):=by kernel_rfl
theorem zbS:Tryz.prog.underlying 31=some (.slice 126):=by kernel_rfl
theorem zbR:Tryz.prog.underlying 32=some (.slice 3):=by kernel_rfl
theorem zbM:Tryz.prog.underlying 40=some (.slice 43):=by kernel_rfl
theorem zbL:Tryz.prog.underlying 41=some (.slice 132):=by kernel_rfl
theorem cells3:Tryz.prog.cellsOf 3=1:=by kernel_rfl
theorem cells9:Tryz.prog.cellsOf 9=1:=by kernel_rfl
theorem cells26:Tryz.prog.cellsOf 26=7:=by kernel_rfl
theorem cells43:Tryz.prog.cellsOf 43=6:=by kernel_rfl
theorem ze4:Tryz.prog.cellsOf 45=10:=by kernel_rfl
theorem ze3:Tryz.prog.cellsOf 78=10:=by kernel_rfl
theorem zaz:Tryz.prog.cellsOf 104=5:=by kernel_rfl
theorem zaw:Tryz.prog.cellsOf 132=7:=by kernel_rfl
theorem zay:Tryz.prog.cellsOf 123=6:=by kernel_rfl
theorem zax:Tryz.prog.cellsOf 126=2:=by kernel_rfl
theorem zav:Tryz.prog.cellsOf 194=11:=by kernel_rfl
variable {n:Nat} {xs:List X}
theorem aV (h:Shape Tryz.prog n 3 xs):∃z,xs=[num z]:=by
 obtain ⟨v,rfl,_⟩:=UE zge h
 exact ⟨v,rfl⟩
theorem dV (h:Shape Tryz.prog n 9 xs):∃s,xs=[strX s]:=by
 obtain ⟨v,rfl,_⟩:=GY zgd h
 exact ⟨v,rfl⟩
theorem BU (h:Shape Tryz.prog n 4 xs):∃b,xs=[boolX b]:=Qn TB h
theorem Qh (h:Shape Tryz.prog n 35 xs):∃es,xs=[.sl false 10 es]∧∃m,m<n∧∀c,c∈es→Shape Tryz.prog m 78 c:=by
 obtain ⟨es,rfl,_,h⟩:=dF zbP h
 rw [ze3]
 exact ⟨es,rfl,h⟩
theorem Qe (h:Shape Tryz.prog n 57 xs):∃es,xs=[.sl false 10 es]∧∃m,m<n∧∀c,c∈es→Shape Tryz.prog m 45 c:=by
 obtain ⟨es,rfl,_,h⟩:=dF zbH h
 rw [ze4]
 exact ⟨es,rfl,h⟩
theorem BP (h:Shape Tryz.prog n 22 xs):∃es,xs=[.sl false 1 es]∧∃m,m<n∧∀c,c∈es→Shape Tryz.prog m 9 c:=by
 obtain ⟨es,rfl,_,h⟩:=dF zbZ h
 rw [cells9]
 exact ⟨es,rfl,h⟩
theorem uK (h:Shape Tryz.prog n 23 xs):∃es,xs=[.sl false 7 es]∧∃m,m<n∧∀c,c∈es→Shape Tryz.prog m 26 c:=by
 obtain ⟨es,rfl,_,h⟩:=dF zbY h
 rw [cells26]
 exact ⟨es,rfl,h⟩
theorem BO (h:Shape Tryz.prog n 24 xs):∃es,xs=[.sl false 11 es]∧∃m,m<n∧∀c,c∈es→Shape Tryz.prog m 194 c:=by
 obtain ⟨es,rfl,_,h⟩:=dF zbX h
 rw [zav]
 exact ⟨es,rfl,h⟩
theorem uJ (h:Shape Tryz.prog n 27 xs):∃es,xs=[.sl false 5 es]∧∃m,m<n∧∀c,c∈es→Shape Tryz.prog m 104 c:=by
 obtain ⟨es,rfl,_,h⟩:=dF zbV h
 rw [zaz]
 exact ⟨es,rfl,h⟩
theorem Qj (h:Shape Tryz.prog n 28 xs):∃es,xs=[.sl false 6 es]∧∃m,m<n∧∀c,c∈es→Shape Tryz.prog m 123 c:=by
 obtain ⟨es,rfl,_,h⟩:=dF zbU h
 rw [zay]
 exact ⟨es,rfl,h⟩
theorem Qi (h:Shape Tryz.prog n 31 xs):∃es,xs=[.sl false 2 es]∧∃m,m<n∧∀c,c∈es→Shape Tryz.prog m 126 c:=by
 obtain ⟨es,rfl,_,h⟩:=dF zbS h
 rw [zax]
 exact ⟨es,rfl,h⟩
theorem BN (h:Shape Tryz.prog n 32 xs):∃es,xs=[.sl false 1 es]∧∃m,m<n∧∀c,c∈es→Shape Tryz.prog m 3 c:=by
 obtain ⟨es,rfl,_,h⟩:=dF zbR h
 rw [cells3]
 exact ⟨es,rfl,h⟩
theorem lY (h:Shape Tryz.prog n 40 xs):∃es,xs=[.sl false 6 es]∧∃m,m<n∧∀c,c∈es→Shape Tryz.prog m 43 c:=by
 obtain ⟨es,rfl,_,h⟩:=dF zbM h
 rw [cells43]
 exact ⟨es,rfl,h⟩
theorem Qg (h:Shape Tryz.prog n 41 xs):∃es,xs=[.sl false 7 es]∧∃m,m<n∧∀c,c∈es→Shape Tryz.prog m 132 c:=by
 obtain ⟨es,rfl,_,h⟩:=dF zbL h
 rw [zaw]
 exact ⟨es,rfl,h⟩
theorem Qb (h:Shape Tryz.prog n 37 xs):∃m,m<n∧∃x0 x1 x2,xs=x0++(x1++(x2++[]))∧Shape Tryz.prog m 3 x0∧Shape Tryz.prog m 3 x1∧Shape Tryz.prog m 35 x2:=by
 obtain ⟨m,hm,hk⟩:=bH zbO h
 rw [zaf] at hk
 obtain ⟨x0,r0,rfl,h0,hk⟩:=hk
 obtain ⟨x1,r1,rfl,h1,hk⟩:=hk
 obtain ⟨x2,r2,rfl,h2,hk⟩:=hk
 have hk:r2=[]:=hk
 subst hk
 exact ⟨m,hm,x0,x1,x2,rfl,h0,h1,h2⟩
theorem BM (h:Shape Tryz.prog n 26 xs):∃m,m<n∧∃x0 x1 x2 x3 x4 x5 x6,xs=x0++(x1++(x2++(x3++(x4++(x5++(x6++[]))))))∧Shape Tryz.prog m 3 x0∧Shape Tryz.prog m 3 x1∧Shape Tryz.prog m 3 x2∧Shape Tryz.prog m 3 x3∧Shape Tryz.prog m 22 x4∧Shape Tryz.prog m 23 x5∧Shape Tryz.prog m 24 x6:=by
 obtain ⟨m,hm,hk⟩:=bH zbW h
 rw [zaj] at hk
 obtain ⟨x0,r0,rfl,h0,hk⟩:=hk
 obtain ⟨x1,r1,rfl,h1,hk⟩:=hk
 obtain ⟨x2,r2,rfl,h2,hk⟩:=hk
 obtain ⟨x3,r3,rfl,h3,hk⟩:=hk
 obtain ⟨x4,r4,rfl,h4,hk⟩:=hk
 obtain ⟨x5,r5,rfl,h5,hk⟩:=hk
 obtain ⟨x6,r6,rfl,h6,hk⟩:=hk
 have hk:r6=[]:=hk
 subst hk
 exact ⟨m,hm,x0,x1,x2,x3,x4,x5,x6,rfl,h0,h1,h2,h3,h4,h5,h6⟩
theorem Qd (h:Shape Tryz.prog n 30 xs):∃m,m<n∧∃x0,xs=x0++[]∧Shape Tryz.prog m 28 x0:=by
 obtain ⟨m,hm,hk⟩:=bH zbT h
 rw [zai] at hk
 obtain ⟨x0,r0,rfl,h0,hk⟩:=hk
 have hk:r0=[]:=hk
 subst hk
 exact ⟨m,hm,x0,rfl,h0⟩
theorem Qc (h:Shape Tryz.prog n 34 xs):∃m,m<n∧∃x0 x1 x2 x3 x4 x5 x6 x7 x8 x9 x10 x11 x12 x13,xs=x0++(x1++(x2++(x3++(x4++(x5++(x6++(x7++(x8++(x9++(x10++(x11++(x12++(x13++[])))))))))))))∧Shape Tryz.prog m 9 x0∧Shape Tryz.prog m 3 x1∧Shape Tryz.prog m 3 x2∧Shape Tryz.prog m 3 x3∧Shape Tryz.prog m 3 x4∧Shape Tryz.prog m 3 x5∧Shape Tryz.prog m 3 x6∧Shape Tryz.prog m 9 x7∧Shape Tryz.prog m 26 x8∧Shape Tryz.prog m 23 x9∧Shape Tryz.prog m 27 x10∧Shape Tryz.prog m 30 x11∧Shape Tryz.prog m 31 x12∧Shape Tryz.prog m 32 x13:=by
 obtain ⟨m,hm,hk⟩:=bH zbQ h
 rw [zah] at hk
 obtain ⟨x0,r0,rfl,h0,hk⟩:=hk
 obtain ⟨x1,r1,rfl,h1,hk⟩:=hk
 obtain ⟨x2,r2,rfl,h2,hk⟩:=hk
 obtain ⟨x3,r3,rfl,h3,hk⟩:=hk
 obtain ⟨x4,r4,rfl,h4,hk⟩:=hk
 obtain ⟨x5,r5,rfl,h5,hk⟩:=hk
 obtain ⟨x6,r6,rfl,h6,hk⟩:=hk
 obtain ⟨x7,r7,rfl,h7,hk⟩:=hk
 obtain ⟨x8,r8,rfl,h8,hk⟩:=hk
 obtain ⟨x9,r9,rfl,h9,hk⟩:=hk
 obtain ⟨x10,r10,rfl,h10,hk⟩:=hk
 obtain ⟨x11,r11,rfl,h11,hk⟩:=hk
 obtain ⟨x12,r12,rfl,h12,hk⟩:=hk
 obtain ⟨x13,r13,rfl,h13,hk⟩:=hk
 have hk:r13=[]:=hk
 subst hk
 exact ⟨m,hm,x0,x1,x2,x3,x4,x5,x6,x7,x8,x9,x10,x11,x12,x13,rfl,h0,h1,h2,h3,h4,h5,h6,h7,h8,h9,h10,h11,h12,h13⟩
theorem Qa (h:Shape Tryz.prog n 39 xs):∃m,m<n∧∃x0 x1,xs=x0++(x1++[])∧Shape Tryz.prog m 3 x0∧Shape Tryz.prog m 32 x1:=by
 obtain ⟨m,hm,hk⟩:=bH zbN h
 rw [zae] at hk
 obtain ⟨x0,r0,rfl,h0,hk⟩:=hk
 obtain ⟨x1,r1,rfl,h1,hk⟩:=hk
 have hk:r1=[]:=hk
 subst hk
 exact ⟨m,hm,x0,x1,rfl,h0,h1⟩
theorem P9 (h:Shape Tryz.prog n 43 xs):∃m,m<n∧∃x0 x1 x2 x3 x4 x5,xs=x0++(x1++(x2++(x3++(x4++(x5++[])))))∧Shape Tryz.prog m 3 x0∧Shape Tryz.prog m 3 x1∧Shape Tryz.prog m 3 x2∧Shape Tryz.prog m 9 x3∧Shape Tryz.prog m 40 x4∧Shape Tryz.prog m 41 x5:=by
 obtain ⟨m,hm,hk⟩:=bH zbK h
 rw [zad] at hk
 obtain ⟨x0,r0,rfl,h0,hk⟩:=hk
 obtain ⟨x1,r1,rfl,h1,hk⟩:=hk
 obtain ⟨x2,r2,rfl,h2,hk⟩:=hk
 obtain ⟨x3,r3,rfl,h3,hk⟩:=hk
 obtain ⟨x4,r4,rfl,h4,hk⟩:=hk
 obtain ⟨x5,r5,rfl,h5,hk⟩:=hk
 have hk:r5=[]:=hk
 subst hk
 exact ⟨m,hm,x0,x1,x2,x3,x4,x5,rfl,h0,h1,h2,h3,h4,h5⟩
theorem P8 (h:Shape Tryz.prog n 45 xs):∃m,m<n∧∃x0 x1 x2 x3,xs=x0++(x1++(x2++(x3++[])))∧Shape Tryz.prog m 39 x0∧Shape Tryz.prog m 3 x1∧Shape Tryz.prog m 32 x2∧Shape Tryz.prog m 43 x3:=by
 obtain ⟨m,hm,hk⟩:=bH zbJ h
 rw [zac] at hk
 obtain ⟨x0,r0,rfl,h0,hk⟩:=hk
 obtain ⟨x1,r1,rfl,h1,hk⟩:=hk
 obtain ⟨x2,r2,rfl,h2,hk⟩:=hk
 obtain ⟨x3,r3,rfl,h3,hk⟩:=hk
 have hk:r3=[]:=hk
 subst hk
 exact ⟨m,hm,x0,x1,x2,x3,rfl,h0,h1,h2,h3⟩
theorem P7 (h:Shape Tryz.prog n 47 xs):∃m,m<n∧∃x0 x1 x2 x3 x4 x5 x6 x7,xs=x0++(x1++(x2++(x3++(x4++(x5++(x6++(x7++[])))))))∧Shape Tryz.prog m 3 x0∧Shape Tryz.prog m 3 x1∧Shape Tryz.prog m 39 x2∧Shape Tryz.prog m 45 x3∧Shape Tryz.prog m 3 x4∧Shape Tryz.prog m 4 x5∧Shape Tryz.prog m 4 x6∧Shape Tryz.prog m 43 x7:=by
 obtain ⟨m,hm,hk⟩:=bH zbI h
 rw [zab] at hk
 obtain ⟨x0,r0,rfl,h0,hk⟩:=hk
 obtain ⟨x1,r1,rfl,h1,hk⟩:=hk
 obtain ⟨x2,r2,rfl,h2,hk⟩:=hk
 obtain ⟨x3,r3,rfl,h3,hk⟩:=hk
 obtain ⟨x4,r4,rfl,h4,hk⟩:=hk
 obtain ⟨x5,r5,rfl,h5,hk⟩:=hk
 obtain ⟨x6,r6,rfl,h6,hk⟩:=hk
 obtain ⟨x7,r7,rfl,h7,hk⟩:=hk
 have hk:r7=[]:=hk
 subst hk
 exact ⟨m,hm,x0,x1,x2,x3,x4,x5,x6,x7,rfl,h0,h1,h2,h3,h4,h5,h6,h7⟩
theorem P6 (h:Shape Tryz.prog n 78 xs):∃m,m<n∧∃x0 x1 x2 x3 x4,xs=x0++(x1++(x2++(x3++(x4++[]))))∧Shape Tryz.prog m 43 x0∧Shape Tryz.prog m 3 x1∧Shape Tryz.prog m 3 x2∧Shape Tryz.prog m 57 x3∧Shape Tryz.prog m 40 x4:=by
 obtain ⟨m,hm,hk⟩:=bH zbG h
 rw [zaa] at hk
 obtain ⟨x0,r0,rfl,h0,hk⟩:=hk
 obtain ⟨x1,r1,rfl,h1,hk⟩:=hk
 obtain ⟨x2,r2,rfl,h2,hk⟩:=hk
 obtain ⟨x3,r3,rfl,h3,hk⟩:=hk
 obtain ⟨x4,r4,rfl,h4,hk⟩:=hk
 have hk:r4=[]:=hk
 subst hk
 exact ⟨m,hm,x0,x1,x2,x3,x4,rfl,h0,h1,h2,h3,h4⟩
theorem yM (h:Shape Tryz.prog n 104 xs):∃m,m<n∧∃x0 x1 x2 x3 x4,xs=x0++(x1++(x2++(x3++(x4++[]))))∧Shape Tryz.prog m 3 x0∧Shape Tryz.prog m 3 x1∧Shape Tryz.prog m 9 x2∧Shape Tryz.prog m 40 x3∧Shape Tryz.prog m 27 x4:=by
 obtain ⟨m,hm,hk⟩:=bH Yh h
 rw [WH] at hk
 obtain ⟨x0,r0,rfl,h0,hk⟩:=hk
 obtain ⟨x1,r1,rfl,h1,hk⟩:=hk
 obtain ⟨x2,r2,rfl,h2,hk⟩:=hk
 obtain ⟨x3,r3,rfl,h3,hk⟩:=hk
 obtain ⟨x4,r4,rfl,h4,hk⟩:=hk
 have hk:r4=[]:=hk
 subst hk
 exact ⟨m,hm,x0,x1,x2,x3,x4,rfl,h0,h1,h2,h3,h4⟩
theorem JK (h:Shape Tryz.prog n 132 xs):∃m,m<n∧∃x0 x1,xs=x0++(x1++[])∧Shape Tryz.prog m 9 x0∧Shape Tryz.prog m 43 x1:=by
 obtain ⟨m,hm,hk⟩:=bH Ye h
 rw [WC] at hk
 obtain ⟨x0,r0,rfl,h0,hk⟩:=hk
 obtain ⟨x1,r1,rfl,h1,hk⟩:=hk
 have hk:r1=[]:=hk
 subst hk
 exact ⟨m,hm,x0,x1,rfl,h0,h1⟩
theorem JM (h:Shape Tryz.prog n 123 xs):∃m,m<n∧∃x0 x1,xs=x0++(x1++[])∧Shape Tryz.prog m 9 x0∧Shape Tryz.prog m 104 x1:=by
 obtain ⟨m,hm,hk⟩:=bH Yg h
 rw [WG] at hk
 obtain ⟨x0,r0,rfl,h0,hk⟩:=hk
 obtain ⟨x1,r1,rfl,h1,hk⟩:=hk
 have hk:r1=[]:=hk
 subst hk
 exact ⟨m,hm,x0,x1,rfl,h0,h1⟩
theorem JL (h:Shape Tryz.prog n 126 xs):∃m,m<n∧∃x0 x1,xs=x0++(x1++[])∧Shape Tryz.prog m 9 x0∧Shape Tryz.prog m 30 x1:=by
 obtain ⟨m,hm,hk⟩:=bH Yf h
 rw [WE] at hk
 obtain ⟨x0,r0,rfl,h0,hk⟩:=hk
 obtain ⟨x1,r1,rfl,h1,hk⟩:=hk
 have hk:r1=[]:=hk
 subst hk
 exact ⟨m,hm,x0,x1,rfl,h0,h1⟩
theorem JJ (h:Shape Tryz.prog n 194 xs):∃m,m<n∧∃x0 x1 x2 x3 x4,xs=x0++(x1++(x2++(x3++(x4++[]))))∧Shape Tryz.prog m 3 x0∧Shape Tryz.prog m 9 x1∧Shape Tryz.prog m 3 x2∧Shape Tryz.prog m 26 x3∧Shape Tryz.prog m 40 x4:=by
 obtain ⟨m,hm,hk⟩:=bH Yd h
 rw [WB] at hk
 obtain ⟨x0,r0,rfl,h0,hk⟩:=hk
 obtain ⟨x1,r1,rfl,h1,hk⟩:=hk
 obtain ⟨x2,r2,rfl,h2,hk⟩:=hk
 obtain ⟨x3,r3,rfl,h3,hk⟩:=hk
 obtain ⟨x4,r4,rfl,h4,hk⟩:=hk
 have hk:r4=[]:=hk
 subst hk
 exact ⟨m,hm,x0,x1,x2,x3,x4,rfl,h0,h1,h2,h3,h4⟩
theorem oG:∀(n:Nat) (xs:List X),Shape Tryz.prog n 43 xs→∃v:Val,xs=v.cells:=by
 intro n
 induction n using Nat.strongRecOn with
 |_ n ih=>
  intro xs h
  obtain ⟨m,hm,x0,x1,x2,x3,x4,x5,rfl,h0,h1,h2,h3,h4,h5⟩:=P9 h
  obtain ⟨k,rfl⟩:=aV h0
  obtain ⟨i,rfl⟩:=aV h1
  obtain ⟨s,rfl⟩:=aV h2
  obtain ⟨t,rfl⟩:=dV h3
  obtain ⟨es,rfl,m1,hm1,he⟩:=lY h4
  obtain ⟨fs,rfl,m2,hm2,hf⟩:=Qg h5
  obtain ⟨l,rfl⟩:=uY Val.cells fun c hc=>ih m1 (by omega) c (he c hc)
  obtain ⟨f,rfl⟩:=uY (fun p:ByteArray×Val=>strX p.1::p.2.cells) (es:=fs) fun c hc=>by
   obtain ⟨m3,hm3,y0,y1,rfl,g0,g1⟩:=JK (hf c hc)
   obtain ⟨nm,rfl⟩:=dV g0
   obtain ⟨v,rfl⟩:=ih m3 (by omega) y1 g1
   exact ⟨(nm,v),by simp⟩
  exact ⟨.mk k i s t l f,by rw [Val.cells,kM,uq];rfl⟩
theorem P5 (h:Shape Tryz.prog n 40 xs):∃l:List Val,xs=[.sl false 6 (aj l)]:=by
 obtain ⟨es,rfl,m,_,he⟩:=lY h
 obtain ⟨l,rfl⟩:=uY Val.cells fun c hc=>oG m c (he c hc)
 exact ⟨l,by rw [kM]⟩
theorem oH {es:List (List X)}{m:Nat}(h:∀c,c∈es→Shape Tryz.prog m 43 c):∀c,c∈es→isVal c:=fun c hc=>oG m c (h c hc)
theorem BR (h:Shape Tryz.prog n 32 xs):∃l:List Int,xs=[.sl false 1 (aF l)]:=by
 obtain ⟨es,rfl,m,_,he⟩:=BN h
 obtain ⟨l,rfl⟩:=uY (fun z:Int=>[num z]) fun c hc=>aV (he c hc)
 exact ⟨l,rfl⟩
theorem GZ (h:Shape Tryz.prog n 39 xs):∃s:Stp,xs=s.cells:=by
 obtain ⟨m,hm,x0,x1,rfl,h0,h1⟩:=Qa h
 obtain ⟨e,rfl⟩:=aV h0
 obtain ⟨p,rfl⟩:=BR h1
 exact ⟨⟨e,p⟩,rfl⟩
theorem G5 (h:Shape Tryz.prog n 45 xs):∃s:Msg,xs=s.cells:=by
 obtain ⟨m,hm,x0,x1,x2,x3,rfl,h0,h1,h2,h3⟩:=P8 h
 obtain ⟨s,rfl⟩:=GZ h0
 obtain ⟨k,rfl⟩:=aV h1
 obtain ⟨p,rfl⟩:=BR h2
 obtain ⟨v,rfl⟩:=oG _ _ h3
 exact ⟨⟨s,k,p,v⟩,by simp [Msg.cells,Stp.cells]⟩
theorem Ql (h:Shape Tryz.prog n 57 xs):∃l:List Msg,xs=[.sl false 10 (aX l)]:=by
 obtain ⟨es,rfl,m,_,he⟩:=Qe h
 obtain ⟨l,rfl⟩:=uY Msg.cells fun c hc=>G5 (he c hc)
 exact ⟨l,rfl⟩
theorem UD (h:Shape Tryz.prog n 78 xs):∃s:Slt,xs=s.cells:=by
 obtain ⟨m,hm,x0,x1,x2,x3,x4,rfl,h0,h1,h2,h3,h4⟩:=P6 h
 obtain ⟨⟨k,i,s,t,l,f⟩,rfl⟩:=oG _ _ h0
 obtain ⟨a,rfl⟩:=aV h1
 obtain ⟨b,rfl⟩:=aV h2
 obtain ⟨ms,rfl⟩:=Ql h3
 obtain ⟨vs,rfl⟩:=P5 h4
 exact ⟨⟨.mk k i s t l f,a,b,ms,vs⟩,rfl⟩
theorem GX (h:Shape Tryz.prog n 37 xs):∃s:Stt,xs=s.cells:=by
 obtain ⟨m,hm,x0,x1,x2,rfl,h0,h1,h2⟩:=Qb h
 obtain ⟨a,rfl⟩:=aV h0
 obtain ⟨b,rfl⟩:=aV h1
 obtain ⟨es,rfl,m',_,he⟩:=Qh h2
 obtain ⟨l,rfl⟩:=uY Slt.cells fun c hc=>UD (he c hc)
 exact ⟨⟨a,b,l⟩,rfl⟩
theorem G6 (h:Shape Tryz.prog n 47 xs):∃i:Inp,xs=i.cells:=by
 obtain ⟨m,hm,x0,x1,x2,x3,x4,x5,x6,x7,rfl,h0,h1,h2,h3,h4,h5,h6,h7⟩:=P7 h
 obtain ⟨a,rfl⟩:=aV h0
 obtain ⟨b,rfl⟩:=aV h1
 obtain ⟨s,rfl⟩:=GZ h2
 obtain ⟨g,rfl⟩:=G5 h3
 obtain ⟨x,rfl⟩:=aV h4
 obtain ⟨b1,rfl⟩:=BU h5
 obtain ⟨b2,rfl⟩:=BU h6
 obtain ⟨v,rfl⟩:=oG _ _ h7
 exact ⟨⟨a,b,s,g,x,b1,b2,v⟩,by simp [Inp.cells,Msg.cells,Stp.cells]⟩
theorem yO:∀(k:Nat) {n:Nat} {xs:List X},Shape Tryz.prog n 104 xs→EO k xs
 |0,n,xs,h=>by
  obtain ⟨m,hm,x0,x1,x2,x3,x4,rfl,h0,h1,h2,h3,h4⟩:=yM h
  obtain ⟨o,rfl⟩:=aV h0
  obtain ⟨i,rfl⟩:=aV h1
  obtain ⟨t,rfl⟩:=dV h2
  obtain ⟨vs,rfl,m1,_,hv⟩:=lY h3
  obtain ⟨es,rfl,m2,_,he⟩:=uJ h4
  exact ⟨o,i,t,vs,es,rfl,oH hv⟩
 |k+1,n,xs,h=>by
  obtain ⟨m,hm,x0,x1,x2,x3,x4,rfl,h0,h1,h2,h3,h4⟩:=yM h
  obtain ⟨o,rfl⟩:=aV h0
  obtain ⟨i,rfl⟩:=aV h1
  obtain ⟨t,rfl⟩:=dV h2
  obtain ⟨vs,rfl,m1,_,hv⟩:=lY h3
  obtain ⟨es,rfl,m2,_,he⟩:=uJ h4
  exact ⟨o,i,t,vs,es,rfl,oH hv,fun x hx=>yO k (he x hx)⟩
theorem rX:∀(k:Nat) {n:Nat} {xs:List X},Shape Tryz.prog n 26 xs→EM k xs
 |0,n,xs,h=>by
  obtain ⟨m,hm,x0,x1,x2,x3,x4,x5,x6,rfl,h0,h1,h2,h3,h4,h5,h6⟩:=BM h
  obtain ⟨a,rfl⟩:=aV h0
  obtain ⟨b,rfl⟩:=aV h1
  obtain ⟨c,rfl⟩:=aV h2
  obtain ⟨d,rfl⟩:=aV h3
  obtain ⟨w,rfl,m1,_,hw⟩:=BP h4
  obtain ⟨e,rfl,m2,_,he⟩:=uK h5
  obtain ⟨f,rfl,m3,_,hf⟩:=BO h6
  exact ⟨a,b,c,d,w,e,f,rfl,fun x hx=>dV (hw x hx)⟩
 |k+1,n,xs,h=>by
  obtain ⟨m,hm,x0,x1,x2,x3,x4,x5,x6,rfl,h0,h1,h2,h3,h4,h5,h6⟩:=BM h
  obtain ⟨a,rfl⟩:=aV h0
  obtain ⟨b,rfl⟩:=aV h1
  obtain ⟨c,rfl⟩:=aV h2
  obtain ⟨d,rfl⟩:=aV h3
  obtain ⟨w,rfl,m1,_,hw⟩:=BP h4
  obtain ⟨e,rfl,m2,_,he⟩:=uK h5
  obtain ⟨f,rfl,m3,_,hf⟩:=BO h6
  refine ⟨a,b,c,d,w,e,f,rfl,fun x hx=>dV (hw x hx),fun x hx=>rX k (he x hx),fun x hx=>?_⟩
  obtain ⟨m4,_,y0,y1,y2,T,y4,rfl,g0,g1,g2,g3,g4⟩:=JJ (hf x hx)
  obtain ⟨p,rfl⟩:=aV g0
  obtain ⟨t,rfl⟩:=dV g1
  obtain ⟨y,rfl⟩:=aV g2
  obtain ⟨de,rfl,m5,_,hd⟩:=lY g4
  exact ⟨p,t,y,T,de,by simp,rX k g3,oH hd⟩
theorem Qk (h:Shape Tryz.prog n 123 xs):qL xs:=by
 obtain ⟨m,hm,x0,x1,rfl,h0,h1⟩:=JM h
 obtain ⟨t,rfl⟩:=dV h0
 exact ⟨t,x1,by simp,yO 3 h1⟩
theorem yN (h:Shape Tryz.prog n 30 xs):∃es,xs=[.sl false 6 es]∧∀x,x∈es→qL x:=by
 obtain ⟨m,hm,x0,rfl,h0⟩:=Qd h
 obtain ⟨es,rfl,m1,_,he⟩:=Qj h0
 exact ⟨es,rfl,fun x hx=>Qk (he x hx)⟩
theorem Qm (h:Shape Tryz.prog n 126 xs):Oz xs:=by
 obtain ⟨m,hm,x0,x1,rfl,h0,h1⟩:=JL h
 obtain ⟨t,rfl⟩:=dV h0
 obtain ⟨es,rfl,he⟩:=yN h1
 exact ⟨t,es,rfl,he⟩
theorem BQ (h:Shape Tryz.prog n 34 xs):isNode xs:=by
 obtain ⟨m,hm,x0,x1,x2,x3,x4,x5,x6,x7,T,x9,x10,x11,x12,x13,rfl,h0,h1,h2,h3,h4,h5,h6,h7,h8,h9,h10,h11,h12,h13⟩:=Qc h
 obtain ⟨name,rfl⟩:=dV h0
 obtain ⟨k1,rfl⟩:=aV h1
 obtain ⟨k2,rfl⟩:=aV h2
 obtain ⟨k3,rfl⟩:=aV h3
 obtain ⟨k4,rfl⟩:=aV h4
 obtain ⟨k5,rfl⟩:=aV h5
 obtain ⟨k6,rfl⟩:=aV h6
 obtain ⟨text,rfl⟩:=dV h7
 obtain ⟨ty,rfl,_,_,hty⟩:=uK h9
 obtain ⟨ex,rfl,_,_,hex⟩:=uJ h10
 obtain ⟨ru,rfl,hru⟩:=yN h11
 obtain ⟨ca,rfl,_,_,hca⟩:=Qi h12
 obtain ⟨ne,rfl,_,_,hne⟩:=BN h13
 exact ⟨name,k1,k2,k3,k4,k5,k6,text,T,ty,ex,ru,ca,ne,by simp,rX 3 h8,fun x hx=>rX 3 (hty x hx),fun x hx=>yO 3 (hex x hx),hru,fun x hx=>Qm (hca x hx)⟩
end Go.Proofs.YtjbndifenhihhaaGreatDoor
namespace Go.Proofs.YtjbndifenhihhaaGreatDoor
open Go Go.Em Go.Ab
set_option maxRecDepth 100000
namespace Ct
def T:Tab:=fun k=>match k with
 |1=>[[.i .i64 none none,.i .i64 none none,.i .i64 none none,.s 0 1000000,.sl 6 1 0 1000000,.sl 7 2 0 1000000]]
 |2=>[[.s 0 1000000,.i .i64 none none,.i .i64 none none,.i .i64 none none,.s 0 1000000,.sl 6 1 0 1000000,.sl 7 2 0 1000000]]
 |3=>[[.i .i64 none none]]
 |4=>[[.i .u8 (some 0) (some 255)]]
 |5=>[[.s 0 1000000]]
 |6=>[[.i .i64 none none,.i .i64 none none]]
 |7=>[[.i .i64 none none,.i .i64 (some 0) (some 1000000),.s 0 1000000]]
 |8=>[[.i .i64 none none,.i .i64 none none,.s 0 1000000,.sl 6 1 0 1000000,.sl 5 8 0 1000000]]
 |10=>[(1,1,1,0),(2,2,0,0),(3,3,0,1),(4,15,0,2),(16,16,0,1),(17,17,0,2),(18,20,0,1),(21,21,0,3),(22,22,0,0),(23,23,0,2),(24,24,0,3),(25,25,0,2),(26,26,0,0),(27,28,0,1)].map fun (q:Int×Int×Nat×Nat)=>[.i .i64 (some q.1) (some q.2.1),.i .i64 none none,.s 0 1000000,.sl 6 1 q.2.2.1 1000000,.sl 5 10 q.2.2.2 1000000]
 |11=>[[.i .i64 none none,.i .i64 none none,.i .i64 none none,.s 0 1000000,.sl 6 11 0 6,.sl 7 12 0 6]]
 |12=>[[.s 0 1000000,.i .i64 none none,.i .i64 none none,.i .i64 none none,.s 0 1000000,.sl 6 11 0 6,.sl 7 12 0 6]]
 |9=>[[.i .i64 (some (-999999999999999)) (some 999999999999999),.i .i64 (some 0) (some 12)]]
 |_=>[]
def K:Names:=fun sz=>match sz with
 |1=>[3,4,5]
 |2=>[9,6]
 |3=>[7]
 |5=>[10,8]
 |6=>[1]
 |7=>[2]
 |_=>[]
abbrev int:Sh:=.i .i64
abbrev err:Sh:=.ir .i64 0 100
def val:Sh:=.rc [int,int,int,.s,.slh 6 1,.slh 7 2]
def fld:Sh:=.rc [.s,int,int,int,.s,.slh 6 1,.slh 7 2]
def exp:Sh:=.rc [int,int,.s,.slh 6 1,.slh 5 8]
def mZ:List Sh:=[int,int,int,.s,.FY 6 11 0 6,.FY 7 12 0 6,err]
def zjk:Sh:=.rcb 0 6 [int,int,int,.s,.FY 6 11 0 6,.FY 7 12 0 6]
def znm:Sh:=.rc [int,int,.s,.slh 6 1,.slh 5 10]
def zoO:Sh:=.rc [int,int,.s,.FY 6 1 0 1000000,.FY 5 10 0 1000000]
def wfs:List (Int×Int×Int×Int):=[(1,1,1,0),(2,2,0,0),(3,3,0,1),(4,15,0,2),(16,16,0,1),(17,17,0,2),(18,20,0,1),(21,21,0,3),(22,22,0,0),(23,23,0,2),(24,24,0,3),(25,25,0,2),(26,26,0,0),(27,28,0,1)]
def Tt:List (List Fact):=wfs.map fun q=>bd 2 q.1 q.2.1++[ak (.k q.2.2.1) ⟨5,0⟩,ak (.k q.2.2.2) ⟨6,0⟩]
def XO:Sh:=.rc [int,int,int,.s,.FY 6 11 0 6,.FY 7 12 0 6]
def zlm:Sh:=.rc [.s,int,int,int,.s,.FY 6 11 0 6,.FY 7 12 0 6]
def pJ:Sh:=.ag [int,int]
def NZ:Sh:=.ag [.ir .i64 (-999999999999999) 999999999999999,.ir .i64 0 12]
def part:Sh:=.ag [int,int,.s]
def zoo (a b c d:Nat):List (Value×X):=[(.int .i64 8,.fn a []),(.int .i64 9,.fn b []),(.int .i64 10,.fn c []),(.int .i64 11,.fn d [])]
def UY:Sh:=.ag [int,.ir .i64 0 1000000,.s]
def K11:Names:=fun sz=>match sz with
 |1=>[3,4,5]
 |2=>[9,6]
 |3=>[7]
 |5=>[10,8]
 |6=>[11,1]
 |7=>[12,2]
 |_=>[]
noncomputable abbrev Gm:Nat→Gam:=callF tab ext
end Ct
end Go.Proofs.YtjbndifenhihhaaGreatDoor
namespace Go.Proofs.YtjbndifenhihhaaGreatDoor
open Go Go.Em Go.Ab
set_option maxRecDepth 100000
def Back (f:FuncId)(args:List X)(x:X):Prop:=∃B,∀N,B≤N→callF tab ext N (.fn f) args []=some (x,[])
theorem iF {f:FuncId}{args:List X}{x y:X}(h:Back f args x)(hd:x.data [] false=some y):∃B,∀N,B≤N→Gam.pureD (callF tab ext N) f args=some y:=by
 obtain ⟨B,h⟩:=h
 exact ⟨B,fun N hN=>bP (h N hN) hd⟩
theorem Jh {α β:Type}[Inhabited β](l:List α){R:α→β→Prop}{Q:α→β→Nat→Prop}(h:∀x,x∈l→∃y,R x y∧∃B,∀N,B≤N→Q x y N):∃(f:α→β) (B:Nat),∀x,x∈l→R x (f x)∧∀N,B≤N→Q x (f x) N:=by
 classical
 have h2:∀x:α,∃y:β,x∈l→R x y∧∃B,∀N,B≤N→Q x y N:=fun x=>by
  by_cases hx:x∈l
  ·obtain ⟨y,hy⟩:=h x hx;exact ⟨y,fun _=>hy⟩
  ·exact ⟨default,fun e=>absurd e hx⟩
 obtain ⟨f,hf⟩:=Classical.axiomOfChoice h2
 have h3:∀m:List α,(∀x,x∈m→x∈l)→∃B,∀x,x∈m→∀N,B≤N→Q x (f x) N:=by
  intro m
  induction m with
  |nil=>exact fun _=>⟨0,fun x hx=>by cases hx⟩
  |cons a r ih=>
   intro hm
   obtain ⟨B1,h1⟩:=(hf a (hm a (List.mem_cons_self ..))).2
   obtain ⟨B2,h2⟩:=ih (fun x hx=>hm x (List.mem_cons_of_mem _ hx))
   refine ⟨max B1 B2,fun x hx N hN=>?_⟩
   rcases List.mem_cons.1 hx with rfl|hx
   ·exact h1 N (by omega)
   ·exact h2 x hx N (by omega)
 obtain ⟨B,hB⟩:=h3 l (fun x hx=>hx)
 exact ⟨f,B,fun x hx=>⟨(hf x hx).1,hB x hx⟩⟩
end Go.Proofs.YtjbndifenhihhaaGreatDoor
namespace Go.Proofs.YtjbndifenhihhaaGreatDoor
open Go Go.Em Go.Ab
set_option maxRecDepth 100000
namespace Ct
theorem gI {f:FuncId}{args:List X}{g:List X→List Bx→Option (X×List Bx)}(hg:ext f=some g){r:X}{bx:List Bx}(h:g args []=some (r,bx)):∃B,∀N,B≤N→Gm N (.fn f) args []=some (r,bx):=
 ⟨1,fun N hN=>by
  obtain ⟨M,rfl⟩:∃M,N=M+1:=⟨N-1,by omega⟩
  show callF tab ext (M+1) (.fn f) args []=_
  unfold callF
  rw [hg]
  exact h⟩
def znj:List Ctr:=[mkC 136 [.s,.s] [] none [(.ir .i64 (-1) 1,[])]]
theorem Je:∀a b:List UInt8,-1≤Lib.compareBytes a b∧Lib.compareBytes a b≤1
 |[],[]=>by decide
 |[],_::_=>by unfold Lib.compareBytes;decide
 |_::_,[]=>by unfold Lib.compareBytes;decide
 |x::a,y::b=>by
  unfold Lib.compareBytes
  have:=Je a b
  repeat' split
  all_goals first|exact this|omega
theorem zek:ah T Gm znj:=.one (dA (fun o ho=>by rw [List.mem_singleton.1 ho];exact ⟨rfl,rfl⟩) fun xs bx ha hb=>by
 match xs,bx,ha,hb with
 |[_,_],[],⟨⟨a,rfl,_⟩,⟨b,rfl,_⟩,_⟩,_=>
  have:=Je a.data.toList b.data.toList
  exact ⟨_,List.mem_singleton.2 rfl,_,[],⟨_,rfl,this.1,this.2⟩,trivial,gI (g:=compareExt) rfl rfl⟩)
theorem bsz (l:List UInt8):(⟨l.toArray⟩:ByteArray).size=l.length:=List.size_toArray ..
theorem bln (s:ByteArray):s.data.toList.length=s.size:=Array.length_toList ..
theorem zdf {T:Tab}{h:Int}{t:Sh}{xs:List X}(ha:IsL T h [t] xs):∃x,xs=[x]∧t.Is T h x:=by
 match xs,ha with
 |[x],⟨h,_⟩=>exact ⟨x,rfl,h⟩
theorem zfX {T:Tab}{h:Int}{t u:Sh}{xs:List X}(ha:IsL T h [t,u] xs):∃x y,xs=[x,y]∧t.Is T h x∧u.Is T h y:=by
 match xs,ha with
 |[x,y],⟨h,h2,_⟩=>exact ⟨x,y,rfl,h,h2⟩
theorem vO {T:Tab}{bx:List Bx}(hb:BIs T [] bx):bx=[]:=by
 match bx,hb with
 |[],_=>rfl
theorem zhp {T:Tab}{h:Int}{k:IntKind}{lo hi:Int}{x:X}(hx:(Sh.ir k lo hi).Is T h x):∃z,x=.v (.int k z)∧lo≤z∧z≤hi:=hx
theorem zha {T:Tab}{h:Int}{k:IntKind}{lo hi z:Int}(h1:lo≤z)(h2:z≤hi):(Sh.ir k lo hi).Is T h (.v (.int k z)):=⟨z,rfl,h1,h2⟩
theorem isS {T:Tab}{h:Int}{x:X}(hx:Sh.s.Is T h x):∃s:ByteArray,x=.v (.string s)∧(s.size:Int)≤1000000:=hx
theorem zmo {T:Tab}{h:Int}{lo hi:Int}{x:X}(hx:(Sh.sr lo hi).Is T h x):∃s:ByteArray,x=.v (.string s)∧lo≤(s.size:Int)∧(s.size:Int)≤hi:=hx
theorem zmn {T:Tab}{h:Int}{lo hi:Int}{s:ByteArray}(h1:lo≤(s.size:Int))(h2:(s.size:Int)≤hi):(Sh.sr lo hi).Is T h (.v (.string s)):=⟨s,rfl,h1,h2⟩
theorem Oy (n:Int):1≤(Lib.itoa n).length:=by
 by_cases hneg:n<0
 ·obtain ⟨u,rfl⟩:∃u:Nat,n=-(u:Int):=⟨n.natAbs,by omega⟩
  rw [Lib.itoa_neg u (by omega),List.length_cons];omega
 ·obtain ⟨u,rfl⟩:∃u:Nat,n=u:=⟨n.toNat,by omega⟩
  rw [Lib.itoa_nonneg,Lib.decDigits_length];exact Lib.nDigits_pos u
theorem EL (z:Int)(h1:-9223372036854775808≤z)(h2:z≤9223372036854775807):uZ [.v (.int .i64 z)] []=some (.v (.string ⟨(Lib.itoa z).toArray⟩),[]):=by
 simp only [uZ,h1,h2,and_self,if_true]
def zi9:List Ctr:=[mkC 87 [.ir .i64 (-9223372036854775808) 9223372036854775807] [] none [(.sr 1 21,[])]]
theorem LM:ah T Gm zi9:=.one (dA (fun o ho=>by rw [List.mem_singleton.1 ho];exact ⟨rfl,rfl⟩) fun xs bx ha hb=>by
 obtain ⟨x,rfl,hx⟩:=zdf ha
 obtain rfl:=vO hb
 obtain ⟨z,rfl,h1,h2⟩:=zhp hx
 have k1:=Lib.itoa_length_le z h1 h2
 have k2:=Oy z
 exact ⟨_,List.mem_singleton.2 rfl,_,[],zmn (by rw [bsz];omega) (by rw [bsz];omega),trivial,gI (g:=uZ) rfl (EL z h1 h2)⟩)
theorem zaM (s:ByteArray)(h:(s.size:Int)≤1000000):∃v x,rD [.v (.string s)] []=some (.tup [.v (.int .i64 v),x],[])∧-9223372036854775808≤v∧v≤9223372036854775807∧(x=.ifc∨x=.v .nilIface):=by
 have hs:=Lib.atoiSat_bounds s.data.toList
 have hb:s.size≤281474976710656:=by omega
 cases hv:Lib.atoiAll s.data.toList with
 |ok v=>
  have:=Lib.atoiAll_bounds hv
  exact ⟨v,_,by simp only [rD,hb,if_true,hv],this.1,this.2,.inr rfl⟩
 |range=>exact ⟨_,_,by simp only [rD,hb,if_true,hv],hs.1,hs.2,.inl rfl⟩
 |_=>exact ⟨0,_,by simp only [rD,hb,if_true,hv],by omega,by omega,.inl rfl⟩
def zkI:List Ctr:=[mkC 268 [.s] [] none [(.tu [.ir .i64 (-9223372036854775808) 9223372036854775807,.oi],[])]]
theorem Wn:ah T Gm zkI:=.one (dA (fun o ho=>by rw [List.mem_singleton.1 ho];exact ⟨rfl,rfl⟩) fun xs bx ha hb=>by
 obtain ⟨x,rfl,hx⟩:=zdf ha
 obtain rfl:=vO hb
 obtain ⟨s,rfl,h⟩:=isS hx
 obtain ⟨v,y,he,h1,h2,h3⟩:=zaM s h
 exact ⟨_,List.mem_singleton.2 rfl,.tup [.v (.int .i64 v),y],[],⟨_,rfl,zha h1 h2,h3,trivial⟩,trivial,gI (g:=rD) rfl he⟩)
theorem pI {n:Nat}{ρ:Rho}{a b:Nat}{c:Int}(ha:a<n)(hb:b<n)(h:ρ a+c≤ρ b):(lt a c b).ok n ρ:=aC.2 ⟨ha,hb,by unfold Lin.v;dsimp only;omega⟩
theorem uO {T:Tab}{ρ:Rho}{f:FuncId}{args:List Sh}{inb:List BSh}{mu:Option (Nat×Nat)}{outs:List SL}{xs:List X}{bx:List Bx}(hs:(dN f args inb mu outs).Sat T ρ xs bx):IsL T 0 args xs∧BIs T inb bx:=by
 have z:=hs.zero
 have hp:aW (dN f args inb mu outs).m ρ ((lI (.k 0) 1 args).2.2++(pO (lI (.k 0) 1 args).2.1 inb).2.2):=hs.pre
 have:=fP z args (h:=.k 0) (k:=1) hp.left hs.args
 rw [Lin.k_v z] at this
 exact ⟨this,fQ z inb (k:=(lI (.k 0) 1 args).2.1) hp.right hs.inb⟩
theorem sS {T:Tab}{n:Nat}{ρ:Rho}{i:Nat}{s:ByteArray}(h:G T n ρ (.s ⟨i,0⟩) (.v (.string s))):(s.size:Int)=ρ i:=by
 cases h with
 |s q1 q2=>rw [q2];unfold Lin.v;dsimp only;omega
theorem sI {T:Tab}{n:Nat}{ρ:Rho}{i:Nat}{k:IntKind}{z:Int}(h:G T n ρ (.i k ⟨i,0⟩) (.v (.int k z))):z=ρ i:=by
 cases h with
 |i q1 q2=>rw [q2];unfold Lin.v;dsimp only;omega
theorem gl2 {T:Tab}{n:Nat}{ρ:Rho}{a b:AX}{x y:X}(h:GL T n ρ [a,b] [x,y]):G T n ρ a x∧G T n ρ b y:=by
 cases h with
 |cons h1 h2=>cases h2 with
  |cons h2 h3=>exact ⟨h1,h2⟩
theorem Ci (s:ByteArray)(c:Int)(h1:s.size=1)(h2:0≤c)(h3:c≤100):∃r:ByteArray,l9 [.v (.string s),.v (.int .i64 c)] []=some (.v (.string r),[])∧(r.size:Int)=c:=by
 have a:c≤1000000:=by omega
 have b:s.size≤1000000:=by omega
 refine ⟨⟨(Lib.repeatL s.data.toList c.toNat).toArray⟩,by simp only [l9,h2,a,b,and_self,if_true],?_⟩
 rw [bsz,Lib.repeatL_length,bln,h1,Nat.mul_one];omega
def zm9:List Ctr:=[dN 333 [.sr 1 1,.ir .i64 0 100] [] none [(.sr 0 100,[],[lt 3 0 2,lt 2 0 3])]]
theorem zea:ah T Gm zm9:=.one fun ρ xs bx hs=>by
 obtain ⟨ha,hb⟩:=uO hs
 obtain ⟨x,y,rfl,hx,hy⟩:=zfX ha
 obtain rfl:=vO hb
 obtain ⟨s,rfl,a1,a2⟩:=zmo hx
 obtain ⟨c,rfl,a3,a4⟩:=zhp hy
 obtain ⟨w1,w2⟩:=gl2 hs.args
 have e2:c=ρ 2:=sI w2
 obtain ⟨r,he,hr⟩:=Ci s c (by omega) a3 a4
 refine lZ (List.mem_singleton.2 rfl) hs.zero hs.pos rfl rfl (zmn (s:=r) (by omega) (by omega)) (fun n' ρ' hm z' g hn=>?_) (gI (g:=l9) rfl he)
 subst hn
 have e3:(r.size:Int)=ρ' 3:=sS g
 have k2:ρ' 2=ρ 2:=hm.same 2 (by decide)
 exact .cons (pI (by decide) (by decide) (by omega)) (.cons (pI (by decide) (by decide) (by omega)) .nil)
theorem zJ (c:List UInt8):∀l:List UInt8,Lib.indexAny l c<(l.length:Int)∨l=[]
 |[]=>.inr rfl
 |b::l=>by
  left
  have:=zJ c l
  unfold Lib.indexAny
  rw [List.length_cons]
  split
  ·omega
  ·split
   ·omega
   ·rcases this with h|rfl
    ·omega
    ·rename_i h1 h2;exact absurd rfl h2
theorem KF (c l:List UInt8):Lib.indexAny l c+1≤(l.length:Int):=by
 rcases zJ c l with h|rfl
 ·omega
 ·show (-1:Int)+1≤0;decide
theorem DF (s c:ByteArray):∀f pos,-1≤lT s c f pos∧lT s c f pos+1≤s.size
 |0,_=>⟨by unfold lT;omega,by unfold lT;omega⟩
 |f+1,pos=>by
  unfold lT
  split
  ·split
   ·omega
   ·exact DF s c f _
  ·omega
theorem zfz (s:ByteArray)(h:(s.size:Int)≤1000000):∃z:Int,kH [.v (.string s),.v (.string marks)] []=some (.v (.int .i64 z),[])∧-1≤z∧z+1≤s.size:=by
 have h1:s.size<4294967281:=by omega
 have h2:marks.size<4294967281:=by decide
 have h3:Dz marks=true:=by decide
 have b1:=Lib.indexAny_ge marks.data.toList s.data.toList
 have b2:=KF marks.data.toList s.data.toList
 rw [bln] at b2
 unfold kH
 dsimp only
 split
 ·exact ⟨_,rfl,b1,b2⟩
 ·rw [if_pos ⟨h1,rfl⟩]
  refine ⟨_,rfl,?_⟩
  split
  ·exact DF s marks s.size 0
  ·exact ⟨b1,b2⟩
def znh:List Ctr:=[dN 265 [.s,.x (.v (.string ⟨#[46,91,63]⟩))] [] none [(.ir .i64 (-1) 1000000,[],[lt 2 1 1])]]
theorem zei:ah T Gm znh:=.one fun ρ xs bx hs=>by
 obtain ⟨ha,hb⟩:=uO hs
 obtain ⟨x,y,rfl,hx,hy⟩:=zfX ha
 obtain rfl:=vO hb
 obtain ⟨s,rfl,a1⟩:=isS hx
 obtain ⟨hy,_⟩:y=.v (.string ⟨#[46,91,63]⟩)∧_:=hy
 subst hy
 obtain ⟨w1,w2⟩:=gl2 hs.args
 have e1:=sS w1
 obtain ⟨z,he,h1,h2⟩:=zfz s a1
 refine lZ (List.mem_singleton.2 rfl) hs.zero hs.pos rfl rfl (zha (z:=z) (by omega) (by omega)) (fun n' ρ' hm z' g hn=>?_) (gI (g:=kH) rfl he)
 subst hn
 have e3:z=ρ' 2:=sI g
 have k1:ρ' 1=ρ 1:=hm.same 1 (by decide)
 exact .cons (pI (by decide) (by decide) (by omega)) .nil
theorem wJ (c:UInt8):∀l:List UInt8,Lib.indexByte l c+1≤(l.length:Int)
 |[]=>by show (-1:Int)+1≤0;decide
 |b::l=>by
  have:=wJ c l
  unfold Lib.indexByte
  rw [List.length_cons]
  split
  ·omega
  ·split<;>omega
theorem zcT (s c:ByteArray)(h:(s.size:Int)≤1000000)(hc:c.size=1):∃z:Int,o8 [.v (.string s),.v (.string c)] []=some (.v (.int .i64 z),[])∧-1≤z∧z+1≤s.size:=by
 have h1:s.size<4294967281:=by omega
 rw [←bln] at hc
 obtain ⟨b,hb⟩:=List.length_eq_one_iff.1 hc
 have b1:=Lib.indexByte_ge s.data.toList b
 have b2:=wJ b s.data.toList
 rw [bln] at b2
 exact ⟨_,by simp only [o8,hb,h1,if_true],b1,b2⟩
def zna:List Ctr:=[dN 357 [.s,.sr 1 1] [] none [(.ir .i64 (-1) 1000000,[],[lt 3 1 1])]]
theorem zeb:ah T Gm zna:=.one fun ρ xs bx hs=>by
 obtain ⟨ha,hb⟩:=uO hs
 obtain ⟨x,y,rfl,hx,hy⟩:=zfX ha
 obtain rfl:=vO hb
 obtain ⟨s,rfl,a1⟩:=isS hx
 obtain ⟨c,rfl,a2,a3⟩:=zmo hy
 obtain ⟨w1,w2⟩:=gl2 hs.args
 have e1:=sS w1
 obtain ⟨z,he,h1,h2⟩:=zcT s c a1 (by omega)
 refine lZ (List.mem_singleton.2 rfl) hs.zero hs.pos rfl rfl (zha (z:=z) (by omega) (by omega)) (fun n' ρ' hm z' g hn=>?_) (gI (g:=o8) rfl he)
 subst hn
 have e3:z=ρ' 3:=sI g
 have k1:ρ' 1=ρ 1:=hm.same 1 (by decide)
 exact .cons (pI (by decide) (by decide) (by omega)) .nil
theorem Ja (n a b c d:Nat)(h:0<n):1≤(Lib.decodeN n a b c d).2∧(Lib.decodeN n a b c d).2≤4∧(Lib.decodeN n a b c d).2≤n:=by
 unfold Lib.decodeN
 repeat' split
 all_goals first|omega|(dsimp only;omega)
end Ct
end Go.Proofs.YtjbndifenhihhaaGreatDoor
namespace Go.Proofs.YtjbndifenhihhaaGreatDoor
open Go Go.Em Go.Ab
set_option maxRecDepth 100000
theorem lM {α:Type}{nIn:Nat}{b:C}{H:α→St}{I:α→Prop}{μ:α→Nat}{Q:Ex→St→Prop}
  (step:∀a,I a→(∃υ a' B,(∀M,B≤M→run (callF tab ext M) nIn M b (H a)=some (.norm,υ))∧canon nIn υ=some (H a')∧I a'∧μ a'<μ a)∨(∃e σ' B,e≠.norm∧Q e σ'∧∀M,B≤M→run (callF tab ext M) nIn M b (H a)=some (e,σ')))
  {a:α} {τ:St} (ha:I a) (hτ:canon nIn τ=some (H a)):∃e σ' B,Q e σ'∧∀M,B≤M→run (callF tab ext M) nIn M (.loop b) τ=some (e,σ'):=by
 have key:∀d a,μ a≤d→I a→∃e σ' B,Q e σ'∧∀M F υ,B≤M→d<F→canon nIn υ=some (H a)→iter nIn (run (callF tab ext M) nIn M b) F υ=some (e,σ'):=by
  intro d
  induction d with
  |zero=>
   intro a hd hI
   rcases step a hI with ⟨_,a',_,_,_,_,hlt⟩|⟨e,σ',B,hne,hQ,h⟩
   ·omega
   ·refine ⟨e,σ',B,hQ,fun M F υ hM hF hc=>?_⟩
    obtain ⟨F',rfl⟩:∃F',F=F'+1:=⟨F-1,by omega⟩
    exact bC hc (h M hM) hne
  |succ d ih=>
   intro a hd hI
   rcases step a hI with ⟨ω,a',B1,h1,h2,h3,h4⟩|⟨e,σ',B,hne,hQ,h⟩
   ·obtain ⟨e,σ',B2,hQ,h5⟩:=ih a' (by omega) h3
    refine ⟨e,σ',max B1 B2,hQ,fun M F υ hM hF hc=>?_⟩
    obtain ⟨F',rfl⟩:∃F',F=F'+1:=⟨F-1,by omega⟩
    exact dG hc (h1 M (by omega)) (h5 M F' ω (by omega) (by omega) h2)
   ·refine ⟨e,σ',B,hQ,fun M F υ hM hF hc=>?_⟩
    obtain ⟨F',rfl⟩:∃F',F=F'+1:=⟨F-1,by omega⟩
    exact bC hc (h M hM) hne
 obtain ⟨e,σ',B,hQ,h⟩:=key (μ a) a (Nat.le_refl _) ha
 refine ⟨e,σ',max B (μ a+1),hQ,fun M hM=>?_⟩
 simp only [run]
 exact h M M τ (by omega) (by omega) hτ
end Go.Proofs.YtjbndifenhihhaaGreatDoor
namespace Go.Proofs.YtjbndifenhihhaaGreatDoor
open Go Go.Em Go.Ab
set_option maxRecDepth 100000
namespace Ct
theorem w64 {x:Int}(h1:-9223372036854775808≤x)(h2:x≤9223372036854775807):IntKind.i64.wrap x=x:=by rw [IntKind.wrap_i64];omega
theorem tq {a:Int}(k:Nat)(h:0≤a):a.tdiv k=a /k:=Int.tdiv_eq_ediv_of_nonneg h
theorem VG (N:Nat)(x lo hi:Int):Gam.pureD (callF tab ext (N+1)) 370 [num x,num lo,num hi]=some (boolX (decide (lo≤x)&&decide (x≤hi))):=by
 cases h1:(decide (x≥lo)) with
 |true=>
  cases h2:(decide (x≤hi)) with
  |true=>exact pure_of [(9,.b true),(13,.b true)] [] (pf2 h1 h2) (x:=boolX true) (bx:=[]) (by kernel_rfl) rfl
  |false=>exact pure_of [(9,.b true),(13,.b false)] [] (pf2 h1 h2) (x:=boolX false) (bx:=[]) (by kernel_rfl) rfl
 |false=>
  exact pure_of [(9,.b false)] [] (pf1 h1) (x:=boolX false) (bx:=[]) (by kernel_rfl) rfl
def bef (y:Int):Int:=365*(y-1)+(y-1) /4-(y-1) /100+(y-1) /400
theorem AB (N:Nat){y:Int}(h1:1≤y)(h2:y≤10000):Gam.pureD (callF tab ext (N+1)) 371 [num y]=some (num (bef y)):=by
 have q4:=tq 4 (show 0≤y-1 by omega)
 have q1:=tq 100 (show 0≤y-1 by omega)
 have q2:=tq 400 (show 0≤y-1 by omega)
 simp only [Int.cast_ofNat_Int] at q4 q1 q2
 have a1:IntKind.i64.wrap (y-1)=y-1:=w64 (by omega) (by omega)
 have a2:IntKind.i64.wrap (365*(y-1))=365*(y-1):=w64 (by omega) (by omega)
 have a3:IntKind.i64.wrap ((y-1).tdiv 4)=(y-1) /4:=by rw [q4];exact w64 (by omega) (by omega)
 have a4:IntKind.i64.wrap (365*(y-1)+(y-1) /4)=365*(y-1)+(y-1) /4:=w64 (by omega) (by omega)
 have a5:IntKind.i64.wrap ((y-1).tdiv 100)=(y-1) /100:=by rw [q1];exact w64 (by omega) (by omega)
 have a6:IntKind.i64.wrap (365*(y-1)+(y-1) /4-(y-1) /100)=365*(y-1)+(y-1) /4-(y-1) /100:=w64 (by omega) (by omega)
 have a7:IntKind.i64.wrap ((y-1).tdiv 400)=(y-1) /400:=by rw [q2];exact w64 (by omega) (by omega)
 have a8:IntKind.i64.wrap (365*(y-1)+(y-1) /4-(y-1) /100+(y-1) /400)=bef y:=w64 (by omega) (by omega)
 exact pure_of [(5,.i (y-1)),(7,.i (365*(y-1))),(9,.i ((y-1) /4)),(10,.i (365*(y-1)+(y-1) /4)),(12,.i ((y-1) /100)),(13,.i (365*(y-1)+(y-1) /4-(y-1) /100)),(15,.i ((y-1) /400)),(16,.i (bef y))] []
  (pf8 a1 a2 a3 a4 a5 a6 a7 a8) (x:=num (bef y)) (bx:=[]) (by kernel_rfl) rfl
def leap (y:Int):Bool:=y%4==0&&(y%100 !=0||y%400==0)
theorem tm {a:Int}(k:Nat)(h:0≤a):a.tmod k=a%k:=Int.tmod_eq_emod_of_nonneg h
theorem Vr (N:Nat){y:Int}(h1:1≤y)(h2:y≤9999):Gam.pureD (callF tab ext (N+1+1)) 386 [num y]=some (boolX (leap y)):=by
 have hin:=VG N y 1 9999
 rw [show (decide ((1:Int)≤y)&&decide (y≤9999))=true by simp [h1,h2]] at hin
 have q4:=tm 4 (show 0≤y by omega)
 have q1:=tm 100 (show 0≤y by omega)
 have q2:=tm 400 (show 0≤y by omega)
 simp only [Int.cast_ofNat_Int] at q4 q1 q2
 unfold leap
 rw [←q4,←q1,←q2]
 cases h1:(y.tmod 4==0) with
 |true=>
  cases h2:(y.tmod 100 !=0) with
  |true=>exact pure_of [(4,.p (boolX true)),(8,.b true),(13,.b true)] [] (pf3 hin h1 h2) (x:=boolX true) (bx:=[]) (by kernel_rfl) rfl
  |false=>
   cases h3:(y.tmod 400==0) with
   |true=>exact pure_of [(4,.p (boolX true)),(8,.b true),(13,.b false),(17,.b true)] [] (pf4 hin h1 h2 h3) (x:=boolX true) (bx:=[]) (by kernel_rfl) rfl
   |false=>exact pure_of [(4,.p (boolX true)),(8,.b true),(13,.b false),(17,.b false)] [] (pf4 hin h1 h2 h3) (x:=boolX false) (bx:=[]) (by kernel_rfl) rfl
 |false=>exact pure_of [(4,.p (boolX true)),(8,.b false)] [] (pf2 hin h1) (x:=boolX false) (bx:=[]) (by kernel_rfl) rfl
def md (l:Bool)(m:Int):Int:=if m=2 then (if l then 29 else 28) else if m=4∨m=6∨m=9∨m=11 then 30 else 31
def rest (l:Bool)(m:Int):Int:=
 if m=1 then 337+md l 2 else if m=2 then 306+md l 2 else if m=3 then 306 else if m=4 then 275 else if m=5 then 245 else if m=6 then 214 else if m=7 then 184 else if m=8 then 153 else if m=9 then 122 else if m=10 then 92 else if m=11 then 61 else if m=12 then 31 else 0
theorem zc0 (N:Nat){y m:Int}(h1:1≤y)(h2:y≤9999)(h3:1≤m)(h4:m≤12):Gam.pureD (callF tab ext (N+3)) 372 [num y,num m]=some (num (md (leap y) m)):=by
 have hin:=Vr N h1 h2
 have hm:m=1∨m=2∨m=3∨m=4∨m=5∨m=6∨m=7∨m=8∨m=9∨m=10∨m=11∨m=12:=by omega
 rcases hm with rfl|rfl|rfl|rfl|rfl|rfl|rfl|rfl|rfl|rfl|rfl|rfl
 ·exact pure_of [] [] pf0 (x:=num 31) (bx:=[]) (by kernel_rfl) rfl
 ·generalize leap y=b at hin ⊢
  cases h:b with
  |true=>subst h;exact pure_of [(9,.p (boolX true)),(10,.b true)] [] (pf2 hin (show true=true from rfl)) (x:=num 29) (bx:=[]) (by kernel_rfl) rfl
  |false=>subst h;exact pure_of [(9,.p (boolX false)),(10,.b false)] [] (pf2 hin (show false=false from rfl)) (x:=num 28) (bx:=[]) (by kernel_rfl) rfl
 ·exact pure_of [] [] pf0 (x:=num 31) (bx:=[]) (by kernel_rfl) rfl
 ·exact pure_of [] [] pf0 (x:=num 30) (bx:=[]) (by kernel_rfl) rfl
 ·exact pure_of [] [] pf0 (x:=num 31) (bx:=[]) (by kernel_rfl) rfl
 ·exact pure_of [] [] pf0 (x:=num 30) (bx:=[]) (by kernel_rfl) rfl
 ·exact pure_of [] [] pf0 (x:=num 31) (bx:=[]) (by kernel_rfl) rfl
 ·exact pure_of [] [] pf0 (x:=num 31) (bx:=[]) (by kernel_rfl) rfl
 ·exact pure_of [] [] pf0 (x:=num 30) (bx:=[]) (by kernel_rfl) rfl
 ·exact pure_of [] [] pf0 (x:=num 31) (bx:=[]) (by kernel_rfl) rfl
 ·exact pure_of [] [] pf0 (x:=num 30) (bx:=[]) (by kernel_rfl) rfl
 ·exact pure_of [] [] pf0 (x:=num 31) (bx:=[]) (by kernel_rfl) rfl
theorem rest_step (l:Bool){m:Int}(h3:1≤m)(h4:m≤12):rest l m=md l m+rest l (m+1):=by
 have hm:m=1∨m=2∨m=3∨m=4∨m=5∨m=6∨m=7∨m=8∨m=9∨m=10∨m=11∨m=12:=by omega
 cases l<;>rcases hm with rfl|rfl|rfl|rfl|rfl|rfl|rfl|rfl|rfl|rfl|rfl|rfl<;>rfl
theorem Y7 (l:Bool)(m:Int):28≤md l m∧md l m≤31:=by
 unfold md
 repeat' split
 all_goals omega
theorem UJ (l:Bool){m:Int}(h3:1≤m)(h4:m≤12):rest l m≤400:=by
 have hm:m=1∨m=2∨m=3∨m=4∨m=5∨m=6∨m=7∨m=8∨m=9∨m=10∨m=11∨m=12:=by omega
 cases l<;>rcases hm with rfl|rfl|rfl|rfl|rfl|rfl|rfl|rfl|rfl|rfl|rfl|rfl<;>decide
theorem zaK (y:Int):bef (y+1)-bef y=rest (leap y) 1:=by
 have:rest (leap y) 1=365+(if leap y then 1 else 0):=by cases leap y<;>rfl
 rw [this]
 unfold bef leap
 by_cases a:y%4=0
 ·by_cases b:y%100=0
  ·by_cases c:y%400=0
   ·simp only [a,b,c];simp;omega
   ·have c':(y%400==0)=false:=by simpa using c
    simp only [a,b,c'];simp;omega
  ·have b':(y%100 !=0)=true:=by simpa using b
   simp only [a,b'];simp;omega
 ·have a':(y%4==0)=false:=by simpa using a
  simp only [a'];simp;omega
def zjR (y m r:Int):Prop:=1≤y∧y≤9999∧1≤m∧m≤12∧0≤r∧r≤30
theorem zoR {R y1:Int}(r1:0≤R)(hy:1≤y1∧y1≤9999∧R<bef (y1+1)):∃y,(1≤y∧y≤9999∧R<bef (y+1)∧bef y≤R)∧∃B,∀M,B≤M→run (callF tab ext M) 0 M (.loop (loopAt 334 0)) ⟨[(2,num y1),(6,num R)],[]⟩=some (.exit 0,⟨[(2,num y),(6,num R),(19,boolX false)],[]⟩):=by
 obtain ⟨e,σ',B1,⟨y,he,hσ,hk⟩,hl1⟩:=lM (nIn:=0) (b:=loopAt 334 0) (H:=fun y:Int=>⟨[(2,num y),(6,num R)],[]⟩) (I:=fun y=>1≤y∧y≤9999∧R<bef (y+1)) (μ:=fun y=>y.toNat)
  (Q:=fun e σ'=>∃y:Int,e=.exit 0∧σ'=⟨[(2,num y),(6,num R),(19,boolX false)],[]⟩∧1≤y∧y≤9999∧R<bef (y+1)∧bef y≤R) (fun y ⟨i1,i2,i3⟩=>by
   have hb:∀M,1≤M→Gam.pureD (callF tab ext M) 371 [num y]=some (num (bef y)):=fun M hM=>by
    obtain ⟨M,rfl⟩:∃M',M=M'+1:=⟨M-1,by omega⟩
    exact AB M i1 (by omega)
   cases h:decide (bef y>R) with
   |true=>
    have h':bef y>R:=of_decide_eq_true h
    have y2:2≤y:=by
     rcases Int.lt_or_le 1 y with h|h
     ·omega
     ·have:y=1:=by omega
      subst this
      have:bef 1=0:=rfl
      omega
    refine .inl ⟨⟨[(2,num (y-1)),(6,num R)],[]⟩,y-1,1,fun M hM=>?_,by kernel_rfl,⟨by omega,by omega,by rw [Int.sub_add_cancel];omega⟩,by omega⟩
    exact run_of [(17,.p (num (bef y))),(19,.b true),(21,.i (y-1))] [] (pf3 (hb M hM) h (show IntKind.i64.wrap (y-1)=y-1 from w64 (by omega) (by omega))) (lo':=[]) (by kernel_rfl)
   |false=>
    have h':¬bef y>R:=of_decide_eq_false h
    exact .inr ⟨_,_,1,(by intro e;cases e),⟨y,rfl,rfl,i1,i2,i3,by omega⟩,fun M hM=>run_of [(17,.p (num (bef y))),(19,.b false)] [] (pf2 (hb M hM) h) (lo':=[]) (by kernel_rfl)⟩)
  (τ:=⟨[(2,num y1),(6,num R)],[]⟩) (a:=y1) hy (by kernel_rfl)
 subst he hσ
 exact ⟨y,hk,B1,hl1⟩
theorem zoQ {y r0:Int}(k1:1≤y)(k2:y≤9999)(h0:0≤r0)(h1:r0<rest (leap y) 1):∃m r,(1≤m∧m≤12∧0≤r∧r≤30)∧∃B,∀M,B≤M→run (callF tab ext M) 0 M (.loop (loopAt 334 1)) ⟨[(2,num y),(3,num 1),(6,num r0)],[]⟩=some (.exit 2,⟨[(2,num y),(3,num m),(6,num r),(30,boolX false)],[]⟩):=by
 obtain ⟨e,σ',B2,⟨m,r,he,hσ,hk⟩,hl2⟩:=lM (nIn:=0) (b:=loopAt 334 1) (H:=fun p:Int×Int=>⟨[(2,num y),(3,num p.1),(6,num p.2)],[]⟩) (I:=fun p=>1≤p.1∧p.1≤12∧0≤p.2∧p.2<rest (leap y) p.1) (μ:=fun p=>(13-p.1).toNat)
  (Q:=fun e σ'=>∃m r:Int,e=.exit 2∧σ'=⟨[(2,num y),(3,num m),(6,num r),(30,boolX false)],[]⟩∧1≤m∧m≤12∧0≤r∧r≤30) (fun p ⟨i1,i2,i3,i4⟩=>by
   obtain ⟨m,r⟩:=p
   dsimp only at i1 i2 i3 i4 ⊢
   have hb:∀M,3≤M→Gam.pureD (callF tab ext M) 372 [num y,num m]=some (num (md (leap y) m)):=fun M hM=>by
    obtain ⟨M,rfl⟩:∃M',M=M'+3:=⟨M-3,by omega⟩
    exact zc0 M k1 k2 i1 i2
   have hm:=Y7 (leap y) m
   have hs:=rest_step (leap y) i1 i2
   have hr:=UJ (leap y) i1 i2
   generalize md (leap y) m=v at hb hm hs
   cases h:decide (r≥v) with
   |true=>
    have h':r≥v:=of_decide_eq_true h
    have m2:m≤11:=by
     rcases Int.lt_or_le m 12 with h|h
     ·omega
     ·have:m=12:=by omega
      subst this
      have:rest (leap y) (12+1)=0:=rfl
      omega
    refine .inl ⟨⟨[(2,num y),(3,num (m+1)),(6,num (r-v))],[]⟩,(m+1,r-v),3,fun M hM=>?_,by kernel_rfl,⟨by dsimp only;omega,by dsimp only;omega,by dsimp only;omega,by dsimp only;omega⟩,by dsimp only;omega⟩
    exact run_of [(29,.p (num v)),(30,.b true),(36,.p (num v)),(37,.i (r-v)),(32,.i (m+1))] [] (pf5 (hb M hM) h (hb M hM) (show IntKind.i64.wrap (r-v)=r-v from w64 (by omega) (by omega)) (show IntKind.i64.wrap (m+1)=m+1 from w64 (by omega) (by omega))) (lo':=[]) (by kernel_rfl)
   |false=>
    have h':¬r≥v:=of_decide_eq_false h
    exact .inr ⟨_,_,3,(by intro e;cases e),⟨m,r,rfl,rfl,i1,i2,i3,by omega⟩,fun M hM=>run_of [(29,.p (num v)),(30,.b false)] [] (pf2 (hb M hM) h) (lo':=[]) (by kernel_rfl)⟩)
  (τ:=⟨[(2,num y),(3,num 1),(6,num r0)],[]⟩) (a:=(1,r0)) ⟨by dsimp only;omega,by dsimp only;omega,h0,h1⟩ (by kernel_rfl)
 subst he hσ
 exact ⟨m,r,hk,B2,hl2⟩
theorem PW {R:Int}(r1:0≤R)(r2:R≤3652058):∃y1,(if false=true then if 9999>R /365+1 then 9999 else R /365+1 else if 9999<R /365+1 then (9999:Int) else R /365+1)=y1∧1≤y1∧y1≤9999∧R<bef (y1+1):=by
 refine ⟨_,rfl,?_⟩
 rw [if_neg (by decide)]
 unfold bef
 split<;>omega
theorem civil (d:Int):Back 334 [num d] (.tup [num 0,num 0,num 0,num 2])∨∃y m r,zjR y m r∧Back 334 [num d] (.tup [num y,num m,num (r+1),num 0]):=by
 have hin:=fun N=>VG N d (-719162) 2932896
 cases hr:(decide (-719162≤d)&&decide (d≤2932896)) with
 |false=>
  rw [hr] at hin
  refine .inl ⟨2,fun N hN=>?_⟩
  obtain ⟨M,rfl⟩:∃M,N=M+1+1:=⟨N-2,by omega⟩
  exact aB [(8,.p (boolX false)),(9,.b true)] [] (pf2 (hin M) (show (!false)=true from rfl)) (r:=some (.tup [num 0,num 0,num 0,num 2],[])) (by kernel_rfl)
 |true=>
  rw [hr] at hin
  rw [Bool.and_eq_true,decide_eq_true_eq,decide_eq_true_eq] at hr
  obtain ⟨d1,d2⟩:=hr
  obtain ⟨R,hR⟩:∃R,R=d- -719162:=⟨_,rfl⟩
  have r1:0≤R:=by omega
  have r2:R≤3652058:=by omega
  have hq:R.tdiv 365=R /365:=tq 365 r1
  obtain ⟨y1,hy1,hy⟩:=PW r1 r2
  obtain ⟨y,⟨k1,k2,k3,k4⟩,B1,hl1⟩:=zoR r1 hy
  have kb:=zaK y
  have kr:=UJ (leap y) (m:=1) (by decide) (by decide)
  obtain ⟨m,r,⟨k5,k6,k7,k8⟩,B2,hl2⟩:=zoQ (r0:=R-bef y) k1 k2 (by omega) (by omega)
  refine .inr ⟨y,m,r,⟨k1,k2,k5,k6,k7,k8⟩,B1+B2+3,fun N hN=>?_⟩
  obtain ⟨M,rfl⟩:∃M,N=M+1+1:=⟨N-2,by omega⟩
  have hl1:=hl1 (M+1) (by omega)
  have hl2:=hl2 (M+1) (by omega)
  rw [←hy1] at hl1
  have a1:IntKind.i64.wrap (d- -719162)=R:=by rw [←hR];exact w64 (by omega) (by omega)
  have a2:IntKind.i64.wrap (R.tdiv 365)=R /365:=by rw [hq];exact w64 (by omega) (by omega)
  have a3:IntKind.i64.wrap (R /365+1)=R /365+1:=w64 (by omega) (by omega)
  have a4:IntKind.i64.wrap (R-bef y)=R-bef y:=w64 (by omega) (by omega)
  have a5:IntKind.i64.wrap (r+1)=r+1:=w64 (by omega) (by omega)
  exact aB [(8,.p (boolX true)),(9,.b false),(11,.i R),(13,.i (R /365)),(14,.i (R /365+1)),(24,.p (num (bef y))),(25,.i (R-bef y)),(41,.i (r+1))] [(.exit 0,⟨[(2,num y),(6,num R),(19,boolX false)],[]⟩),(.exit 2,⟨[(2,num y),(3,num m),(6,num r),(30,boolX false)],[]⟩)]
   (zgY (hin M) (show (!true)=false from rfl) a1 a2 a3 hl1 (AB M k1 (by omega)) a4 hl2 a5) (r:=some (.tup [num y,num m,num (r+1),num 0],[])) (by kernel_rfl)
theorem Ce {h:Int}{z:Int}{T:Tab}{lo hi:Int}(h1:lo≤z)(h2:z≤hi):(Sh.ir .i64 lo hi).Is T h (num z):=⟨z,rfl,h1,h2⟩
def zm8:List Ctr:=[mkC 334 [int] [] none [(.tu [.ir .i64 0 9999,.ir .i64 0 12,.ir .i64 0 31,err],[])]]
theorem zd9:ah T Gm zm8:=.one (dA (fun o ho=>by rw [List.mem_singleton.1 ho];exact ⟨rfl,rfl⟩) fun xs bx ha hb=>by
 match xs,bx,ha,hb with
 |[_],[],⟨⟨d,rfl⟩,_⟩,_=>
  rcases civil d with h|⟨y,m,r,⟨k1,k2,k3,k4,k5,k6⟩,h⟩
  ·exact ⟨_,List.mem_singleton.2 rfl,_,[],⟨[num 0,num 0,num 0,num 2],rfl,Ce (by decide) (by decide),Ce (by decide) (by decide),Ce (by decide) (by decide),⟨2,rfl,by decide,by decide⟩,trivial⟩,trivial,h⟩
  ·exact ⟨_,List.mem_singleton.2 rfl,_,[],⟨[num y,num m,num (r+1),num 0],rfl,Ce (by omega) (by omega),Ce (by omega) (by omega),Ce (by omega) (by omega),⟨0,rfl,by decide,by decide⟩,trivial⟩,trivial,h⟩)
end Ct
end Go.Proofs.YtjbndifenhihhaaGreatDoor
namespace Go.Proofs.YtjbndifenhihhaaGreatDoor
open Go Go.Em Go.Ab
set_option maxRecDepth 100000
set_option linter.all false
namespace Ct
def zmO:List Ctr:=[dN 264 [.k .i64 1,.dp [.sr 1 1000000]] [] none [(.ir .i64 1 1000000,[],[lt 2 0 1])]]
theorem zdQ:ah T Gm zmO:=aA (L:=znh) (K:=K11) (orc:=(aT [])) zei (by kernel_rfl) (by kernel_rfl)
def zmI:List Ctr:=[dN 322 [.s,.s] [] none [(.kb true,[],[lt 2 0 1]),(.kb false,[],[])]]
theorem zdE:ah T Gm zmI:=aA (L:=[]) (K:=K11) (orc:=(aT [])) .nil (by kernel_rfl) (by kernel_rfl)
def zmN:List Ctr:=[dN 266 [.s,.s] [] none [(.kb true,[],[lt 2 0 1]),(.kb false,[],[])]]
theorem zdP:ah T Gm zmN:=aA (L:=zmI) (K:=K11) (orc:=(aT [])) zdE (by kernel_rfl) (by kernel_rfl)
def zmH:List Ctr:=[dN 323 [.s,.sr 1 1] [] none [(.tu [.s,.s,.kb true],[],[lt 3 0 1,lt 4 0 1]),(.tu [.s,.s,.kb false],[],[lt 3 0 1,lt 4 0 1])]]
theorem zdD:ah T Gm zmH:=aA (L:=zna) (K:=K11) (orc:=(aT [])) zeb (by kernel_rfl) (by kernel_rfl)
def zky:List Ctr:=[dN 267 [.s,.sr 1 1] [] none [(.tu [.s,.s,.kb true],[],[lt 3 0 1,lt 4 0 1]),(.tu [.s,.s,.kb false],[],[lt 3 0 1,lt 4 0 1])]]
theorem VZ:ah T Gm zky:=aA (L:=zmH) (K:=K11) (orc:=(aT [])) zdD (by kernel_rfl) (by kernel_rfl)
def zoK:List Ctr:=[dN 208 [.sr 1 1000000] [] none [(.tu [part,.s,.kb true],[],[lt 5 1 1]),(.tu [part,.s,.kb false],[],[])]]
theorem zd3:ah T Gm zoK:=aA (L:=(zmO++(zmN++(zky++(zkI++zi9))))) (K:=K11) (orc:=(aT [])) (ah.append zdQ (ah.append zdP (ah.append VZ (ah.append Wn LM)))) (by kernel_rfl) (by kernel_rfl)
def zmY:List Ctr:=[mkC 132 [.s] [] none [((.kb true),[]),((.kb false),[])]]
theorem zd0:ah T Gm zmY:=aA (L:=[]) (K:=K11) (orc:=(aT [⟨[23,24,25],fun e n=>(n+1,[ak (.k 0) ⟨n+0,0⟩,ak ⟨n+0,0⟩ (e 1)],[(23,.sl (some false) 1 4 (.k 1) (e 1)),(24,.i .i64 (e 1)),(25,.i .i64 ⟨n+0,0⟩)],[],(e 1,⟨n+0,0⟩))⟩])) .nil (by kernel_rfl) (by kernel_rfl)
def zmZ:List Ctr:=[dN 209 [part] [] none [(.kb true,[],bd 2 0 1000000),(.kb false,[],[])]]
theorem V3:ah T Gm zmZ:=aA (L:=zmY) (K:=K11) (orc:=(aT [])) zd0 (by kernel_rfl) (by kernel_rfl)
def zmG:List Ctr:=[mkC 326 [UY] [] none [(.sr 0 1000100,[])]]
theorem zdC:ah T Gm zmG:=aA (L:=zi9) (K:=K11) (orc:=(aT [])) LM (by kernel_rfl) (by kernel_rfl)
def zoI:List Ctr:=[mkC 269 [.sl 3 7] [] none [((err),[])]]
theorem zdO:ah T Gm zoI:=aA (L:=(zmZ++zmG)) (K:=K11) (orc:=(aT [⟨[3,21,22,23],fun e n=>(n+2,[ak (.k 0) ⟨n+1,0⟩,ak ⟨n+1,0⟩ (e 2)],[(3,.i .i64 ⟨n+0,0⟩),(21,.sl none 3 7 (e 1) (e 2)),(22,.i .i64 (e 2)),(23,.i .i64 ⟨n+1,0⟩)],[],(e 2,⟨n+1,0⟩))⟩])) (ah.append V3 zdC) (by kernel_rfl) (by kernel_rfl)
def zkx:List Ctr:=[mkC 272 [part] [] none [((.kb true),[]),((.kb false),[])]]
theorem VY:ah T Gm zkx:=aA (L:=[]) (K:=K11) (orc:=(aT [])) .nil (by kernel_rfl) (by kernel_rfl)
def zmP:List Ctr:=[mkC 261 [.sl 3 7,.fn 272 []] [] none [(.ir .i64 (-1) 1000000,[])]]
theorem zdR:ah T Gm zmP:=aA (L:=zkx) (K:=K11) (orc:=(aT [⟨[0,1,7,8],fun e n=>(n+1,[ak (.k 0) ⟨n+0,0⟩,ak ⟨n+0,0⟩ (e 1)],[(0,.sl none 3 7 (e 0) (e 1)),(1,.fn 272 []),(7,.i .i64 (e 1)),(8,.i .i64 ⟨n+0,0⟩)],[],(e 1,⟨n+0,0⟩))⟩])) VY (by kernel_rfl) (by kernel_rfl)
def zm1:List Ctr:=[mkC 199 [.sl 3 7,.fn 272 []] [] none [(.kb true,[]),(.kb false,[])]]
theorem zd5:ah T Gm zm1:=aA (L:=zmP) (K:=K11) (orc:=(aT [])) zdR (by kernel_rfl) (by kernel_rfl)
def zoJ:List Ctr:=[mkC 211 [.sl 3 7] [] none [((.kb true),[]),((.kb false),[])]]
theorem zd2:ah T Gm zoJ:=aA (L:=(zm1++zkx)) (K:=K11) (orc:=(aT [])) (ah.append zd5 VY) (by kernel_rfl) (by kernel_rfl)
def zoH:List Ctr:=[mkC 270 [UY,XO] [] none [(.kb true,[]),(.kb false,[])]]
theorem zdN:ah T Gm zoH:=aA (L:=[]) (K:=K11) (orc:=(aT [])) .nil (by kernel_rfl) (by kernel_rfl)
def zkn:List Ctr:=[mkC 363 [zlm,.dp [.s]] [] none [(.kb true,[]),(.kb false,[])]]
theorem VN:ah T Gm zkn:=aA (L:=[]) (K:=K11) (orc:=(aT [])) .nil (by kernel_rfl) (by kernel_rfl)
def zm0:List Ctr:=[dN 184 [.slr 7 12 0 6,.fn 363 [.dp [.s]]] [] none [(.ir .i64 (-1) 5,[],[lt 4 1 2])]]
theorem zd4:ah T Gm zm0:=aA (L:=zkn) (K:=K11) (orc:=(aT [⟨[0,1,7,8],fun e n=>(n+1,[ak (.k 0) ⟨n+0,0⟩,ak ⟨n+0,0⟩ (e 1)],[(0,.sl none 7 12 (e 0) (e 1)),(1,.fn 363 [.dp [.s (e 2)]]),(7,.i .i64 (e 1)),(8,.i .i64 ⟨n+0,0⟩)],[],(e 1,⟨n+0,0⟩))⟩])) VN (by kernel_rfl) (by kernel_rfl)
def zmF:List Ctr:=[dN 327 [XO,.s] [] none [(.ir .i64 (-1) 5,[],[lt 9 1 7])]]
theorem zdB:ah T Gm zmF:=aA (L:=(zkn++zm0)) (K:=K11) (orc:=(aT [])) (ah.append VN zd4) (by kernel_rfl) (by kernel_rfl)
def zoG:List Ctr:=[dN 271 [UY,XO] [] none [(.slr 6 11 0 6,[],[lt 11 0 4])]]
theorem zdM:ah T Gm zoG:=aA (L:=zmF) (K:=K11) (orc:=(aT [])) zdB (by kernel_rfl) (by kernel_rfl)
def zm5:List Ctr:=[mkC 55 [val] [] (some (1,0)) [(.ag [int,int,int,.s,.bs 0,.bs 1],[.SQ 6 1 1 12,.SQ 7 2 1 13])],mkC 55 [XO] [] (some (1,0)) [(.ag [int,int,int,.s,.bs 0,.bs 1],[.SQ 6 1 1 12,.SQ 7 2 1 13])]]
theorem Ls:ah T Gm zm5:=OG (L:=[]) (K:=K11) (orc:=(aT [⟨[1,2,3,12,13,14],fun e n=>(n+4,[ak ⟨n+0,0⟩ ⟨n+3,0⟩,ak ⟨n+1,0⟩ ⟨n+3,0⟩,ak (.k 0) ⟨n+2,0⟩,ak ⟨n+2,0⟩ (e 3),ak ⟨n+3,0⟩ ⟨n+0,0⟩,ak ⟨n+3,0⟩ ⟨n+1,0⟩,ak (.k 0) ⟨n+3,0⟩,ak ⟨n+3,0⟩ (e 4)],[(1,.ptr 0 (.k 0) 0),(2,.ptr 1 (.k 0) 0),(3,.ptr 2 (.k 0) 0),(12,.sl none 6 1 (e 3) (e 4)),(13,.i .i64 (e 4)),(14,.i .i64 ⟨n+0,0⟩)],[.var [.i .i64 (e 7),.i .i64 (e 8),.i .i64 (e 9),.s (e 10),.sl none 6 1 (e 3) (e 4),.sl none 7 2 (e 3) (e 14)],.var [.i .i64 (.k 0),.i .i64 (.k 0),.i .i64 (.k 0),.x (.v (.string ⟨#[]⟩)),.x (.sl true 6 []),.x (.sl true 7 [])],.var [.i .i64 (e 7),.i .i64 (e 8),.i .i64 (e 9),.s (e 10),.bs 3 (.k 0) ⟨n+1,0⟩,.x (.sl true 7 [])],.row 6 1 ⟨n+2,0⟩ ⟨n+3,0⟩],(e 4,⟨n+0,0⟩))⟩,⟨[2,3,27,28,29],fun e n=>(n+4,[ak ⟨n+0,0⟩ ⟨n+3,0⟩,ak ⟨n+1,0⟩ ⟨n+3,0⟩,ak (.k 0) ⟨n+2,0⟩,ak ⟨n+2,0⟩ (e 2),ak ⟨n+3,0⟩ ⟨n+0,0⟩,ak ⟨n+3,0⟩ ⟨n+1,0⟩,ak (.k 0) ⟨n+3,0⟩,ak ⟨n+3,0⟩ (e 3)],[(2,.ptr 0 (.k 0) 0),(3,.ptr 1 (.k 0) 0),(27,.sl none 7 2 (e 2) (e 3)),(28,.i .i64 (e 3)),(29,.i .i64 ⟨n+0,0⟩)],[.var [.i .i64 (.k 0),.i .i64 (.k 0),.i .i64 (.k 0),.x (.v (.string ⟨#[]⟩)),.x (.sl true 6 []),.x (.sl true 7 [])],.var [.i .i64 (e 9),.i .i64 (e 10),.i .i64 (e 11),.s (e 12),.bs 2 (.k 0) (e 14),.bs 3 (.k 0) ⟨n+1,0⟩],.row 6 1 (e 17) (e 18),.row 7 2 ⟨n+2,0⟩ ⟨n+3,0⟩],(e 3,⟨n+0,0⟩))⟩,⟨[1,2,3,12,13,14],fun e n=>(n+4,[ak ⟨n+0,0⟩ ⟨n+3,0⟩,ak ⟨n+1,0⟩ ⟨n+3,0⟩,ak (.k 0) ⟨n+2,0⟩,ak ⟨n+2,0⟩ (e 3),ak ⟨n+3,0⟩ ⟨n+0,0⟩,ak ⟨n+3,0⟩ ⟨n+1,0⟩,ak (.k 0) ⟨n+3,0⟩,ak ⟨n+3,0⟩ (e 4)],[(1,.ptr 0 (.k 0) 0),(2,.ptr 1 (.k 0) 0),(3,.ptr 2 (.k 0) 0),(12,.sl none 6 11 (e 3) (e 4)),(13,.i .i64 (e 4)),(14,.i .i64 ⟨n+0,0⟩)],[.var [.i .i64 (e 7),.i .i64 (e 8),.i .i64 (e 9),.s (e 10),.sl none 6 11 (e 3) (e 4),.sl none 7 12 (e 3) (e 14)],.var [.i .i64 (.k 0),.i .i64 (.k 0),.i .i64 (.k 0),.x (.v (.string ⟨#[]⟩)),.x (.sl true 6 []),.x (.sl true 7 [])],.var [.i .i64 (e 7),.i .i64 (e 8),.i .i64 (e 9),.s (e 10),.bs 3 (.k 0) ⟨n+1,0⟩,.x (.sl true 7 [])],.row 6 1 ⟨n+2,0⟩ ⟨n+3,0⟩],(e 4,⟨n+0,0⟩))⟩,⟨[2,3,27,28,29],fun e n=>(n+4,[ak ⟨n+0,0⟩ ⟨n+3,0⟩,ak ⟨n+1,0⟩ ⟨n+3,0⟩,ak (.k 0) ⟨n+2,0⟩,ak ⟨n+2,0⟩ (e 2),ak ⟨n+3,0⟩ ⟨n+0,0⟩,ak ⟨n+3,0⟩ ⟨n+1,0⟩,ak (.k 0) ⟨n+3,0⟩,ak ⟨n+3,0⟩ (e 3)],[(2,.ptr 0 (.k 0) 0),(3,.ptr 1 (.k 0) 0),(27,.sl none 7 12 (e 2) (e 3)),(28,.i .i64 (e 3)),(29,.i .i64 ⟨n+0,0⟩)],[.var [.i .i64 (.k 0),.i .i64 (.k 0),.i .i64 (.k 0),.x (.v (.string ⟨#[]⟩)),.x (.sl true 6 []),.x (.sl true 7 [])],.var [.i .i64 (e 9),.i .i64 (e 10),.i .i64 (e 11),.s (e 12),.bs 2 (.k 0) (e 14),.bs 3 (.k 0) ⟨n+1,0⟩],.row 6 1 (e 17) (e 18),.row 7 2 ⟨n+2,0⟩ ⟨n+3,0⟩],(e 3,⟨n+0,0⟩))⟩])) .nil (by kernel_rfl) (by kernel_rfl) (by kernel_rfl)
def zmx:List Ctr:=[dN 370 [int,int,int] [] none [(.kb true,[],[lt 2 0 1,lt 1 0 3]),(.kb false,[],[])]]
theorem zdq:ah T Gm zmx:=aA (L:=[]) (K:=K11) (orc:=(aT [])) .nil (by kernel_rfl) (by kernel_rfl)
def zmy:List Ctr:=[mkC 336 [int] [] none [(.tu [int,.ir .i64 0 86399999,err],[])]]
theorem zdr:ah T Gm zmy:=aA (L:=zmx) (K:=K11) (orc:=(aT [])) zdq (by kernel_rfl) (by kernel_rfl)
def zkm:List Ctr:=[mkC 335 [.ir .i64 (-1000000000000) 1000000000000,.ir .i64 0 10] [] none [(.sr 0 130,[])]]
theorem VL:ah T Gm zkm:=aA (L:=(zi9++zm9)) (K:=K11) (orc:=(aT [])) (ah.append LM zea) (by kernel_rfl) (by kernel_rfl)
def zko:List Ctr:=[mkC 286 [int] [] none [(.tu [.sr 0 400,err],[])]]
theorem VO:ah T Gm zko:=aA (L:=(zm8++zkm)) (K:=K11) (orc:=(aT [])) (ah.append zd9 VL) (by kernel_rfl) (by kernel_rfl)
def zmB:List Ctr:=[mkC 287 [int] [] none [(.tu [.sr 0 2000,err],[])]]
theorem zdv:ah T Gm zmB:=aA (L:=(zmy++(zko++zkm))) (K:=K11) (orc:=(aT [])) (ah.append zdr (ah.append VO VL)) (by kernel_rfl) (by kernel_rfl)
end Ct
end Go.Proofs.YtjbndifenhihhaaGreatDoor
namespace Go.Proofs.YtjbndifenhihhaaGreatDoor
open Go Go.Em Go.Ab
set_option maxRecDepth 100000
namespace Ct
theorem Cb {T:Tab}{ρ:Rho}{Γ:Nat→Gam}{f:FuncId}{args:List Sh}{inb:List BSh}{mu:Option (Nat×Nat)}{outs:List SL}{xs:List X}{bx bx':List Bx}{q:SL}{r:X}(hq:q∈outs)(h0:ρ 0=0)(hp:0<(dN f args inb mu outs).m)(w1:q.1.own=true)(w2:q.2.1.all BSh.own=true)(h1:q.1.Is T 0 r)(h2:BIs T q.2.1 bx')
  (hF:∀n' ρ',More (dN f args inb mu outs).m ρ n' ρ'→ρ' 0=0→G T n' ρ' (q.1.bld (.k 0) (dN f args inb mu outs).m).1 r→GBs T n' ρ' (pO (q.1.bld (.k 0) (dN f args inb mu outs).m).2.1 q.2.1).1 bx'→n'=(pO (q.1.bld (.k 0) (dN f args inb mu outs).m).2.1 q.2.1).2.1→aW n' ρ' q.2.2)
  (h:∃B,∀N,B≤N→Γ N (.fn f) xs bx=some (r,bx')):(dN f args inb mu outs).Res T Γ ρ xs bx:=by
 obtain ⟨sh,bs,F⟩:=q
 dsimp only at w1 w2 h1 h2 hF
 obtain ⟨B,hB⟩:=h
 obtain ⟨ρ1,m1,f1,g1⟩:=Sh.fwd sh (h:=.k 0) (n:=(dN f args inb mu outs).m) (ρ:=ρ) w1 hp h0 hp (by rw [Lin.k_v h0];exact h1)
 have hn1:=Nat.lt_of_lt_of_le hp m1.le
 obtain ⟨ρ2,m2,f2,g2⟩:=qo bs w2 hn1 (m1.zero hp h0) h2
 have hf:=hF _ ρ2 (m1.trans m2) (m2.zero hn1 (m1.zero hp h0)) (g1.more m2) g2 rfl
 exact ⟨zjO (dN f args inb mu outs).m (sh,bs,F),by rw [zo];exact List.mem_map.2 ⟨_,hq,rfl⟩,ρ2,r,bx',m1.trans m2,aW.append hf (aW.append (m2.facts f1) f2),g1.more m2,g2,B,hB⟩
theorem zga {T:Tab}{Γ:Nat→Gam}{f:FuncId}{args:List Sh}{inb:List BSh}{mu:Option (Nat×Nat)}{outs:List SL}{xs:List X}{bx:List Bx}(hc:(dN f args inb mu outs).Holds T Γ)(ho:CO args=true)(hob:inb.all BSh.own=true)(ha:IsL T 0 args xs)(hb:BIs T inb bx):
  ∃ρ,GL T (dN f args inb mu outs).m ρ (lI (.k 0) 1 args).1 xs∧∃q,q∈outs∧∃n' ρ' r bx',More (dN f args inb mu outs).m ρ n' ρ'∧ρ' 0=0∧aW n' ρ' q.2.2∧G T n' ρ' (q.1.bld (.k 0) (dN f args inb mu outs).m).1 r∧q.1.Is T 0 r∧BIs T q.2.1 bx'∧∃B,∀N,B≤N→Γ N (.fn f) xs bx=some (r,bx'):=by
 obtain ⟨ρ,hs⟩:=N9 (f:=f) (mu:=mu) (outs:=outs) ho hob ha hb
 exact ⟨ρ,hs.args,yV hs.zero hs.pos (hc ρ xs bx hs)⟩
theorem WM {n:Nat}{ρ:Rho}{a b:Nat}{c:Int}{F:List Fact}(h:aW n ρ F)(hm:lt a c b∈F):ρ a+c≤ρ b:=by
 have:=(aC.1 (h _ hm)).2.2
 unfold Lin.v at this
 dsimp only at this
 omega
theorem zlE {n:Nat}{ρ:Rho}{a:Nat}{lo hi:Int}(h0:ρ 0=0)(h:aW n ρ (bd a lo hi)):lo≤ρ a∧ρ a≤hi:=by
 have h1:=(aC.1 (h (ak (.k lo) ⟨a,0⟩) (by simp [bd]))).2.2
 have h2:=(aC.1 (h (ak ⟨a,0⟩ (.k hi)) (by simp [bd]))).2.2
 rw [Lin.k_v h0] at h1 h2
 unfold Lin.v at h1 h2
 dsimp only at h1 h2
 omega
theorem isP {T:Tab}{h:Int}{x:X}(hx:part.Is T h x):∃(k i:Int) (nm:ByteArray),x=.agg [num k,num i,strX nm]∧(nm.size:Int)≤1000000:=by
 match x,hx with
 |_,⟨xs,rfl,hx⟩=>
  match xs,hx with
  |[_,_,_],⟨⟨k,rfl⟩,⟨i,rfl⟩,⟨nm,rfl,h⟩,_⟩=>exact ⟨k,i,nm,rfl,h⟩
theorem TL (s:ByteArray)(h1:1≤s.size)(h2:s.size≤1000000):∃(k i:Int) (nm s2:ByteArray) (b:Bool),Back 208 [strX s] (.tup [.agg [num k,num i,strX nm],strX s2,boolX b])∧nm.size≤1000000∧(b=true→s2.size+1≤s.size):=by
 obtain ⟨ρ,g,q,hq,n',ρ',r,bx',hm,z,hF,hg,hi,hb,hB⟩:=zga (zd3 _ (List.mem_singleton.2 rfl)) rfl rfl (xs:=[strX s]) ⟨⟨s,rfl,by omega,by omega⟩,trivial⟩ (bx:=[]) trivial
 have e1:(s.size:Int)=ρ 1:=by
  cases g with
  |cons w _=>exact sS w
 have k1:ρ' 1=ρ 1:=hm.same 1 (by decide)
 rcases List.mem_cons.1 hq with rfl|hq
 ·obtain rfl:=vO hb
  obtain ⟨xs,rfl,hi⟩:∃xs,r=.tup xs∧IsL T 0 [part,.s,.kb true] xs:=hi
  match xs,hi,hg with
  |[x,y,w],⟨hx,hy,hw,_⟩,.tup (.cons _ (.cons gy _))=>
   obtain ⟨k,i,nm,rfl,hnm⟩:=isP hx
   obtain ⟨s2,rfl,h3⟩:=isS hy
   have hw:w=boolX true:=hw
   subst hw
   have e5:(s2.size:Int)=ρ' 5:=sS gy
   have:=WM hF (List.mem_singleton.2 rfl)
   exact ⟨k,i,nm,s2,true,hB,by omega,fun _=>by omega⟩
 ·obtain rfl:=List.mem_singleton.1 hq
  obtain rfl:=vO hb
  obtain ⟨xs,rfl,hi⟩:∃xs,r=.tup xs∧IsL T 0 [part,.s,.kb false] xs:=hi
  match xs,hi with
  |[x,y,w],⟨hx,hy,hw,_⟩=>
   obtain ⟨k,i,nm,rfl,hnm⟩:=isP hx
   obtain ⟨s2,rfl,h3⟩:=isS hy
   have hw:w=boolX false:=hw
   subst hw
   exact ⟨k,i,nm,s2,false,hB,by omega,fun e=>by cases e⟩
theorem PK (k i:Int)(nm:ByteArray)(h:nm.size≤1000000):∃b,Back 209 [.agg [num k,num i,strX nm]] (boolX b)∧(b=true→0≤i∧i≤1000000):=by
 obtain ⟨ρ,g,q,hq,n',ρ',r,bx',hm,z,hF,hg,hi,hb,hB⟩:=zga (V3 _ (List.mem_singleton.2 rfl)) rfl rfl (xs:=[.agg [num k,num i,strX nm]]) ⟨⟨_,rfl,⟨k,rfl⟩,⟨i,rfl⟩,⟨nm,rfl,by unfold dX;omega⟩,trivial⟩,trivial⟩ (bx:=[]) trivial
 have e2:i=ρ 2:=by
  cases g with
  |cons w _=>cases w with
   |agg w=>cases w with
    |cons _ w=>cases w with
     |cons w _=>exact sI w
 have k2:ρ' 2=ρ 2:=hm.same 2 (by decide)
 rcases List.mem_cons.1 hq with rfl|hq
 ·obtain rfl:=vO hb
  have hi:r=boolX true:=hi
  subst hi
  have:=zlE z hF
  exact ⟨true,hB,fun _=>by omega⟩
 ·obtain rfl:=List.mem_singleton.1 hq
  obtain rfl:=vO hb
  have hi:r=boolX false:=hi
  subst hi
  exact ⟨false,hB,fun e=>by cases e⟩
end Ct
end Go.Proofs.YtjbndifenhihhaaGreatDoor
namespace Go.Proofs.YtjbndifenhihhaaGreatDoor
open Go Go.Em Go.Ab
set_option maxRecDepth 100000
namespace Ct
def Ie (e:List X):Prop:=∃(k i:Int) (nm:ByteArray),e=[num k,num i,strX nm]∧0≤i∧i≤1000000∧nm.size≤1000000
theorem Y1 {h:Int}(hh:1≤h){e:List X}(he:Ie e):D T h 7 e:=by
 obtain ⟨k,i,nm,rfl,h1,h2,h3⟩:=he
 exact dY hh (List.mem_singleton.2 rfl) ⟨⟨rfl,(fun a e=>by cases e),(fun a e=>by cases e)⟩,⟨rfl,(fun a e=>by cases e;exact h1),(fun a e=>by cases e;exact h2)⟩,⟨by omega,by omega⟩,trivial⟩
theorem Vh {s:ByteArray}(h:(!s.toList==(⟨#[]⟩:ByteArray).toList)=true):1≤s.size:=by
 rcases Nat.eq_zero_or_pos s.size with h0|h0
 ·exfalso
  have:s=⟨#[]⟩:=by
   obtain ⟨d⟩:=s
   have:d=#[]:=Array.size_eq_zero_iff.1 h0
   rw [this]
  subst this
  simp at h
 ·exact h0
theorem QC (s0:ByteArray)(h0:s0.size≤201):∃e σ' B,((e=.ret∧∃bx,σ'=⟨[(2,.sl true 3 []),(3,num 13)],bx⟩∧(∃es c,bx=[.row 3 es,.var c]))∨(∃(s:ByteArray) (es:List (List X)),e=.exit 1∧σ'=⟨[(4,.bs 0 0 es.length),(5,strX s),(19,boolX false)],[.row 3 es]⟩∧es.length≤201∧∀x,x∈es→Ie x))∧
  ∀M,B≤M→run (callF tab ext M) 0 M (.loop (loopAt 157 0)) ⟨[(4,.bs 0 0 0),(5,strX s0)],[.row 3 []]⟩=some (e,σ'):=by
 refine lM (nIn:=0) (b:=loopAt 157 0) (H:=fun p:ByteArray×List (List X)×Nat=>⟨[(4,.bs 0 0 p.2.2),(5,strX p.1)],[.row 3 p.2.1]⟩) (I:=fun p=>p.2.2=p.2.1.length∧p.1.size+p.2.2≤201∧∀x,x∈p.2.1→Ie x) (μ:=fun p=>p.1.size)
  (Q:=fun e σ'=>(e=.ret∧∃bx,σ'=⟨[(2,.sl true 3 []),(3,num 13)],bx⟩∧(∃es c,bx=[.row 3 es,.var c]))∨(∃(s:ByteArray) (es:List (List X)),e=.exit 1∧σ'=⟨[(4,.bs 0 0 es.length),(5,strX s),(19,boolX false)],[.row 3 es]⟩∧es.length≤201∧∀x,x∈es→Ie x))
  (fun p hp=>?_) (a:=(s0,[],0)) ⟨rfl,by dsimp only;omega,fun x hx=>by cases hx⟩ (by kernel_rfl)
 obtain ⟨s,es,n⟩:=p
 obtain ⟨i1,i2,i3⟩:=hp
 dsimp only at i1 i2 i3 ⊢
 cases h1:(!s.toList==(⟨#[]⟩:ByteArray).toList) with
 |false=>
  subst i1
  exact .inr ⟨_,_,0,(by intro e;cases e),.inr ⟨s,es,rfl,rfl,by omega,i3⟩,fun M _=>run_of [(19,.b false)] [] (pf1 h1) (lo':=[]) (by kernel_rfl)⟩
 |true=>
  have hs:=Vh h1
  obtain ⟨k,i,nm,s2,b,ht,hnm,hlt⟩:=TL s hs (by omega)
  obtain ⟨B1,ht⟩:=iF ht rfl
  cases b with
  |false=>exact .inr ⟨_,_,B1,(by intro e;cases e),.inl ⟨rfl,_,rfl,es,[num k,num i,strX nm],rfl⟩,fun M hM=>run_of [(19,.b true),(22,.p (.tup [.agg [num k,num i,strX nm],strX s2,boolX false])),(25,.b false)] [] (pf3 h1 (ht M hM) (show false=false from rfl)) (lo':=[]) (by kernel_rfl)⟩
  |true=>
   have hlt:=hlt rfl
   obtain ⟨c,hv,hc⟩:=PK k i nm hnm
   obtain ⟨B2,hv⟩:=iF hv rfl
   cases c with
   |false=>exact .inr ⟨_,_,max B1 B2,(by intro e;cases e),.inl ⟨rfl,_,rfl,es,[num k,num i,strX nm],rfl⟩,fun M hM=>run_of [(19,.b true),(22,.p (.tup [.agg [num k,num i,strX nm],strX s2,boolX true])),(25,.b true),(30,.p (boolX false)),(31,.b true)] [] (pf5 h1 (ht M (by omega)) (show true=true from rfl) (hv M (by omega)) (show (!false)=true from rfl)) (lo':=[]) (by kernel_rfl)⟩
   |true=>
    obtain ⟨c1,c2⟩:=hc rfl
    have hroom:0+n=es.length∧dD (n+[[num k,num i,strX nm]].length) (31+1)=true∧ou 0 (X.sl true 3 [[num k,num i,strX nm]]).rows=false:=⟨by omega,jW (by simp only [List.length_cons,List.length_nil];omega) (by simp only [List.length_cons,List.length_nil];omega),rfl⟩
    refine .inl ⟨⟨[(4,.bs 2 0 (n+1)),(5,strX s2)],[.dead,.var [num k,num i,strX nm],.row 3 (es++[[num k,num i,strX nm]])]⟩,(s2,es++[[num k,num i,strX nm]],n+1),max B1 B2,fun M hM=>?_,by kernel_rfl,⟨by simp [i1],by dsimp only;omega,fun x hx=>?_⟩,by dsimp only;omega⟩
    ·exact run_of [(19,.b true),(22,.p (.tup [.agg [num k,num i,strX nm],strX s2,boolX true])),(25,.b true),(30,.p (boolX true)),(31,.b false),(36,.app)] [] (pf6 h1 (ht M (by omega)) (show true=true from rfl) (hv M (by omega)) (show (!true)=false from rfl) hroom) (lo':=[]) (by kernel_rfl)
    ·rcases List.mem_append.1 hx with hx|hx
     ·exact i3 x hx
     ·rw [List.mem_singleton.1 hx];exact ⟨k,i,nm,rfl,c1,c2,hnm⟩
theorem QB (s:ByteArray)(hs:s.size≤1000000):(∃e:Int,1≤e∧e≤100∧Back 157 [strX s] (.tup [.sl true 3 [],num e]))∨∃es,es.length≤201∧(∀x,x∈es→Ie x)∧∃B,∀N,B≤N→callF tab ext N (.fn 157) [strX s] []=some (.tup [.bs 0 0 es.length,num 0],[.row 3 es]):=by
 have lift:∀{B:Nat} {r:X} {bx:List Bx},(∀M,B≤M→callF tab ext (M+1) (.fn 157) [strX s] []=some (r,bx))→∃B,∀N,B≤N→callF tab ext N (.fn 157) [strX s] []=some (r,bx):=fun {B} {r} {bx} h=>⟨B+1,fun N hN=>by
  obtain ⟨M,rfl⟩:∃M,N=M+1:=⟨N-1,by omega⟩
  exact h M (by omega)⟩
 cases h1:(s.toList==(⟨#[]⟩:ByteArray).toList) with
 |true=>exact .inl ⟨4,by decide,by decide,lift (B:=0) fun M _=>aB [(11,.b true)] [] (pf1 h1) (r:=some (.tup [.sl true 3 [],num 4],[])) (by kernel_rfl)⟩
 |false=>
  cases h2:decide (Int.ofNat s.size>200) with
  |true=>exact .inl ⟨5,by decide,by decide,lift (B:=0) fun M _=>aB [(11,.b false),(15,.b true)] [] (pf2 h1 h2) (r:=some (.tup [.sl true 3 [],num 5],[])) (by kernel_rfl)⟩
  |false=>
   have h2':¬Int.ofNat s.size>200:=of_decide_eq_false h2
   simp only [Int.ofNat_eq_natCast] at h2'
   have hsz:((⟨#[46]⟩:ByteArray)++s).size≤201:=by
    rw [ByteArray.size_append]
    show 1+s.size≤201
    omega
   have hc:(⟨#[46]⟩:ByteArray).size+s.size≤9223372036854775807:=by
    show 1+s.size≤_
    omega
   obtain ⟨e,σ',B,hr,hl⟩:=QC _ hsz
   rcases hr with ⟨rfl,bx,rfl,es,c,rfl⟩|⟨s1,es,rfl,rfl,hn,hes⟩
   ·exact .inl ⟨13,by decide,by decide,lift (B:=B) fun M hM=>aB [(11,.b false),(15,.b false),(17,.at)] [(.ret,⟨[(2,.sl true 3 []),(3,num 13)],[.row 3 es,.var c]⟩)] (pf4 h1 h2 hc (hl M hM)) (r:=some (.tup [.sl true 3 [],num 13],[])) (by kernel_rfl)⟩
   ·generalize hk:es.length=n at hl hn
    cases h3:decide (Int.ofNat n>16) with
    |true=>exact .inl ⟨9,by decide,by decide,lift (B:=B) fun M hM=>aB [(11,.b false),(15,.b false),(17,.at),(40,.b true)] [(.exit 1,⟨[(4,.bs 0 0 n),(5,strX s1),(19,boolX false)],[.row 3 es]⟩)] (pf5 h1 h2 hc (hl M hM) h3) (r:=some (.tup [.sl true 3 [],num 9],[])) (by kernel_rfl)⟩
    |false=>
     refine .inr ⟨es,by omega,hes,lift (B:=B) fun M hM=>?_⟩
     rw [hk]
     exact aB [(11,.b false),(15,.b false),(17,.at),(40,.b false)] [(.exit 1,⟨[(4,.bs 0 0 n),(5,strX s1),(19,boolX false)],[.row 3 es]⟩)] (pf5 h1 h2 hc (hl M hM) h3) (r:=some (.tup [.bs 0 0 n,num 0],[.row 3 es])) (by kernel_rfl)
def rF:List Ctr:=[dN 157 [.s] [] none [(.tu [.x (.sl true 3 []),.ir .i64 1 100],[],[]),(.tu [.bs 0,.k .i64 0],[.row 3 7],[lt 2 0 4,lt 4 0 2])]]
theorem bT:ah T Gm rF:=.one fun ρ xs bx hs=>by
 obtain ⟨ha,hb⟩:=uO hs
 obtain ⟨x,rfl,hx⟩:=zdf ha
 obtain rfl:=vO hb
 obtain ⟨s,rfl,a1⟩:=isS hx
 rcases QB s (by omega) with ⟨e,e1,e2,h⟩|⟨es,h1,h2,h⟩
 ·exact lZ (q:=(.tu [.x (.sl true 3 []),.ir .i64 1 100],[],[])) (List.mem_cons_self ..) hs.zero hs.pos rfl rfl (r:=.tup [.sl true 3 [],num e]) ⟨_,rfl,⟨rfl,rfl⟩,zha e1 e2,trivial⟩ (fun _ _ _ _ _ _=>.nil) h
 ·refine Cb (q:=(.tu [.bs 0,.k .i64 0],[.row 3 7],[lt 2 0 4,lt 4 0 2])) (List.mem_cons_of_mem _ (List.mem_singleton.2 rfl)) hs.zero hs.pos rfl rfl (r:=.tup [.bs 0 0 es.length,num 0]) (bx':=[.row 3 es]) ⟨_,rfl,⟨es.length,rfl,by unfold dX;omega⟩,rfl,trivial⟩ ⟨⟨es,1,rfl,by omega,by unfold dX;omega,fun x hx=>Y1 (Int.le_refl _) (h2 x hx)⟩,trivial⟩ (fun n' ρ' hm z g gb hn=>?_) h
  subst hn
  have e2:(es.length:Int)=ρ' 2:=by
   cases g with
   |tup g=>cases g with
    |cons g _=>cases g with
     |bs _ _ _ q=>rw [q];unfold Lin.v;show ρ' 2+0=_;omega
  have e5:(es.length:Int)=ρ' 4:=by
   cases gb with
   |cons g _=>cases g with
    |row _ _ q _=>rw [q];unfold Lin.v;show ρ' 4+0=_;omega
  exact .cons (pI (by decide) (by decide) (by omega)) (.cons (pI (by decide) (by decide) (by omega)) .nil)
end Ct
end Go.Proofs.YtjbndifenhihhaaGreatDoor
namespace Go.Proofs.YtjbndifenhihhaaGreatDoor
open Go Go.Em Go.Ab
set_option maxRecDepth 100000
set_option linter.all false
namespace Ct
theorem ar1 (N:Nat):callF tab ext (N+1) (.fn 195) [num 1] []=some (.tup [num 0,num 0],[]):=by kernel_rfl
theorem ar2 (N:Nat):callF tab ext (N+1) (.fn 195) [num 2] []=some (.tup [num 0,num 0],[]):=by kernel_rfl
theorem ar3 (N:Nat):callF tab ext (N+1) (.fn 195) [num 3] []=some (.tup [num 1,num 1],[]):=by kernel_rfl
theorem ar4 (N:Nat):callF tab ext (N+1) (.fn 195) [num 4] []=some (.tup [num 2,num 2],[]):=by kernel_rfl
theorem ar5 (N:Nat):callF tab ext (N+1) (.fn 195) [num 5] []=some (.tup [num 2,num 2],[]):=by kernel_rfl
theorem ar6 (N:Nat):callF tab ext (N+1) (.fn 195) [num 6] []=some (.tup [num 2,num 2],[]):=by kernel_rfl
theorem ar7 (N:Nat):callF tab ext (N+1) (.fn 195) [num 7] []=some (.tup [num 2,num 2],[]):=by kernel_rfl
theorem ar8 (N:Nat):callF tab ext (N+1) (.fn 195) [num 8] []=some (.tup [num 2,num 2],[]):=by kernel_rfl
theorem ar9 (N:Nat):callF tab ext (N+1) (.fn 195) [num 9] []=some (.tup [num 2,num 2],[]):=by kernel_rfl
theorem zpg (N:Nat):callF tab ext (N+1) (.fn 195) [num 10] []=some (.tup [num 2,num 2],[]):=by kernel_rfl
theorem zpf (N:Nat):callF tab ext (N+1) (.fn 195) [num 11] []=some (.tup [num 2,num 2],[]):=by kernel_rfl
theorem zpe (N:Nat):callF tab ext (N+1) (.fn 195) [num 12] []=some (.tup [num 2,num 2],[]):=by kernel_rfl
theorem zpd (N:Nat):callF tab ext (N+1) (.fn 195) [num 13] []=some (.tup [num 2,num 2],[]):=by kernel_rfl
theorem zpc (N:Nat):callF tab ext (N+1) (.fn 195) [num 14] []=some (.tup [num 2,num 2],[]):=by kernel_rfl
theorem zpb (N:Nat):callF tab ext (N+1) (.fn 195) [num 15] []=some (.tup [num 2,num 2],[]):=by kernel_rfl
theorem zpa (N:Nat):callF tab ext (N+1) (.fn 195) [num 16] []=some (.tup [num 1,num 1],[]):=by kernel_rfl
theorem zo9 (N:Nat):callF tab ext (N+1) (.fn 195) [num 17] []=some (.tup [num 2,num 2],[]):=by kernel_rfl
theorem zo8 (N:Nat):callF tab ext (N+1) (.fn 195) [num 18] []=some (.tup [num 1,num 1],[]):=by kernel_rfl
theorem zo7 (N:Nat):callF tab ext (N+1) (.fn 195) [num 19] []=some (.tup [num 1,num 1],[]):=by kernel_rfl
theorem zo6 (N:Nat):callF tab ext (N+1) (.fn 195) [num 20] []=some (.tup [num 1,num 1],[]):=by kernel_rfl
theorem zo5 (N:Nat):callF tab ext (N+1) (.fn 195) [num 21] []=some (.tup [num 3,num 3],[]):=by kernel_rfl
theorem zo4 (N:Nat):callF tab ext (N+1) (.fn 195) [num 22] []=some (.tup [num 0,num 0],[]):=by kernel_rfl
theorem zo3 (N:Nat):callF tab ext (N+1) (.fn 195) [num 23] []=some (.tup [num 2,num 2],[]):=by kernel_rfl
theorem zo2 (N:Nat):callF tab ext (N+1) (.fn 195) [num 24] []=some (.tup [num 3,num 3],[]):=by kernel_rfl
theorem zo1 (N:Nat):callF tab ext (N+1) (.fn 195) [num 25] []=some (.tup [num 2,num 256],[]):=by kernel_rfl
theorem zo0 (N:Nat):callF tab ext (N+1) (.fn 195) [num 26] []=some (.tup [num 0,num 0],[]):=by kernel_rfl
theorem zoZ (N:Nat):callF tab ext (N+1) (.fn 195) [num 27] []=some (.tup [num 1,num 1],[]):=by kernel_rfl
theorem zoY (N:Nat):callF tab ext (N+1) (.fn 195) [num 28] []=some (.tup [num 1,num 1],[]):=by kernel_rfl
theorem zg0 {op:Int}(h1:1≤op)(h2:op≤28):op=1∨op=2∨op=3∨op=4∨op=5∨op=6∨op=7∨op=8∨op=9∨op=10∨op=11∨op=12∨op=13∨op=14∨op=15∨op=16∨op=17∨op=18∨op=19∨op=20∨op=21∨op=22∨op=23∨op=24∨op=25∨op=26∨op=27∨op=28:=by omega
def uG:List Ctr:=[dN 195 [.ir .i64 1 28] [] none [(.tu [.k .i64 0,int],[],bd 1 1 1),(.tu [.k .i64 0,int],[],bd 1 2 2),(.tu [.k .i64 1,int],[],bd 1 3 3),(.tu [.k .i64 2,int],[],bd 1 4 15),(.tu [.k .i64 1,int],[],bd 1 16 16),(.tu [.k .i64 2,int],[],bd 1 17 17),(.tu [.k .i64 1,int],[],bd 1 18 20),(.tu [.k .i64 3,int],[],bd 1 21 21),(.tu [.k .i64 0,int],[],bd 1 22 22),(.tu [.k .i64 2,int],[],bd 1 23 23),(.tu [.k .i64 3,int],[],bd 1 24 24),(.tu [.k .i64 2,int],[],bd 1 25 25),(.tu [.k .i64 0,int],[],bd 1 26 26),(.tu [.k .i64 1,int],[],bd 1 27 28)]]
theorem dP {ρ:Rho}{op lo hi a b:Int}(hs:(dN 195 [.ir .i64 1 28] [] none [(.tu [.k .i64 0,int],[],bd 1 1 1),(.tu [.k .i64 0,int],[],bd 1 2 2),(.tu [.k .i64 1,int],[],bd 1 3 3),(.tu [.k .i64 2,int],[],bd 1 4 15),(.tu [.k .i64 1,int],[],bd 1 16 16),(.tu [.k .i64 2,int],[],bd 1 17 17),(.tu [.k .i64 1,int],[],bd 1 18 20),(.tu [.k .i64 3,int],[],bd 1 21 21),(.tu [.k .i64 0,int],[],bd 1 22 22),(.tu [.k .i64 2,int],[],bd 1 23 23),(.tu [.k .i64 3,int],[],bd 1 24 24),(.tu [.k .i64 2,int],[],bd 1 25 25),(.tu [.k .i64 0,int],[],bd 1 26 26),(.tu [.k .i64 1,int],[],bd 1 27 28)]).Sat T ρ [num op] [])(hm:((.tu [.k .i64 lo,int],[],bd 1 a b):SL)∈([(.tu [.k .i64 0,int],[],bd 1 1 1),(.tu [.k .i64 0,int],[],bd 1 2 2),(.tu [.k .i64 1,int],[],bd 1 3 3),(.tu [.k .i64 2,int],[],bd 1 4 15),(.tu [.k .i64 1,int],[],bd 1 16 16),(.tu [.k .i64 2,int],[],bd 1 17 17),(.tu [.k .i64 1,int],[],bd 1 18 20),(.tu [.k .i64 3,int],[],bd 1 21 21),(.tu [.k .i64 0,int],[],bd 1 22 22),(.tu [.k .i64 2,int],[],bd 1 23 23),(.tu [.k .i64 3,int],[],bd 1 24 24),(.tu [.k .i64 2,int],[],bd 1 25 25),(.tu [.k .i64 0,int],[],bd 1 26 26),(.tu [.k .i64 1,int],[],bd 1 27 28)]:List SL))(h1:a≤op)(h2:op≤b)(h:∀N,callF tab ext (N+1) (.fn 195) [num op] []=some (.tup [num lo,num hi],[])):(dN 195 [.ir .i64 1 28] [] none [(.tu [.k .i64 0,int],[],bd 1 1 1),(.tu [.k .i64 0,int],[],bd 1 2 2),(.tu [.k .i64 1,int],[],bd 1 3 3),(.tu [.k .i64 2,int],[],bd 1 4 15),(.tu [.k .i64 1,int],[],bd 1 16 16),(.tu [.k .i64 2,int],[],bd 1 17 17),(.tu [.k .i64 1,int],[],bd 1 18 20),(.tu [.k .i64 3,int],[],bd 1 21 21),(.tu [.k .i64 0,int],[],bd 1 22 22),(.tu [.k .i64 2,int],[],bd 1 23 23),(.tu [.k .i64 3,int],[],bd 1 24 24),(.tu [.k .i64 2,int],[],bd 1 25 25),(.tu [.k .i64 0,int],[],bd 1 26 26),(.tu [.k .i64 1,int],[],bd 1 27 28)]).Res T Gm ρ [num op] []:=by
 have e1:op=ρ 1:=by
  cases hs.args with
  |cons w _=>exact sI w
 refine lZ hm hs.zero hs.pos rfl rfl (r:=.tup [num lo,num hi]) ⟨_,rfl,rfl,⟨hi,rfl⟩,trivial⟩ (fun n' ρ' hm' z' g hn=>?_) ⟨1,fun N hN=>by
  obtain ⟨M,rfl⟩:∃M,N=M+1:=⟨N-1,by omega⟩
  exact h M⟩
 subst hn
 have k1:ρ' 1=ρ 1:=hm'.same 1 (by show 1<2;decide)
 refine .cons (aC.2 ⟨by show 0<3;decide,by show 1<3;decide,?_⟩) (.cons (aC.2 ⟨by show 1<3;decide,by show 0<3;decide,?_⟩) .nil)
 ·rw [Lin.k_v z'];unfold Lin.v;dsimp only;omega
 ·rw [Lin.k_v z'];unfold Lin.v;dsimp only;omega
theorem bW:ah T Gm uG:=.one fun ρ xs bx hs=>by
 obtain ⟨ha,hb⟩:=uO hs
 obtain ⟨x,rfl,hx⟩:=zdf ha
 obtain rfl:=vO hb
 obtain ⟨op,rfl,a1,a2⟩:=zhp hx
 rcases zg0 a1 a2 with rfl|rfl|rfl|rfl|rfl|rfl|rfl|rfl|rfl|rfl|rfl|rfl|rfl|rfl|rfl|rfl|rfl|rfl|rfl|rfl|rfl|rfl|rfl|rfl|rfl|rfl|rfl|rfl
 ·exact dP (a:=1) (b:=1) hs (by simp) (by decide) (by decide) ar1
 ·exact dP (a:=2) (b:=2) hs (by simp) (by decide) (by decide) ar2
 ·exact dP (a:=3) (b:=3) hs (by simp) (by decide) (by decide) ar3
 ·exact dP (a:=4) (b:=15) hs (by simp) (by decide) (by decide) ar4
 ·exact dP (a:=4) (b:=15) hs (by simp) (by decide) (by decide) ar5
 ·exact dP (a:=4) (b:=15) hs (by simp) (by decide) (by decide) ar6
 ·exact dP (a:=4) (b:=15) hs (by simp) (by decide) (by decide) ar7
 ·exact dP (a:=4) (b:=15) hs (by simp) (by decide) (by decide) ar8
 ·exact dP (a:=4) (b:=15) hs (by simp) (by decide) (by decide) ar9
 ·exact dP (a:=4) (b:=15) hs (by simp) (by decide) (by decide) zpg
 ·exact dP (a:=4) (b:=15) hs (by simp) (by decide) (by decide) zpf
 ·exact dP (a:=4) (b:=15) hs (by simp) (by decide) (by decide) zpe
 ·exact dP (a:=4) (b:=15) hs (by simp) (by decide) (by decide) zpd
 ·exact dP (a:=4) (b:=15) hs (by simp) (by decide) (by decide) zpc
 ·exact dP (a:=4) (b:=15) hs (by simp) (by decide) (by decide) zpb
 ·exact dP (a:=16) (b:=16) hs (by simp) (by decide) (by decide) zpa
 ·exact dP (a:=17) (b:=17) hs (by simp) (by decide) (by decide) zo9
 ·exact dP (a:=18) (b:=20) hs (by simp) (by decide) (by decide) zo8
 ·exact dP (a:=18) (b:=20) hs (by simp) (by decide) (by decide) zo7
 ·exact dP (a:=18) (b:=20) hs (by simp) (by decide) (by decide) zo6
 ·exact dP (a:=21) (b:=21) hs (by simp) (by decide) (by decide) zo5
 ·exact dP (a:=22) (b:=22) hs (by simp) (by decide) (by decide) zo4
 ·exact dP (a:=23) (b:=23) hs (by simp) (by decide) (by decide) zo3
 ·exact dP (a:=24) (b:=24) hs (by simp) (by decide) (by decide) zo2
 ·exact dP (a:=25) (b:=25) hs (by simp) (by decide) (by decide) zo1
 ·exact dP (a:=26) (b:=26) hs (by simp) (by decide) (by decide) zo0
 ·exact dP (a:=27) (b:=28) hs (by simp) (by decide) (by decide) zoZ
 ·exact dP (a:=27) (b:=28) hs (by simp) (by decide) (by decide) zoY
def iJ:List Ctr:=[mkC 196 [int] [] none [((.kb true),[]),((.kb false),[])]]
theorem bF:ah T Gm iJ:=aA (L:=[]) (K:=K) (orc:=(aT [])) .nil (by kernel_rfl) (by kernel_rfl)
def iI:List Ctr:=[mkC 197 [int] [] none [((.kb true),[]),((.kb false),[])]]
theorem bD:ah T Gm iI:=aA (L:=[]) (K:=K) (orc:=(aT [])) .nil (by kernel_rfl) (by kernel_rfl)
def gZ:List Ctr:=[mkC 200 [part] [] none [(.kb true,[]),(.kb false,[])]]
theorem bg:ah T Gm gZ:=aA (L:=[]) (K:=K) (orc:=(aT [])) .nil (by kernel_rfl) (by kernel_rfl)
def zhC:List Ctr:=[mkC 261 [.sl 3 7,.fn 200 []] [] none [(.ir .i64 (-1) 1000000,[])]]
theorem ZE:ah T Gm zhC:=aA (L:=gZ) (K:=K) (orc:=(aT [⟨[0,1,7,8],fun e n=>(n+1,[ak (.k 0) ⟨n+0,0⟩,ak ⟨n+0,0⟩ (e 1)],[(0,.sl none 3 7 (e 0) (e 1)),(1,.fn 200 []),(7,.i .i64 (e 1)),(8,.i .i64 ⟨n+0,0⟩)],[],(e 1,⟨n+0,0⟩))⟩])) bg (by kernel_rfl) (by kernel_rfl)
def iK:List Ctr:=[mkC 199 [.sl 3 7,.fn 200 []] [] none [(.kb true,[]),(.kb false,[])]]
theorem bG:ah T Gm iK:=aA (L:=(zhC++gZ)) (K:=K) (orc:=(aT [])) (ah.append ZE bg) (by kernel_rfl) (by kernel_rfl)
end Ct
end Go.Proofs.YtjbndifenhihhaaGreatDoor
