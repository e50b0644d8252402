/-.-/
import Derived.LaidMore
import Derived.LaidSub
import Derived.Test.YtkeefpkcepodeaaGreatDoorRows
import Derived.Lay
import Derived.OpenShut
import Derived.SevenTiedAt
import Derived.Stop.Joined
import Derived.Test.YtkeefpkcepodeaaGreatDoorU47
set_option linter.all false
namespace Go.Proofs.YtkeefpkcepodeaaGreatDoor
open Go.Em Go.ChangeShapes Go.WideShapes Go.ChangeAt Go.RowKit
set_option maxRecDepth 100000
variable {g:Nat}{P:Program}{W:World}
def laid2:List (String×DataW Unit):=[("internal/strconv.uint64pow10",Rows.laid_internal_strconv_uint64pow10),("unicode/utf8.acceptRanges",Rows.laid_unicode_utf8_acceptRanges),("strconv.ErrRange",Rows.laid_strconv_ErrRange),("strconv.ErrSyntax",Rows.laid_strconv_ErrSyntax),("unicode/utf8.first",Rows.laid_unicode_utf8_first)]
def mW:List (String×DataW Unit):=[("math/bits.deBruijn32tab",Rows.laid_math_bits_deBruijn32tab),("math/bits.deBruijn64tab",Rows.laid_math_bits_deBruijn64tab),("internal/strconv.uint64pow10",Rows.laid_internal_strconv_uint64pow10),("unicode/utf8.acceptRanges",Rows.laid_unicode_utf8_acceptRanges),("strconv.ErrRange",Rows.laid_strconv_ErrRange),("strconv.ErrSyntax",Rows.laid_strconv_ErrSyntax),("unicode/utf8.first",Rows.laid_unicode_utf8_first)]
def zou (x:String×DataW Unit):Bool:=x.1== "unicode/utf8.acceptRanges"||x.1== "unicode/utf8.first"||x.1== "internal/strconv.uint64pow10"||x.1== "strconv.ErrRange"||x.1== "strconv.ErrSyntax"
theorem zay:mW.filter zou=laid2:=by kernel_rfl
def Gl (P:Program)(t:TypeId):Array Field:=match P.underlying t with
 |some (.struct fs)=>fs
 |_=>#[]
theorem zgF:Tryz.prog.underlying 5=some (.int .u8):=by kernel_rfl
theorem zdf:Tryz.prog.underlying 278=some (.array 256 5):=by kernel_rfl
theorem zdd:Tryz.prog.underlying 281=some (.array 16 280):=by kernel_rfl
theorem zde:Tryz.prog.underlying 280=some (.struct (Gl Tryz.prog 280)):=by kernel_rfl
theorem zoP:((Gl Tryz.prog 280)[0]?).map (fun f=>(f.type,f.offset))=some (5,0):=by kernel_rfl
theorem field1:((Gl Tryz.prog 280)[1]?).map (fun f=>(f.type,f.offset))=some (5,1):=by kernel_rfl
theorem NJ {l:List Nat}(h:∀j z,l[j]?=some z->W.cell? ⟨g,j,none⟩=some (.int .u8 (Int.ofNat z))):Rep (Kw W) [] (.dp (uy l)) (.pointer (some ⟨g,0,none⟩)):=by
 have a:∀(j:Nat) (x:X),(uy l)[j]?=some x->∃z,l[j]?=some z/\x=.v (.int .u8 (Int.ofNat z)):=fun j x e=>by unfold uy at e;rw [qav,qac] at e;obtain ⟨z,hz,rfl⟩:=e;exact ⟨z,hz,rfl⟩
 refine .dp (fun j=>.int .u8 (Int.ofNat (l.getD j 0))) (fun j x e=>?_) (fun j x e=>?_) (fun j x e=>?_);·obtain ⟨z,_,rfl⟩:=a j x e;rfl
 ·obtain ⟨z,hz,rfl⟩:=a j x e;show W.cell? ⟨g,0+j,none⟩=_;rw [Nat.zero_add,h j z hz,qaF,hz];rfl
 obtain ⟨z,hz,rfl⟩:=a j x e;rw [qaF,hz];exact .v rfl
theorem zdb:Tryz.prog.underlying 322=some (.array 20 218):=by kernel_rfl
theorem zdc:Tryz.prog.underlying 218=some (.int .u64):=by kernel_rfl
theorem Tm:Tryz.prog.underlying 198=some (.interface #[("Error",250)]):=by kernel_rfl
theorem Tq {H:Type}{enc:TypeId×Value->H}{w:World}{base:Nat}{spare:Nat->Bool}{held:Bool}{fuel:Nat}{t:TypeId}{ms:Array (String×TypeId)}{cs:List Value}{nm:String}{x:DataW H}{q:List MemPlace}(ht:P.underlying t=some (.interface ms))(h:DataW.trod enc P w base spare held fuel t cs=some (.iface nm x,q)):∃u v,cs=[.iface u v]:=by
 cases fuel with
 |zero=>cases h
 |succ f=>
  unfold DataW.trod at h;rw [ht] at h;split at h<;>first
   |exact ⟨_,_,rfl⟩
   |(exfalso;clear h;simp_all;done)
   |(exfalso;simp_all;done)
theorem globs (h:laidMetH Tryz.prog laid2 W):(∀j z,Go.Pinned.utf8FirstZ[j]?=some z->W.cell? ⟨1,j,none⟩=some (.int .u8 (Int.ofNat z)))/\(∀j z,([128,191,160,191,128,159,144,191,128,143]++List.replicate 22 0)[j]?=some z->W.cell? ⟨2,j,none⟩=some (.int .u8 (Int.ofNat z)))/\(∀j,j<20->W.cell? ⟨3,j,none⟩=some (.int .u64 ((10^j:Nat):Int)))/\(∃u v,W.cell? ⟨5,0,none⟩=some (.iface u v))/\∃u v,W.cell? ⟨4,0,none⟩=some (.iface u v):=by
 rw [MakeChecks.laidMetH_plain _ _ _ (by kernel_rfl)] at h;obtain ⟨ps,⟨g3,t3,cs3,zyk,p3,q3,hg3,ht3,hv3,hd3,⟨g,t,cs,fuel,p,q,hg,ht,hv,hd,⟨g7,t7,cs7,zyi,p7,q7,hg7,ht7,hv7,hd7,⟨g6,t6,cs6,zyj,p6,q6,hg6,ht6,hv6,hd6,⟨g',t',cs',fuel',p',q',hg',ht',hv',hd',_,_⟩,_⟩,_⟩,_⟩,_⟩,_,_⟩:=h;obtain rfl:=Option.some.inj ((show Tryz.prog.globalNamed "internal/strconv.uint64pow10"=some 3 by kernel_rfl).symm.trans hg3);obtain rfl:=Option.some.inj ((show (Tryz.prog.globals[3]?).map (·.type)=some 322 by kernel_rfl).symm.trans ht3);obtain rfl:=Option.some.inj ((show Tryz.prog.globalNamed "unicode/utf8.acceptRanges"=some 2 by kernel_rfl).symm.trans hg);obtain rfl:=Option.some.inj ((show (Tryz.prog.globals[2]?).map (·.type)=some 281 by kernel_rfl).symm.trans ht);obtain rfl:=Option.some.inj ((show Tryz.prog.globalNamed "strconv.ErrRange"=some 5 by kernel_rfl).symm.trans hg7);obtain rfl:=Option.some.inj ((show (Tryz.prog.globals[5]?).map (·.type)=some 198 by kernel_rfl).symm.trans ht7);obtain rfl:=Option.some.inj ((show Tryz.prog.globalNamed "strconv.ErrSyntax"=some 4 by kernel_rfl).symm.trans hg6);obtain rfl:=Option.some.inj ((show (Tryz.prog.globals[4]?).map (·.type)=some 198 by kernel_rfl).symm.trans ht6);obtain rfl:=Option.some.inj ((show Tryz.prog.globalNamed "unicode/utf8.first"=some 1 by kernel_rfl).symm.trans hg');obtain rfl:=Option.some.inj ((show (Tryz.prog.globals[1]?).map (·.type)=some 278 by kernel_rfl).symm.trans ht');have c5:Tryz.prog.cellsOf 5=1:=by kernel_rfl
 have zyu:Tryz.prog.cellsOf 280=2:=by kernel_rfl
 have zyt:Tryz.prog.cellsOf 218=1:=by kernel_rfl
 refine ⟨?_,?_,?_,?_,?_⟩
 ·intro j z hz;obtain ⟨xs,m,_,ex,_,hl,hel⟩:=DataW.trod_array zdf hd';have hlen:Go.Pinned.utf8FirstZ.length=256:=by kernel_rfl
  have hj:j<256:=by rw [<-hlen];exact (qak.1 hz).1
  have hE:=hel j hj;rw [c5,Nat.mul_one,qad (by omega)] at hE;obtain ⟨y,e1,e2,_⟩:=DataW.trod_int zgF hE;have e3:(xs.map (·.1))=Go.Pinned.utf8FirstZ.map fun (n:Nat)=>.lit (.int .u8 (Int.ofNat n)):=(DataW.agg.inj (Prod.mk.inj ex).1).symm;have e4:(xs.map (·.1))[j]?=(Go.Pinned.utf8FirstZ.map fun (n:Nat)=>(DataW.lit (.int .u8 (Int.ofNat n)):DataW Unit))[j]?:=by rw [e3]
  rw [qav,qav,qad (by omega:j<xs.length),hz,e2] at e4;simp only [qam,qag,DataW.lit.injEq,Lit.int.injEq,true_and] at e4;subst e4;rw [World.var?_cell hg' hv' j];have:cs'.toList[j]?=some (.int .u8 (Int.ofNat z)):=by
   have h0:((cs'.toList.drop j).take 1)[0]?=some (.int .u8 (Int.ofNat z)):=by rw [e1];rfl
   simpa using h0
  simpa using this
 ·intro j z hz;obtain ⟨xs,m,_,ex,_,hl,hel⟩:=DataW.trod_array zdd hd;have hlen:([128,191,160,191,128,159,144,191,128,143]++List.replicate 22 0).length=32:=by kernel_rfl
  have hj:j<32:=by rw [<-hlen];exact (qak.1 hz).1
  have hE:=hel (j /2) (by omega);rw [zyu,qad (by omega)] at hE;obtain ⟨ys,m2,_,ey,_,hl2,zwT⟩:=DataW.trod_struct zde hE;have f2:(Gl Tryz.prog 280).size=2:=by kernel_rfl
  have hk:j%2<2:=Nat.mod_lt _ (by omega);have hfo:∀k,k<2->((Gl Tryz.prog 280)[k]?).map (fun f=>(f.type,f.offset))=some (5,k):=fun k hk=>by
   match k,hk with
   |0,_=>exact zoP
   |1,_=>exact field1
  obtain ⟨f,hf,hf2⟩:=qac.1 (hfo (j%2) hk);have hE2:=zwT (j%2) f hf;obtain ⟨hft,zwR⟩:=Prod.mk.inj hf2;rw [hft,zwR,c5,qad (by omega)] at hE2;obtain ⟨y,e1,e2,_⟩:=DataW.trod_int zgF hE2;have hall:((List.range 32).all fun j=>match (Rows.laid_unicode_utf8_acceptRanges:DataW Unit) with
   |.agg l=>match l[j /2]? with
    |some (.agg r)=>match r[j%2]?,([128,191,160,191,128,159,144,191,128,143]++List.replicate 22 0)[j]? with
     |some (.lit (.int .u8 z)),some z'=>z==Int.ofNat z'
     |_,_=>false
    |_=>false
   |_=>false)=true:=by kernel_rfl
  have h1:=qao.1 hall j (List.mem_range.2 hj);have e3:(Rows.laid_unicode_utf8_acceptRanges:DataW Unit)=.agg (xs.map (·.1)):=(Prod.mk.inj ex).1;have e5:(xs.map (·.1))[j /2]?=some (.agg (ys.map (·.1))):=by rw [qav,qad (by omega:j /2<xs.length),ey];rfl
  have e6:(ys.map (·.1))[j%2]?=some (.lit (.int .u8 y)):=by rw [qav,qad (by omega:j%2<ys.length),e2];rfl
  rw [e3] at h1;dsimp only at h1;rw [e5] at h1;dsimp only at h1;rw [e6,hz] at h1;have hy:y=Int.ofNat z:=eq_of_beq h1;subst hy;rw [World.var?_cell hg hv j];have:cs.toList[j]?=some (.int .u8 (Int.ofNat z)):=by
   have h0:((((cs.toList.drop (j /2*2)).take 2).drop (j%2)).take 1)[0]?=some (.int .u8 (Int.ofNat z)):=by rw [e1];rfl
   rw [qau,if_pos (by omega),qat,qau,if_pos (by omega),qat] at h0;have:j /2*2+(j%2+0)=j:=by omega
   rw [this] at h0;exact h0
  simpa using this
 ·intro j hj;obtain ⟨xs,m,_,ex,_,hl,hel⟩:=DataW.trod_array zdb hd3;have hE:=hel j hj;rw [zyt,Nat.mul_one,qad (by omega)] at hE;obtain ⟨y,e1,e2,_⟩:=DataW.trod_int zdc hE;have e3:(Rows.laid_internal_strconv_uint64pow10:DataW Unit)=.agg (xs.map (·.1)):=(Prod.mk.inj ex).1;have hall:((List.range 20).all fun j=>match (Rows.laid_internal_strconv_uint64pow10:DataW Unit) with
   |.agg l=>match l[j]? with
    |some (.lit (.int .u64 z))=>z==((10^j:Nat):Int)
    |_=>false
   |_=>false)=true:=by kernel_rfl
  have h1:=qao.1 hall j (List.mem_range.2 hj);have e6:(xs.map (·.1))[j]?=some (.lit (.int .u64 y)):=by rw [qav,qad (by omega:j<xs.length),e2];rfl
  rw [e3] at h1;dsimp only at h1;rw [e6] at h1;have hy:y=((10^j:Nat):Int):=eq_of_beq h1;subst hy;rw [World.var?_cell hg3 hv3 j];have:cs3.toList[j]?=some (.int .u64 ((10^j:Nat):Int)):=by
   have h0:((cs3.toList.drop j).take 1)[0]?=some (.int .u64 ((10^j:Nat):Int)):=by rw [e1];rfl
   simpa using h0
  simpa using this
 ·obtain ⟨u,v,e⟩:=Tq Tm hd7;refine ⟨u,v,?_⟩;rw [World.var?_cell hg7 hv7 0];have:cs7.toList[0]?=some (.iface u v):=by rw [e];rfl
  simpa using this
 obtain ⟨u,v,e⟩:=Tq Tm hd6;refine ⟨u,v,?_⟩;rw [World.var?_cell hg6 hv6 0];have:cs6.toList[0]?=some (.iface u v):=by rw [e];rfl
 simpa using this
theorem ZO {u:TypeId}{v:Value}(h:W.cell? ⟨g,0,none⟩=some (.iface u v)):Rep (Kw W) [] (.dp [.ifc]) (.pointer (some ⟨g,0,none⟩)):=by
 refine .dp (fun _=>.iface u v) (fun j x e=>?_) (fun j x e=>?_) (fun j x e=>?_)
 all_goals
  match j,e with
  |0,e=>?_
  |j+1,e=>cases e
 ·cases e;rfl
 ·cases e;exact h
 cases e;exact .ifc
theorem ziG (h:∀j,j<20->W.cell? ⟨g,j,none⟩=some (.int .u64 ((10^j:Nat):Int))):Rep (Kw W) [] (.dp ((List.range 20).map fun i=>.v (.int .u64 ((10^i:Nat):Int)))) (.pointer (some ⟨g,0,none⟩)):=by
 have f:∀(j:Nat) (x:X),((List.range 20).map fun i:Nat=>(X.v (.int .u64 ((10^i:Nat):Int))))[j]?=some x->j<20/\x=.v (.int .u64 ((10^j:Nat):Int)):=fun j x e=>by rw [qav,qac] at e;obtain ⟨i,a,rfl⟩:=e;obtain ⟨m,a⟩:=qak.1 a;rw [List.getElem_range] at a;subst a;exact ⟨by simpa using m,rfl⟩
 refine .dp (fun j=>.int .u64 ((10^j:Nat):Int)) (fun j x e=>?_) (fun j x e=>?_) (fun j x e=>?_);·obtain ⟨_,rfl⟩:=f j x e;rfl
 ·obtain ⟨l,rfl⟩:=f j x e;show W.cell? ⟨g,0+j,none⟩=_;rw [Nat.zero_add,h j l]
 obtain ⟨_,rfl⟩:=f j x e;exact .v rfl
theorem Ox (h7:laidMetH Tryz.prog mW W):qR (ji Tryz.prog gl) (Kw W):=by
 have h:=h7.filter zou;rw [zay] at h;obtain ⟨j,l,m,⟨u,v,n⟩,⟨w,y,q⟩⟩:=globs h;intro g f e;change gl g=some f at e;unfold gl at e;split at e
 ·rename_i a;obtain rfl:g=1:=by simpa using a
  cases e;exact NJ j
 split at e
 ·rename_i a;obtain rfl:g=2:=by simpa using a
  cases e;exact NJ l
 split at e
 ·rename_i a;obtain rfl:g=3:=by simpa using a
  cases e;exact ziG m
 split at e
 ·rename_i a;obtain rfl:g=4:=by simpa using a
  cases e;exact ZO q
 split at e
 ·rename_i a;obtain rfl:g=5:=by simpa using a
  cases e;exact ZO n
 cases e
open Go.ChangeShapes Go.WideShapes Go.ChangeAt Go.RowKit Go.Em
theorem tY {f:FuncId}{fn:Func}{s:ChangeSpec}{c:OpenClaim}(p1:laidOutB P=true)(p2:mapsRowed P=true)(p3:((P.stops==[])&&(P.stopKnobs==[]))=true)
  (p4:P.stopsHeard=true) (p5:P.mayEnter=true)
  (a1:(c.inPlace==P.inPlace f)=true) (a2:(c.unfollowed==P.unfollowed f)=true) (a3:(c.recurses==P.recurses f)=true) (a4:(c.named==P.varsNamed f)=true)
  (b1:(c.wf (OpenSpec.ofChange s)&&fn.params.all (P.readableRec ·)&&namedTie P c.named s.vars&&(c.stops==[])&&(c.knobs==[]))=true)
  (b2:((c.maps==(fn.params.toList++s.plain.varTypes P).any (P.mapsRec ·))&&(c.ifaces==(fn.params.toList++s.plain.varTypes P).any (P.ifacesRec ·))&&(c.mapsOut==P.mapsAmong fn.resultTypes.toList)&&
   (c.loops==(fn.params.toList++s.plain.varTypes P).any (P.loopsFrom ·))&&(c.wideKeys==(fn.params.toList++s.plain.varTypes P++fn.resultTypes.toList).any (P.wideKeysFrom ·)))=true)
  (b3:(s.vars.all (P.varReadable ·)&&fn.resultTypes.all (fun t=>P.readableRec t&&decide (t<P.types.size))&&(c.ifacesOut==fn.resultTypes.toList.any (P.ifacesRec ·))&&(c.loopsOut==fn.resultTypes.toList.any (P.loopsFrom ·))&&c.shortTexts.isNone)=true)
  (c1:(c.plainKeys==P.plainKeys)=true) (c2:(c.lifted==P.liftsFinal)=true) (c3:(P.make==some c.make)=true)
  (b4:((c.kinds==(if c.domain.isEmpty then [] else fn.params.toList.map fun t=>match P.underlying t with|some (.int k)=>some k|_=>none))&&(c.pinned==c.pinnedBy)&&
   (c.veiled==(fn.params.toList++s.plain.varTypes P++fn.resultTypes.toList).any (P.veiledRec ·))&&c.veiledFits P fn.params.toList (fn.params.toList++s.plain.varTypes P++fn.resultTypes.toList))=true):
  joinedFacts P f fn s c=true:=by
 simp only [qab] at p3 b1 b2 b3 b4;obtain ⟨a,h⟩:=p3;obtain ⟨⟨⟨⟨j,l⟩,m⟩,n⟩,q⟩:=b1;obtain ⟨⟨⟨⟨u,w⟩,y⟩,A⟩,B⟩:=b2;obtain ⟨⟨⟨⟨E,F⟩,H⟩,J⟩,L⟩:=b3;obtain ⟨⟨⟨M,N⟩,O⟩,Q⟩:=b4;simp only [joinedFacts,qab];exact ⟨⟨⟨⟨⟨⟨⟨⟨⟨⟨⟨⟨⟨⟨⟨⟨⟨⟨⟨⟨⟨⟨⟨⟨⟨⟨⟨⟨⟨⟨⟨j,p1⟩,p2⟩,l⟩,m⟩,n⟩,a⟩,q⟩,h⟩,a1⟩,a2⟩,a3⟩,a4⟩,u⟩,w⟩,y⟩,A⟩,B⟩,E⟩,F⟩,H⟩,J⟩,c1⟩,L⟩,p4⟩,p5⟩,c2⟩,c3⟩,M⟩,N⟩,O⟩,Q⟩
theorem y7:((Tryz.prog.stops==[])&&(Tryz.prog.stopKnobs==[]))=true:=by kernel_rfl
theorem zf:Tryz.prog.stopsHeard=true:=by kernel_rfl
theorem zh:Tryz.prog.mayEnter=true:=by kernel_rfl
theorem y9:true=Tryz.prog.looks []:=by kernel_rfl
theorem FI:Tryz.pinned.checked.prog.mainIs=some (true,"cbfbdc4360f13d412791799acfbcc3614734168f19f275bebb885638edaa5ae9".toList):=by kernel_rfl
theorem y8:Tryz.prog.plainKeys=Rows.splitterKeepsRow.plainKeys:=by kernel_rfl
theorem tZ:Tryz.prog.liftsFinal=Rows.splitterKeepsRow.lifted:=by kernel_rfl
theorem FH:(Tryz.prog.make==some Rows.splitterKeepsRow.make)=true:=by kernel_rfl
end Go.Proofs.YtkeefpkcepodeaaGreatDoor
