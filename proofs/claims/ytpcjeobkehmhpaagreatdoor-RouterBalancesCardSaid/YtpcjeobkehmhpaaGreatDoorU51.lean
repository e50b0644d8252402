/-.-/
import Derived.Test.YtpcjeobkehmhpaaGreatDoorU50
set_option linter.all false
namespace Go.Proofs.YtpcjeobkehmhpaaGreatDoor
open Go Go.Em Go.Ab
set_option maxRecDepth 100000
def sumF (z:Int)(l:List Int)(j:Nat):Int:=(l.take j).foldl (fun a b=>IntKind.i64.wrap (a+b)) z
theorem AL (z:Int)(l:List Int){j:Nat}(h:j<l.length):sumF z l (j+1)=IntKind.i64.wrap (sumF z l j+l[j]):=by grind[sumF,qaV]
theorem UC (ms:Int)(n:Nat)(h0:0<=ms)(h1:ms<=1099511627776)(hn:0<n)(hn':n<=64):sumF 0 ((List.range n).map (nN ms n)) n=ms:=by
 have A:ms.tdiv (Int.ofNat n)=ms /(n:Int):=by rw [qaq];exact Int.tdiv_eq_ediv_of_nonneg h0
 have E:ms.tmod (Int.ofNat n)=ms%(n:Int):=by rw [qaq];exact Int.tmod_eq_emod_of_nonneg h0
 have e:=Int.mul_ediv_add_emod ms (n:Int);have L:=Int.emod_nonneg ms (b:=(n:Int)) (by omega);have M:=Int.emod_lt_of_pos ms (b:=(n:Int)) (by omega);have a:0<=ms /(n:Int):=Int.ediv_nonneg h0 (by omega);have l:∀j,nN ms n j=ms /(n:Int)+(if (j:Int)<ms%(n:Int) then 1 else 0):=fun j=>by have J:ms /(n:Int)<=ms:=Int.ediv_le_self _ h0<;>grind[nN,IntKind.wrap_i64]
 generalize F:ms /(n:Int)=q at*;generalize H:ms%(n:Int)=r at*;have h:∀j,j<=n->sumF 0 ((List.range n).map (nN ms n)) j=q*(j:Int)+(if (j:Int)<r then (j:Int) else r):=by
  intro j;induction j with
  |zero=>grind[sumF]
  |succ j ih=>
   intro B;have f:j<((List.range n).map (nN ms n)).length:=by simp;omega
   rw [AL _ _ f,ih (by omega),List.getElem_map,List.getElem_range,l];have m:q*((j:Int)+1)=q*(j:Int)+q:=by rw [Int.mul_add,Int.mul_one]
   have u:q*((j:Int)+1)<=q*(n:Int):=Int.mul_le_mul_of_nonneg_left (by omega) a;have y:0<=q*(j:Int):=Int.mul_nonneg a (by omega)<;>grind[IntKind.wrap_i64]
 grind
section
variable (i:Inp) (n t:Int) (ss dK L1 L2:qaY) (z:Int) (j:Nat) (M:Nat)
def zk2:St:=⟨[(5,.ptr 0 0 0),(7,.ptr 1 0 0),(8,num z),(9,nat j)],[.var ({i with kind:=1}:Inp).cells,.var (ocC n t ss L1 dK L2)]⟩
def zpj:St:=⟨[(5,.ptr 0 0 0),(7,.ptr 1 0 0),(8,num z),(9,nat j),(30,ak false)],[.var ({i with kind:=1}:Inp).cells,.var (ocC n t ss L1 dK L2)]⟩
def zgk:St:=⟨[(5,.ptr 0 0 0),(7,.ptr 1 0 0),(8,num z),(10,nat j)],[.var ({i with kind:=1}:Inp).cells,.var (ocC n t ss L1 dK L2)]⟩
def zpi:St:=⟨[(5,.ptr 0 0 0),(7,.ptr 1 0 0),(8,num z),(10,nat j),(46,ak false)],[.var ({i with kind:=1}:Inp).cells,.var (ocC n t ss L1 dK L2)]⟩
theorem WL:canon 0 (zk2 i n t ss dK L1 L2 z j)=some (zk2 i n t ss dK L1 L2 z j):=by obtain ⟨L,tm,⟨N,O⟩,⟨⟨e,p⟩,M,o,⟨a,f,h,l,m,q⟩⟩,x,u,y,⟨A,B,E,F,H,J⟩⟩:=i;kernel_rfl
theorem WJ:canon 0 (zgk i n t ss dK L1 L2 z j)=some (zgk i n t ss dK L1 L2 z j):=by obtain ⟨L,tm,⟨N,O⟩,⟨⟨e,p⟩,M,o,⟨a,f,h,l,m,q⟩⟩,x,u,y,⟨A,B,E,F,H,J⟩⟩:=i;kernel_rfl
theorem zfd (y:Otp)(h1:decide (Int.ofNat j<Int.ofNat L1.length)=true)(hg:L1[j]?=some y.cells)(hn:IntKind.i64.wrap (Int.ofNat j+1)=Int.ofNat (j+1)):
  run (ah tab ext M) 0 M (aH 3 0) (zk2 i n t ss dK L1 L2 z j)=some (.norm,zk2 i n t ss dK L1 L2 (IntKind.i64.wrap (z+y.m.nC)) (j+1)):=by
 obtain ⟨kd,tm,⟨se,sp⟩,⟨⟨e,p⟩,ms,o,⟨J,L,N,O,P,Q⟩⟩,x,S,U,⟨V,W,Y,Z,c5,c6⟩⟩:=i;obtain ⟨H,⟨⟨f,F⟩,a,E,⟨h,l,q,u,A,B⟩⟩⟩:=y;exact ruA [(30,.b true),(37,.e (Otp.mk H (Msg.mk ⟨f,F⟩ a E (.mk h l q u A B))).cells),(32,.i (Int.ofNat (j+1)))] (pf3 h1 hg hn)
theorem zk1 (h1:decide (Int.ofNat j<Int.ofNat L1.length)=false):run (ah tab ext M) 0 M (aH 3 0) (zk2 i n t ss dK L1 L2 z j)=some (.exit 0,zpj i n t ss dK L1 L2 z j):=by obtain ⟨L,tm,⟨O,P⟩,⟨⟨e,p⟩,N,o,⟨a,f,h,l,m,q⟩⟩,x,u,y,⟨A,B,E,F,H,J⟩⟩:=i;exact ruA [(30,.b false)] (pf1 h1)
theorem zby (y:Msg)(h1:decide (Int.ofNat j<Int.ofNat L2.length)=true)(hg:L2[j]?=some y.cells)(hn:IntKind.i64.wrap (Int.ofNat j+1)=Int.ofNat (j+1)):
  run (ah tab ext M) 0 M (aH 3 1) (zgk i n t ss dK L1 L2 z j)=some (.norm,zgk i n t ss dK L1 L2 (IntKind.i64.wrap (z+y.nC)) (j+1)):=by
 obtain ⟨kd,tm,⟨se,sp⟩,⟨⟨e,p⟩,ms,o,⟨F,H,J,L,N,O⟩⟩,x,P,Q,⟨S,U,V,W,Y,Z⟩⟩:=i;obtain ⟨⟨f,E⟩,a,B,⟨h,l,m,q,u,A⟩⟩:=y;exact ruA [(46,.b true),(53,.e (Msg.mk ⟨f,E⟩ a B (.mk h l m q u A)).cells),(48,.i (Int.ofNat (j+1)))] (pf3 h1 hg hn)
theorem zff (h1:decide (Int.ofNat j<Int.ofNat L2.length)=false):run (ah tab ext M) 0 M (aH 3 1) (zgk i n t ss dK L1 L2 z j)=some (.exit 2,zpi i n t ss dK L1 L2 z j):=by obtain ⟨L,tm,⟨O,P⟩,⟨⟨e,p⟩,N,o,⟨a,f,h,l,m,q⟩⟩,x,u,y,⟨A,B,E,F,H,J⟩⟩:=i;exact ruA [(46,.b false)] (pf1 h1)
end
theorem zfe (i:Inp)(n t:Int)(ss dK L2:qaY)(os:List Otp)(hl:os.length<=1000)(τ:St)(hτ:canon 0 τ=some (zk2 i n t ss dK (uw os) L2 0 0))(M:Nat)(hM:1001<=M):
  run (ah tab ext M) 0 M (.loop (aH 3 0)) τ=some (.exit 0,zpj i n t ss dK (uw os) L2 (sumF 0 (os.map (·.m.nC)) os.length) os.length):=by
 refine bJ (σ:=fun j=>zk2 i n t ss dK (uw os) L2 (sumF 0 (os.map (·.m.nC)) j) j) (k:=os.length) hτ (fun j a=>?_) ?_ (by simp) (by omega)
 ·have f:j<(os.map (·.m.nC)).length:=by simpa using a
  grind[zfd,Y3,aB,AL,WL]
 grind[zk1,qV]
theorem zbz (i:Inp)(n t:Int)(ss dK L1:qaY)(ls:List Msg)(hl:ls.length<=1000)(z:Int)(τ:St)(hτ:canon 0 τ=some (zgk i n t ss dK L1 (aP ls) z 0))(M:Nat)(hM:1001<=M):
  run (ah tab ext M) 0 M (.loop (aH 3 1)) τ=some (.exit 2,zpi i n t ss dK L1 (aP ls) (sumF z (ls.map (·.nC)) ls.length) ls.length):=by
 have a:(aP ls).length=ls.length:=by simp [aP]
 refine bJ (σ:=fun j=>zgk i n t ss dK L1 (aP ls) (sumF z (ls.map (·.nC)) j) j) (k:=ls.length) hτ (fun j f=>?_) ?_ (by simp) (by omega)
 ·grind[zby,aP,aB,AL,WJ]
 grind[zff]
theorem QX (nd nd':Nod)(s:Stt)(i:Inp)(M:Nat)(hM:1001<=M)(os:List Otp)(ls:List Msg)(dK:qaY)(n t:Int)(ss:qaY)(hlo:os.length<=1000)(hll:ls.length<=1000)
  (h1:Gam.aF (ah tab ext M) 7 [.agg nd.cells,.agg s.cells,.agg i.cells,num nd.kind]=some (.tup [.agg ({nd' with kind:=nd.kind}:Nod).cells,.agg (shortS s).cells,.agg (bG i).cells])) (h2:Gam.aF (ah tab ext M) 9 []=some (ak true))
  (ha:Gam.aF (ah tab ext M) 8 [.agg ({nd' with kind:=nd.kind}:Nod).cells,.agg (shortS s).cells,.agg ({bG i with kind:=1}:Inp).cells]=some (.agg (ocC n t ss (uw os) dK (aP ls))))
  (hs:sumF (sumF 0 (os.map (·.m.nC)) os.length) (ls.map (·.nC)) ls.length=(bG i).m.nC) (hc:os.length=0/\ls.length=1\/0<os.length/\ls.length=0):
  ah tab ext (M+1) (.fn 3) [.agg nd.cells,.agg s.cells,.agg i.cells] []=some (.v (.bool true),[]):=by
 have u:=qV os;have y:(aP ls).length=ls.length:=by simp [aP]
 have g1:=zfe (bG i) n t ss dK (aP ls) os hlo;have g2:=fun τ hτ=>zbz (bG i) n t ss dK (uw os) ls hll (sumF 0 (os.map (·.m.nC)) os.length) τ hτ M hM;rw [hs] at g2;generalize sumF 0 (os.map (·.m.nC)) os.length=z1 at g1 g2;rw [<-u] at hc;rw [<-y] at hc;generalize os.length=a1 at g1;generalize ls.length=a2 at g2;generalize uw os=A at*;generalize aP ls=q at*;clear u y hs;generalize bG i=i' at*;generalize shortS s=s' at*;obtain ⟨kd,tm,⟨se,sp⟩,⟨⟨e,p⟩,ms,o,⟨pa,pb,a3,a4,a5,a6⟩⟩,x,b1,b2,⟨c1,c2,c3,c4,c5,c6⟩⟩:=i;obtain ⟨l,j,⟨f,h⟩,⟨⟨F,S⟩,a,Q,⟨U,V,W,Y,Z,q6⟩⟩,x',B,E,⟨H,J,L,N,O,P⟩⟩:=i';dsimp only at g1 g2 ha h1;have l1:=g1 ⟨[(5,.ptr 2 0 0),(7,.ptr 3 0 0),(8,num 0),(9,num 0)],[.var ({nd' with kind:=nd.kind}:Nod).cells,.var s'.cells,.var (Inp.mk 1 j ⟨f,h⟩ ⟨⟨F,S⟩,a,Q,⟨U,V,W,Y,Z,q6⟩⟩ x' B E ⟨H,J,L,N,O,P⟩).cells,.var (ocC n t ss A dK q)]⟩ (by kernel_rfl) M hM;have l2:=g2 (zgk (Inp.mk l j ⟨f,h⟩ ⟨⟨F,S⟩,a,Q,⟨U,V,W,Y,Z,q6⟩⟩ x' B E ⟨H,J,L,N,O,P⟩) n t ss dK A q z1 0) (by kernel_rfl);have h5:(a==a)=true:=by simp
 rcases hc with ⟨e1,e2⟩|⟨e1,e2⟩
 ·have h6:(Int.ofNat q.length==1)=true:=by rw [e2];rfl
  have h7:(Int.ofNat A.length==0)=true:=by rw [e1];rfl
  exact caB [(17,.p (.tup [.agg ({nd' with kind:=nd.kind}:Nod).cells,.agg s'.cells,.agg (Inp.mk l j ⟨f,h⟩ ⟨⟨F,S⟩,a,Q,⟨U,V,W,Y,Z,q6⟩⟩ x' B E ⟨H,J,L,N,O,P⟩).cells])),(25,.p (.agg (ocC n t ss A dK q))),(57,.p (ak true)),(63,.b true),(69,.b true),(74,.b true)] [(.exit 0,zpj (Inp.mk l j ⟨f,h⟩ ⟨⟨F,S⟩,a,Q,⟨U,V,W,Y,Z,q6⟩⟩ x' B E ⟨H,J,L,N,O,P⟩) n t ss dK A q z1 a1),(.exit 2,zpi (Inp.mk l j ⟨f,h⟩ ⟨⟨F,S⟩,a,Q,⟨U,V,W,Y,Z,q6⟩⟩ x' B E ⟨H,J,L,N,O,P⟩) n t ss dK A q a a2)] (pf8 h1 ha l1 l2 h2 h5 h6 h7)
 have h6:(Int.ofNat q.length==1)=false:=by rw [e2];rfl
 have h7:(Int.ofNat q.length==0)=true:=by rw [e2];rfl
 have h8:decide (Int.ofNat A.length>0)=true:=decide_eq_true (by grind);exact caB [(17,.p (.tup [.agg ({nd' with kind:=nd.kind}:Nod).cells,.agg s'.cells,.agg (Inp.mk l j ⟨f,h⟩ ⟨⟨F,S⟩,a,Q,⟨U,V,W,Y,Z,q6⟩⟩ x' B E ⟨H,J,L,N,O,P⟩).cells])),(25,.p (.agg (ocC n t ss A dK q))),(57,.p (ak true)),(63,.b true),(69,.b false),(80,.b true),(85,.b true)] [(.exit 0,zpj (Inp.mk l j ⟨f,h⟩ ⟨⟨F,S⟩,a,Q,⟨U,V,W,Y,Z,q6⟩⟩ x' B E ⟨H,J,L,N,O,P⟩) n t ss dK A q z1 a1),(.exit 2,zpi (Inp.mk l j ⟨f,h⟩ ⟨⟨F,S⟩,a,Q,⟨U,V,W,Y,Z,q6⟩⟩ x' B E ⟨H,J,L,N,O,P⟩) n t ss dK A q a a2)] (pf9 h1 ha l1 l2 h2 h5 h6 h7 h8)
theorem rbalances_all (cn:List X)(hcn:isNode cn)(s:Stt)(i:Inp):∃n,ah tab ext n (.fn 3) [.agg cn,.agg s.cells,.agg i.cells] []=some (.v (.bool true),[]):=by
 obtain ⟨u,a,q,rfl,J,l,f,⟨y,H⟩⟩:=Ry cn hcn s i (some 1);refine ⟨y+1401,?_⟩;have A:=H (y+1400) (by omega);have B:=yx u a J s i u.kind (y+1400) (by omega);have E:=CG (y+1400) (by omega);have F:0<=(bG i).m.nC/\(bG i).m.nC<=1099511627776:=by show 0<=JX (zO i.m.nC)/\JX (zO i.m.nC)<=1099511627776;unfold JX zO;split<;>split<;>omega
 have L:IntKind.i64.wrap (0+(bG i).m.nC)=(bG i).m.nC:=by rw [IntKind.wrap_i64];omega
 dsimp only at A;rw [Option.getD_some] at f;cases q with
 |none=>cases f
 |rej r=>exact QX u a s i _ (by omega) [] [(bG i).m] _ _ _ _ (by decide) (by simp) B E A L (.inl ⟨rfl,rfl⟩)
 |pas m' j=>refine QX u a s i _ (by omega) [⟨Int.ofNat j,m'⟩] [] _ _ _ _ (by simp) (by decide) B E A ?_ (.inr ⟨by simp,rfl⟩);show IntKind.i64.wrap (0+m'.nC)=_;rw [l.2]<;>grind
 |many n=>
  refine QX u a s i _ (by omega) (mcO (shortS s) (bG i).m a.name n).outs [] _ _ _ _ (by simp [mcO];have:=l.2;omega) (by decide) B E A ?_ (.inr ⟨by simp [mcO];exact l.1,rfl⟩);have h:=UC (bG i).m.nC n F.1 F.2 l.1 l.2;have e:(mcO (shortS s) (bG i).m a.name n).outs.map (·.m.nC)=(List.range n).map (nN (bG i).m.nC n):=by simp only [mcO,List.map_map];rfl
  rw [e];simp [mcO];rw [h];rfl
end Go.Proofs.YtpcjeobkehmhpaaGreatDoor
