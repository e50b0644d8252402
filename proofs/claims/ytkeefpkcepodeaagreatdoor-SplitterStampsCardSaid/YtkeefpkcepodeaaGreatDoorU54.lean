/-.-/
import Derived.Test.YtkeefpkcepodeaaGreatDoorU45
set_option linter.all false
namespace Go.Proofs.YtkeefpkcepodeaaGreatDoor
open Go Go.Em Go.Ab
set_option maxRecDepth 100000
section
variable (kd tm se:Int) (sp:List Int) (e:Int) (p:List Int) (ms:Int) (o:List Int) (a1 a2 a3:Int) (a4:qaW) (a5:List Val) (a6:List (qaW×Val)) (x:Int) (b1 b2:Bool) (c1 c2 c3:Int) (c4:qaW) (c5:List Val) (c6:List (qaW×Val))
 (L1 L2:qaV) (f:Fte) (j k:Nat) (M:Nat) (xe:Int) (xp:List Int) (xq x1 x2 x3:Int) (x4:qaW) (x5:List Val) (x6:List (qaW×Val))
def zmY:Inp:=⟨kd,tm,⟨se,sp⟩,⟨⟨e,p⟩,ms,o,⟨a1,a2,a3,a4,a5,a6⟩⟩,x,b1,b2,⟨c1,c2,c3,c4,c5,c6⟩⟩
abbrev zmX:Msg:=⟨⟨xe,xp⟩,xq,o,⟨x1,x2,x3,x4,x5,x6⟩⟩
def zpT:St:=⟨[(3,.ptr 0 0 0),(5,.ptr 1 0 0),(6,nat j)],[.var (zmY kd tm se sp e p ms o a1 a2 a3 a4 a5 a6 x b1 b2 c1 c2 c3 c4 c5 c6).cells,.var (ocC 0 0 [] L1 [f.cells] L2)]⟩
def zqI:St:=⟨[(3,.ptr 0 0 0),(5,.ptr 1 0 0),(6,nat j),(26,boolX false)],[.var (zmY kd tm se sp e p ms o a1 a2 a3 a4 a5 a6 x b1 b2 c1 c2 c3 c4 c5 c6).cells,.var (ocC 0 0 [] L1 [f.cells] L2)]⟩
def zmZ:St:=⟨[(3,.ptr 0 0 0),(5,.ptr 1 0 0),(6,nat j),(7,.ptr 2 0 0),(8,nat k)],[.var (zmY kd tm se sp e p ms o a1 a2 a3 a4 a5 a6 x b1 b2 c1 c2 c3 c4 c5 c6).cells,.var (ocC 0 0 [] L1 [f.cells] L2),.var (zmX o xe xp xq x1 x2 x3 x4 x5 x6).cells]⟩
def zqJ:St:=⟨[(3,.ptr 0 0 0),(5,.ptr 1 0 0),(6,nat j),(7,.ptr 2 0 0),(8,nat k),(95,boolX false)],[.var (zmY kd tm se sp e p ms o a1 a2 a3 a4 a5 a6 x b1 b2 c1 c2 c3 c4 c5 c6).cells,.var (ocC 0 0 [] L1 [f.cells] L2),.var (zmX o xe xp xq x1 x2 x3 x4 x5 x6).cells]⟩
theorem Yt (hlt:decide (Int.ofNat k<Int.ofNat (aB o).length)=true)(v:Int)(hg:(aB o)[k]?=some [num v])(hn:IntKind.i64.wrap (Int.ofNat k+1)=Int.ofNat (k+1)):∃υ,run (callF tab ext M) 0 M (loopAt 4 1) (zmZ kd tm se sp e p ms o a1 a2 a3 a4 a5 a6 x b1 b2 c1 c2 c3 c4 c5 c6 L1 L2 f j k xe xp xq x1 x2 x3 x4 x5 x6)=some (.norm,υ)/\canon 0 υ=some (zmZ kd tm se sp e p ms o a1 a2 a3 a4 a5 a6 x b1 b2 c1 c2 c3 c4 c5 c6 L1 L2 f j (k+1) xe xp xq x1 x2 x3 x4 x5 x6):=
 dQ [(95,.b true),(101,.e [num v]),(107,.e [num v]),(109,.b false),(97,.i (Int.ofNat (k+1)))] (pf5 hlt hg hg (ne_self (x:=v)) hn) (by kernel_rfl)
theorem zhs (hlt:decide (Int.ofNat k<Int.ofNat (aB o).length)=false):run (callF tab ext M) 0 M (loopAt 4 1) (zmZ kd tm se sp e p ms o a1 a2 a3 a4 a5 a6 x b1 b2 c1 c2 c3 c4 c5 c6 L1 L2 f j k xe xp xq x1 x2 x3 x4 x5 x6)=some (.exit 2,zqJ kd tm se sp e p ms o a1 a2 a3 a4 a5 a6 x b1 b2 c1 c2 c3 c4 c5 c6 L1 L2 f j k xe xp xq x1 x2 x3 x4 x5 x6):=
 ruA [(95,.b false)] (pf1 hlt)
theorem zcN (hl:o.length<=60000)(hM:60001<=M):run (callF tab ext M) 0 M (.loop (loopAt 4 1)) (zmZ kd tm se sp e p ms o a1 a2 a3 a4 a5 a6 x b1 b2 c1 c2 c3 c4 c5 c6 L1 L2 f j 0 xe xp xq x1 x2 x3 x4 x5 x6)=some (.exit 2,zqJ kd tm se sp e p ms o a1 a2 a3 a4 a5 a6 x b1 b2 c1 c2 c3 c4 c5 c6 L1 L2 f j o.length xe xp xq x1 x2 x3 x4 x5 x6):=by have hn:=bD o;refine aQ (σ:=fun k=>zmZ kd tm se sp e p ms o a1 a2 a3 a4 a5 a6 x b1 b2 c1 c2 c3 c4 c5 c6 L1 L2 f j k xe xp xq x1 x2 x3 x4 x5 x6) (k:=o.length) (by kernel_rfl) (fun k a=>?_) (zhs (hlt:=aG (by omega)) ..) (by simp) (by omega);exact Yt (hlt:=aH (by omega)) (v:=o[k]) (hg:=jW a) (hn:=ay (by omega)) ..
theorem Yr (h1:decide (Int.ofNat j<Int.ofNat L1.length)=true)(hg:L1[j]?=some (num 0::(zmX o xe xp xq x1 x2 x3 x4 x5 x6).cells))(h70:Gam.pureD (callF tab ext M) 12 [.agg (Stp.mk e p).cells,num (Int.ofNat j)]=some (.agg (Stp.mk xe xp).cells))(h69:Gam.pureD (callF tab ext M) 11 [.agg (Stp.mk xe xp).cells,.agg (Stp.mk xe xp).cells]=some (boolX true))
  (h2:decide (Int.ofNat j>=Int.ofNat (bQ f.into).length)=false) (hg2:(bQ f.into)[j]?=some (Stp.mk xe xp).cells) (hl:o.length<=60000) (hM:60001<=M) (hn:IntKind.i64.wrap (Int.ofNat j+1)=Int.ofNat (j+1)):
  ∃υ,run (callF tab ext M) 0 M (loopAt 4 0) (zpT kd tm se sp e p ms o a1 a2 a3 a4 a5 a6 x b1 b2 c1 c2 c3 c4 c5 c6 L1 L2 f j)=some (.norm,υ)/\canon 0 υ=some (zpT kd tm se sp e p ms o a1 a2 a3 a4 a5 a6 x b1 b2 c1 c2 c3 c4 c5 c6 L1 L2 f (j+1)):=by
 have a:=zcN kd tm se sp e p ms o a1 a2 a3 a4 a5 a6 x b1 b2 c1 c2 c3 c4 c5 c6 L1 L2 f j M xe xp xq x1 x2 x3 x4 x5 x6 hl hM;have h:(Int.ofNat (aB o).length !=Int.ofNat (aB o).length)=false:=by simp
 generalize o.length=no at a;exact TR [(26,.b true),(32,.e (num 0::(zmX o xe xp xq x1 x2 x3 x4 x5 x6).cells)),(38,.e (num 0::(zmX o xe xp xq x1 x2 x3 x4 x5 x6).cells)),(49,.p (.agg (Stp.mk xe xp).cells)),(50,.p (boolX true)),(61,.b false),(75,.b false),(84,.e (Stp.mk xe xp).cells),(88,.p (boolX true)),(28,.i (Int.ofNat (j+1)))]
  [(.exit 2,zqJ kd tm se sp e p ms o a1 a2 a3 a4 a5 a6 x b1 b2 c1 c2 c3 c4 c5 c6 L1 L2 f j no xe xp xq x1 x2 x3 x4 x5 x6)] (zp4 h1 hg hg h70 h69 h h2 hg2 h69 a hn) (by kernel_rfl)
theorem zhr (h1:decide (Int.ofNat j<Int.ofNat L1.length)=false):run (callF tab ext M) 0 M (loopAt 4 0) (zpT kd tm se sp e p ms o a1 a2 a3 a4 a5 a6 x b1 b2 c1 c2 c3 c4 c5 c6 L1 L2 f j)=some (.exit 0,zqI kd tm se sp e p ms o a1 a2 a3 a4 a5 a6 x b1 b2 c1 c2 c3 c4 c5 c6 L1 L2 f j):=
 ruA [(26,.b false)] (pf1 h1)
end
theorem Ew (nd nd':Nod)(i:Inp)(M:Nat)(hM:190001<=M)(hi:(aJ i).m.ok)(os:List Otp)(L2:qaV)(f:Fte)(hlo:os.length<=64)
  (h1:Gam.pureD (callF tab ext M) 8 [.agg nd.cells,.agg i.cells]=some (.tup [.agg nd'.cells,.agg (aJ i).cells])) (h2:Gam.pureD (callF tab ext M) 10 []=some (boolX true))
  (ha:Gam.pureD (callF tab ext M) 9 [.agg nd'.cells,.agg [num 0,num 0,.sl false 10 []],.agg ({aJ i with kind:=1}:Inp).cells]=some (.agg (ocC 0 0 [] (iH os) [f.cells] L2)))
  (hq:∀j (h:j<os.length),(os[j]).port=0/\(os[j]).m.orig=(aJ i).m.orig/\(os[j]).m.st.ok/\(os[j]).m.st=⟨(aJ i).m.st.e,(aJ i).m.st.p++[Int.ofNat j]⟩/\f.into[j]?=some (os[j]).m.st):
  callF tab ext (M+1) (.fn 4) [.agg nd.cells,.agg i.cells] []=some (.v (.bool true),[]):=by
 have pd:=jT os;generalize aJ i=i' at*;obtain ⟨kd,tm,⟨se,sp⟩,⟨⟨e,p⟩,ms,o,⟨pe,pf,a3,a4,a5,a6⟩⟩,x,b1,b2,⟨c1,c2,c3,c4,c5,c6⟩⟩:=i;obtain ⟨pc,u,⟨l,q⟩,⟨⟨y,A⟩,a,S,⟨U,V,W,Y,Z,q6⟩⟩,x',B,E,⟨F,H,J,L,N,O⟩⟩:=i';dsimp only at ha h1 hq;have hl:run (callF tab ext M) 0 M (.loop (loopAt 4 0)) ⟨[(3,.ptr 1 0 0),(5,.ptr 2 0 0),(6,num 0)],[.var nd'.cells,.var (zmY 1 u l q y A a S U V W Y Z q6 x' B E F H J L N O).cells,.var (ocC 0 0 [] (iH os) [f.cells] L2)]⟩=some (.exit 0,zqI 1 u l q y A a S U V W Y Z q6 x' B E F H J L N O (iH os) L2 f os.length):=by
  refine aQ (σ:=fun j=>zpT 1 u l q y A a S U V W Y Z q6 x' B E F H J L N O (iH os) L2 f j) (k:=os.length) (by kernel_rfl) (fun j hj=>?_) (zhr (h1:=aG (by omega)) ..) (by simp) (by omega);obtain ⟨k1,k2,k3,k4,Q⟩:=hq j hj;have hg:=yN hj;have h70:=Ip ⟨y,A⟩ hi.st (Int.ofNat j) M (by omega);have h69:=yg M _ k3 (by omega);rw [<-k4] at h70;have pb:=aH (show j<(iH os).length by omega);have P:j<f.into.length:=by
   rcases Nat.lt_or_ge j f.into.length with h|h;·exact h
   rw [List.getElem?_eq_none h] at Q;cases Q
  have pg:=nC f.into;have pa:decide (Int.ofNat j>=Int.ofNat (bQ f.into).length)=false:=decide_eq_false (by simp only [qaJ];omega);have hg2:(bQ f.into)[j]?=some (os[j]).m.st.cells:=by rw [Es P];rw [qad P] at Q;rw [Option.some.inj Q]
  clear k3 k4 Q hq;generalize os[j]=w at hg h70 h69 k1 k2 hg2;obtain ⟨wp,⟨⟨we,ph⟩,wq,wo,⟨w1,w2,w3,w4,w5,w6⟩⟩⟩:=w;dsimp only at k1 k2 h70 h69 hg2;subst k1 k2;exact Yr (h1:=pb) (hg:=hg) (h70:=h70) (h69:=h69) (h2:=pa) (hg2:=hg2) (hl:=hi.orig) (hM:=by omega) (hn:=ay (by omega)) ..
 generalize iH os=L1 at*;generalize os.length=n at hl;exact caB [(12,.p (.tup [.agg nd'.cells,.agg (Inp.mk pc u ⟨l,q⟩ ⟨⟨y,A⟩,a,S,⟨U,V,W,Y,Z,q6⟩⟩ x' B E ⟨F,H,J,L,N,O⟩).cells])),(19,.p (.agg (ocC 0 0 [] L1 [f.cells] L2))),(20,.p (boolX true))] [(.exit 0,zqI 1 u l q y A a S U V W Y Z q6 x' B E F H J L N O L1 L2 f n)] (pf4 h1 ha h2 hl)
theorem sstamps_all (cn:List X)(hcn:isNode cn)(i:Inp):∃n,callF tab ext n (.fn 4) [.agg cn,.agg i.cells] []=some (.v (.bool true),[]):=by
 obtain ⟨w,a,q,rfl,H,L,B,f⟩:=step0 cn hcn i;have u:(aJ i).m.ok:=by rw [yE];exact rW i.m
 have J:=uJ i;have E:=f (B+190400) (by omega);have y:=rY w a H i (B+190400) (by omega);have A:=gY (B+190400) (by omega);cases q with
 |bad r=>exact ⟨_,Ew w a i _ (by omega) u [] _ ⟨(aJ i).m.st,4,a.name,[],r⟩ (by decide) y A E (fun j h=>by cases h)⟩
 |good l=>
  obtain ⟨M,N,O⟩:=L;refine ⟨_,Ew w a i _ (by omega) u ((bg (aJ i).m l l.length).map fun x=>⟨0,x⟩) _ ⟨(aJ i).m.st,1,a.name,dZ (bg (aJ i).m l l.length),⟨#[]⟩⟩ (by simp [Ct.lg];omega) y A E (fun j h=>?_)⟩;have F:j<l.length:=by simpa [Ct.lg] using h
  refine ⟨by simp,by simp [bg,NW],?_,by simp [bg,NW],by simp [dZ,bg,NW,F]⟩;rw [List.getElem_map];exact Ct.DT (aJ i).m u J l l.length _ (qaf _)
end Go.Proofs.YtkeefpkcepodeaaGreatDoor
