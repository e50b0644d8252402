/-.-/
import Derived.Test.YtkeefpkcepodeaaGreatDoorU45
set_option linter.all false
namespace Go.Proofs.YtkeefpkcepodeaaGreatDoor
open Go Go.Em Go.Ab
set_option maxRecDepth 100000
def sumF (z:Int)(l:List Int)(j:Nat):Int:=(l.take j).foldl (fun a b=>IntKind.i64.wrap (a+b)) z
theorem Eo (z:Int)(l:List Int){j:Nat}(h:j<l.length):sumF z l (j+1)=IntKind.i64.wrap (sumF z l j+l[j]):=by grind[sumF,qaU]
theorem VP (ms:Int)(n:Nat)(h0:0<=ms)(h1:ms<=1099511627776)(hn:0<n)(hn':n<=64):sumF 0 ((List.range n).map (oH ms n)) n=ms:=by
 have y:ms.tdiv (Int.ofNat n)=ms /(n:Int):=by rw [qaJ];exact Int.tdiv_eq_ediv_of_nonneg h0
 have B:ms.tmod (Int.ofNat n)=ms%(n:Int):=by rw [qaJ];exact Int.tmod_eq_emod_of_nonneg h0
 have e:=Int.mul_ediv_add_emod ms (n:Int);have J:=Int.emod_nonneg ms (b:=(n:Int)) (by omega);have L:=Int.emod_lt_of_pos ms (b:=(n:Int)) (by omega);have a:0<=ms /(n:Int):=Int.ediv_nonneg h0 (by omega);have l:∀j,oH ms n j=ms /(n:Int)+(if (j:Int)<ms%(n:Int) then 1 else 0):=fun j=>by have H:ms /(n:Int)<=ms:=Int.ediv_le_self _ h0<;>grind[oH,IntKind.wrap_i64]
 generalize E:ms /(n:Int)=q at*;generalize F:ms%(n:Int)=r at*;have h:∀j,j<=n->sumF 0 ((List.range n).map (oH ms n)) j=q*(j:Int)+(if (j:Int)<r then (j:Int) else r):=by
  intro j;induction j with
  |zero=>grind[sumF]
  |succ j ih=>
   intro A;have f:j<((List.range n).map (oH ms n)).length:=by simp;omega
   rw [Eo _ _ f,ih (by omega),List.getElem_map,List.getElem_range,l];have m:q*((j:Int)+1)=q*(j:Int)+q:=by rw [Int.mul_add,Int.mul_one]
   have u:q*((j:Int)+1)<=q*(n:Int):=Int.mul_le_mul_of_nonneg_left (by omega) a;have w:0<=q*(j:Int):=Int.mul_nonneg a (by omega)<;>grind[IntKind.wrap_i64]
 grind
section
variable (i:Inp) (n t:Int) (ss pq L1 L2:qaV) (z:Int) (j:Nat) (M:Nat)
end
section
variable (i:Inp) (L1 F L2:qaV) (z:Int) (j:Nat) (M:Nat)
def zmB:St:=⟨[(3,.ptr 0 0 0),(5,.ptr 1 0 0),(6,num z),(7,nat j)],[.var ({i with kind:=1}:Inp).cells,.var (ocC 0 0 [] L1 F L2)]⟩
def zp1:St:=⟨[(3,.ptr 0 0 0),(5,.ptr 1 0 0),(6,num z),(7,nat j),(32,boolX false)],[.var ({i with kind:=1}:Inp).cells,.var (ocC 0 0 [] L1 F L2)]⟩
def zin:St:=⟨[(3,.ptr 0 0 0),(5,.ptr 1 0 0),(6,num z),(8,nat j)],[.var ({i with kind:=1}:Inp).cells,.var (ocC 0 0 [] L1 F L2)]⟩
def zp0:St:=⟨[(3,.ptr 0 0 0),(5,.ptr 1 0 0),(6,num z),(8,nat j),(48,boolX false)],[.var ({i with kind:=1}:Inp).cells,.var (ocC 0 0 [] L1 F L2)]⟩
theorem zdV (y:Otp)(h1:decide (Int.ofNat j<Int.ofNat L1.length)=true)(hg:L1[j]?=some y.cells)(hn:IntKind.i64.wrap (Int.ofNat j+1)=Int.ofNat (j+1)):
  ∃υ,run (callF tab ext M) 0 M (loopAt 3 0) (zmB i L1 F L2 z j)=some (.norm,υ)/\canon 0 υ=some (zmB i L1 F L2 (IntKind.i64.wrap (z+y.m.vO)) (j+1)):=by
 obtain ⟨kd,tm,⟨se,sp⟩,⟨⟨e,p⟩,ms,o,⟨f,h,l,n,q,u⟩⟩,x,A,B,⟨E,H,J,L,N,O⟩⟩:=i;obtain ⟨pt,⟨⟨P,p'⟩,a,o',⟨Q,S,U,V,W,Y⟩⟩⟩:=y;generalize Z:IntKind.i64.wrap (z+a)=w;refine ⟨zmB ⟨kd,tm,⟨se,sp⟩,⟨⟨e,p⟩,ms,o,⟨f,h,l,n,q,u⟩⟩,x,A,B,⟨E,H,J,L,N,O⟩⟩ L1 F L2 w (j+1),?_,by kernel_rfl⟩;subst Z;exact ruA [(32,.b true),(39,.e (Otp.mk pt (Msg.mk ⟨P,p'⟩ a o' (.mk Q S U V W Y))).cells),(34,.i (Int.ofNat (j+1)))] (pf3 h1 hg hn)
theorem ZG (y:Msg)(h1:decide (Int.ofNat j<Int.ofNat L2.length)=true)(hg:L2[j]?=some y.cells)(hn:IntKind.i64.wrap (Int.ofNat j+1)=Int.ofNat (j+1)):
  ∃υ,run (callF tab ext M) 0 M (loopAt 3 1) (zin i L1 F L2 z j)=some (.norm,υ)/\canon 0 υ=some (zin i L1 F L2 (IntKind.i64.wrap (z+y.vO)) (j+1)):=by
 obtain ⟨Z,tm,⟨se,sp⟩,⟨⟨e,p⟩,ms,o,⟨f,h,l,m,n,q⟩⟩,x,u,A,⟨B,E,H,J,L,N⟩⟩:=i;obtain ⟨⟨O,p'⟩,a,o',⟨P,Q,S,U,V,W⟩⟩:=y;generalize Y:IntKind.i64.wrap (z+a)=w;refine ⟨zin ⟨Z,tm,⟨se,sp⟩,⟨⟨e,p⟩,ms,o,⟨f,h,l,m,n,q⟩⟩,x,u,A,⟨B,E,H,J,L,N⟩⟩ L1 F L2 w (j+1),?_,by kernel_rfl⟩;subst Y;exact ruA [(48,.b true),(55,.e (Msg.mk ⟨O,p'⟩ a o' (.mk P Q S U V W)).cells),(50,.i (Int.ofNat (j+1)))] (pf3 h1 hg hn)
theorem zim (h1:decide (Int.ofNat j<Int.ofNat L1.length)=false):run (callF tab ext M) 0 M (loopAt 3 0) (zmB i L1 F L2 z j)=some (.exit 0,zp1 i L1 F L2 z j):=by obtain ⟨J,tm,⟨N,O⟩,⟨⟨e,p⟩,L,o,⟨a,f,h,l,m,n⟩⟩,x,q,u,⟨w,y,A,B,E,H⟩⟩:=i;exact ruA [(32,.b false)] (pf1 h1)
theorem zdX (h1:decide (Int.ofNat j<Int.ofNat L2.length)=false):run (callF tab ext M) 0 M (loopAt 3 1) (zin i L1 F L2 z j)=some (.exit 2,zp0 i L1 F L2 z j):=by obtain ⟨J,tm,⟨N,O⟩,⟨⟨e,p⟩,L,o,⟨a,f,h,l,m,n⟩⟩,x,q,u,⟨w,y,A,B,E,H⟩⟩:=i;exact ruA [(48,.b false)] (pf1 h1)
end
theorem zdW (i:Inp)(F L2:qaV)(os:List Otp)(hl:os.length<=1000)(τ:St)(hτ:canon 0 τ=some (zmB i (iH os) F L2 0 0))(M:Nat)(hM:1001<=M):
  run (callF tab ext M) 0 M (.loop (loopAt 3 0)) τ=some (.exit 0,zp1 i (iH os) F L2 (sumF 0 (os.map (·.m.vO)) os.length) os.length):=by
 have h:=jT os;refine aQ (σ:=fun j=>zmB i (iH os) F L2 (sumF 0 (os.map (·.m.vO)) j) j) (k:=os.length) hτ (fun j f=>?_) ?_ (by simp) (by omega)
 ·have a:j<(os.map (·.m.vO)).length:=by simpa using f
  rw [Eo _ _ a,List.getElem_map];exact zdV i _ F L2 _ j M os[j] (aH (by omega)) (yN f) (ay (by omega))
 exact zim _ _ _ _ _ _ _ (aG (by omega))
theorem ZH (i:Inp)(F L1:qaV)(ls:List Msg)(hl:ls.length<=1000)(z:Int)(τ:St)(hτ:canon 0 τ=some (zin i L1 F (aI ls) z 0))(M:Nat)(hM:1001<=M):
  run (callF tab ext M) 0 M (.loop (loopAt 3 1)) τ=some (.exit 2,zp0 i L1 F (aI ls) (sumF z (ls.map (·.vO)) ls.length) ls.length):=by
 have h:=dG ls;refine aQ (σ:=fun j=>zin i L1 F (aI ls) (sumF z (ls.map (·.vO)) j) j) (k:=ls.length) hτ (fun j f=>?_) ?_ (by simp) (by omega)
 ·have a:j<(ls.map (·.vO)).length:=by simpa using f
  rw [Eo _ _ a,List.getElem_map];exact ZG i L1 F _ _ j M ls[j] (aH (by omega)) (jU f) (ay (by omega))
 exact zdX _ _ _ _ _ _ _ (aG (by omega))
theorem TK (nd nd':Nod)(i:Inp)(M:Nat)(hM:1001<=M)(os:List Otp)(ls:List Msg)(f:List X)(hlo:os.length<=64)(hll:ls.length<=64)
  (h1:Gam.pureD (callF tab ext M) 8 [.agg nd.cells,.agg i.cells]=some (.tup [.agg nd'.cells,.agg (aJ i).cells])) (h2:Gam.pureD (callF tab ext M) 10 []=some (boolX true))
  (ha:Gam.pureD (callF tab ext M) 9 [.agg nd'.cells,.agg [num 0,num 0,.sl false 10 []],.agg ({aJ i with kind:=1}:Inp).cells]=some (.agg (ocC 0 0 [] (iH os) [f] (aI ls))))
  (hs:sumF (sumF 0 (os.map (·.m.vO)) os.length) (ls.map (·.vO)) ls.length=(aJ i).m.vO) (hc:os.length=0/\ls.length=1\/0<os.length/\ls.length=0):
  callF tab ext (M+1) (.fn 3) [.agg nd.cells,.agg i.cells] []=some (.v (.bool true),[]):=by
 have n:=jT os;have u:=dG ls;have g1:=zdW (aJ i) [f] (aI ls) os (by omega);have Z:=fun τ hτ=>ZH (aJ i) [f] (iH os) ls (by omega) (sumF 0 (os.map (·.m.vO)) os.length) τ hτ M hM;rw [hs] at Z;generalize sumF 0 (os.map (·.m.vO)) os.length=z1 at g1 Z;have h0:decide (Int.ofNat (iH os).length>64)=false:=decide_eq_false (by rw [n];simp only [qaJ];omega);rw [<-n] at hc;rw [<-u] at hc;generalize os.length=a1 at g1;generalize ls.length=a2 at Z;generalize iH os=L1 at*;generalize aI ls=L2 at*;clear n u hs;generalize aJ i=i' at*;obtain ⟨kd,tm,⟨se,sp⟩,⟨⟨e,p⟩,ms,o,⟨pa,pb,a3,a4,a5,a6⟩⟩,x,b1,b2,⟨c1,c2,c3,c4,c5,c6⟩⟩:=i;obtain ⟨q,l,⟨h,j⟩,⟨⟨A,O⟩,a,N,⟨P,Q,S,U,V,W⟩⟩,Y,w,y,⟨B,E,F,H,J,L⟩⟩:=i';dsimp only at g1 Z ha h1;have l1:=g1 ⟨[(3,.ptr 1 0 0),(5,.ptr 2 0 0),(6,num 0),(7,num 0)],[.var nd'.cells,.var (Inp.mk 1 l ⟨h,j⟩ ⟨⟨A,O⟩,a,N,⟨P,Q,S,U,V,W⟩⟩ Y w y ⟨B,E,F,H,J,L⟩).cells,.var (ocC 0 0 [] L1 [f] L2)]⟩ (by kernel_rfl) M hM;have l2:=Z (zin (Inp.mk q l ⟨h,j⟩ ⟨⟨A,O⟩,a,N,⟨P,Q,S,U,V,W⟩⟩ Y w y ⟨B,E,F,H,J,L⟩) L1 [f] L2 z1 0) (by kernel_rfl);have h5:(a==a)=true:=by simp
 rcases hc with ⟨e1,e2⟩|⟨e1,e2⟩
 ·have h6:(Int.ofNat L2.length==1)=true:=by rw [e2];rfl
  have h7:decide (Int.ofNat L1.length>0)=false:=by rw [e1];rfl
  exact caB [(12,.p (.tup [.agg nd'.cells,.agg (Inp.mk q l ⟨h,j⟩ ⟨⟨A,O⟩,a,N,⟨P,Q,S,U,V,W⟩⟩ Y w y ⟨B,E,F,H,J,L⟩).cells])),(19,.p (.agg (ocC 0 0 [] L1 [f] L2))),(20,.p (boolX true)),(26,.b false),(63,.b true),(68,.b true),(72,.b false)] [(.exit 0,zp1 (Inp.mk q l ⟨h,j⟩ ⟨⟨A,O⟩,a,N,⟨P,Q,S,U,V,W⟩⟩ Y w y ⟨B,E,F,H,J,L⟩) L1 [f] L2 z1 a1),(.exit 2,zp0 (Inp.mk q l ⟨h,j⟩ ⟨⟨A,O⟩,a,N,⟨P,Q,S,U,V,W⟩⟩ Y w y ⟨B,E,F,H,J,L⟩) L1 [f] L2 a a2)] (pf9 h1 ha h2 h0 l1 l2 h5 h6 h7)
 have h6:(Int.ofNat L2.length==1)=false:=by rw [e2];rfl
 have h7:decide (Int.ofNat L1.length>0)=true:=decide_eq_true (by simp only [qaJ];omega);exact caB [(12,.p (.tup [.agg nd'.cells,.agg (Inp.mk q l ⟨h,j⟩ ⟨⟨A,O⟩,a,N,⟨P,Q,S,U,V,W⟩⟩ Y w y ⟨B,E,F,H,J,L⟩).cells])),(19,.p (.agg (ocC 0 0 [] L1 [f] L2))),(20,.p (boolX true)),(26,.b false),(63,.b true),(68,.b false),(72,.b true)] [(.exit 0,zp1 (Inp.mk q l ⟨h,j⟩ ⟨⟨A,O⟩,a,N,⟨P,Q,S,U,V,W⟩⟩ Y w y ⟨B,E,F,H,J,L⟩) L1 [f] L2 z1 a1),(.exit 2,zp0 (Inp.mk q l ⟨h,j⟩ ⟨⟨A,O⟩,a,N,⟨P,Q,S,U,V,W⟩⟩ Y w y ⟨B,E,F,H,J,L⟩) L1 [f] L2 a a2)] (pf9 h1 ha h2 h0 l1 l2 h5 h6 h7)
theorem sbal_all (cn:List X)(hcn:isNode cn)(i:Inp):∃n,callF tab ext n (.fn 3) [.agg cn,.agg i.cells] []=some (.v (.bool true),[]):=by
 obtain ⟨j,a,q,rfl,E,F,B,h⟩:=step0 cn hcn i;have y:=h (B+1400) (by omega);have u:=rY j a E i (B+1400) (by omega);have w:=gY (B+1400) (by omega);have A:0<=(aJ i).m.vO/\(aJ i).m.vO<=1099511627776:=by show 0<=LD (Dw i.m.vO)/\LD (Dw i.m.vO)<=1099511627776;unfold LD Dw;split<;>split<;>omega
 have J:IntKind.i64.wrap (0+(aJ i).m.vO)=(aJ i).m.vO:=by rw [IntKind.wrap_i64];omega
 cases q with
 |bad r=>exact ⟨_,TK j a i _ (by omega) [] [(aJ i).m] _ (by decide) (by simp) u w y J (.inl ⟨rfl,rfl⟩)⟩
 |good l=>
  obtain ⟨H,L,M⟩:=F;have f:(((bg (aJ i).m l l.length).map fun x=>(⟨0,x⟩:Otp)).length)=l.length:=by simp [Ct.lg]
  refine ⟨_,TK j a i _ (by omega) ((bg (aJ i).m l l.length).map fun x=>⟨0,x⟩) [] _ (by omega) (by decide) u w y ?_ (.inr ⟨by omega,rfl⟩)⟩;have e:((bg (aJ i).m l l.length).map fun x=>(⟨0,x⟩:Otp)).map (·.m.vO)=(List.range l.length).map (oH (aJ i).m.vO l.length):=by simp [bg,NW,List.map_map]
  rw [e,f];show sumF 0 _ l.length=_;exact VP _ _ A.1 A.2 H (by omega)
end Go.Proofs.YtkeefpkcepodeaaGreatDoor
