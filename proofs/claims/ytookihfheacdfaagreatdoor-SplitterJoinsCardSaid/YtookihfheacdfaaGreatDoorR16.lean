/- 32.SplitterJoins: the parts of two lists together. -/
import Derived.Test.YtookihfheacdfaaGreatDoorR10
import Derived.Test.YtookihfheacdfaaGreatDoorR13
namespace Go.Proofs.YtookihfheacdfaaGreatDoor
open Go.Em
set_option maxRecDepth 100000
section
variable (R S:List (List X)) (j:Nat) (v:Val) {N:Nat}
def sqH:St:=⟨[(0,.sl false 6 R),(1,.sl false 6 R),(5,nat j)],[]⟩
theorem sq_canon:canon 0 (sqH R j)=some (sqH R j):=by kernel_rfl
theorem sq_step (hlt:decide (Int.ofNat j<Int.ofNat R.length)=true)(he:R[j]?=some v.cells)(hv:Gam.pureD (callF tab ext N) 21 [.agg v.cells,.agg v.cells]=some (boolX true))(hj:j<4000):
  run (callF tab ext N) 0 N (loopAt 10 0) (sqH R j)=some (.norm,sqH R (j+1)):=by
 obtain ⟨k,i,s,t,l,f⟩:=v
 exact run_of [(14,.b true),(19,.e (Val.mk k i s t l f).cells),(23,.e (Val.mk k i s t l f).cells),(25,.p (boolX true)),(16,.i (Int.ofNat (j+1)))] [] (pf5 hlt he he hv (next_nat (j:=j) (by omega))) (lo':=[]) (by kernel_rfl)
theorem sq_end (hn:j=R.length):run (callF tab ext N) 0 N (loopAt 10 0) (sqH R j)=some (.exit 0,⟨[(0,.sl false 6 R),(1,.sl false 6 R),(5,nat j),(14,boolX false)],[]⟩):=
 run_of [(14,.b false)] [] (pf1 (nlt_nat (j:=j) (k:=R.length) (by omega))) (lo':=[]) (by kernel_rfl)
end
theorem rV_ok (x:Int):(rV x).ok:=by
 unfold Val.ok;simp [rV,iV,Val.size,sizeL,sizeF]
theorem same_rows (xs:List Int)(hx:xs.length≤200)(N:Nat)(hN:190000≤N):Gam.pureD (callF tab ext (N+1)) 10 [.sl false 6 (rowsR xs),.sl false 6 (rowsR xs)]=some (boolX true):=by
 have hR:=rowsR_length xs
 have hl:run (callF tab ext N) 0 N (.loop (loopAt 10 0)) (sqH (rowsR xs) 0)=some (.exit 0,⟨[(0,.sl false 6 (rowsR xs)),(1,.sl false 6 (rowsR xs)),(5,nat xs.length),(14,boolX false)],[]⟩):=by
  refine loop_for (σ:=fun j=>sqH (rowsR xs) j) (k:=xs.length) (sq_canon _ 0) (fun j hj=>?_) (sq_end _ _ hR.symm) (by simp) (by omega)
  have he:(rowsR xs)[j]?=some (rV xs[j]).cells:=by unfold rowsR;rw [cellsL_get (by simpa using hj)];simp
  exact ⟨_,sq_step _ j (rV xs[j]) (lt_nat (by omega)) he (val_refl N (rV xs[j]) (rV_ok _) hN) (by omega),sq_canon _ _⟩
 generalize rowsR xs=R at hl ⊢
 generalize xs.length=n at hl
 exact pure_of [(10,.b false)] [(.exit 0,⟨[(0,.sl false 6 R),(1,.sl false 6 R),(5,nat n),(14,boolX false)],[]⟩)] (pf2 (show (Int.ofNat R.length !=Int.ofNat R.length)=false by simp) hl) (x:=boolX true) (bx:=[]) (by kernel_rfl) rfl
section
variable (l1 l2 r1 r2:List (List X)) (n j:Nat) (x:Int) {N:Nat}
def jaH:St:=⟨[(0,.sl false 1 l1),(1,.sl false 1 l2),(5,.bs 0 0 j),(6,.sl true 6 []),(7,nat j)],[.row 6 r1]⟩
def jaV:St:=⟨[(0,.sl false 1 l1),(1,.sl false 1 l2),(5,.bs 1 0 (j+1)),(6,.sl true 6 []),(7,nat (j+1))],[.dead,.row 6 r1]⟩
def jaE:St:=⟨[(0,.sl false 1 l1),(1,.sl false 1 l2),(5,.bs 0 0 j),(6,.sl true 6 []),(7,nat j),(34,boolX false)],[.row 6 r1]⟩
theorem ja_canon:canon 0 (jaH l1 l2 r1 j)=some (jaH l1 l2 r1 j):=by kernel_rfl
theorem ja_canonV:canon 0 (jaV l1 l2 r1 j)=some (jaH l1 l2 r1 (j+1)):=by kernel_rfl
theorem ja_step (hlt:decide (Int.ofNat j<Int.ofNat l1.length)=true)(he:l1[j]?=some [num x])(ho:j=r1.length)(hj:j<4000):run (callF tab ext (N+10)) 0 (N+10) (loopAt 4 0) (jaH l1 l2 r1 j)=some (.norm,jaV l1 l2 (r1++[(iV x).cells]) j):=
 run_of [(34,.b true),(40,.e [num x]),(44,.app),(36,.i (Int.ofNat (j+1)))] [] (pf4 hlt he (app_ok j 0 88 ho (by omega) (by omega)) (next_nat (j:=j) (by omega))) (lo':=[]) (by kernel_rfl)
theorem ja_end (hn:j=l1.length):run (callF tab ext N) 0 N (loopAt 4 0) (jaH l1 l2 r1 j)=some (.exit 0,jaE l1 l2 r1 j):=
 run_of [(34,.b false)] [] (pf1 (nlt_nat (j:=j) (k:=l1.length) (by omega))) (lo':=[]) (by kernel_rfl)
def jbH:St:=⟨[(1,.sl false 1 l2),(5,.bs 0 0 n),(6,.bs 1 0 j),(8,nat j)],[.row 6 r1,.row 6 r2]⟩
def jbV:St:=⟨[(1,.sl false 1 l2),(5,.bs 0 0 n),(6,.bs 2 0 (j+1)),(8,nat (j+1))],[.row 6 r1,.dead,.row 6 r2]⟩
def jbE:St:=⟨[(1,.sl false 1 l2),(5,.bs 0 0 n),(6,.bs 1 0 j),(8,nat j),(48,boolX false)],[.row 6 r1,.row 6 r2]⟩
theorem jb_canon:canon 0 (jbH l2 r1 r2 n j)=some (jbH l2 r1 r2 n j):=by kernel_rfl
theorem jb_canonV:canon 0 (jbV l2 r1 r2 n j)=some (jbH l2 r1 r2 n (j+1)):=by kernel_rfl
theorem jb_step (hlt:decide (Int.ofNat j<Int.ofNat l2.length)=true)(he:l2[j]?=some [num x])(ho:j=r2.length)(hj:j<4000):run (callF tab ext (N+10)) 0 (N+10) (loopAt 4 1) (jbH l2 r1 r2 n j)=some (.norm,jbV l2 r1 (r2++[(iV x).cells]) n j):=
 run_of [(48,.b true),(54,.e [num x]),(58,.app),(50,.i (Int.ofNat (j+1)))] [] (pf4 hlt he (app_ok j 1 88 ho (by omega) (by omega)) (next_nat (j:=j) (by omega))) (lo':=[]) (by kernel_rfl)
theorem jb_end (hn:j=l2.length):run (callF tab ext N) 0 N (loopAt 4 1) (jbH l2 r1 r2 n j)=some (.exit 2,jbE l2 r1 r2 n j):=
 run_of [(48,.b false)] [] (pf1 (nlt_nat (j:=j) (k:=l2.length) (by omega))) (lo':=[]) (by kernel_rfl)
end
theorem ja_loop (xs ys:List Int)(hx:xs.length≤200)(N:Nat)(hN:300≤N):run (callF tab ext N) 0 N (.loop (loopAt 4 0)) (jaH (intsC xs) (intsC ys) [] 0)=some (.exit 0,jaE (intsC xs) (intsC ys) (rowsI xs) xs.length):=by
 obtain ⟨M,rfl⟩:∃M,N=M+10:=⟨N-10,by omega⟩
 have hl:=intsC_length xs
 refine loop_for (σ:=fun j=>jaH (intsC xs) (intsC ys) (rowsI (xs.take j)) j) (k:=xs.length) (ja_canon _ _ [] 0) (fun j hj=>?_) ?_ (by simp) (by omega)
 ·have hlen:j=(rowsI (xs.take j)).length:=by rw [rowsI_length];simp;omega
  refine ⟨_,ja_step _ _ _ j xs[j] (lt_nat (by omega)) (intsC_get hj) hlen (by omega),?_⟩
  rw [rowsI_take hj];exact ja_canonV _ _ _ j
 ·rw [List.take_length];exact ja_end _ _ _ _ hl.symm
theorem jb_loop (ys:List Int)(r1:List (List X))(n:Nat)(hx:ys.length≤200)(N:Nat)(hN:300≤N):run (callF tab ext N) 0 N (.loop (loopAt 4 1)) (jbH (intsC ys) r1 [] n 0)=some (.exit 2,jbE (intsC ys) r1 (rowsI ys) n ys.length):=by
 obtain ⟨M,rfl⟩:∃M,N=M+10:=⟨N-10,by omega⟩
 have hl:=intsC_length ys
 refine loop_for (σ:=fun j=>jbH (intsC ys) r1 (rowsI (ys.take j)) n j) (k:=ys.length) (jb_canon _ _ [] _ 0) (fun j hj=>?_) ?_ (by simp) (by omega)
 ·have hlen:j=(rowsI (ys.take j)).length:=by rw [rowsI_length];simp;omega
  refine ⟨_,jb_step _ _ _ _ j ys[j] (lt_nat (by omega)) (intsC_get hj) hlen (by omega),?_⟩
  rw [rowsI_take hj];exact jb_canonV _ _ _ _ j
 ·rw [List.take_length];exact jb_end _ _ _ _ _ hl.symm
theorem example_ref (zs:List Int)(hz:zs.length≤200)(N:Nat)(hN:1010≤N):callF tab ext (N+1) (.fn 6) [.bs 0 0 zs.length] [.row 6 (rowsI zs)]=some (.tup [.agg nodeT,.agg (bV zs).cells],[.dead]):=by
 obtain ⟨M,rfl⟩:∃M,N=M+1:=⟨N-1,by omega⟩
 have hgh:0+zs.length≤(rowsI zs).length:=by rw [rowsI_length];omega
 have h1:Gam.pureD (callF tab ext (M+1)) 12 [.sl false 6 ((rowsI zs).take zs.length)]=some (.agg (lV zs).cells):=by
  rw [List.take_of_length_le (by rw [rowsI_length];omega)];exact vlist_pure (N:=M) hz (by omega)
 have h2:=recL_pure (N:=M) hz (by omega)
 generalize rowsI zs=rows at hgh h1 ⊢
 generalize zs.length=n at hgh h1 ⊢
 exact callF_of [(18,.p (.agg (lV zs).cells)),(21,.p (.agg (bV zs).cells))] [] (pf3 hgh h1 h2) (by kernel_rfl)
theorem rowsI_app (xs ys:List Int):rowsI (xs++ys)=rowsI xs++rowsI ys:=by
 have e:∀l:List Val,cellsL l=l.map Val.cells:=by
  intro l
  induction l with
  |nil=>rfl
  |cons a r ih=>simp [cellsL,ih]
 simp [rowsI,e]
theorem rowsR_app (xs ys:List Int):rowsR (xs++ys)=rowsR xs++rowsR ys:=by
 have e:∀l:List Val,cellsL l=l.map Val.cells:=by
  intro l
  induction l with
  |nil=>rfl
  |cons a r ih=>simp [cellsL,ih]
 simp [rowsR,e]
theorem bodies_any (xs:List Int)(hx:xs.length≤64)(N:Nat)(hN:1300≤N):∃R t,Gam.pureD (callF tab ext (N+1)) 7 [.agg nodeN,.agg (bV xs).cells]=some (.tup [.sl false 6 R,strX t]):=by
 by_cases h0:xs=[]
 ·subst h0;exact ⟨_,_,bodies_none hN⟩
 by_cases hm:∃x,x∈xs∧Misf x
 ·obtain ⟨j,hj,h1,h2⟩:=first_bad hm
  exact ⟨_,_,bodies_bad (by omega) hN hx hj h1 h2⟩
 ·exact ⟨_,_,bodies_good (by omega) hN h0 hx (fun x h1 h2=>hm ⟨x,h1,h2⟩)⟩
theorem min_32 (xs:List Int):(if false=true then if (32:Int)>Int.ofNat (intsC xs).length then 32 else Int.ofNat (intsC xs).length else if (32:Int)<Int.ofNat (intsC xs).length then 32 else Int.ofNat (intsC xs).length)=Int.ofNat (min (intsC xs).length 32):=by
 simp only [Bool.false_eq_true,if_false,Int.ofNat_eq_natCast]
 split<;>omega
theorem cut_32 (xs:List Int):∃(k:Nat) (zs:List Int),(if false=true then if (32:Int)>Int.ofNat (intsC xs).length then 32 else Int.ofNat (intsC xs).length else if (32:Int)<Int.ofNat (intsC xs).length then 32 else Int.ofNat (intsC xs).length)=Int.ofNat k∧
  (0≤(Int.ofNat k).toNat∧(Int.ofNat k).toNat≤(intsC xs).length)∧(intsC xs).take k=intsC zs∧zs.length≤32:=by
 refine ⟨min (intsC xs).length 32,xs.take (min (intsC xs).length 32),min_32 xs,?_,take_intsC _ _,by simp;omega⟩
 constructor<;>simp only [Int.ofNat_eq_natCast,Int.toNat_natCast]<;>omega
def sjB (xs ys zs:List Int)(R:List (List X)):List Bx:=[.dead,.dead,.var nodeN,.var (bV xs).cells,.var nodeN,.var (bV ys).cells,.dead,.dead,.var nodeT,.var (bV zs).cells,.dead,.row 6 R]
theorem sj_data (xs ys zs:List Int)(R S:List (List X))(n:Nat)(hn:n=S.length):dataL (sjB xs ys zs S) false [.sl false 6 R,.bs 11 0 n]=some [.sl false 6 R,.sl false 6 S]:=by
 have h:rowOf (sjB xs ys zs S) 11 0 n=some (6,S):=rowOf_all rfl hn
 simp [dataL,X.data,h]
end Go.Proofs.YtookihfheacdfaaGreatDoor
namespace Go.Proofs.YtookihfheacdfaaGreatDoor
open Go.Em
set_option maxRecDepth 100000
section
variable {a b c d e f g h i j k l m n o p q r s t:Prop}
theorem pf15 (h1:a)(h2:b)(h3:c)(h4:d)(h5:e)(h6:f)(h7:g)(h8:h)(h9:i)(h10:j)(h11:k)(h12:l)(h13:m)(h14:n)(h15:o):allP [a,b,c,d,e,f,g,h,i,j,k,l,m,n,o]:=⟨h1,pf14 h2 h3 h4 h5 h6 h7 h8 h9 h10 h11 h12 h13 h14 h15⟩
theorem pf16 (h1:a)(h2:b)(h3:c)(h4:d)(h5:e)(h6:f)(h7:g)(h8:h)(h9:i)(h10:j)(h11:k)(h12:l)(h13:m)(h14:n)(h15:o)(h16:p):allP [a,b,c,d,e,f,g,h,i,j,k,l,m,n,o,p]:=⟨h1,pf15 h2 h3 h4 h5 h6 h7 h8 h9 h10 h11 h12 h13 h14 h15 h16⟩
theorem pf17 (h1:a)(h2:b)(h3:c)(h4:d)(h5:e)(h6:f)(h7:g)(h8:h)(h9:i)(h10:j)(h11:k)(h12:l)(h13:m)(h14:n)(h15:o)(h16:p)(h17:q):allP [a,b,c,d,e,f,g,h,i,j,k,l,m,n,o,p,q]:=⟨h1,pf16 h2 h3 h4 h5 h6 h7 h8 h9 h10 h11 h12 h13 h14 h15 h16 h17⟩
theorem pf18 (h1:a)(h2:b)(h3:c)(h4:d)(h5:e)(h6:f)(h7:g)(h8:h)(h9:i)(h10:j)(h11:k)(h12:l)(h13:m)(h14:n)(h15:o)(h16:p)(h17:q)(h18:r):allP [a,b,c,d,e,f,g,h,i,j,k,l,m,n,o,p,q,r]:=⟨h1,pf17 h2 h3 h4 h5 h6 h7 h8 h9 h10 h11 h12 h13 h14 h15 h16 h17 h18⟩
theorem pf20 (h1:a)(h2:b)(h3:c)(h4:d)(h5:e)(h6:f)(h7:g)(h8:h)(h9:i)(h10:j)(h11:k)(h12:l)(h13:m)(h14:n)(h15:o)(h16:p)(h17:q)(h18:r)(h19:s)(h20:t):allP [a,b,c,d,e,f,g,h,i,j,k,l,m,n,o,p,q,r,s,t]:=⟨h1,h2,pf18 h3 h4 h5 h6 h7 h8 h9 h10 h11 h12 h13 h14 h15 h16 h17 h18 h19 h20⟩
end
theorem kn27:Gam.pureD (callF tab ext 191000) 8 []=some (boolX true):=known32_at 190600
def tyE:ByteArray:=txN [101,109,112,116,121]
section
variable {L1 L2 r1 r2 R1 R2 R3:List (List X)} {n m k p:Nat} {zs1 zs2 xs ys ws:List Int} {t2 t3:ByteArray}
 (hk:(if false=true then if (32:Int)>Int.ofNat (intsC zs1).length then 32 else Int.ofNat (intsC zs1).length else if (32:Int)<Int.ofNat (intsC zs1).length then 32 else Int.ofNat (intsC zs1).length)=Int.ofNat k)
 (hc:0≤(Int.ofNat k).toNat∧(Int.ofNat k).toNat≤(intsC zs1).length)
 (hp:(if false=true then if (32:Int)>Int.ofNat (intsC zs2).length then 32 else Int.ofNat (intsC zs2).length else if (32:Int)<Int.ofNat (intsC zs2).length then 32 else Int.ofNat (intsC zs2).length)=Int.ofNat p)
 (hd:0≤(Int.ofNat p).toNat∧(Int.ofNat p).toNat≤(intsC zs2).length)
 (hl:run (callF tab ext 191000) 0 191000 (.loop (loopAt 4 0)) (jaH ((intsC zs1).take k) ((intsC zs2).take p) [] 0)=some (.exit 0,jaE ((intsC zs1).take k) ((intsC zs2).take p) r1 n))
 (hm:run (callF tab ext 191000) 0 191000 (.loop (loopAt 4 1)) (jbH ((intsC zs2).take p) r1 [] n 0)=some (.exit 2,jbE ((intsC zs2).take p) r1 r2 n m))
 (g1:0+n≤r1.length) (e1:Gam.pureD (callF tab ext 191000) 6 [.sl false 6 (r1.take n)]=some (.tup [.agg nodeN,.agg (bV xs).cells]))
 (g2:0+m≤r2.length) (e2:Gam.pureD (callF tab ext 191000) 6 [.sl false 6 (r2.take m)]=some (.tup [.agg nodeN,.agg (bV ys).cells]))
 (f1:(r1.take n).isEmpty=false∧roomOk (0+(r1.take n).length) 88=true)
 (f2:0+(0+(r1.take n).length)=(r1.take n).length∧roomOk (0+(r1.take n).length+(r2.take m).length) 88=true∧memN 6 []=false)
 (e3:callF tab ext 191000 (.fn 6) [.bs 0 0 (0+(r1.take n).length+(r2.take m).length)] [.row 6 (r1.take n++r2.take m)]=some (.tup [.agg nodeT,.agg (bV ws).cells],[.dead]))
 (b2:Gam.pureD (callF tab ext 191000) 7 [.agg nodeN,.agg (bV ys).cells]=some (.tup [.sl false 6 R2,strX t2]))
 (b3:Gam.pureD (callF tab ext 191000) 7 [.agg nodeN,.agg (bV ws).cells]=some (.tup [.sl false 6 R3,strX t3]))
include hk hc hp hd hl hm g1 e1 g2 e2 f1 f2 e3 b2 b3
theorem sj_bad (b1:Gam.pureD (callF tab ext 191000) 7 [.agg nodeN,.agg (bV xs).cells]=some (.tup [.sl false 6 [],strX tyB])):callF tab ext 191001 (.fn 4) [.sl false 1 (intsC zs1),.sl false 1 (intsC zs2)] []=some (.v (.bool true),[]):=
 callF_of [(24,.i (Int.ofNat k)),(25,.cut),(29,.i (Int.ofNat p)),(30,.cut),(61,.p (.tup [.agg nodeN,.agg (bV xs).cells])),(66,.p (.tup [.agg nodeN,.agg (bV ys).cells])),(72,.fresh),(74,.app),(75,.r (.tup [.agg nodeT,.agg (bV ws).cells]) [.dead]),(81,.p (.tup [.sl false 6 [],strX tyB])),(87,.p (.tup [.sl false 6 R2,strX t2])),(93,.p (.tup [.sl false 6 R3,strX t3])),(96,.p (boolX true)),(106,.p (boolX true))]
  [(.exit 0,jaE ((intsC zs1).take k) ((intsC zs2).take p) r1 n),(.exit 2,jbE ((intsC zs2).take p) r1 r2 n m)] (pf18 hk hc hp hd hl hm g1 e1 g2 e2 f1 f2 e3 b1 b2 b3 kn27 kn27) (by kernel_rfl)
omit b2 in
theorem sj_sbad (b1:Gam.pureD (callF tab ext 191000) 7 [.agg nodeN,.agg (bV xs).cells]=some (.tup [.sl false 6 R1,strX (txN [])]))(b2:Gam.pureD (callF tab ext 191000) 7 [.agg nodeN,.agg (bV ys).cells]=some (.tup [.sl false 6 [],strX tyB])):callF tab ext 191001 (.fn 4) [.sl false 1 (intsC zs1),.sl false 1 (intsC zs2)] []=some (.v (.bool true),[]):=
 callF_of [(24,.i (Int.ofNat k)),(25,.cut),(29,.i (Int.ofNat p)),(30,.cut),(61,.p (.tup [.agg nodeN,.agg (bV xs).cells])),(66,.p (.tup [.agg nodeN,.agg (bV ys).cells])),(72,.fresh),(74,.app),(75,.r (.tup [.agg nodeT,.agg (bV ws).cells]) [.dead]),(81,.p (.tup [.sl false 6 R1,strX (txN [])])),(87,.p (.tup [.sl false 6 [],strX tyB])),(93,.p (.tup [.sl false 6 R3,strX t3])),(96,.p (boolX true)),(106,.p (boolX true))]
  [(.exit 0,jaE ((intsC zs1).take k) ((intsC zs2).take p) r1 n),(.exit 2,jbE ((intsC zs2).take p) r1 r2 n m)] (pf18 hk hc hp hd hl hm g1 e1 g2 e2 f1 f2 e3 b1 b2 b3 kn27 kn27) (by kernel_rfl)
omit b2 in
theorem sj_snone (b1:Gam.pureD (callF tab ext 191000) 7 [.agg nodeN,.agg (bV xs).cells]=some (.tup [.sl false 6 R1,strX (txN [])]))(b2:Gam.pureD (callF tab ext 191000) 7 [.agg nodeN,.agg (bV ys).cells]=some (.tup [.sl false 6 [],strX tyE])):callF tab ext 191001 (.fn 4) [.sl false 1 (intsC zs1),.sl false 1 (intsC zs2)] []=some (.v (.bool true),[]):=
 callF_of [(24,.i (Int.ofNat k)),(25,.cut),(29,.i (Int.ofNat p)),(30,.cut),(61,.p (.tup [.agg nodeN,.agg (bV xs).cells])),(66,.p (.tup [.agg nodeN,.agg (bV ys).cells])),(72,.fresh),(74,.app),(75,.r (.tup [.agg nodeT,.agg (bV ws).cells]) [.dead]),(81,.p (.tup [.sl false 6 R1,strX (txN [])])),(87,.p (.tup [.sl false 6 [],strX tyE])),(93,.p (.tup [.sl false 6 R3,strX t3])),(96,.p (boolX true)),(106,.p (boolX true))]
  [(.exit 0,jaE ((intsC zs1).take k) ((intsC zs2).take p) r1 n),(.exit 2,jbE ((intsC zs2).take p) r1 r2 n m)] (pf18 hk hc hp hd hl hm g1 e1 g2 e2 f1 f2 e3 b1 b2 b3 kn27 kn27) (by kernel_rfl)
omit b2 b3 in
theorem sj_good (b1:Gam.pureD (callF tab ext 191000) 7 [.agg nodeN,.agg (bV xs).cells]=some (.tup [.sl false 6 R1,strX (txN [])]))(b2:Gam.pureD (callF tab ext 191000) 7 [.agg nodeN,.agg (bV ys).cells]=some (.tup [.sl false 6 R2,strX (txN [])]))
  (b3:Gam.pureD (callF tab ext 191000) 7 [.agg nodeN,.agg (bV ws).cells]=some (.tup [.sl false 6 R3,strX (txN [])])) (q1:R1.isEmpty=false∧roomOk (0+R1.length) 88=true) (q2:0+(0+R1.length)=R1.length∧roomOk (0+R1.length+R2.length) 88=true∧memN 10 []=false)
  (q3:dataL (sjB xs ys ws (R1++R2)) false [.sl false 6 R3,.bs 11 0 (0+R1.length+R2.length)]=some [.sl false 6 R3,.sl false 6 R3]∧Gam.pureD (callF tab ext 191000) 10 [.sl false 6 R3,.sl false 6 R3]=some (boolX true)):callF tab ext 191001 (.fn 4) [.sl false 1 (intsC zs1),.sl false 1 (intsC zs2)] []=some (.v (.bool true),[]):=
 callF_of [(24,.i (Int.ofNat k)),(25,.cut),(29,.i (Int.ofNat p)),(30,.cut),(61,.p (.tup [.agg nodeN,.agg (bV xs).cells])),(66,.p (.tup [.agg nodeN,.agg (bV ys).cells])),(72,.fresh),(74,.app),(75,.r (.tup [.agg nodeT,.agg (bV ws).cells]) [.dead]),(81,.p (.tup [.sl false 6 R1,strX (txN [])])),(87,.p (.tup [.sl false 6 R2,strX (txN [])])),(93,.p (.tup [.sl false 6 R3,strX (txN [])])),(96,.p (boolX true)),(113,.fresh),(115,.app),(116,.d [.sl false 6 R3,.sl false 6 R3] (boolX true))]
  [(.exit 0,jaE ((intsC zs1).take k) ((intsC zs2).take p) r1 n),(.exit 2,jbE ((intsC zs2).take p) r1 r2 n m)] (pf20 hk hc hp hd hl hm g1 e1 g2 e2 f1 f2 e3 b1 b2 b3 kn27 q1 q2 q3) (by kernel_rfl)
end
section
variable {L1 L2 r2 R2 R3:List (List X)} {m k p:Nat} {zs1 zs2 ys ws:List Int} {t2 t3:ByteArray}
 (hk:(if false=true then if (32:Int)>Int.ofNat (intsC zs1).length then 32 else Int.ofNat (intsC zs1).length else if (32:Int)<Int.ofNat (intsC zs1).length then 32 else Int.ofNat (intsC zs1).length)=Int.ofNat k)
 (hc:0≤(Int.ofNat k).toNat∧(Int.ofNat k).toNat≤(intsC zs1).length)
 (hp:(if false=true then if (32:Int)>Int.ofNat (intsC zs2).length then 32 else Int.ofNat (intsC zs2).length else if (32:Int)<Int.ofNat (intsC zs2).length then 32 else Int.ofNat (intsC zs2).length)=Int.ofNat p)
 (hd:0≤(Int.ofNat p).toNat∧(Int.ofNat p).toNat≤(intsC zs2).length)
 (hl:run (callF tab ext 191000) 0 191000 (.loop (loopAt 4 0)) (jaH ((intsC zs1).take k) ((intsC zs2).take p) [] 0)=some (.exit 0,jaE ((intsC zs1).take k) ((intsC zs2).take p) [] 0))
 (e1:Gam.pureD (callF tab ext 191000) 6 [.sl false 6 []]=some (.tup [.agg nodeN,.agg (bV []).cells]))
 (b1:Gam.pureD (callF tab ext 191000) 7 [.agg nodeN,.agg (bV []).cells]=some (.tup [.sl false 6 [],strX tyE]))
include hk hc hp hd hl e1 b1
theorem sj_none (hm:run (callF tab ext 191000) 0 191000 (.loop (loopAt 4 1)) (jbH ((intsC zs2).take p) [] [] 0 0)=some (.exit 2,jbE ((intsC zs2).take p) [] r2 0 m))
 (g2:0+m≤r2.length) (e2:Gam.pureD (callF tab ext 191000) 6 [.sl false 6 (r2.take m)]=some (.tup [.agg nodeN,.agg (bV ys).cells]))
 (f1:(r2.take m).isEmpty=false∧roomOk (0+(r2.take m).length) 88=true)
 (e3:callF tab ext 191000 (.fn 6) [.bs 0 0 (0+(r2.take m).length)] [.row 6 (r2.take m)]=some (.tup [.agg nodeT,.agg (bV ws).cells],[.dead]))
 (b2:Gam.pureD (callF tab ext 191000) 7 [.agg nodeN,.agg (bV ys).cells]=some (.tup [.sl false 6 R2,strX t2]))
 (b3:Gam.pureD (callF tab ext 191000) 7 [.agg nodeN,.agg (bV ws).cells]=some (.tup [.sl false 6 R3,strX t3])):callF tab ext 191001 (.fn 4) [.sl false 1 (intsC zs1),.sl false 1 (intsC zs2)] []=some (.v (.bool true),[]):=
 callF_of [(24,.i (Int.ofNat k)),(25,.cut),(29,.i (Int.ofNat p)),(30,.cut),(61,.p (.tup [.agg nodeN,.agg (bV []).cells])),(66,.p (.tup [.agg nodeN,.agg (bV ys).cells])),(74,.fresh),(75,.r (.tup [.agg nodeT,.agg (bV ws).cells]) [.dead]),(81,.p (.tup [.sl false 6 [],strX tyE])),(87,.p (.tup [.sl false 6 R2,strX t2])),(93,.p (.tup [.sl false 6 R3,strX t3])),(96,.p (boolX true)),(106,.p (boolX true))]
  [(.exit 0,jaE ((intsC zs1).take k) ((intsC zs2).take p) [] 0),(.exit 2,jbE ((intsC zs2).take p) [] r2 0 m)] (pf17 hk hc hp hd hl hm (show 0+0≤0 by decide) e1 g2 e2 f1 e3 b1 b2 b3 kn27 kn27) (by kernel_rfl)
theorem sj_empty (hm:run (callF tab ext 191000) 0 191000 (.loop (loopAt 4 1)) (jbH ((intsC zs2).take p) [] [] 0 0)=some (.exit 2,jbE ((intsC zs2).take p) [] [] 0 0)):callF tab ext 191001 (.fn 4) [.sl false 1 (intsC zs1),.sl false 1 (intsC zs2)] []=some (.v (.bool true),[]):=
 callF_of [(24,.i (Int.ofNat k)),(25,.cut),(29,.i (Int.ofNat p)),(30,.cut),(61,.p (.tup [.agg nodeN,.agg (bV []).cells])),(66,.p (.tup [.agg nodeN,.agg (bV []).cells])),(81,.p (.tup [.sl false 6 [],strX tyE])),(87,.p (.tup [.sl false 6 [],strX tyE])),(93,.p (.tup [.sl false 6 [],strX tyE])),(96,.p (boolX true)),(106,.p (boolX true))]
  [(.exit 0,jaE ((intsC zs1).take k) ((intsC zs2).take p) [] 0),(.exit 2,jbE ((intsC zs2).take p) [] [] 0 0)] (pf15 hk hc hp hd hl hm (show 0+0≤0 by decide) e1 (show 0+0≤0 by decide) e1 b1 b1 b1 kn27 kn27) (by kernel_rfl)
end
end Go.Proofs.YtookihfheacdfaaGreatDoor
namespace Go.Proofs.YtookihfheacdfaaGreatDoor
open Go.Em
set_option maxRecDepth 100000
theorem room88 {n:Nat}(h:n≤1000):roomOk n 88=true:=by
 have:n*88≤1000*88:=Nat.mul_le_mul_right _ h
 simp only [roomOk,Bool.and_eq_true,decide_eq_true_eq];omega
theorem isEmpty_of {l:List (List X)}(h:0<l.length):l.isEmpty=false:=by cases l<;>simp at h ⊢
theorem rowsI_self (xs:List Int):(rowsI xs).take xs.length=rowsI xs:=List.take_of_length_le (by rw [rowsI_length];omega)
theorem sjoins_all (zs1 zs2:List Int):callF tab ext 191001 (.fn 4) [.sl false 1 (intsC zs1),.sl false 1 (intsC zs2)] []=some (.v (.bool true),[]):=by
 obtain ⟨k,xs,hk,hc,hxs,hx⟩:=cut_32 zs1
 obtain ⟨p,ys,hp,hd,hys,hy⟩:=cut_32 zs2
 have hl:=ja_loop xs ys (by omega) 191000 (by omega)
 have hm:=jb_loop ys (rowsI xs) xs.length (by omega) 191000 (by omega)
 rw [←hxs,←hys] at hl
 rw [←hys] at hm
 have ex:∀ws:List Int,ws.length≤200→Gam.pureD (callF tab ext 191000) 6 [.sl false 6 ((rowsI ws).take ws.length)]=some (.tup [.agg nodeN,.agg (bV ws).cells]):=fun ws h=>by
  rw [rowsI_self];exact example_pure (N:=190999) h (by omega)
 have e1:=ex xs (by omega)
 have e2:=ex ys (by omega)
 have lx:=rowsI_length xs
 have ly:=rowsI_length ys
 have e3:=example_ref (xs++ys) (by simp;omega) 190999 (by omega)
 have b3:=bodies_any (xs++ys) (by simp;omega) 190999 (by omega)
 obtain ⟨R2,t2,b2⟩:=bodies_any ys (by omega) 190999 (by omega)
 have g1:0+xs.length≤(rowsI xs).length:=by omega
 have g2:0+ys.length≤(rowsI ys).length:=by omega
 by_cases h0:xs=[]
 ·subst h0
  have b1:=bodies_none (N:=190999) (by omega)
  by_cases h1:ys=[]
  ·subst h1
   exact sj_empty hk hc hp hd hl e1 b1 hm
  ·have hp1:0<ys.length:=List.length_pos_iff.2 h1
   obtain ⟨R3,t3,b3⟩:=b3
   rw [List.nil_append] at e3 b3
   have e3':callF tab ext 191000 (.fn 6) [.bs 0 0 (0+((rowsI ys).take ys.length).length)] [.row 6 ((rowsI ys).take ys.length)]=some (.tup [.agg nodeT,.agg (bV ys).cells],[.dead]):=by
    rw [rowsI_self,ly,Nat.zero_add];exact e3
   refine sj_none hk hc hp hd hl e1 b1 hm g2 e2 ⟨?_,?_⟩ e3' b2 b3
   ·rw [rowsI_self];exact isEmpty_of (by omega)
   ·rw [rowsI_self];exact room88 (by omega)
 have hp0:0<xs.length:=List.length_pos_iff.2 h0
 have f1:((rowsI xs).take xs.length).isEmpty=false∧roomOk (0+((rowsI xs).take xs.length).length) 88=true:=by
  rw [rowsI_self];exact ⟨isEmpty_of (by omega),room88 (by omega)⟩
 have f2:0+(0+((rowsI xs).take xs.length).length)=((rowsI xs).take xs.length).length∧roomOk (0+((rowsI xs).take xs.length).length+((rowsI ys).take ys.length).length) 88=true∧memN 6 []=false:=by
  rw [rowsI_self,rowsI_self];exact ⟨by omega,room88 (by omega),rfl⟩
 have e3':callF tab ext 191000 (.fn 6) [.bs 0 0 (0+((rowsI xs).take xs.length).length+((rowsI ys).take ys.length).length)] [.row 6 ((rowsI xs).take xs.length++(rowsI ys).take ys.length)]=some (.tup [.agg nodeT,.agg (bV (xs++ys)).cells],[.dead]):=by
  rw [rowsI_self,rowsI_self,lx,ly,Nat.zero_add,←rowsI_app,←List.length_append];exact e3
 by_cases hbx:∃x,x∈xs∧Misf x
 ·obtain ⟨j,hj,h1,h2⟩:=first_bad hbx
  have b1:=bodies_bad (xs:=xs) (by omega) (N:=190999) (by omega) (by omega) hj h1 h2
  obtain ⟨R3,t3,b3⟩:=b3
  exact sj_bad hk hc hp hd hl hm g1 e1 g2 e2 f1 f2 e3' b2 b3 b1
 have b1:=bodies_good (xs:=xs) (by omega) (N:=190999) (by omega) h0 (by omega) (fun x h1 h2=>hbx ⟨x,h1,h2⟩)
 by_cases h1:ys=[]
 ·subst h1
  obtain ⟨R3,t3,b3⟩:=b3
  exact sj_snone hk hc hp hd hl hm g1 e1 g2 e2 f1 f2 e3' b3 b1 (bodies_none (N:=190999) (by omega))
 by_cases hby:∃x,x∈ys∧Misf x
 ·obtain ⟨j,hj,h1,h2⟩:=first_bad hby
  have c2:=bodies_bad (xs:=ys) (by omega) (N:=190999) (by omega) (by omega) hj h1 h2
  obtain ⟨R3,t3,b3⟩:=b3
  exact sj_sbad hk hc hp hd hl hm g1 e1 g2 e2 f1 f2 e3' b3 b1 c2
 have c2:=bodies_good (xs:=ys) (by omega) (N:=190999) (by omega) h1 (by omega) (fun x h1 h2=>hby ⟨x,h1,h2⟩)
 have c3:=bodies_good (xs:=xs++ys) (by simp;omega) (N:=190999) (by omega) (by simp [h0]) (by simp;omega) (fun x h1 h2=>by
  rcases List.mem_append.1 h1 with h|h
  ·exact hbx ⟨x,h,h2⟩
  ·exact hby ⟨x,h,h2⟩)
 have rx:=rowsR_length xs
 have ry:=rowsR_length ys
 have hs:=same_rows (xs++ys) (by simp;omega) 190999 (by omega)
 have hdl:=sj_data xs ys (xs++ys) (rowsR (xs++ys)) (rowsR xs++rowsR ys) (0+(rowsR xs).length+(rowsR ys).length) (by simp)
 rw [←rowsR_app] at hdl
 refine sj_good hk hc hp hd hl hm g1 e1 g2 e2 f1 f2 e3' b1 c2 c3 ⟨isEmpty_of (by omega),room88 (by omega)⟩ ⟨by omega,room88 (by omega),rfl⟩ ⟨?_,hs⟩
 rw [←rowsR_app];exact hdl
end Go.Proofs.YtookihfheacdfaaGreatDoor
