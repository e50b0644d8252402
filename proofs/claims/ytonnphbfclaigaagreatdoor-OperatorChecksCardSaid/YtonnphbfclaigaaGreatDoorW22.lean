/-.-/
import Derived.Test.YtonnphbfclaigaaGreatDoorW16
set_option linter.all false
namespace Go.Proofs.YtonnphbfclaigaaGreatDoor.Ck
open Go Go.Em Go.Proofs.YtonnphbfclaigaaGreatDoor
set_option maxRecDepth 100000
set_option linter.unusedVariables false
variable {g:Bool}{z:Int}{τ:St}
def goodN (r:St):Prop:=∃c bx,r=⟨[(4,num c)],bx⟩
def goodB (r:St):Prop:=∃f bx,r=⟨[(2,boolX f)],bx⟩
theorem scalar102 (k1 k2 k3:Int)(k4:qaW)(k5 k6:qaV):∃q:Bool,∀N,1<=N->Gam.pureD (callF tab ext N) 102 [.agg [num k1,num k2,num k3,.v (.string k4),.sl false 6 k5,.sl false 7 k6]]=some (boolX q):=by
 cases h1:(decide (k1>=1)) with
 |true=>
  cases h2:(decide (k1<=7)) with
  |true=>exact ⟨true,fun N hN=>by obtain ⟨M,rfl⟩:∃M,N=M+1:=⟨N-1,by omega⟩;exact pure_of [(5,.b true),(9,.b true)] [] (pf2 h1 h2) (x:=boolX true) (bx:=[]) (by kernel_rfl) rfl⟩
  |false=>exact ⟨false,fun N hN=>by obtain ⟨M,rfl⟩:∃M,N=M+1:=⟨N-1,by omega⟩;exact pure_of [(5,.b true),(9,.b false)] [] (pf2 h1 h2) (x:=boolX false) (bx:=[]) (by kernel_rfl) rfl⟩
 |false=>exact ⟨false,fun N hN=>by obtain ⟨M,rfl⟩:∃M,N=M+1:=⟨N-1,by omega⟩;exact pure_of [(5,.b false)] [] (pf1 h1) (x:=boolX false) (bx:=[]) (by kernel_rfl) rfl⟩
theorem null159 (k1 k2 k3:Int)(k4:qaW)(k5 k6:qaV):∃q:Bool,∀N,1<=N->Gam.pureD (callF tab ext N) 159 [.agg [num k1,num k2,num k3,.v (.string k4),.sl false 6 k5,.sl false 7 k6]]=some (boolX q):=by
 cases h1:(k1==0) with
 |true=>
  cases h2:(k2==0) with
  |true=>
   cases h3:(k3==0) with
   |true=>
    cases h4:(k4.toList==(⟨#[]⟩:qaW).toList) with
    |true=>
     cases h5:(Int.ofNat k5.length==0) with
     |true=>
      cases h6:(Int.ofNat k6.length==0) with
      |true=>exact ⟨true,fun N hN=>by obtain ⟨M,rfl⟩:∃M,N=M+1:=⟨N-1,by omega⟩;exact pure_of [(5,.b true),(9,.b true),(14,.b true),(19,.b true),(25,.b true),(31,.b true)] [] (pf6 h1 h2 h3 h4 h5 h6) (x:=boolX true) (bx:=[]) (by kernel_rfl) rfl⟩
      |false=>exact ⟨false,fun N hN=>by obtain ⟨M,rfl⟩:∃M,N=M+1:=⟨N-1,by omega⟩;exact pure_of [(5,.b true),(9,.b true),(14,.b true),(19,.b true),(25,.b true),(31,.b false)] [] (pf6 h1 h2 h3 h4 h5 h6) (x:=boolX false) (bx:=[]) (by kernel_rfl) rfl⟩
     |false=>exact ⟨false,fun N hN=>by obtain ⟨M,rfl⟩:∃M,N=M+1:=⟨N-1,by omega⟩;exact pure_of [(5,.b true),(9,.b true),(14,.b true),(19,.b true),(25,.b false)] [] (pf5 h1 h2 h3 h4 h5) (x:=boolX false) (bx:=[]) (by kernel_rfl) rfl⟩
    |false=>exact ⟨false,fun N hN=>by obtain ⟨M,rfl⟩:∃M,N=M+1:=⟨N-1,by omega⟩;exact pure_of [(5,.b true),(9,.b true),(14,.b true),(19,.b false)] [] (pf4 h1 h2 h3 h4) (x:=boolX false) (bx:=[]) (by kernel_rfl) rfl⟩
   |false=>exact ⟨false,fun N hN=>by obtain ⟨M,rfl⟩:∃M,N=M+1:=⟨N-1,by omega⟩;exact pure_of [(5,.b true),(9,.b true),(14,.b false)] [] (pf3 h1 h2 h3) (x:=boolX false) (bx:=[]) (by kernel_rfl) rfl⟩
  |false=>exact ⟨false,fun N hN=>by obtain ⟨M,rfl⟩:∃M,N=M+1:=⟨N-1,by omega⟩;exact pure_of [(5,.b true),(9,.b false)] [] (pf2 h1 h2) (x:=boolX false) (bx:=[]) (by kernel_rfl) rfl⟩
 |false=>exact ⟨false,fun N hN=>by obtain ⟨M,rfl⟩:∃M,N=M+1:=⟨N-1,by omega⟩;exact pure_of [(5,.b false)] [] (pf1 h1) (x:=boolX false) (bx:=[]) (by kernel_rfl) rfl⟩
theorem wrong108 (k1 k2 k3:Int)(k4:qaW)(k5 k6:qaV)(n t:Int)(ms vs:qaV)(c:Int):∃q:Bool,∀N,1<=N->Gam.pureD (callF tab ext N) 108 [num c,.agg [num k1,num k2,num k3,.v (.string k4),.sl false 6 k5,.sl false 7 k6,num n,num t,.sl false 10 ms,.sl false 6 vs]]=some (boolX q):=by
 cases h1:(Int.ofNat ms.length !=1) with
 |true=>exact ⟨true,fun N hN=>by obtain ⟨M,rfl⟩:∃M,N=M+1:=⟨N-1,by omega⟩;exact pure_of [(12,.b true)] [] (pf1 h1) (x:=boolX true) (bx:=[]) (by kernel_rfl) rfl⟩
 |false=>
  cases h2:(decide (n<0)) with
  |true=>exact ⟨true,fun N hN=>by obtain ⟨M,rfl⟩:∃M,N=M+1:=⟨N-1,by omega⟩;exact pure_of [(12,.b false),(15,.b true)] [] (pf2 h1 h2) (x:=boolX true) (bx:=[]) (by kernel_rfl) rfl⟩
  |false=>
   cases h3:(decide (n>IntKind.i64.wrap (IntKind.i64.wrap (2*c)-2))) with
   |true=>exact ⟨true,fun N hN=>by obtain ⟨M,rfl⟩:∃M,N=M+1:=⟨N-1,by omega⟩;exact pure_of [(12,.b false),(15,.b false),(22,.b true)] [] (pf3 h1 h2 h3) (x:=boolX true) (bx:=[]) (by kernel_rfl) rfl⟩
   |false=>
    cases h4:(t !=0) with
    |true=>
     cases h5:(decide (n>=IntKind.i64.wrap (c-1))) with
     |true=>exact ⟨true,fun N hN=>by obtain ⟨M,rfl⟩:∃M,N=M+1:=⟨N-1,by omega⟩;exact pure_of [(12,.b false),(15,.b false),(22,.b false),(27,.b true),(32,.b true)] [] (pf5 h1 h2 h3 h4 h5) (x:=boolX true) (bx:=[]) (by kernel_rfl) rfl⟩
     |false=>
      cases h6:(decide (n<c)) with
      |true=>
       cases h7:(Int.ofNat vs.length !=IntKind.i64.wrap (IntKind.i64.wrap (2*n)+1)) with
       |true=>exact ⟨true,fun N hN=>by obtain ⟨M,rfl⟩:∃M,N=M+1:=⟨N-1,by omega⟩;exact pure_of [(12,.b false),(15,.b false),(22,.b false),(27,.b true),(32,.b false),(40,.b true),(45,.b true)] [] (pf7 h1 h2 h3 h4 h5 h6 h7) (x:=boolX true) (bx:=[]) (by kernel_rfl) rfl⟩
       |false=>exact ⟨false,fun N hN=>by obtain ⟨M,rfl⟩:∃M,N=M+1:=⟨N-1,by omega⟩;exact pure_of [(12,.b false),(15,.b false),(22,.b false),(27,.b true),(32,.b false),(40,.b true),(45,.b false)] [] (pf7 h1 h2 h3 h4 h5 h6 h7) (x:=boolX false) (bx:=[]) (by kernel_rfl) rfl⟩
      |false=>
       cases h8:(decide (Int.ofNat vs.length<IntKind.i64.wrap (IntKind.i64.wrap (2*IntKind.i64.wrap (n-c))+1))) with
       |true=>exact ⟨true,fun N hN=>by obtain ⟨M,rfl⟩:∃M,N=M+1:=⟨N-1,by omega⟩;exact pure_of [(12,.b false),(15,.b false),(22,.b false),(27,.b true),(32,.b false),(40,.b false),(52,.b true)] [] (pf7 h1 h2 h3 h4 h5 h6 h8) (x:=boolX true) (bx:=[]) (by kernel_rfl) rfl⟩
       |false=>
        cases h9:(decide (Int.ofNat vs.length>IntKind.i64.wrap (IntKind.i64.wrap (2*c)-1))) with
        |true=>exact ⟨true,fun N hN=>by obtain ⟨M,rfl⟩:∃M,N=M+1:=⟨N-1,by omega⟩;exact pure_of [(12,.b false),(15,.b false),(22,.b false),(27,.b true),(32,.b false),(40,.b false),(52,.b false),(58,.b true)] [] (pf8 h1 h2 h3 h4 h5 h6 h8 h9) (x:=boolX true) (bx:=[]) (by kernel_rfl) rfl⟩
        |false=>
         cases h10:(Int.ofNat (vs.length%2)==0) with
         |true=>exact ⟨true,fun N hN=>by obtain ⟨M,rfl⟩:∃M,N=M+1:=⟨N-1,by omega⟩;exact pure_of [(12,.b false),(15,.b false),(22,.b false),(27,.b true),(32,.b false),(40,.b false),(52,.b false),(58,.b false),(63,.b true)] [] (pf9 h1 h2 h3 h4 h5 h6 h8 h9 h10) (x:=boolX true) (bx:=[]) (by kernel_rfl) rfl⟩
         |false=>exact ⟨false,fun N hN=>by obtain ⟨M,rfl⟩:∃M,N=M+1:=⟨N-1,by omega⟩;exact pure_of [(12,.b false),(15,.b false),(22,.b false),(27,.b true),(32,.b false),(40,.b false),(52,.b false),(58,.b false),(63,.b false)] [] (pf9 h1 h2 h3 h4 h5 h6 h8 h9 h10) (x:=boolX false) (bx:=[]) (by kernel_rfl) rfl⟩
    |false=>
     cases h11:(decide (n<c)) with
     |true=>
      cases h12:(Int.ofNat vs.length !=IntKind.i64.wrap (IntKind.i64.wrap (2*n)+1)) with
      |true=>exact ⟨true,fun N hN=>by obtain ⟨M,rfl⟩:∃M,N=M+1:=⟨N-1,by omega⟩;exact pure_of [(12,.b false),(15,.b false),(22,.b false),(27,.b false),(40,.b true),(45,.b true)] [] (pf6 h1 h2 h3 h4 h11 h12) (x:=boolX true) (bx:=[]) (by kernel_rfl) rfl⟩
      |false=>exact ⟨false,fun N hN=>by obtain ⟨M,rfl⟩:∃M,N=M+1:=⟨N-1,by omega⟩;exact pure_of [(12,.b false),(15,.b false),(22,.b false),(27,.b false),(40,.b true),(45,.b false)] [] (pf6 h1 h2 h3 h4 h11 h12) (x:=boolX false) (bx:=[]) (by kernel_rfl) rfl⟩
     |false=>
      cases h13:(decide (Int.ofNat vs.length<IntKind.i64.wrap (IntKind.i64.wrap (2*IntKind.i64.wrap (n-c))+1))) with
      |true=>exact ⟨true,fun N hN=>by obtain ⟨M,rfl⟩:∃M,N=M+1:=⟨N-1,by omega⟩;exact pure_of [(12,.b false),(15,.b false),(22,.b false),(27,.b false),(40,.b false),(52,.b true)] [] (pf6 h1 h2 h3 h4 h11 h13) (x:=boolX true) (bx:=[]) (by kernel_rfl) rfl⟩
      |false=>
       cases h14:(decide (Int.ofNat vs.length>IntKind.i64.wrap (IntKind.i64.wrap (2*c)-1))) with
       |true=>exact ⟨true,fun N hN=>by obtain ⟨M,rfl⟩:∃M,N=M+1:=⟨N-1,by omega⟩;exact pure_of [(12,.b false),(15,.b false),(22,.b false),(27,.b false),(40,.b false),(52,.b false),(58,.b true)] [] (pf7 h1 h2 h3 h4 h11 h13 h14) (x:=boolX true) (bx:=[]) (by kernel_rfl) rfl⟩
       |false=>
        cases h15:(Int.ofNat (vs.length%2)==0) with
        |true=>exact ⟨true,fun N hN=>by obtain ⟨M,rfl⟩:∃M,N=M+1:=⟨N-1,by omega⟩;exact pure_of [(12,.b false),(15,.b false),(22,.b false),(27,.b false),(40,.b false),(52,.b false),(58,.b false),(63,.b true)] [] (pf8 h1 h2 h3 h4 h11 h13 h14 h15) (x:=boolX true) (bx:=[]) (by kernel_rfl) rfl⟩
        |false=>exact ⟨false,fun N hN=>by obtain ⟨M,rfl⟩:∃M,N=M+1:=⟨N-1,by omega⟩;exact pure_of [(12,.b false),(15,.b false),(22,.b false),(27,.b false),(40,.b false),(52,.b false),(58,.b false),(63,.b false)] [] (pf8 h1 h2 h3 h4 h11 h13 h14 h15) (x:=boolX false) (bx:=[]) (by kernel_rfl) rfl⟩
def h57 (ss:qaV)(j:Nat):St:=⟨[(25,.sl false 10 ss),(26,nat ss.length),(27,nat j)],[]⟩
def h61 (a b:Int)(ss:qaV)(j:Nat):St:=⟨[(3,.ptr 0 0 0),(30,.sl false 10 ss),(31,nat ss.length),(32,nat j)],[.var [num a,num b,.sl false 10 ss]]⟩
def h62 (a b c:Int)(ss:qaV)(j:Nat):St:=⟨[(3,.ptr 0 0 0),(5,num c),(45,.sl false 10 ss),(46,nat ss.length),(47,nat j)],[.var [num a,num b,.sl false 10 ss]]⟩
def h106 (ss:qaV)(j:Nat):St:=⟨[(15,.sl false 10 ss),(16,nat ss.length),(17,nat j)],[]⟩
def h107 (ss:qaV)(j:Nat):St:=⟨[(14,.sl false 10 ss),(15,nat ss.length),(16,nat j)],[]⟩
def h54 (ss:qaV)(x:Int)(f:Bool)(j:Nat):St:=⟨[(2,num x),(3,boolX f),(7,.sl false 10 ss),(8,nat ss.length),(9,nat j)],[]⟩
def h52 (ss:qaV)(x:Int)(j:Nat):St:=⟨[(4,num x),(16,.sl false 10 ss),(17,nat ss.length),(18,nat j)],[]⟩
theorem rd57 (ss:qaV)(a b:Int)(k1 k2 k3:Int)(k4:qaW)(k5 k6:qaV)(n t:Int)(ms vs:qaV)(j:Nat)(hg:ss[j]?=some [num k1,num k2,num k3,.v (.string k4),.sl false 6 k5,.sl false 7 k6,num n,num t,.sl false 10 ms,.sl false 6 vs])(hj:j<ss.length)(hj2:j<1000000):
  (∃r,goodN r/\∀M,1<=M->run (callF tab ext M) 0 M (loopAt 57 0) (h57 ss j)=some (.ret,r))\/(∃υ,canon 0 υ=some (h57 ss (j+1))/\∀M,1<=M->run (callF tab ext M) 0 M (loopAt 57 0) (h57 ss j)=some (.norm,υ)):=by
 have hlt:=lt_nat hj;have hw:=next_nat (j:=j) (by omega);obtain ⟨q,hq⟩:=scalar102 k1 k2 k3 k4 k5 k6;cases h1:(!q) with
 |true=>exact .inl ⟨⟨[(4,num 18)],[.var ([num k1,num k2,num k3,strX k4,.sl false 6 k5,.sl false 7 k6,num n,num t,.sl false 10 ms,.sl false 6 vs])]⟩,⟨_,_,rfl⟩,fun M hM=>by have hc:=hq M hM;exact run_of [(28,.b true),(29,.e ([num k1,num k2,num k3,strX k4,.sl false 6 k5,.sl false 7 k6,num n,num t,.sl false 10 ms,.sl false 6 vs])),(34,.p (boolX q)),(35,.b true)] [] (pf4 hlt hg hc h1) (lo':=[]) (by kernel_rfl)⟩
 |false=>
  cases h2:(n !=0) with
  |true=>exact .inl ⟨⟨[(4,num 10)],[.var ([num k1,num k2,num k3,strX k4,.sl false 6 k5,.sl false 7 k6,num n,num t,.sl false 10 ms,.sl false 6 vs])]⟩,⟨_,_,rfl⟩,fun M hM=>by have hc:=hq M hM;exact run_of [(28,.b true),(29,.e ([num k1,num k2,num k3,strX k4,.sl false 6 k5,.sl false 7 k6,num n,num t,.sl false 10 ms,.sl false 6 vs])),(34,.p (boolX q)),(35,.b false),(39,.b true)] [] (pf5 hlt hg hc h1 h2) (lo':=[]) (by kernel_rfl)⟩
  |false=>
   cases h3:(decide (Int.ofNat vs.length>0)) with
   |true=>exact .inl ⟨⟨[(4,num 10)],[.var ([num k1,num k2,num k3,strX k4,.sl false 6 k5,.sl false 7 k6,num n,num t,.sl false 10 ms,.sl false 6 vs])]⟩,⟨_,_,rfl⟩,fun M hM=>by have hc:=hq M hM;exact run_of [(28,.b true),(29,.e ([num k1,num k2,num k3,strX k4,.sl false 6 k5,.sl false 7 k6,num n,num t,.sl false 10 ms,.sl false 6 vs])),(34,.p (boolX q)),(35,.b false),(39,.b false),(44,.b true)] [] (pf6 hlt hg hc h1 h2 h3) (lo':=[]) (by kernel_rfl)⟩
   |false=>
    cases h4:(Int.ofNat ms.length==0) with
    |true=>exact .inl ⟨⟨[(4,num 4)],[.var ([num k1,num k2,num k3,strX k4,.sl false 6 k5,.sl false 7 k6,num n,num t,.sl false 10 ms,.sl false 6 vs])]⟩,⟨_,_,rfl⟩,fun M hM=>by have hc:=hq M hM;exact run_of [(28,.b true),(29,.e ([num k1,num k2,num k3,strX k4,.sl false 6 k5,.sl false 7 k6,num n,num t,.sl false 10 ms,.sl false 6 vs])),(34,.p (boolX q)),(35,.b false),(39,.b false),(44,.b false),(50,.b true)] [] (pf7 hlt hg hc h1 h2 h3 h4) (lo':=[]) (by kernel_rfl)⟩
    |false=>exact .inr ⟨⟨[(25,.sl false 10 ss),(26,nat ss.length),(27,nat (j+1))],[.var ([num k1,num k2,num k3,strX k4,.sl false 6 k5,.sl false 7 k6,num n,num t,.sl false 10 ms,.sl false 6 vs])]⟩,by kernel_rfl,fun M hM=>by have hc:=hq M hM;exact run_of [(28,.b true),(29,.e ([num k1,num k2,num k3,strX k4,.sl false 6 k5,.sl false 7 k6,num n,num t,.sl false 10 ms,.sl false 6 vs])),(34,.p (boolX q)),(35,.b false),(39,.b false),(44,.b false),(50,.b false),(51,.i (Int.ofNat (j+1)))] [] (pf8 hlt hg hc h1 h2 h3 h4 hw) (lo':=[]) (by kernel_rfl)⟩
theorem end57 (ss:qaV)(j:Nat)(h:¬j<ss.length)(M:Nat):run (callF tab ext M) 0 M (loopAt 57 0) (h57 ss j)=some (.exit 0,⟨[(25,.sl false 10 ss),(26,nat ss.length),(27,nat j),(28,boolX false)],[]⟩):=
 run_of [(28,.b false)] [] (pf1 (nlt_nat h)) (lo':=[]) (by kernel_rfl)
theorem rd61 (ss:qaV)(a b:Int)(k1 k2 k3:Int)(k4:qaW)(k5 k6:qaV)(n t:Int)(ms vs:qaV)(j:Nat)(hg:ss[j]?=some [num k1,num k2,num k3,.v (.string k4),.sl false 6 k5,.sl false 7 k6,num n,num t,.sl false 10 ms,.sl false 6 vs])(hj:j<ss.length)(hj2:j<1000000):
  (∃r,goodN r/\∀M,1<=M->run (callF tab ext M) 0 M (loopAt 61 0) (h61 a b ss j)=some (.ret,r))\/(∃υ,canon 0 υ=some (h61 a b ss (j+1))/\∀M,1<=M->run (callF tab ext M) 0 M (loopAt 61 0) (h61 a b ss j)=some (.norm,υ)):=by
 have hlt:=lt_nat hj;have hw:=next_nat (j:=j) (by omega);cases h1:(k1 !=2) with
 |true=>exact .inl ⟨⟨[(4,num 18)],[.var ([num a,num b,.sl false 10 ss]),.var ([num k1,num k2,num k3,strX k4,.sl false 6 k5,.sl false 7 k6,num n,num t,.sl false 10 ms,.sl false 6 vs])]⟩,⟨_,_,rfl⟩,fun M hM=>by exact run_of [(33,.b true),(34,.e ([num k1,num k2,num k3,strX k4,.sl false 6 k5,.sl false 7 k6,num n,num t,.sl false 10 ms,.sl false 6 vs])),(40,.b true)] [] (pf3 hlt hg h1) (lo':=[]) (by kernel_rfl)⟩
 |false=>
  cases h2:(decide (k2<1)) with
  |true=>exact .inl ⟨⟨[(4,num 2)],[.var ([num a,num b,.sl false 10 ss]),.var ([num k1,num k2,num k3,strX k4,.sl false 6 k5,.sl false 7 k6,num n,num t,.sl false 10 ms,.sl false 6 vs])]⟩,⟨_,_,rfl⟩,fun M hM=>by exact run_of [(33,.b true),(34,.e ([num k1,num k2,num k3,strX k4,.sl false 6 k5,.sl false 7 k6,num n,num t,.sl false 10 ms,.sl false 6 vs])),(40,.b false),(45,.b true)] [] (pf4 hlt hg h1 h2) (lo':=[]) (by kernel_rfl)⟩
  |false=>
   cases h3:(decide (k2>a)) with
   |true=>exact .inl ⟨⟨[(4,num 2)],[.var ([num a,num b,.sl false 10 ss]),.var ([num k1,num k2,num k3,strX k4,.sl false 6 k5,.sl false 7 k6,num n,num t,.sl false 10 ms,.sl false 6 vs])]⟩,⟨_,_,rfl⟩,fun M hM=>by exact run_of [(33,.b true),(34,.e ([num k1,num k2,num k3,strX k4,.sl false 6 k5,.sl false 7 k6,num n,num t,.sl false 10 ms,.sl false 6 vs])),(40,.b false),(45,.b false),(52,.b true)] [] (pf5 hlt hg h1 h2 h3) (lo':=[]) (by kernel_rfl)⟩
   |false=>
    cases h4:(n !=0) with
    |true=>exact .inl ⟨⟨[(4,num 10)],[.var ([num a,num b,.sl false 10 ss]),.var ([num k1,num k2,num k3,strX k4,.sl false 6 k5,.sl false 7 k6,num n,num t,.sl false 10 ms,.sl false 6 vs])]⟩,⟨_,_,rfl⟩,fun M hM=>by exact run_of [(33,.b true),(34,.e ([num k1,num k2,num k3,strX k4,.sl false 6 k5,.sl false 7 k6,num n,num t,.sl false 10 ms,.sl false 6 vs])),(40,.b false),(45,.b false),(52,.b false),(57,.b true)] [] (pf6 hlt hg h1 h2 h3 h4) (lo':=[]) (by kernel_rfl)⟩
    |false=>
     cases h5:(decide (Int.ofNat vs.length>0)) with
     |true=>exact .inl ⟨⟨[(4,num 10)],[.var ([num a,num b,.sl false 10 ss]),.var ([num k1,num k2,num k3,strX k4,.sl false 6 k5,.sl false 7 k6,num n,num t,.sl false 10 ms,.sl false 6 vs])]⟩,⟨_,_,rfl⟩,fun M hM=>by exact run_of [(33,.b true),(34,.e ([num k1,num k2,num k3,strX k4,.sl false 6 k5,.sl false 7 k6,num n,num t,.sl false 10 ms,.sl false 6 vs])),(40,.b false),(45,.b false),(52,.b false),(57,.b false),(62,.b true)] [] (pf7 hlt hg h1 h2 h3 h4 h5) (lo':=[]) (by kernel_rfl)⟩
     |false=>
      cases h6:(Int.ofNat ms.length==0) with
      |true=>exact .inl ⟨⟨[(4,num 4)],[.var ([num a,num b,.sl false 10 ss]),.var ([num k1,num k2,num k3,strX k4,.sl false 6 k5,.sl false 7 k6,num n,num t,.sl false 10 ms,.sl false 6 vs])]⟩,⟨_,_,rfl⟩,fun M hM=>by exact run_of [(33,.b true),(34,.e ([num k1,num k2,num k3,strX k4,.sl false 6 k5,.sl false 7 k6,num n,num t,.sl false 10 ms,.sl false 6 vs])),(40,.b false),(45,.b false),(52,.b false),(57,.b false),(62,.b false),(68,.b true)] [] (pf8 hlt hg h1 h2 h3 h4 h5 h6) (lo':=[]) (by kernel_rfl)⟩
      |false=>
       cases h7:(decide (Int.ofNat ms.length>1)) with
       |true=>exact .inl ⟨⟨[(4,num 5)],[.var ([num a,num b,.sl false 10 ss]),.var ([num k1,num k2,num k3,strX k4,.sl false 6 k5,.sl false 7 k6,num n,num t,.sl false 10 ms,.sl false 6 vs])]⟩,⟨_,_,rfl⟩,fun M hM=>by exact run_of [(33,.b true),(34,.e ([num k1,num k2,num k3,strX k4,.sl false 6 k5,.sl false 7 k6,num n,num t,.sl false 10 ms,.sl false 6 vs])),(40,.b false),(45,.b false),(52,.b false),(57,.b false),(62,.b false),(68,.b false),(73,.b true)] [] (pf9 hlt hg h1 h2 h3 h4 h5 h6 h7) (lo':=[]) (by kernel_rfl)⟩
       |false=>exact .inr ⟨⟨[(3,.ptr 0 0 0),(30,.sl false 10 ss),(31,nat ss.length),(32,nat (j+1))],[.var ([num a,num b,.sl false 10 ss]),.var ([num k1,num k2,num k3,strX k4,.sl false 6 k5,.sl false 7 k6,num n,num t,.sl false 10 ms,.sl false 6 vs])]⟩,by kernel_rfl,fun M hM=>by exact run_of [(33,.b true),(34,.e ([num k1,num k2,num k3,strX k4,.sl false 6 k5,.sl false 7 k6,num n,num t,.sl false 10 ms,.sl false 6 vs])),(40,.b false),(45,.b false),(52,.b false),(57,.b false),(62,.b false),(68,.b false),(73,.b false),(74,.i (Int.ofNat (j+1)))] [] (pf10 hlt hg h1 h2 h3 h4 h5 h6 h7 hw) (lo':=[]) (by kernel_rfl)⟩
theorem end61 (a b:Int)(ss:qaV)(j:Nat)(h:¬j<ss.length)(M:Nat):run (callF tab ext M) 0 M (loopAt 61 0) (h61 a b ss j)=some (.exit 1,⟨[(3,.ptr 0 0 0),(30,.sl false 10 ss),(31,nat ss.length),(32,nat j),(33,boolX false)],[.var [num a,num b,.sl false 10 ss]]⟩):=
 run_of [(33,.b false)] [] (pf1 (nlt_nat h)) (lo':=[]) (by kernel_rfl)
theorem rd62 (ss:qaV)(a b:Int)(k1 k2 k3:Int)(k4:qaW)(k5 k6:qaV)(n t:Int)(ms vs:qaV)(j:Nat)(c:Int)(y1 y2 y3:Int)(y4:qaW)(y5 y6:qaV)(yn yt:Int)(yms yvs:qaV)(hy:0<j->ss[j-1]?=some [num y1,num y2,num y3,.v (.string y4),.sl false 6 y5,.sl false 7 y6,num yn,num yt,.sl false 10 yms,.sl false 6 yvs])(hg:ss[j]?=some [num k1,num k2,num k3,.v (.string k4),.sl false 6 k5,.sl false 7 k6,num n,num t,.sl false 10 ms,.sl false 6 vs])(hj:j<ss.length)(hj2:j<1000000):
  (∃r,goodN r/\∀M,1<=M->run (callF tab ext M) 0 M (loopAt 62 0) (h62 a b c ss j)=some (.ret,r))\/(∃υ,canon 0 υ=some (h62 a b c ss (j+1))/\∀M,1<=M->run (callF tab ext M) 0 M (loopAt 62 0) (h62 a b c ss j)=some (.norm,υ)):=by
 have hlt:=lt_nat hj;have hw:=next_nat (j:=j) (by omega);obtain ⟨q,hq⟩:=wrong108 k1 k2 k3 k4 k5 k6 n t ms vs c;cases h1:(k1 !=2) with
 |true=>exact .inl ⟨⟨[(4,num 10)],[.var ([num a,num b,.sl false 10 ss]),.var ([num k1,num k2,num k3,strX k4,.sl false 6 k5,.sl false 7 k6,num n,num t,.sl false 10 ms,.sl false 6 vs])]⟩,⟨_,_,rfl⟩,fun M hM=>by have hc:=hq M hM;exact run_of [(48,.b true),(50,.e ([num k1,num k2,num k3,strX k4,.sl false 6 k5,.sl false 7 k6,num n,num t,.sl false 10 ms,.sl false 6 vs])),(55,.b true)] [] (pf3 hlt hg h1) (lo':=[]) (by kernel_rfl)⟩
 |false=>
  cases h2:(decide (k2<1)) with
  |true=>exact .inl ⟨⟨[(4,num 10)],[.var ([num a,num b,.sl false 10 ss]),.var ([num k1,num k2,num k3,strX k4,.sl false 6 k5,.sl false 7 k6,num n,num t,.sl false 10 ms,.sl false 6 vs])]⟩,⟨_,_,rfl⟩,fun M hM=>by have hc:=hq M hM;exact run_of [(48,.b true),(50,.e ([num k1,num k2,num k3,strX k4,.sl false 6 k5,.sl false 7 k6,num n,num t,.sl false 10 ms,.sl false 6 vs])),(55,.b false),(60,.b true)] [] (pf4 hlt hg h1 h2) (lo':=[]) (by kernel_rfl)⟩
  |false=>
   cases h3:(decide (Int.ofNat j>0)) with
   |true=>
    have hj0:0<j:=by have:=of_decide_eq_true h3;simp only [qam] at this;omega
    have hp:IntKind.i64.wrap (Int.ofNat j-1)=Int.ofNat (j-1):=by rw [IntKind.wrap_i64];simp only [qam];omega
    have hg2:=hy hj0;cases h4:(decide (k2<IntKind.i64.wrap (y2+c))) with
    |true=>exact .inl ⟨⟨[(4,num 10)],[.var ([num a,num b,.sl false 10 ss]),.var ([num k1,num k2,num k3,strX k4,.sl false 6 k5,.sl false 7 k6,num n,num t,.sl false 10 ms,.sl false 6 vs])]⟩,⟨_,_,rfl⟩,fun M hM=>by have hc:=hq M hM;exact run_of [(48,.b true),(50,.e ([num k1,num k2,num k3,strX k4,.sl false 6 k5,.sl false 7 k6,num n,num t,.sl false 10 ms,.sl false 6 vs])),(55,.b false),(60,.b false),(64,.b true),(72,.i (Int.ofNat (j-1))),(73,.e ([num y1,num y2,num y3,strX y4,.sl false 6 y5,.sl false 7 y6,num yn,num yt,.sl false 10 yms,.sl false 6 yvs])),(79,.b true)] [] (pf8 hlt hg h1 h2 h3 hp hg2 h4) (lo':=[]) (by kernel_rfl)⟩
    |false=>
     cases h5:(decide (k2>IntKind.i64.wrap (IntKind.i64.wrap (a-c)+1))) with
     |true=>exact .inl ⟨⟨[(4,num 10)],[.var ([num a,num b,.sl false 10 ss]),.var ([num k1,num k2,num k3,strX k4,.sl false 6 k5,.sl false 7 k6,num n,num t,.sl false 10 ms,.sl false 6 vs])]⟩,⟨_,_,rfl⟩,fun M hM=>by have hc:=hq M hM;exact run_of [(48,.b true),(50,.e ([num k1,num k2,num k3,strX k4,.sl false 6 k5,.sl false 7 k6,num n,num t,.sl false 10 ms,.sl false 6 vs])),(55,.b false),(60,.b false),(64,.b true),(72,.i (Int.ofNat (j-1))),(73,.e ([num y1,num y2,num y3,strX y4,.sl false 6 y5,.sl false 7 y6,num yn,num yt,.sl false 10 yms,.sl false 6 yvs])),(79,.b false),(91,.b true)] [] (pf9 hlt hg h1 h2 h3 hp hg2 h4 h5) (lo':=[]) (by kernel_rfl)⟩
     |false=>
      cases h6:(q) with
      |true=>exact .inl ⟨⟨[(4,num 10)],[.var ([num a,num b,.sl false 10 ss]),.var ([num k1,num k2,num k3,strX k4,.sl false 6 k5,.sl false 7 k6,num n,num t,.sl false 10 ms,.sl false 6 vs])]⟩,⟨_,_,rfl⟩,fun M hM=>by have hc:=hq M hM;exact run_of [(48,.b true),(50,.e ([num k1,num k2,num k3,strX k4,.sl false 6 k5,.sl false 7 k6,num n,num t,.sl false 10 ms,.sl false 6 vs])),(55,.b false),(60,.b false),(64,.b true),(72,.i (Int.ofNat (j-1))),(73,.e ([num y1,num y2,num y3,strX y4,.sl false 6 y5,.sl false 7 y6,num yn,num yt,.sl false 10 yms,.sl false 6 yvs])),(79,.b false),(91,.b false),(96,.p (boolX q)),(97,.b true)] [] (pf11 hlt hg h1 h2 h3 hp hg2 h4 h5 hc h6) (lo':=[]) (by kernel_rfl)⟩
      |false=>exact .inr ⟨⟨[(3,.ptr 0 0 0),(5,num c),(45,.sl false 10 ss),(46,nat ss.length),(47,nat (j+1))],[.var ([num a,num b,.sl false 10 ss]),.var ([num k1,num k2,num k3,strX k4,.sl false 6 k5,.sl false 7 k6,num n,num t,.sl false 10 ms,.sl false 6 vs])]⟩,by kernel_rfl,fun M hM=>by have hc:=hq M hM;exact run_of [(48,.b true),(50,.e ([num k1,num k2,num k3,strX k4,.sl false 6 k5,.sl false 7 k6,num n,num t,.sl false 10 ms,.sl false 6 vs])),(55,.b false),(60,.b false),(64,.b true),(72,.i (Int.ofNat (j-1))),(73,.e ([num y1,num y2,num y3,strX y4,.sl false 6 y5,.sl false 7 y6,num yn,num yt,.sl false 10 yms,.sl false 6 yvs])),(79,.b false),(91,.b false),(96,.p (boolX q)),(97,.b false),(98,.i (Int.ofNat (j+1)))] [] (pf12 hlt hg h1 h2 h3 hp hg2 h4 h5 hc h6 hw) (lo':=[]) (by kernel_rfl)⟩
   |false=>
    cases h7:(decide (k2>IntKind.i64.wrap (IntKind.i64.wrap (a-c)+1))) with
    |true=>exact .inl ⟨⟨[(4,num 10)],[.var ([num a,num b,.sl false 10 ss]),.var ([num k1,num k2,num k3,strX k4,.sl false 6 k5,.sl false 7 k6,num n,num t,.sl false 10 ms,.sl false 6 vs])]⟩,⟨_,_,rfl⟩,fun M hM=>by have hc:=hq M hM;exact run_of [(48,.b true),(50,.e ([num k1,num k2,num k3,strX k4,.sl false 6 k5,.sl false 7 k6,num n,num t,.sl false 10 ms,.sl false 6 vs])),(55,.b false),(60,.b false),(64,.b false),(91,.b true)] [] (pf6 hlt hg h1 h2 h3 h7) (lo':=[]) (by kernel_rfl)⟩
    |false=>
     cases h8:(q) with
     |true=>exact .inl ⟨⟨[(4,num 10)],[.var ([num a,num b,.sl false 10 ss]),.var ([num k1,num k2,num k3,strX k4,.sl false 6 k5,.sl false 7 k6,num n,num t,.sl false 10 ms,.sl false 6 vs])]⟩,⟨_,_,rfl⟩,fun M hM=>by have hc:=hq M hM;exact run_of [(48,.b true),(50,.e ([num k1,num k2,num k3,strX k4,.sl false 6 k5,.sl false 7 k6,num n,num t,.sl false 10 ms,.sl false 6 vs])),(55,.b false),(60,.b false),(64,.b false),(91,.b false),(96,.p (boolX q)),(97,.b true)] [] (pf8 hlt hg h1 h2 h3 h7 hc h8) (lo':=[]) (by kernel_rfl)⟩
     |false=>exact .inr ⟨⟨[(3,.ptr 0 0 0),(5,num c),(45,.sl false 10 ss),(46,nat ss.length),(47,nat (j+1))],[.var ([num a,num b,.sl false 10 ss]),.var ([num k1,num k2,num k3,strX k4,.sl false 6 k5,.sl false 7 k6,num n,num t,.sl false 10 ms,.sl false 6 vs])]⟩,by kernel_rfl,fun M hM=>by have hc:=hq M hM;exact run_of [(48,.b true),(50,.e ([num k1,num k2,num k3,strX k4,.sl false 6 k5,.sl false 7 k6,num n,num t,.sl false 10 ms,.sl false 6 vs])),(55,.b false),(60,.b false),(64,.b false),(91,.b false),(96,.p (boolX q)),(97,.b false),(98,.i (Int.ofNat (j+1)))] [] (pf9 hlt hg h1 h2 h3 h7 hc h8 hw) (lo':=[]) (by kernel_rfl)⟩
theorem end62 (a b c:Int)(ss:qaV)(j:Nat)(h:¬j<ss.length)(M:Nat):run (callF tab ext M) 0 M (loopAt 62 0) (h62 a b c ss j)=some (.exit 1,⟨[(3,.ptr 0 0 0),(5,num c),(45,.sl false 10 ss),(46,nat ss.length),(47,nat j),(48,boolX false)],[.var [num a,num b,.sl false 10 ss]]⟩):=
 run_of [(48,.b false)] [] (pf1 (nlt_nat h)) (lo':=[]) (by kernel_rfl)
theorem rd106 (ss:qaV)(a b:Int)(k1 k2 k3:Int)(k4:qaW)(k5 k6:qaV)(n t:Int)(ms vs:qaV)(j:Nat)(hg:ss[j]?=some [num k1,num k2,num k3,.v (.string k4),.sl false 6 k5,.sl false 7 k6,num n,num t,.sl false 10 ms,.sl false 6 vs])(hj:j<ss.length)(hj2:j<1000000):
  (∃r,goodB r/\∀M,1<=M->run (callF tab ext M) 0 M (loopAt 106 0) (h106 ss j)=some (.ret,r))\/(∃υ,canon 0 υ=some (h106 ss (j+1))/\∀M,1<=M->run (callF tab ext M) 0 M (loopAt 106 0) (h106 ss j)=some (.norm,υ)):=by
 have hlt:=lt_nat hj;have hw:=next_nat (j:=j) (by omega);obtain ⟨q,hq⟩:=null159 k1 k2 k3 k4 k5 k6;cases h1:(!q) with
 |true=>exact .inl ⟨⟨[(2,boolX false)],[.var ([num k1,num k2,num k3,strX k4,.sl false 6 k5,.sl false 7 k6,num n,num t,.sl false 10 ms,.sl false 6 vs])]⟩,⟨_,_,rfl⟩,fun M hM=>by have hc:=hq M hM;exact run_of [(18,.b true),(19,.e ([num k1,num k2,num k3,strX k4,.sl false 6 k5,.sl false 7 k6,num n,num t,.sl false 10 ms,.sl false 6 vs])),(23,.p (boolX q)),(24,.b true)] [] (pf4 hlt hg hc h1) (lo':=[]) (by kernel_rfl)⟩
 |false=>
  cases h2:(Int.ofNat ms.length==0) with
  |true=>exact .inl ⟨⟨[(2,boolX false)],[.var ([num k1,num k2,num k3,strX k4,.sl false 6 k5,.sl false 7 k6,num n,num t,.sl false 10 ms,.sl false 6 vs])]⟩,⟨_,_,rfl⟩,fun M hM=>by have hc:=hq M hM;exact run_of [(18,.b true),(19,.e ([num k1,num k2,num k3,strX k4,.sl false 6 k5,.sl false 7 k6,num n,num t,.sl false 10 ms,.sl false 6 vs])),(23,.p (boolX q)),(24,.b false),(29,.b true)] [] (pf5 hlt hg hc h1 h2) (lo':=[]) (by kernel_rfl)⟩
  |false=>
   cases h3:(n !=0) with
   |true=>exact .inl ⟨⟨[(2,boolX false)],[.var ([num k1,num k2,num k3,strX k4,.sl false 6 k5,.sl false 7 k6,num n,num t,.sl false 10 ms,.sl false 6 vs])]⟩,⟨_,_,rfl⟩,fun M hM=>by have hc:=hq M hM;exact run_of [(18,.b true),(19,.e ([num k1,num k2,num k3,strX k4,.sl false 6 k5,.sl false 7 k6,num n,num t,.sl false 10 ms,.sl false 6 vs])),(23,.p (boolX q)),(24,.b false),(29,.b false),(34,.b true)] [] (pf6 hlt hg hc h1 h2 h3) (lo':=[]) (by kernel_rfl)⟩
   |false=>
    cases h4:(t !=0) with
    |true=>exact .inl ⟨⟨[(2,boolX false)],[.var ([num k1,num k2,num k3,strX k4,.sl false 6 k5,.sl false 7 k6,num n,num t,.sl false 10 ms,.sl false 6 vs])]⟩,⟨_,_,rfl⟩,fun M hM=>by have hc:=hq M hM;exact run_of [(18,.b true),(19,.e ([num k1,num k2,num k3,strX k4,.sl false 6 k5,.sl false 7 k6,num n,num t,.sl false 10 ms,.sl false 6 vs])),(23,.p (boolX q)),(24,.b false),(29,.b false),(34,.b false),(39,.b true)] [] (pf7 hlt hg hc h1 h2 h3 h4) (lo':=[]) (by kernel_rfl)⟩
    |false=>
     cases h5:(decide (Int.ofNat vs.length>0)) with
     |true=>exact .inl ⟨⟨[(2,boolX false)],[.var ([num k1,num k2,num k3,strX k4,.sl false 6 k5,.sl false 7 k6,num n,num t,.sl false 10 ms,.sl false 6 vs])]⟩,⟨_,_,rfl⟩,fun M hM=>by have hc:=hq M hM;exact run_of [(18,.b true),(19,.e ([num k1,num k2,num k3,strX k4,.sl false 6 k5,.sl false 7 k6,num n,num t,.sl false 10 ms,.sl false 6 vs])),(23,.p (boolX q)),(24,.b false),(29,.b false),(34,.b false),(39,.b false),(45,.b true)] [] (pf8 hlt hg hc h1 h2 h3 h4 h5) (lo':=[]) (by kernel_rfl)⟩
     |false=>exact .inr ⟨⟨[(15,.sl false 10 ss),(16,nat ss.length),(17,nat (j+1))],[.var ([num k1,num k2,num k3,strX k4,.sl false 6 k5,.sl false 7 k6,num n,num t,.sl false 10 ms,.sl false 6 vs])]⟩,by kernel_rfl,fun M hM=>by have hc:=hq M hM;exact run_of [(18,.b true),(19,.e ([num k1,num k2,num k3,strX k4,.sl false 6 k5,.sl false 7 k6,num n,num t,.sl false 10 ms,.sl false 6 vs])),(23,.p (boolX q)),(24,.b false),(29,.b false),(34,.b false),(39,.b false),(45,.b false),(47,.i (Int.ofNat (j+1)))] [] (pf9 hlt hg hc h1 h2 h3 h4 h5 hw) (lo':=[]) (by kernel_rfl)⟩
theorem end106 (ss:qaV)(j:Nat)(h:¬j<ss.length)(M:Nat):run (callF tab ext M) 0 M (loopAt 106 0) (h106 ss j)=some (.exit 0,⟨[(15,.sl false 10 ss),(16,nat ss.length),(17,nat j),(18,boolX false)],[]⟩):=
 run_of [(18,.b false)] [] (pf1 (nlt_nat h)) (lo':=[]) (by kernel_rfl)
theorem rd107 (ss:qaV)(a b:Int)(k1 k2 k3:Int)(k4:qaW)(k5 k6:qaV)(n t:Int)(ms vs:qaV)(j:Nat)(hg:ss[j]?=some [num k1,num k2,num k3,.v (.string k4),.sl false 6 k5,.sl false 7 k6,num n,num t,.sl false 10 ms,.sl false 6 vs])(hj:j<ss.length)(hj2:j<1000000):
  (∃r,goodB r/\∀M,1<=M->run (callF tab ext M) 0 M (loopAt 107 0) (h107 ss j)=some (.ret,r))\/(∃υ,canon 0 υ=some (h107 ss (j+1))/\∀M,1<=M->run (callF tab ext M) 0 M (loopAt 107 0) (h107 ss j)=some (.norm,υ)):=by
 have hlt:=lt_nat hj;have hw:=next_nat (j:=j) (by omega);cases h1:(Int.ofNat ms.length==0) with
 |true=>exact .inl ⟨⟨[(2,boolX false)],[.var ([num k1,num k2,num k3,strX k4,.sl false 6 k5,.sl false 7 k6,num n,num t,.sl false 10 ms,.sl false 6 vs])]⟩,⟨_,_,rfl⟩,fun M hM=>by exact run_of [(17,.b true),(18,.e ([num k1,num k2,num k3,strX k4,.sl false 6 k5,.sl false 7 k6,num n,num t,.sl false 10 ms,.sl false 6 vs])),(23,.b true)] [] (pf3 hlt hg h1) (lo':=[]) (by kernel_rfl)⟩
 |false=>
  cases h2:(k1 !=2) with
  |true=>exact .inl ⟨⟨[(2,boolX false)],[.var ([num k1,num k2,num k3,strX k4,.sl false 6 k5,.sl false 7 k6,num n,num t,.sl false 10 ms,.sl false 6 vs])]⟩,⟨_,_,rfl⟩,fun M hM=>by exact run_of [(17,.b true),(18,.e ([num k1,num k2,num k3,strX k4,.sl false 6 k5,.sl false 7 k6,num n,num t,.sl false 10 ms,.sl false 6 vs])),(23,.b false),(28,.b true)] [] (pf4 hlt hg h1 h2) (lo':=[]) (by kernel_rfl)⟩
  |false=>
   cases h3:(decide (k2<1)) with
   |true=>exact .inl ⟨⟨[(2,boolX false)],[.var ([num k1,num k2,num k3,strX k4,.sl false 6 k5,.sl false 7 k6,num n,num t,.sl false 10 ms,.sl false 6 vs])]⟩,⟨_,_,rfl⟩,fun M hM=>by exact run_of [(17,.b true),(18,.e ([num k1,num k2,num k3,strX k4,.sl false 6 k5,.sl false 7 k6,num n,num t,.sl false 10 ms,.sl false 6 vs])),(23,.b false),(28,.b false),(34,.b true)] [] (pf5 hlt hg h1 h2 h3) (lo':=[]) (by kernel_rfl)⟩
   |false=>
    cases h4:(k2 !=t) with
    |true=>exact .inl ⟨⟨[(2,boolX false)],[.var ([num k1,num k2,num k3,strX k4,.sl false 6 k5,.sl false 7 k6,num n,num t,.sl false 10 ms,.sl false 6 vs])]⟩,⟨_,_,rfl⟩,fun M hM=>by exact run_of [(17,.b true),(18,.e ([num k1,num k2,num k3,strX k4,.sl false 6 k5,.sl false 7 k6,num n,num t,.sl false 10 ms,.sl false 6 vs])),(23,.b false),(28,.b false),(34,.b false),(42,.b true)] [] (pf6 hlt hg h1 h2 h3 h4) (lo':=[]) (by kernel_rfl)⟩
    |false=>
     cases h5:(n !=0) with
     |true=>exact .inl ⟨⟨[(2,boolX false)],[.var ([num k1,num k2,num k3,strX k4,.sl false 6 k5,.sl false 7 k6,num n,num t,.sl false 10 ms,.sl false 6 vs])]⟩,⟨_,_,rfl⟩,fun M hM=>by exact run_of [(17,.b true),(18,.e ([num k1,num k2,num k3,strX k4,.sl false 6 k5,.sl false 7 k6,num n,num t,.sl false 10 ms,.sl false 6 vs])),(23,.b false),(28,.b false),(34,.b false),(42,.b false),(47,.b true)] [] (pf7 hlt hg h1 h2 h3 h4 h5) (lo':=[]) (by kernel_rfl)⟩
     |false=>
      cases h6:(decide (Int.ofNat vs.length>0)) with
      |true=>exact .inl ⟨⟨[(2,boolX false)],[.var ([num k1,num k2,num k3,strX k4,.sl false 6 k5,.sl false 7 k6,num n,num t,.sl false 10 ms,.sl false 6 vs])]⟩,⟨_,_,rfl⟩,fun M hM=>by exact run_of [(17,.b true),(18,.e ([num k1,num k2,num k3,strX k4,.sl false 6 k5,.sl false 7 k6,num n,num t,.sl false 10 ms,.sl false 6 vs])),(23,.b false),(28,.b false),(34,.b false),(42,.b false),(47,.b false),(53,.b true)] [] (pf8 hlt hg h1 h2 h3 h4 h5 h6) (lo':=[]) (by kernel_rfl)⟩
      |false=>exact .inr ⟨⟨[(14,.sl false 10 ss),(15,nat ss.length),(16,nat (j+1))],[.var ([num k1,num k2,num k3,strX k4,.sl false 6 k5,.sl false 7 k6,num n,num t,.sl false 10 ms,.sl false 6 vs])]⟩,by kernel_rfl,fun M hM=>by exact run_of [(17,.b true),(18,.e ([num k1,num k2,num k3,strX k4,.sl false 6 k5,.sl false 7 k6,num n,num t,.sl false 10 ms,.sl false 6 vs])),(23,.b false),(28,.b false),(34,.b false),(42,.b false),(47,.b false),(53,.b false),(55,.i (Int.ofNat (j+1)))] [] (pf9 hlt hg h1 h2 h3 h4 h5 h6 hw) (lo':=[]) (by kernel_rfl)⟩
theorem end107 (ss:qaV)(j:Nat)(h:¬j<ss.length)(M:Nat):run (callF tab ext M) 0 M (loopAt 107 0) (h107 ss j)=some (.exit 0,⟨[(14,.sl false 10 ss),(15,nat ss.length),(16,nat j),(17,boolX false)],[]⟩):=
 run_of [(17,.b false)] [] (pf1 (nlt_nat h)) (lo':=[]) (by kernel_rfl)
theorem rd54 (ss:qaV)(a b:Int)(k1 k2 k3:Int)(k4:qaW)(k5 k6:qaV)(n t:Int)(ms vs:qaV)(j:Nat)(x:Int)(f:Bool)(hg:ss[j]?=some [num k1,num k2,num k3,.v (.string k4),.sl false 6 k5,.sl false 7 k6,num n,num t,.sl false 10 ms,.sl false 6 vs])(hj:j<ss.length)(hj2:j<1000000):
  ∃x' f' υ,canon 0 υ=some (h54 ss x' f' (j+1))/\∀M,1<=M->run (callF tab ext M) 0 M (loopAt 54 0) (h54 ss x f j)=some (.norm,υ):=by
 have hlt:=lt_nat hj;have hw:=next_nat (j:=j) (by omega);cases h1:(decide (t>0)) with
 |true=>
  rcases Bool.eq_false_or_eq_true f with h2|h2
  ·
   cases h3:(decide (t<x)) with
   |true=>exact ⟨t,true,⟨[(2,num t),(3,boolX true),(7,.sl false 10 ss),(8,nat ss.length),(9,nat (j+1))],[.var ([num k1,num k2,num k3,strX k4,.sl false 6 k5,.sl false 7 k6,num n,num t,.sl false 10 ms,.sl false 6 vs])]⟩,by kernel_rfl,fun M hM=>run_of [(10,.b true),(11,.e ([num k1,num k2,num k3,strX k4,.sl false 6 k5,.sl false 7 k6,num n,num t,.sl false 10 ms,.sl false 6 vs])),(15,.b true),(17,.b true),(23,.b true),(28,.i (Int.ofNat (j+1)))] [] (pf6 hlt hg h1 h2 h3 hw) (lo':=[]) (by kernel_rfl)⟩
   |false=>exact ⟨x,f,⟨[(2,num x),(3,boolX f),(7,.sl false 10 ss),(8,nat ss.length),(9,nat (j+1))],[.var ([num k1,num k2,num k3,strX k4,.sl false 6 k5,.sl false 7 k6,num n,num t,.sl false 10 ms,.sl false 6 vs])]⟩,by kernel_rfl,fun M hM=>run_of [(10,.b true),(11,.e ([num k1,num k2,num k3,strX k4,.sl false 6 k5,.sl false 7 k6,num n,num t,.sl false 10 ms,.sl false 6 vs])),(15,.b true),(17,.b true),(23,.b false),(28,.i (Int.ofNat (j+1)))] [] (pf6 hlt hg h1 h2 h3 hw) (lo':=[]) (by kernel_rfl)⟩
  ·
   exact ⟨t,true,⟨[(2,num t),(3,boolX true),(7,.sl false 10 ss),(8,nat ss.length),(9,nat (j+1))],[.var ([num k1,num k2,num k3,strX k4,.sl false 6 k5,.sl false 7 k6,num n,num t,.sl false 10 ms,.sl false 6 vs])]⟩,by kernel_rfl,fun M hM=>run_of [(10,.b true),(11,.e ([num k1,num k2,num k3,strX k4,.sl false 6 k5,.sl false 7 k6,num n,num t,.sl false 10 ms,.sl false 6 vs])),(15,.b true),(17,.b false),(28,.i (Int.ofNat (j+1)))] [] (pf5 hlt hg h1 h2 hw) (lo':=[]) (by kernel_rfl)⟩
 |false=>exact ⟨x,f,⟨[(2,num x),(3,boolX f),(7,.sl false 10 ss),(8,nat ss.length),(9,nat (j+1))],[.var ([num k1,num k2,num k3,strX k4,.sl false 6 k5,.sl false 7 k6,num n,num t,.sl false 10 ms,.sl false 6 vs])]⟩,by kernel_rfl,fun M hM=>run_of [(10,.b true),(11,.e ([num k1,num k2,num k3,strX k4,.sl false 6 k5,.sl false 7 k6,num n,num t,.sl false 10 ms,.sl false 6 vs])),(15,.b false),(28,.i (Int.ofNat (j+1)))] [] (pf4 hlt hg h1 hw) (lo':=[]) (by kernel_rfl)⟩
theorem end54 (ss:qaV)(x:Int)(f:Bool)(j:Nat)(h:¬j<ss.length)(M:Nat):run (callF tab ext M) 0 M (loopAt 54 0) (h54 ss x f j)=some (.exit 0,⟨[(2,num x),(3,boolX f),(7,.sl false 10 ss),(8,nat ss.length),(9,nat j),(10,boolX false)],[]⟩):=
 run_of [(10,.b false)] [] (pf1 (nlt_nat h)) (lo':=[]) (by kernel_rfl)
theorem rd52 (ss:qaV)(a b:Int)(k1 k2 k3:Int)(k4:qaW)(k5 k6:qaV)(n t:Int)(ms vs:qaV)(j:Nat)(x:Int)(hg:ss[j]?=some [num k1,num k2,num k3,.v (.string k4),.sl false 6 k5,.sl false 7 k6,num n,num t,.sl false 10 ms,.sl false 6 vs])(hj:j<ss.length)(hj2:j<1000000):
  ∃x' υ,canon 0 υ=some (h52 ss x' (j+1))/\∀M,1<=M->run (callF tab ext M) 0 M (loopAt 52 0) (h52 ss x j)=some (.norm,υ):=by
 have hlt:=lt_nat hj;have hw:=next_nat (j:=j) (by omega);cases h1:(Int.ofNat j==0) with
 |true=>exact ⟨t,⟨[(4,num t),(16,.sl false 10 ss),(17,nat ss.length),(18,nat (j+1))],[.var ([num k1,num k2,num k3,strX k4,.sl false 6 k5,.sl false 7 k6,num n,num t,.sl false 10 ms,.sl false 6 vs])]⟩,by kernel_rfl,fun M hM=>run_of [(19,.b true),(21,.e ([num k1,num k2,num k3,strX k4,.sl false 6 k5,.sl false 7 k6,num n,num t,.sl false 10 ms,.sl false 6 vs])),(24,.b true),(33,.i (Int.ofNat (j+1)))] [] (pf4 hlt hg h1 hw) (lo':=[]) (by kernel_rfl)⟩
 |false=>
  cases h2:(decide (t<x)) with
  |true=>exact ⟨t,⟨[(4,num t),(16,.sl false 10 ss),(17,nat ss.length),(18,nat (j+1))],[.var ([num k1,num k2,num k3,strX k4,.sl false 6 k5,.sl false 7 k6,num n,num t,.sl false 10 ms,.sl false 6 vs])]⟩,by kernel_rfl,fun M hM=>run_of [(19,.b true),(21,.e ([num k1,num k2,num k3,strX k4,.sl false 6 k5,.sl false 7 k6,num n,num t,.sl false 10 ms,.sl false 6 vs])),(24,.b false),(29,.b true),(33,.i (Int.ofNat (j+1)))] [] (pf5 hlt hg h1 h2 hw) (lo':=[]) (by kernel_rfl)⟩
  |false=>exact ⟨x,⟨[(4,num x),(16,.sl false 10 ss),(17,nat ss.length),(18,nat (j+1))],[.var ([num k1,num k2,num k3,strX k4,.sl false 6 k5,.sl false 7 k6,num n,num t,.sl false 10 ms,.sl false 6 vs])]⟩,by kernel_rfl,fun M hM=>run_of [(19,.b true),(21,.e ([num k1,num k2,num k3,strX k4,.sl false 6 k5,.sl false 7 k6,num n,num t,.sl false 10 ms,.sl false 6 vs])),(24,.b false),(29,.b false),(33,.i (Int.ofNat (j+1)))] [] (pf5 hlt hg h1 h2 hw) (lo':=[]) (by kernel_rfl)⟩
theorem end52 (ss:qaV)(x:Int)(j:Nat)(h:¬j<ss.length)(M:Nat):run (callF tab ext M) 0 M (loopAt 52 0) (h52 ss x j)=some (.exit 0,⟨[(4,num x),(16,.sl false 10 ss),(17,nat ss.length),(18,nat j),(19,boolX false)],[]⟩):=
 run_of [(19,.b false)] [] (pf1 (nlt_nat h)) (lo':=[]) (by kernel_rfl)
theorem slot_raw (ss:List Slt)(j:Nat)(hj:j<(sltsC ss).length):∃(k1 k2 k3:Int) (k4:qaW) (k5 k6:qaV) (n t:Int) (ms vs:qaV),(sltsC ss)[j]?=some [num k1,num k2,num k3,.v (.string k4),.sl false 6 k5,.sl false 7 k6,num n,num t,.sl false 10 ms,.sl false 6 vs]:=by have hn:=sltsC_length ss;have hg:=sltsC_get (l:=ss) (j:=j) (by omega);generalize ss[j]=x at hg;obtain ⟨⟨k1,k2,k3,k4,k5,k6⟩,n,t,ms,vs⟩:=x;exact ⟨k1,k2,k3,k4,cellsL k5,cellsF k6,n,t,msgsC ms,cellsL vs,hg⟩
theorem loop57 (ss:List Slt)(hl:(sltsC ss).length<1000000)(hτ:canon 0 τ=some (h57 (sltsC ss) 0)):(∃r,goodN r/\∀M,1<=M->(sltsC ss).length<M->run (callF tab ext M) 0 M (.loop (loopAt 57 0)) τ=some (.ret,r))\/(∀M,1<=M->(sltsC ss).length<M->run (callF tab ext M) 0 M (.loop (loopAt 57 0)) τ=some (.exit 0,⟨[(25,.sl false 10 (sltsC ss)),(26,nat (sltsC ss).length),(27,nat (sltsC ss).length),(28,boolX false)],[]⟩)):=by refine scan (H:=fun j=>h57 (sltsC ss) j) goodN hτ (fun j hj=>?_) (fun M hM=>end57 (sltsC ss) _ (qar _) M) (by simp);obtain ⟨k1,k2,k3,k4,k5,k6,n,t,ms,vs,hg⟩:=slot_raw ss j hj;exact rd57 (sltsC ss) 0 0 k1 k2 k3 k4 k5 k6 n t ms vs j hg hj (by omega)
theorem loop61 (ss:List Slt)(a b:Int)(hl:(sltsC ss).length<1000000)(hτ:canon 0 τ=some (h61 a b (sltsC ss) 0)):(∃r,goodN r/\∀M,1<=M->(sltsC ss).length<M->run (callF tab ext M) 0 M (.loop (loopAt 61 0)) τ=some (.ret,r))\/(∀M,1<=M->(sltsC ss).length<M->run (callF tab ext M) 0 M (.loop (loopAt 61 0)) τ=some (.exit 1,⟨[(3,.ptr 0 0 0),(30,.sl false 10 (sltsC ss)),(31,nat (sltsC ss).length),(32,nat (sltsC ss).length),(33,boolX false)],[.var [num a,num b,.sl false 10 (sltsC ss)]]⟩)):=by refine scan (H:=fun j=>h61 a b (sltsC ss) j) goodN hτ (fun j hj=>?_) (fun M hM=>end61 a b (sltsC ss) _ (qar _) M) (by simp);obtain ⟨k1,k2,k3,k4,k5,k6,n,t,ms,vs,hg⟩:=slot_raw ss j hj;exact rd61 (sltsC ss) a b k1 k2 k3 k4 k5 k6 n t ms vs j hg hj (by omega)
theorem loop62 (ss:List Slt)(a b c:Int)(hl:(sltsC ss).length<1000000)(hτ:canon 0 τ=some (h62 a b c (sltsC ss) 0)):(∃r,goodN r/\∀M,1<=M->(sltsC ss).length<M->run (callF tab ext M) 0 M (.loop (loopAt 62 0)) τ=some (.ret,r))\/(∀M,1<=M->(sltsC ss).length<M->run (callF tab ext M) 0 M (.loop (loopAt 62 0)) τ=some (.exit 1,⟨[(3,.ptr 0 0 0),(5,num c),(45,.sl false 10 (sltsC ss)),(46,nat (sltsC ss).length),(47,nat (sltsC ss).length),(48,boolX false)],[.var [num a,num b,.sl false 10 (sltsC ss)]]⟩)):=by
 refine scan (H:=fun j=>h62 a b c (sltsC ss) j) goodN hτ (fun j hj=>?_) (fun M hM=>end62 a b c (sltsC ss) _ (qar _) M) (by simp);obtain ⟨k1,k2,k3,k4,k5,k6,n,t,ms,vs,hg⟩:=slot_raw ss j hj;have hy:∃(y1 y2 y3:Int) (y4:qaW) (y5 y6:qaV) (yn yt:Int) (yms yvs:qaV),0<j->(sltsC ss)[j-1]?=some [num y1,num y2,num y3,.v (.string y4),.sl false 6 y5,.sl false 7 y6,num yn,num yt,.sl false 10 yms,.sl false 6 yvs]:=by
  by_cases h0:0<j;·obtain ⟨y1,y2,y3,y4,y5,y6,yn,yt,yms,yvs,h⟩:=slot_raw ss (j-1) (by omega);exact ⟨y1,y2,y3,y4,y5,y6,yn,yt,yms,yvs,fun _=>h⟩
  exact ⟨0,0,0,⟨#[]⟩,[],[],0,0,[],[],fun h=>absurd h h0⟩
 obtain ⟨y1,y2,y3,y4,y5,y6,yn,yt,yms,yvs,hy⟩:=hy;exact rd62 (sltsC ss) a b k1 k2 k3 k4 k5 k6 n t ms vs j c y1 y2 y3 y4 y5 y6 yn yt yms yvs hy hg hj (by omega)
theorem loop106 (ss:List Slt)(hl:(sltsC ss).length<1000000)(hτ:canon 0 τ=some (h106 (sltsC ss) 0)):(∃r,goodB r/\∀M,1<=M->(sltsC ss).length<M->run (callF tab ext M) 0 M (.loop (loopAt 106 0)) τ=some (.ret,r))\/(∀M,1<=M->(sltsC ss).length<M->run (callF tab ext M) 0 M (.loop (loopAt 106 0)) τ=some (.exit 0,⟨[(15,.sl false 10 (sltsC ss)),(16,nat (sltsC ss).length),(17,nat (sltsC ss).length),(18,boolX false)],[]⟩)):=by refine scan (H:=fun j=>h106 (sltsC ss) j) goodB hτ (fun j hj=>?_) (fun M hM=>end106 (sltsC ss) _ (qar _) M) (by simp);obtain ⟨k1,k2,k3,k4,k5,k6,n,t,ms,vs,hg⟩:=slot_raw ss j hj;exact rd106 (sltsC ss) 0 0 k1 k2 k3 k4 k5 k6 n t ms vs j hg hj (by omega)
theorem loop107 (ss:List Slt)(hl:(sltsC ss).length<1000000)(hτ:canon 0 τ=some (h107 (sltsC ss) 0)):(∃r,goodB r/\∀M,1<=M->(sltsC ss).length<M->run (callF tab ext M) 0 M (.loop (loopAt 107 0)) τ=some (.ret,r))\/(∀M,1<=M->(sltsC ss).length<M->run (callF tab ext M) 0 M (.loop (loopAt 107 0)) τ=some (.exit 0,⟨[(14,.sl false 10 (sltsC ss)),(15,nat (sltsC ss).length),(16,nat (sltsC ss).length),(17,boolX false)],[]⟩)):=by refine scan (H:=fun j=>h107 (sltsC ss) j) goodB hτ (fun j hj=>?_) (fun M hM=>end107 (sltsC ss) _ (qar _) M) (by simp);obtain ⟨k1,k2,k3,k4,k5,k6,n,t,ms,vs,hg⟩:=slot_raw ss j hj;exact rd107 (sltsC ss) 0 0 k1 k2 k3 k4 k5 k6 n t ms vs j hg hj (by omega)
theorem fn106 (s:Stt)(hs:s.small):∃q:Bool,∀N,1010<=N->Gam.pureD (callF tab ext N) 106 [.agg s.cells]=some (boolX q):=by
 have hsl:=hs.slots;obtain ⟨a,b,sl⟩:=s;dsimp only at hsl;have hn:=sltsC_length sl;have hL:=loop106 sl (by omega) (τ:=⟨[(15,.sl false 10 (sltsC sl)),(16,nat (sltsC sl).length),(17,num 0)],[.var [num a,num b,.sl false 10 (sltsC sl)]]⟩) (by kernel_rfl);obtain ⟨ss,hss⟩:∃ss,ss=sltsC sl:=⟨_,rfl⟩;show ∃q:Bool,∀N,1010<=N->Gam.pureD (callF tab ext N) 106 [.agg [num a,num b,.sl false 10 (sltsC sl)]]=some (boolX q);rw [<-hss] at hL hn ⊢;rcases hL with ⟨_,⟨g,bx,rfl⟩,hls⟩|hls
 ·cases h1:(decide (a<0)) with
  |true=>exact ⟨false,fun N hN=>by obtain ⟨M,rfl⟩:∃M,N=M+1:=⟨N-1,by omega⟩;have hl:=hls M (by omega) (by omega);exact pure_of [(7,.b true)] [] (pf1 h1) (x:=boolX false) (bx:=[]) (by kernel_rfl) rfl⟩
  |false=>
   cases h2:(decide (Int.ofNat ss.length>1)) with
   |true=>exact ⟨false,fun N hN=>by obtain ⟨M,rfl⟩:∃M,N=M+1:=⟨N-1,by omega⟩;have hl:=hls M (by omega) (by omega);exact pure_of [(7,.b false),(12,.b true)] [] (pf2 h1 h2) (x:=boolX false) (bx:=[]) (by kernel_rfl) rfl⟩
   |false=>exact ⟨g,fun N hN=>by obtain ⟨M,rfl⟩:∃M,N=M+1:=⟨N-1,by omega⟩;have hl:=hls M (by omega) (by omega);exact pure_of [(7,.b false),(12,.b false)] [(.ret,⟨[(2,boolX g)],bx⟩)] (pf3 h1 h2 hl) (x:=boolX g) (bx:=[]) (by kernel_rfl) rfl⟩
 cases h1:(decide (a<0)) with
 |true=>exact ⟨false,fun N hN=>by obtain ⟨M,rfl⟩:∃M,N=M+1:=⟨N-1,by omega⟩;have hl:=hls M (by omega) (by omega);exact pure_of [(7,.b true)] [] (pf1 h1) (x:=boolX false) (bx:=[]) (by kernel_rfl) rfl⟩
 |false=>
  cases h2:(decide (Int.ofNat ss.length>1)) with
  |true=>exact ⟨false,fun N hN=>by obtain ⟨M,rfl⟩:∃M,N=M+1:=⟨N-1,by omega⟩;have hl:=hls M (by omega) (by omega);exact pure_of [(7,.b false),(12,.b true)] [] (pf2 h1 h2) (x:=boolX false) (bx:=[]) (by kernel_rfl) rfl⟩
  |false=>exact ⟨true,fun N hN=>by obtain ⟨M,rfl⟩:∃M,N=M+1:=⟨N-1,by omega⟩;have hl:=hls M (by omega) (by omega);exact pure_of [(7,.b false),(12,.b false)] [(.exit 0,⟨[(15,.sl false 10 ss),(16,nat ss.length),(17,nat ss.length),(18,boolX false)],[]⟩)] (pf3 h1 h2 hl) (x:=boolX true) (bx:=[]) (by kernel_rfl) rfl⟩
theorem fn107 (s:Stt)(hs:s.small):∃q:Bool,∀N,1010<=N->Gam.pureD (callF tab ext N) 107 [.agg s.cells]=some (boolX q):=by
 have hsl:=hs.slots;obtain ⟨a,b,sl⟩:=s;dsimp only at hsl;have hn:=sltsC_length sl;have hL:=loop107 sl (by omega) (τ:=⟨[(14,.sl false 10 (sltsC sl)),(15,nat (sltsC sl).length),(16,num 0)],[.var [num a,num b,.sl false 10 (sltsC sl)]]⟩) (by kernel_rfl);obtain ⟨ss,hss⟩:∃ss,ss=sltsC sl:=⟨_,rfl⟩;show ∃q:Bool,∀N,1010<=N->Gam.pureD (callF tab ext N) 107 [.agg [num a,num b,.sl false 10 (sltsC sl)]]=some (boolX q);rw [<-hss] at hL hn ⊢;rcases hL with ⟨_,⟨g,bx,rfl⟩,hls⟩|hls
 ·cases h1:(a !=0) with
  |true=>exact ⟨false,fun N hN=>by obtain ⟨M,rfl⟩:∃M,N=M+1:=⟨N-1,by omega⟩;have hl:=hls M (by omega) (by omega);exact pure_of [(7,.b true)] [] (pf1 h1) (x:=boolX false) (bx:=[]) (by kernel_rfl) rfl⟩
  |false=>
   cases h2:(b !=0) with
   |true=>exact ⟨false,fun N hN=>by obtain ⟨M,rfl⟩:∃M,N=M+1:=⟨N-1,by omega⟩;have hl:=hls M (by omega) (by omega);exact pure_of [(7,.b false),(11,.b true)] [] (pf2 h1 h2) (x:=boolX false) (bx:=[]) (by kernel_rfl) rfl⟩
   |false=>exact ⟨g,fun N hN=>by obtain ⟨M,rfl⟩:∃M,N=M+1:=⟨N-1,by omega⟩;have hl:=hls M (by omega) (by omega);exact pure_of [(7,.b false),(11,.b false)] [(.ret,⟨[(2,boolX g)],bx⟩)] (pf3 h1 h2 hl) (x:=boolX g) (bx:=[]) (by kernel_rfl) rfl⟩
 cases h1:(a !=0) with
 |true=>exact ⟨false,fun N hN=>by obtain ⟨M,rfl⟩:∃M,N=M+1:=⟨N-1,by omega⟩;have hl:=hls M (by omega) (by omega);exact pure_of [(7,.b true)] [] (pf1 h1) (x:=boolX false) (bx:=[]) (by kernel_rfl) rfl⟩
 |false=>
  cases h2:(b !=0) with
  |true=>exact ⟨false,fun N hN=>by obtain ⟨M,rfl⟩:∃M,N=M+1:=⟨N-1,by omega⟩;have hl:=hls M (by omega) (by omega);exact pure_of [(7,.b false),(11,.b true)] [] (pf2 h1 h2) (x:=boolX false) (bx:=[]) (by kernel_rfl) rfl⟩
  |false=>exact ⟨true,fun N hN=>by obtain ⟨M,rfl⟩:∃M,N=M+1:=⟨N-1,by omega⟩;have hl:=hls M (by omega) (by omega);exact pure_of [(7,.b false),(11,.b false)] [(.exit 0,⟨[(14,.sl false 10 ss),(15,nat ss.length),(16,nat ss.length),(17,boolX false)],[]⟩)] (pf3 h1 h2 hl) (x:=boolX true) (bx:=[]) (by kernel_rfl) rfl⟩
theorem fn57 (nd:Nod)(s:Stt)(hs:s.small):∃c:Int,∀N,190080<=N->Gam.pureD (callF tab ext N) 57 [.agg nd.cells,.agg s.cells]=some (num c):=by
 obtain ⟨f,_,hfs⟩:=state_ex s hs;have hsl:=hs.slots;obtain ⟨a,b,sl⟩:=s;dsimp only at hsl;have hn:=sltsC_length sl;have hL:=loop57 sl (by omega) (τ:=⟨[(25,.sl false 10 (sltsC sl)),(26,nat (sltsC sl).length),(27,num 0)],[.var nd.cells,.var [num a,num b,.sl false 10 (sltsC sl)]]⟩) (by kernel_rfl);obtain ⟨ss,hss⟩:∃ss,ss=sltsC sl:=⟨_,rfl⟩;show ∃c:Int,∀N,190080<=N->Gam.pureD (callF tab ext N) 57 [.agg nd.cells,.agg [num a,num b,.sl false 10 (sltsC sl)]]=some (num c);have hfs:∀N,190060<=N->Gam.pureD (callF tab ext N) 101 [.agg [num a,num b,.sl false 10 (sltsC sl)]]=some (num f):=hfs;rw [<-hss] at hL hn hfs ⊢;rcases hL with ⟨_,⟨c,bx,rfl⟩,hls⟩|hls
 ·cases h1:(nd.kind !=4) with
  |true=>exact ⟨11,fun N hN=>by obtain ⟨M,rfl⟩:∃M,N=M+1:=⟨N-1,by omega⟩;have hf:=hfs M (by omega);have hl:=hls M (by omega) (by omega);exact pure_of [(10,.b true)] [] (pf1 h1) (x:=num 11) (bx:=[]) (by kernel_rfl) rfl⟩
  |false=>
   cases h2:(f !=0) with
   |true=>exact ⟨f,fun N hN=>by obtain ⟨M,rfl⟩:∃M,N=M+1:=⟨N-1,by omega⟩;have hf:=hfs M (by omega);have hl:=hls M (by omega) (by omega);exact pure_of [(10,.b false),(12,.p (num f)),(14,.b true)] [] (pf3 h1 hf h2) (x:=num f) (bx:=[]) (by kernel_rfl) rfl⟩
   |false=>
    cases h3:(a !=0) with
    |true=>exact ⟨10,fun N hN=>by obtain ⟨M,rfl⟩:∃M,N=M+1:=⟨N-1,by omega⟩;have hf:=hfs M (by omega);have hl:=hls M (by omega) (by omega);exact pure_of [(10,.b false),(12,.p (num f)),(14,.b false),(18,.b true)] [] (pf4 h1 hf h2 h3) (x:=num 10) (bx:=[]) (by kernel_rfl) rfl⟩
    |false=>
     cases h4:(b !=0) with
     |true=>exact ⟨10,fun N hN=>by obtain ⟨M,rfl⟩:∃M,N=M+1:=⟨N-1,by omega⟩;have hf:=hfs M (by omega);have hl:=hls M (by omega) (by omega);exact pure_of [(10,.b false),(12,.p (num f)),(14,.b false),(18,.b false),(22,.b true)] [] (pf5 h1 hf h2 h3 h4) (x:=num 10) (bx:=[]) (by kernel_rfl) rfl⟩
     |false=>exact ⟨c,fun N hN=>by obtain ⟨M,rfl⟩:∃M,N=M+1:=⟨N-1,by omega⟩;have hf:=hfs M (by omega);have hl:=hls M (by omega) (by omega);exact pure_of [(10,.b false),(12,.p (num f)),(14,.b false),(18,.b false),(22,.b false)] [(.ret,⟨[(4,num c)],bx⟩)] (pf6 h1 hf h2 h3 h4 hl) (x:=num c) (bx:=[]) (by kernel_rfl) rfl⟩
 cases h1:(nd.kind !=4) with
 |true=>exact ⟨11,fun N hN=>by obtain ⟨M,rfl⟩:∃M,N=M+1:=⟨N-1,by omega⟩;have hf:=hfs M (by omega);have hl:=hls M (by omega) (by omega);exact pure_of [(10,.b true)] [] (pf1 h1) (x:=num 11) (bx:=[]) (by kernel_rfl) rfl⟩
 |false=>
  cases h2:(f !=0) with
  |true=>exact ⟨f,fun N hN=>by obtain ⟨M,rfl⟩:∃M,N=M+1:=⟨N-1,by omega⟩;have hf:=hfs M (by omega);have hl:=hls M (by omega) (by omega);exact pure_of [(10,.b false),(12,.p (num f)),(14,.b true)] [] (pf3 h1 hf h2) (x:=num f) (bx:=[]) (by kernel_rfl) rfl⟩
  |false=>
   cases h3:(a !=0) with
   |true=>exact ⟨10,fun N hN=>by obtain ⟨M,rfl⟩:∃M,N=M+1:=⟨N-1,by omega⟩;have hf:=hfs M (by omega);have hl:=hls M (by omega) (by omega);exact pure_of [(10,.b false),(12,.p (num f)),(14,.b false),(18,.b true)] [] (pf4 h1 hf h2 h3) (x:=num 10) (bx:=[]) (by kernel_rfl) rfl⟩
   |false=>
    cases h4:(b !=0) with
    |true=>exact ⟨10,fun N hN=>by obtain ⟨M,rfl⟩:∃M,N=M+1:=⟨N-1,by omega⟩;have hf:=hfs M (by omega);have hl:=hls M (by omega) (by omega);exact pure_of [(10,.b false),(12,.p (num f)),(14,.b false),(18,.b false),(22,.b true)] [] (pf5 h1 hf h2 h3 h4) (x:=num 10) (bx:=[]) (by kernel_rfl) rfl⟩
    |false=>exact ⟨0,fun N hN=>by obtain ⟨M,rfl⟩:∃M,N=M+1:=⟨N-1,by omega⟩;have hf:=hfs M (by omega);have hl:=hls M (by omega) (by omega);exact pure_of [(10,.b false),(12,.p (num f)),(14,.b false),(18,.b false),(22,.b false)] [(.exit 0,⟨[(25,.sl false 10 ss),(26,nat ss.length),(27,nat ss.length),(28,boolX false)],[]⟩)] (pf6 h1 hf h2 h3 h4 hl) (x:=num 0) (bx:=[]) (by kernel_rfl) rfl⟩
theorem fn61 (nd:Nod)(s:Stt)(hs:s.small):∃c:Int,∀N,190080<=N->Gam.pureD (callF tab ext N) 61 [.agg nd.cells,.agg s.cells]=some (num c):=by
 obtain ⟨f,_,hfs⟩:=state_ex s hs;have hsl:=hs.slots;obtain ⟨a,b,sl⟩:=s;dsimp only at hsl;have hn:=sltsC_length sl;have hL:=loop61 sl a b (by omega) (τ:=⟨[(3,.ptr 1 0 0),(30,.sl false 10 (sltsC sl)),(31,nat (sltsC sl).length),(32,num 0)],[.var nd.cells,.var [num a,num b,.sl false 10 (sltsC sl)]]⟩) (by kernel_rfl);obtain ⟨ss,hss⟩:∃ss,ss=sltsC sl:=⟨_,rfl⟩;show ∃c:Int,∀N,190080<=N->Gam.pureD (callF tab ext N) 61 [.agg nd.cells,.agg [num a,num b,.sl false 10 (sltsC sl)]]=some (num c);have hfs:∀N,190060<=N->Gam.pureD (callF tab ext N) 101 [.agg [num a,num b,.sl false 10 (sltsC sl)]]=some (num f):=hfs;rw [<-hss] at hL hn hfs ⊢;rcases hL with ⟨_,⟨c,bx,rfl⟩,hls⟩|hls
 ·cases h1:(nd.kind !=9) with
  |true=>exact ⟨11,fun N hN=>by obtain ⟨M,rfl⟩:∃M,N=M+1:=⟨N-1,by omega⟩;have hf:=hfs M (by omega);have hl:=hls M (by omega) (by omega);exact pure_of [(10,.b true)] [] (pf1 h1) (x:=num 11) (bx:=[]) (by kernel_rfl) rfl⟩
  |false=>
   cases h2:(f !=0) with
   |true=>exact ⟨f,fun N hN=>by obtain ⟨M,rfl⟩:∃M,N=M+1:=⟨N-1,by omega⟩;have hf:=hfs M (by omega);have hl:=hls M (by omega) (by omega);exact pure_of [(10,.b false),(12,.p (num f)),(14,.b true)] [] (pf3 h1 hf h2) (x:=num f) (bx:=[]) (by kernel_rfl) rfl⟩
   |false=>
    cases h3:(decide (a<0)) with
    |true=>exact ⟨2,fun N hN=>by obtain ⟨M,rfl⟩:∃M,N=M+1:=⟨N-1,by omega⟩;have hf:=hfs M (by omega);have hl:=hls M (by omega) (by omega);exact pure_of [(10,.b false),(12,.p (num f)),(14,.b false),(19,.b true)] [] (pf4 h1 hf h2 h3) (x:=num 2) (bx:=[]) (by kernel_rfl) rfl⟩
    |false=>
     cases h4:(decide (a>1099511627776)) with
     |true=>exact ⟨2,fun N hN=>by obtain ⟨M,rfl⟩:∃M,N=M+1:=⟨N-1,by omega⟩;have hf:=hfs M (by omega);have hl:=hls M (by omega) (by omega);exact pure_of [(10,.b false),(12,.p (num f)),(14,.b false),(19,.b false),(23,.b true)] [] (pf5 h1 hf h2 h3 h4) (x:=num 2) (bx:=[]) (by kernel_rfl) rfl⟩
     |false=>
      cases h5:(b !=0) with
      |true=>exact ⟨10,fun N hN=>by obtain ⟨M,rfl⟩:∃M,N=M+1:=⟨N-1,by omega⟩;have hf:=hfs M (by omega);have hl:=hls M (by omega) (by omega);exact pure_of [(10,.b false),(12,.p (num f)),(14,.b false),(19,.b false),(23,.b false),(28,.b true)] [] (pf6 h1 hf h2 h3 h4 h5) (x:=num 10) (bx:=[]) (by kernel_rfl) rfl⟩
      |false=>exact ⟨c,fun N hN=>by obtain ⟨M,rfl⟩:∃M,N=M+1:=⟨N-1,by omega⟩;have hf:=hfs M (by omega);have hl:=hls M (by omega) (by omega);exact pure_of [(10,.b false),(12,.p (num f)),(14,.b false),(19,.b false),(23,.b false),(28,.b false)] [(.ret,⟨[(4,num c)],bx⟩)] (pf7 h1 hf h2 h3 h4 h5 hl) (x:=num c) (bx:=[]) (by kernel_rfl) rfl⟩
 cases h1:(nd.kind !=9) with
 |true=>exact ⟨11,fun N hN=>by obtain ⟨M,rfl⟩:∃M,N=M+1:=⟨N-1,by omega⟩;have hf:=hfs M (by omega);have hl:=hls M (by omega) (by omega);exact pure_of [(10,.b true)] [] (pf1 h1) (x:=num 11) (bx:=[]) (by kernel_rfl) rfl⟩
 |false=>
  cases h2:(f !=0) with
  |true=>exact ⟨f,fun N hN=>by obtain ⟨M,rfl⟩:∃M,N=M+1:=⟨N-1,by omega⟩;have hf:=hfs M (by omega);have hl:=hls M (by omega) (by omega);exact pure_of [(10,.b false),(12,.p (num f)),(14,.b true)] [] (pf3 h1 hf h2) (x:=num f) (bx:=[]) (by kernel_rfl) rfl⟩
  |false=>
   cases h3:(decide (a<0)) with
   |true=>exact ⟨2,fun N hN=>by obtain ⟨M,rfl⟩:∃M,N=M+1:=⟨N-1,by omega⟩;have hf:=hfs M (by omega);have hl:=hls M (by omega) (by omega);exact pure_of [(10,.b false),(12,.p (num f)),(14,.b false),(19,.b true)] [] (pf4 h1 hf h2 h3) (x:=num 2) (bx:=[]) (by kernel_rfl) rfl⟩
   |false=>
    cases h4:(decide (a>1099511627776)) with
    |true=>exact ⟨2,fun N hN=>by obtain ⟨M,rfl⟩:∃M,N=M+1:=⟨N-1,by omega⟩;have hf:=hfs M (by omega);have hl:=hls M (by omega) (by omega);exact pure_of [(10,.b false),(12,.p (num f)),(14,.b false),(19,.b false),(23,.b true)] [] (pf5 h1 hf h2 h3 h4) (x:=num 2) (bx:=[]) (by kernel_rfl) rfl⟩
    |false=>
     cases h5:(b !=0) with
     |true=>exact ⟨10,fun N hN=>by obtain ⟨M,rfl⟩:∃M,N=M+1:=⟨N-1,by omega⟩;have hf:=hfs M (by omega);have hl:=hls M (by omega) (by omega);exact pure_of [(10,.b false),(12,.p (num f)),(14,.b false),(19,.b false),(23,.b false),(28,.b true)] [] (pf6 h1 hf h2 h3 h4 h5) (x:=num 10) (bx:=[]) (by kernel_rfl) rfl⟩
     |false=>exact ⟨0,fun N hN=>by obtain ⟨M,rfl⟩:∃M,N=M+1:=⟨N-1,by omega⟩;have hf:=hfs M (by omega);have hl:=hls M (by omega) (by omega);exact pure_of [(10,.b false),(12,.p (num f)),(14,.b false),(19,.b false),(23,.b false),(28,.b false)] [(.exit 1,⟨[(3,.ptr 0 0 0),(30,.sl false 10 ss),(31,nat ss.length),(32,nat ss.length),(33,boolX false)],[.var ([num a,num b,.sl false 10 ss])]⟩)] (pf7 h1 hf h2 h3 h4 h5 hl) (x:=num 0) (bx:=[]) (by kernel_rfl) rfl⟩
theorem fn62 (nd:Nod)(s:Stt)(hs:s.small):∃c:Int,∀N,190080<=N->Gam.pureD (callF tab ext N) 62 [.agg nd.cells,.agg s.cells]=some (num c):=by
 obtain ⟨f,_,hfs⟩:=state_ex s hs;have hsl:=hs.slots;obtain ⟨a,b,sl⟩:=s;dsimp only at hsl;have hn:=sltsC_length sl;have hL:=loop62 sl a b (Int.ofNat nd.calls.length) (by omega) (τ:=⟨[(3,.ptr 1 0 0),(5,num (Int.ofNat nd.calls.length)),(45,.sl false 10 (sltsC sl)),(46,nat (sltsC sl).length),(47,num 0)],[.var nd.cells,.var [num a,num b,.sl false 10 (sltsC sl)]]⟩) (by kernel_rfl);obtain ⟨ss,hss⟩:∃ss,ss=sltsC sl:=⟨_,rfl⟩;show ∃c:Int,∀N,190080<=N->Gam.pureD (callF tab ext N) 62 [.agg nd.cells,.agg [num a,num b,.sl false 10 (sltsC sl)]]=some (num c);have hfs:∀N,190060<=N->Gam.pureD (callF tab ext N) 101 [.agg [num a,num b,.sl false 10 (sltsC sl)]]=some (num f):=hfs;rw [<-hss] at hL hn hfs ⊢;rcases hL with ⟨_,⟨c,bx,rfl⟩,hls⟩|hls
 ·cases h1:(nd.kind !=10) with
  |true=>exact ⟨11,fun N hN=>by obtain ⟨M,rfl⟩:∃M,N=M+1:=⟨N-1,by omega⟩;have hf:=hfs M (by omega);have hl:=hls M (by omega) (by omega);exact pure_of [(15,.b true)] [] (pf1 h1) (x:=num 11) (bx:=[]) (by kernel_rfl) rfl⟩
  |false=>
   cases h2:(decide (Int.ofNat nd.calls.length<1)) with
   |true=>exact ⟨10,fun N hN=>by obtain ⟨M,rfl⟩:∃M,N=M+1:=⟨N-1,by omega⟩;have hf:=hfs M (by omega);have hl:=hls M (by omega) (by omega);exact pure_of [(15,.b false),(18,.b true)] [] (pf2 h1 h2) (x:=num 10) (bx:=[]) (by kernel_rfl) rfl⟩
   |false=>
    cases h3:(decide (Int.ofNat nd.calls.length>16)) with
    |true=>exact ⟨10,fun N hN=>by obtain ⟨M,rfl⟩:∃M,N=M+1:=⟨N-1,by omega⟩;have hf:=hfs M (by omega);have hl:=hls M (by omega) (by omega);exact pure_of [(15,.b false),(18,.b false),(21,.b true)] [] (pf3 h1 h2 h3) (x:=num 10) (bx:=[]) (by kernel_rfl) rfl⟩
    |false=>
     cases h4:(Int.ofNat nd.types.length !=IntKind.i64.wrap (2*Int.ofNat nd.calls.length)) with
     |true=>exact ⟨10,fun N hN=>by obtain ⟨M,rfl⟩:∃M,N=M+1:=⟨N-1,by omega⟩;have hf:=hfs M (by omega);have hl:=hls M (by omega) (by omega);exact pure_of [(15,.b false),(18,.b false),(21,.b false),(29,.b true)] [] (pf4 h1 h2 h3 h4) (x:=num 10) (bx:=[]) (by kernel_rfl) rfl⟩
     |false=>
      cases h5:(f !=0) with
      |true=>exact ⟨f,fun N hN=>by obtain ⟨M,rfl⟩:∃M,N=M+1:=⟨N-1,by omega⟩;have hf:=hfs M (by omega);have hl:=hls M (by omega) (by omega);exact pure_of [(15,.b false),(18,.b false),(21,.b false),(29,.b false),(32,.p (num f)),(34,.b true)] [] (pf6 h1 h2 h3 h4 hf h5) (x:=num f) (bx:=[]) (by kernel_rfl) rfl⟩
      |false=>
       cases h6:(decide (a<0)) with
       |true=>exact ⟨10,fun N hN=>by obtain ⟨M,rfl⟩:∃M,N=M+1:=⟨N-1,by omega⟩;have hf:=hfs M (by omega);have hl:=hls M (by omega) (by omega);exact pure_of [(15,.b false),(18,.b false),(21,.b false),(29,.b false),(32,.p (num f)),(34,.b false),(38,.b true)] [] (pf7 h1 h2 h3 h4 hf h5 h6) (x:=num 10) (bx:=[]) (by kernel_rfl) rfl⟩
       |false=>
        cases h7:(b !=0) with
        |true=>exact ⟨10,fun N hN=>by obtain ⟨M,rfl⟩:∃M,N=M+1:=⟨N-1,by omega⟩;have hf:=hfs M (by omega);have hl:=hls M (by omega) (by omega);exact pure_of [(15,.b false),(18,.b false),(21,.b false),(29,.b false),(32,.p (num f)),(34,.b false),(38,.b false),(42,.b true)] [] (pf8 h1 h2 h3 h4 hf h5 h6 h7) (x:=num 10) (bx:=[]) (by kernel_rfl) rfl⟩
        |false=>exact ⟨c,fun N hN=>by obtain ⟨M,rfl⟩:∃M,N=M+1:=⟨N-1,by omega⟩;have hf:=hfs M (by omega);have hl:=hls M (by omega) (by omega);exact pure_of [(15,.b false),(18,.b false),(21,.b false),(29,.b false),(32,.p (num f)),(34,.b false),(38,.b false),(42,.b false)] [(.ret,⟨[(4,num c)],bx⟩)] (pf9 h1 h2 h3 h4 hf h5 h6 h7 hl) (x:=num c) (bx:=[]) (by kernel_rfl) rfl⟩
 cases h1:(nd.kind !=10) with
 |true=>exact ⟨11,fun N hN=>by obtain ⟨M,rfl⟩:∃M,N=M+1:=⟨N-1,by omega⟩;have hf:=hfs M (by omega);have hl:=hls M (by omega) (by omega);exact pure_of [(15,.b true)] [] (pf1 h1) (x:=num 11) (bx:=[]) (by kernel_rfl) rfl⟩
 |false=>
  cases h2:(decide (Int.ofNat nd.calls.length<1)) with
  |true=>exact ⟨10,fun N hN=>by obtain ⟨M,rfl⟩:∃M,N=M+1:=⟨N-1,by omega⟩;have hf:=hfs M (by omega);have hl:=hls M (by omega) (by omega);exact pure_of [(15,.b false),(18,.b true)] [] (pf2 h1 h2) (x:=num 10) (bx:=[]) (by kernel_rfl) rfl⟩
  |false=>
   cases h3:(decide (Int.ofNat nd.calls.length>16)) with
   |true=>exact ⟨10,fun N hN=>by obtain ⟨M,rfl⟩:∃M,N=M+1:=⟨N-1,by omega⟩;have hf:=hfs M (by omega);have hl:=hls M (by omega) (by omega);exact pure_of [(15,.b false),(18,.b false),(21,.b true)] [] (pf3 h1 h2 h3) (x:=num 10) (bx:=[]) (by kernel_rfl) rfl⟩
   |false=>
    cases h4:(Int.ofNat nd.types.length !=IntKind.i64.wrap (2*Int.ofNat nd.calls.length)) with
    |true=>exact ⟨10,fun N hN=>by obtain ⟨M,rfl⟩:∃M,N=M+1:=⟨N-1,by omega⟩;have hf:=hfs M (by omega);have hl:=hls M (by omega) (by omega);exact pure_of [(15,.b false),(18,.b false),(21,.b false),(29,.b true)] [] (pf4 h1 h2 h3 h4) (x:=num 10) (bx:=[]) (by kernel_rfl) rfl⟩
    |false=>
     cases h5:(f !=0) with
     |true=>exact ⟨f,fun N hN=>by obtain ⟨M,rfl⟩:∃M,N=M+1:=⟨N-1,by omega⟩;have hf:=hfs M (by omega);have hl:=hls M (by omega) (by omega);exact pure_of [(15,.b false),(18,.b false),(21,.b false),(29,.b false),(32,.p (num f)),(34,.b true)] [] (pf6 h1 h2 h3 h4 hf h5) (x:=num f) (bx:=[]) (by kernel_rfl) rfl⟩
     |false=>
      cases h6:(decide (a<0)) with
      |true=>exact ⟨10,fun N hN=>by obtain ⟨M,rfl⟩:∃M,N=M+1:=⟨N-1,by omega⟩;have hf:=hfs M (by omega);have hl:=hls M (by omega) (by omega);exact pure_of [(15,.b false),(18,.b false),(21,.b false),(29,.b false),(32,.p (num f)),(34,.b false),(38,.b true)] [] (pf7 h1 h2 h3 h4 hf h5 h6) (x:=num 10) (bx:=[]) (by kernel_rfl) rfl⟩
      |false=>
       cases h7:(b !=0) with
       |true=>exact ⟨10,fun N hN=>by obtain ⟨M,rfl⟩:∃M,N=M+1:=⟨N-1,by omega⟩;have hf:=hfs M (by omega);have hl:=hls M (by omega) (by omega);exact pure_of [(15,.b false),(18,.b false),(21,.b false),(29,.b false),(32,.p (num f)),(34,.b false),(38,.b false),(42,.b true)] [] (pf8 h1 h2 h3 h4 hf h5 h6 h7) (x:=num 10) (bx:=[]) (by kernel_rfl) rfl⟩
       |false=>exact ⟨0,fun N hN=>by obtain ⟨M,rfl⟩:∃M,N=M+1:=⟨N-1,by omega⟩;have hf:=hfs M (by omega);have hl:=hls M (by omega) (by omega);exact pure_of [(15,.b false),(18,.b false),(21,.b false),(29,.b false),(32,.p (num f)),(34,.b false),(38,.b false),(42,.b false)] [(.exit 1,⟨[(3,.ptr 0 0 0),(5,nat nd.calls.length),(45,.sl false 10 ss),(46,nat ss.length),(47,nat ss.length),(48,boolX false)],[.var ([num a,num b,.sl false 10 ss])]⟩)] (pf9 h1 h2 h3 h4 hf h5 h6 h7 hl) (x:=num 0) (bx:=[]) (by kernel_rfl) rfl⟩
theorem fn60 (nd:Nod)(s:Stt)(hs:s.small):∃c:Int,∀N,190080<=N->Gam.pureD (callF tab ext N) 60 [.agg nd.cells,.agg s.cells]=some (num c):=by
 obtain ⟨f,_,hfs⟩:=state_ex s hs;obtain ⟨q1,h1s⟩:=fn106 s hs;obtain ⟨q2,h2s⟩:=fn107 s hs;obtain ⟨a,b,sl⟩:=s;show ∃c:Int,∀N,190080<=N->Gam.pureD (callF tab ext N) 60 [.agg nd.cells,.agg [num a,num b,.sl false 10 (sltsC sl)]]=some (num c);have hfs:∀N,190060<=N->Gam.pureD (callF tab ext N) 101 [.agg [num a,num b,.sl false 10 (sltsC sl)]]=some (num f):=hfs;have h1s:∀N,1010<=N->Gam.pureD (callF tab ext N) 106 [.agg [num a,num b,.sl false 10 (sltsC sl)]]=some (boolX q1):=h1s;have h2s:∀N,1010<=N->Gam.pureD (callF tab ext N) 107 [.agg [num a,num b,.sl false 10 (sltsC sl)]]=some (boolX q2):=h2s;generalize sltsC sl=ss at*;cases k1:(nd.kind !=7) with
 |true=>
  cases k2:(nd.kind !=8) with
  |true=>exact ⟨11,fun N hN=>by obtain ⟨M,rfl⟩:∃M,N=M+1:=⟨N-1,by omega⟩;have hf:=hfs M (by omega);have h1:=h1s M (by omega);have h2:=h2s M (by omega);exact pure_of [(8,.b true),(12,.b true)] [] (pf2 k1 k2) (x:=num 11) (bx:=[]) (by kernel_rfl) rfl⟩
  |false=>
   cases k3:(f !=0) with
   |true=>exact ⟨f,fun N hN=>by obtain ⟨M,rfl⟩:∃M,N=M+1:=⟨N-1,by omega⟩;have hf:=hfs M (by omega);have h1:=h1s M (by omega);have h2:=h2s M (by omega);exact pure_of [(8,.b true),(12,.b false),(15,.p (num f)),(17,.b true)] [] (pf4 k1 k2 hf k3) (x:=num f) (bx:=[]) (by kernel_rfl) rfl⟩
   |false=>
    cases k4:(nd.kind==7) with
    |true=>
     cases k5:(!q1) with
     |true=>exact ⟨10,fun N hN=>by obtain ⟨M,rfl⟩:∃M,N=M+1:=⟨N-1,by omega⟩;have hf:=hfs M (by omega);have h1:=h1s M (by omega);have h2:=h2s M (by omega);exact pure_of [(8,.b true),(12,.b false),(15,.p (num f)),(17,.b false),(21,.b true),(24,.p (boolX q1)),(25,.b true)] [] (pf7 k1 k2 hf k3 k4 h1 k5) (x:=num 10) (bx:=[]) (by kernel_rfl) rfl⟩
     |false=>
      cases k6:(nd.kind==8) with
      |true=>
       cases k7:(!q2) with
       |true=>exact ⟨10,fun N hN=>by obtain ⟨M,rfl⟩:∃M,N=M+1:=⟨N-1,by omega⟩;have hf:=hfs M (by omega);have h1:=h1s M (by omega);have h2:=h2s M (by omega);exact pure_of [(8,.b true),(12,.b false),(15,.p (num f)),(17,.b false),(21,.b true),(24,.p (boolX q1)),(25,.b false),(30,.b true),(33,.p (boolX q2)),(34,.b true)] [] (pf10 k1 k2 hf k3 k4 h1 k5 k6 h2 k7) (x:=num 10) (bx:=[]) (by kernel_rfl) rfl⟩
       |false=>exact ⟨0,fun N hN=>by obtain ⟨M,rfl⟩:∃M,N=M+1:=⟨N-1,by omega⟩;have hf:=hfs M (by omega);have h1:=h1s M (by omega);have h2:=h2s M (by omega);exact pure_of [(8,.b true),(12,.b false),(15,.p (num f)),(17,.b false),(21,.b true),(24,.p (boolX q1)),(25,.b false),(30,.b true),(33,.p (boolX q2)),(34,.b false)] [] (pf10 k1 k2 hf k3 k4 h1 k5 k6 h2 k7) (x:=num 0) (bx:=[]) (by kernel_rfl) rfl⟩
      |false=>exact ⟨0,fun N hN=>by obtain ⟨M,rfl⟩:∃M,N=M+1:=⟨N-1,by omega⟩;have hf:=hfs M (by omega);have h1:=h1s M (by omega);have h2:=h2s M (by omega);exact pure_of [(8,.b true),(12,.b false),(15,.p (num f)),(17,.b false),(21,.b true),(24,.p (boolX q1)),(25,.b false),(30,.b false)] [] (pf8 k1 k2 hf k3 k4 h1 k5 k6) (x:=num 0) (bx:=[]) (by kernel_rfl) rfl⟩
    |false=>
     cases k8:(nd.kind==8) with
     |true=>
      cases k9:(!q2) with
      |true=>exact ⟨10,fun N hN=>by obtain ⟨M,rfl⟩:∃M,N=M+1:=⟨N-1,by omega⟩;have hf:=hfs M (by omega);have h1:=h1s M (by omega);have h2:=h2s M (by omega);exact pure_of [(8,.b true),(12,.b false),(15,.p (num f)),(17,.b false),(21,.b false),(30,.b true),(33,.p (boolX q2)),(34,.b true)] [] (pf8 k1 k2 hf k3 k4 k8 h2 k9) (x:=num 10) (bx:=[]) (by kernel_rfl) rfl⟩
      |false=>exact ⟨0,fun N hN=>by obtain ⟨M,rfl⟩:∃M,N=M+1:=⟨N-1,by omega⟩;have hf:=hfs M (by omega);have h1:=h1s M (by omega);have h2:=h2s M (by omega);exact pure_of [(8,.b true),(12,.b false),(15,.p (num f)),(17,.b false),(21,.b false),(30,.b true),(33,.p (boolX q2)),(34,.b false)] [] (pf8 k1 k2 hf k3 k4 k8 h2 k9) (x:=num 0) (bx:=[]) (by kernel_rfl) rfl⟩
     |false=>exact ⟨0,fun N hN=>by obtain ⟨M,rfl⟩:∃M,N=M+1:=⟨N-1,by omega⟩;have hf:=hfs M (by omega);have h1:=h1s M (by omega);have h2:=h2s M (by omega);exact pure_of [(8,.b true),(12,.b false),(15,.p (num f)),(17,.b false),(21,.b false),(30,.b false)] [] (pf6 k1 k2 hf k3 k4 k8) (x:=num 0) (bx:=[]) (by kernel_rfl) rfl⟩
 |false=>
  cases k10:(f !=0) with
  |true=>exact ⟨f,fun N hN=>by obtain ⟨M,rfl⟩:∃M,N=M+1:=⟨N-1,by omega⟩;have hf:=hfs M (by omega);have h1:=h1s M (by omega);have h2:=h2s M (by omega);exact pure_of [(8,.b false),(15,.p (num f)),(17,.b true)] [] (pf3 k1 hf k10) (x:=num f) (bx:=[]) (by kernel_rfl) rfl⟩
  |false=>
   cases k11:(nd.kind==7) with
   |true=>
    cases k12:(!q1) with
    |true=>exact ⟨10,fun N hN=>by obtain ⟨M,rfl⟩:∃M,N=M+1:=⟨N-1,by omega⟩;have hf:=hfs M (by omega);have h1:=h1s M (by omega);have h2:=h2s M (by omega);exact pure_of [(8,.b false),(15,.p (num f)),(17,.b false),(21,.b true),(24,.p (boolX q1)),(25,.b true)] [] (pf6 k1 hf k10 k11 h1 k12) (x:=num 10) (bx:=[]) (by kernel_rfl) rfl⟩
    |false=>
     cases k13:(nd.kind==8) with
     |true=>
      cases k14:(!q2) with
      |true=>exact ⟨10,fun N hN=>by obtain ⟨M,rfl⟩:∃M,N=M+1:=⟨N-1,by omega⟩;have hf:=hfs M (by omega);have h1:=h1s M (by omega);have h2:=h2s M (by omega);exact pure_of [(8,.b false),(15,.p (num f)),(17,.b false),(21,.b true),(24,.p (boolX q1)),(25,.b false),(30,.b true),(33,.p (boolX q2)),(34,.b true)] [] (pf9 k1 hf k10 k11 h1 k12 k13 h2 k14) (x:=num 10) (bx:=[]) (by kernel_rfl) rfl⟩
      |false=>exact ⟨0,fun N hN=>by obtain ⟨M,rfl⟩:∃M,N=M+1:=⟨N-1,by omega⟩;have hf:=hfs M (by omega);have h1:=h1s M (by omega);have h2:=h2s M (by omega);exact pure_of [(8,.b false),(15,.p (num f)),(17,.b false),(21,.b true),(24,.p (boolX q1)),(25,.b false),(30,.b true),(33,.p (boolX q2)),(34,.b false)] [] (pf9 k1 hf k10 k11 h1 k12 k13 h2 k14) (x:=num 0) (bx:=[]) (by kernel_rfl) rfl⟩
     |false=>exact ⟨0,fun N hN=>by obtain ⟨M,rfl⟩:∃M,N=M+1:=⟨N-1,by omega⟩;have hf:=hfs M (by omega);have h1:=h1s M (by omega);have h2:=h2s M (by omega);exact pure_of [(8,.b false),(15,.p (num f)),(17,.b false),(21,.b true),(24,.p (boolX q1)),(25,.b false),(30,.b false)] [] (pf7 k1 hf k10 k11 h1 k12 k13) (x:=num 0) (bx:=[]) (by kernel_rfl) rfl⟩
   |false=>
    cases k15:(nd.kind==8) with
    |true=>
     cases k16:(!q2) with
     |true=>exact ⟨10,fun N hN=>by obtain ⟨M,rfl⟩:∃M,N=M+1:=⟨N-1,by omega⟩;have hf:=hfs M (by omega);have h1:=h1s M (by omega);have h2:=h2s M (by omega);exact pure_of [(8,.b false),(15,.p (num f)),(17,.b false),(21,.b false),(30,.b true),(33,.p (boolX q2)),(34,.b true)] [] (pf7 k1 hf k10 k11 k15 h2 k16) (x:=num 10) (bx:=[]) (by kernel_rfl) rfl⟩
     |false=>exact ⟨0,fun N hN=>by obtain ⟨M,rfl⟩:∃M,N=M+1:=⟨N-1,by omega⟩;have hf:=hfs M (by omega);have h1:=h1s M (by omega);have h2:=h2s M (by omega);exact pure_of [(8,.b false),(15,.p (num f)),(17,.b false),(21,.b false),(30,.b true),(33,.p (boolX q2)),(34,.b false)] [] (pf7 k1 hf k10 k11 k15 h2 k16) (x:=num 0) (bx:=[]) (by kernel_rfl) rfl⟩
    |false=>exact ⟨0,fun N hN=>by obtain ⟨M,rfl⟩:∃M,N=M+1:=⟨N-1,by omega⟩;have hf:=hfs M (by omega);have h1:=h1s M (by omega);have h2:=h2s M (by omega);exact pure_of [(8,.b false),(15,.p (num f)),(17,.b false),(21,.b false),(30,.b false)] [] (pf5 k1 hf k10 k11 k15) (x:=num 0) (bx:=[]) (by kernel_rfl) rfl⟩
theorem acc_loop {α:Type}{b:C}{H:α->Nat->St}{e:Ex}{fin:α->St}{n B:Nat}(hstep:∀j,j<n->∀a,∃a' υ,canon 0 υ=some (H a' (j+1))/\∀M,B<=M->run (callF tab ext M) 0 M b (H a j)=some (.norm,υ))
  (hend:∀a M,B<=M->run (callF tab ext M) 0 M b (H a n)=some (e,fin a)) (hne:e≠.norm):∀(d j:Nat) (a:α),j+d=n->∃a',∀M F τ,B<=M->d<F->canon 0 τ=some (H a j)->iter 0 (run (callF tab ext M) 0 M b) F τ=some (e,fin a')
 |0,j,a,hj=>by
  obtain rfl:j=n:=by omega
  refine ⟨a,fun M F τ hM hF hτ=>?_⟩;obtain ⟨F,rfl⟩:∃G,F=G+1:=⟨F-1,by omega⟩;exact iter_end hτ (hend a M hM) hne
 |d+1,j,a,hj=>by obtain ⟨a1,υ,hc,hr⟩:=hstep j (by omega) a;obtain ⟨a',h⟩:=acc_loop hstep hend hne d (j+1) a1 (by omega);refine ⟨a',fun M F τ hM hF hτ=>?_⟩;obtain ⟨F,rfl⟩:∃G,F=G+1:=⟨F-1,by omega⟩;exact iter_step hτ (hr M hM) (h M F υ hM (by omega) hc)
theorem loop54 (ss:List Slt)(hl:(sltsC ss).length<1000000)(hτ:canon 0 τ=some (h54 (sltsC ss) 0 false 0)):∃(z:Int) (g:Bool),∀M,1<=M->(sltsC ss).length<M->run (callF tab ext M) 0 M (.loop (loopAt 54 0)) τ=some (.exit 0,⟨[(2,num z),(3,boolX g),(7,.sl false 10 (sltsC ss)),(8,nat (sltsC ss).length),(9,nat (sltsC ss).length),(10,boolX false)],[]⟩):=by
 obtain ⟨⟨z,g⟩,h⟩:=acc_loop (α:=Int×Bool) (b:=loopAt 54 0) (H:=fun a j=>h54 (sltsC ss) a.1 a.2 j) (e:=.exit 0) (fin:=fun a=>⟨[(2,num a.1),(3,boolX a.2),(7,.sl false 10 (sltsC ss)),(8,nat (sltsC ss).length),(9,nat (sltsC ss).length),(10,boolX false)],[]⟩) (n:=(sltsC ss).length) (B:=1)
  (fun j hj a=>by obtain ⟨k1,k2,k3,k4,k5,k6,n,t,ms,vs,hg⟩:=slot_raw ss j hj;obtain ⟨x',f',υ,h1,h2⟩:=rd54 (sltsC ss) 0 0 k1 k2 k3 k4 k5 k6 n t ms vs j a.1 a.2 hg hj (by omega);exact ⟨(x',f'),υ,h1,h2⟩) (fun a M hM=>end54 (sltsC ss) a.1 a.2 _ (qar _) M) (by simp) (sltsC ss).length 0 (0,false) (by omega)
 exact ⟨z,g,fun M hM hM2=>h M M _ hM hM2 hτ⟩
theorem loop52 (ss:List Slt)(hl:(sltsC ss).length<1000000)(hτ:canon 0 τ=some (h52 (sltsC ss) 0 0)):∃z:Int,∀M,1<=M->(sltsC ss).length<M->run (callF tab ext M) 0 M (.loop (loopAt 52 0)) τ=some (.exit 0,⟨[(4,num z),(16,.sl false 10 (sltsC ss)),(17,nat (sltsC ss).length),(18,nat (sltsC ss).length),(19,boolX false)],[]⟩):=by
 obtain ⟨z,h⟩:=acc_loop (α:=Int) (b:=loopAt 52 0) (H:=fun a j=>h52 (sltsC ss) a j) (e:=.exit 0) (fin:=fun a=>⟨[(4,num a),(16,.sl false 10 (sltsC ss)),(17,nat (sltsC ss).length),(18,nat (sltsC ss).length),(19,boolX false)],[]⟩) (n:=(sltsC ss).length) (B:=1)
  (fun j hj a=>by obtain ⟨k1,k2,k3,k4,k5,k6,n,t,ms,vs,hg⟩:=slot_raw ss j hj;obtain ⟨x',υ,h1,h2⟩:=rd52 (sltsC ss) 0 0 k1 k2 k3 k4 k5 k6 n t ms vs j a hg hj (by omega);exact ⟨x',υ,h1,h2⟩) (fun a M hM=>end52 (sltsC ss) a _ (qar _) M) (by simp) (sltsC ss).length 0 0 (by omega)
 exact ⟨z,fun M hM hM2=>h M M _ hM hM2 hτ⟩
theorem fn54 (s:Stt)(hs:s.small):∃(z:Int) (g:Bool),∀N,1010<=N->Gam.pureD (callF tab ext N) 54 [.agg s.cells]=some (.tup [num z,boolX g]):=by
 have hsl:=hs.slots;obtain ⟨a,b,sl⟩:=s;dsimp only at hsl;have hn:=sltsC_length sl;obtain ⟨z,g,hls⟩:=loop54 sl (by omega) (τ:=⟨[(2,num 0),(3,boolX false),(7,.sl false 10 (sltsC sl)),(8,nat (sltsC sl).length),(9,num 0)],[.var [num a,num b,.sl false 10 (sltsC sl)]]⟩) (by kernel_rfl);refine ⟨z,g,fun N hN=>?_⟩;obtain ⟨M,rfl⟩:∃M,N=M+1:=⟨N-1,by omega⟩;have hl:=hls M (by omega) (by omega);show Gam.pureD (callF tab ext (M+1)) 54 [.agg [num a,num b,.sl false 10 (sltsC sl)]]=_;generalize sltsC sl=ss at*;cases g with
 |true=>exact pure_of [] [(.exit 0,⟨[(2,num z),(3,boolX true),(7,.sl false 10 ss),(8,nat ss.length),(9,nat ss.length),(10,boolX false)],[]⟩)] (pf1 hl) (x:=.tup ([num z,boolX true])) (bx:=[]) (by kernel_rfl) rfl
 |false=>exact pure_of [] [(.exit 0,⟨[(2,num z),(3,boolX false),(7,.sl false 10 ss),(8,nat ss.length),(9,nat ss.length),(10,boolX false)],[]⟩)] (pf1 hl) (x:=.tup ([num z,boolX false])) (bx:=[]) (by kernel_rfl) rfl
theorem fn51 (nd:Nod)(s:Stt)(hds:∀N,1010<=N->Gam.pureD (callF tab ext N) 54 [.agg s.cells]=some (.tup [num z,boolX g]))(N:Nat)(hN:1020<=N):Gam.pureD (callF tab ext N) 51 [.agg nd.cells,.agg s.cells]=some (.tup [num z,boolX g]):=by
 obtain ⟨M,rfl⟩:∃M,N=M+1:=⟨N-1,by omega⟩;have hd:=hds M (by omega);obtain ⟨a,b,sl⟩:=s;show Gam.pureD (callF tab ext (M+1)) 51 [.agg nd.cells,.agg [num a,num b,.sl false 10 (sltsC sl)]]=_;have hd:Gam.pureD (callF tab ext M) 54 [.agg [num a,num b,.sl false 10 (sltsC sl)]]=_:=hd;generalize sltsC sl=ss at*;cases g with
 |true=>exact pure_of [(7,.p (.tup ([num z,boolX true])))] [] (pf1 hd) (x:=.tup ([num z,boolX true])) (bx:=[]) (by kernel_rfl) rfl
 |false=>exact pure_of [(7,.p (.tup ([num z,boolX false])))] [] (pf1 hd) (x:=.tup ([num z,boolX false])) (bx:=[]) (by kernel_rfl) rfl
theorem fn53 (nd:Nod)(s:Stt)(hds:∀N,1010<=N->Gam.pureD (callF tab ext N) 54 [.agg s.cells]=some (.tup [num z,boolX g]))(N:Nat)(hN:1020<=N):Gam.pureD (callF tab ext N) 53 [.agg nd.cells,.agg s.cells]=some (.tup [num z,boolX g]):=by
 obtain ⟨M,rfl⟩:∃M,N=M+1:=⟨N-1,by omega⟩;have hd:=hds M (by omega);obtain ⟨a,b,sl⟩:=s;show Gam.pureD (callF tab ext (M+1)) 53 [.agg nd.cells,.agg [num a,num b,.sl false 10 (sltsC sl)]]=_;have hd:Gam.pureD (callF tab ext M) 54 [.agg [num a,num b,.sl false 10 (sltsC sl)]]=_:=hd;generalize sltsC sl=ss at*;cases g with
 |true=>exact pure_of [(7,.p (.tup ([num z,boolX true])))] [] (pf1 hd) (x:=.tup ([num z,boolX true])) (bx:=[]) (by kernel_rfl) rfl
 |false=>exact pure_of [(7,.p (.tup ([num z,boolX false])))] [] (pf1 hd) (x:=.tup ([num z,boolX false])) (bx:=[]) (by kernel_rfl) rfl
theorem fn93 (nd:Nod)(s:Stt)(hds:∀N,1010<=N->Gam.pureD (callF tab ext N) 54 [.agg s.cells]=some (.tup [num z,boolX g]))(N:Nat)(hN:1020<=N):Gam.pureD (callF tab ext N) 93 [.agg nd.cells,.agg s.cells]=some (.tup [num z,boolX g]):=by
 obtain ⟨M,rfl⟩:∃M,N=M+1:=⟨N-1,by omega⟩;have hd:=hds M (by omega);obtain ⟨a,b,sl⟩:=s;show Gam.pureD (callF tab ext (M+1)) 93 [.agg nd.cells,.agg [num a,num b,.sl false 10 (sltsC sl)]]=_;have hd:Gam.pureD (callF tab ext M) 54 [.agg [num a,num b,.sl false 10 (sltsC sl)]]=_:=hd;generalize sltsC sl=ss at*;cases g with
 |true=>exact pure_of [(7,.p (.tup ([num z,boolX true])))] [] (pf1 hd) (x:=.tup ([num z,boolX true])) (bx:=[]) (by kernel_rfl) rfl
 |false=>exact pure_of [(7,.p (.tup ([num z,boolX false])))] [] (pf1 hd) (x:=.tup ([num z,boolX false])) (bx:=[]) (by kernel_rfl) rfl
theorem fn88 (nd:Nod)(s:Stt)(N:Nat)(hN:1<=N):Gam.pureD (callF tab ext N) 88 [.agg nd.cells,.agg s.cells]=some (.tup [num 0,boolX false]):=by obtain ⟨M,rfl⟩:∃M,N=M+1:=⟨N-1,by omega⟩;obtain ⟨a,b,sl⟩:=s;exact pure_of [] [] pf0 (x:=.tup ([num 0,boolX false])) (bx:=[]) (by kernel_rfl) rfl
theorem fn97 (nd:Nod):∃m:Int,∀N,1<=N->Gam.pureD (callF tab ext N) 97 [.agg nd.cells]=some (num m):=by obtain ⟨m,hm2⟩:∃m,(if true=true then if nd.number>0 then nd.number else 0 else if nd.number<0 then nd.number else 0)=m:=⟨_,rfl⟩;refine ⟨m,fun N hN=>?_⟩;obtain ⟨M,rfl⟩:∃M,N=M+1:=⟨N-1,by omega⟩;exact pure_of [(5,.i (m))] [] (pf1 hm2) (x:=num m) (bx:=[]) (by kernel_rfl) rfl
theorem fn151 (z:Int):∃p:Nat,∀N,1<=N->Gam.pureD (callF tab ext N) 151 [num z,num 1,num 17592186044416]=some (nat (p+1)):=by
 obtain ⟨m,hm2⟩:∃m,(if false=true then if z>17592186044416 then z else 17592186044416 else if z<17592186044416 then z else 17592186044416)=m:=⟨_,rfl⟩;obtain ⟨p,hp2⟩:∃p:Int,(if true=true then if m>1 then m else 1 else if m<1 then m else 1)=p:=⟨_,rfl⟩;have h1:1<=p:=by rw [<-hp2,if_pos rfl];split<;>omega
 obtain ⟨k,rfl⟩:∃k:Nat,p=Int.ofNat (k+1):=⟨(p-1).toNat,by simp only [qam];omega⟩;refine ⟨k,fun N hN=>?_⟩;obtain ⟨M,rfl⟩:∃M,N=M+1:=⟨N-1,by omega⟩;exact pure_of [(10,.i (m)),(11,.i (Int.ofNat (k+1)))] [] (pf2 hm2 hp2) (x:=num (Int.ofNat (k+1))) (bx:=[]) (by kernel_rfl) rfl
theorem fn99 (nd:Nod):∃p:Nat,∀N,2<=N->Gam.pureD (callF tab ext N) 99 [.agg nd.cells]=some (nat (p+1)):=by obtain ⟨p,hps⟩:=fn151 nd.time;refine ⟨p,fun N hN=>?_⟩;obtain ⟨M,rfl⟩:∃M,N=M+1:=⟨N-1,by omega⟩;have hp:=hps M (by omega);exact pure_of [(5,.p (nat (p+1)))] [] (pf1 hp) (x:=nat (p+1)) (bx:=[]) (by kernel_rfl) rfl
theorem fn98 (nd:Nod)(z:Int):∃w:Int,∀N,3<=N->Gam.pureD (callF tab ext N) 98 [.agg nd.cells,num z]=some (num w):=by
 obtain ⟨p,hps⟩:=fn99 nd;cases h1:(decide (z<0)) with
 |true=>exact ⟨0,fun N hN=>by obtain ⟨M,rfl⟩:∃M,N=M+1:=⟨N-1,by omega⟩;have hp:=hps M (by omega);exact pure_of [(6,.b true)] [] (pf1 h1) (x:=num 0) (bx:=[]) (by kernel_rfl) rfl⟩
 |false=>exact ⟨IntKind.i64.wrap (z-z.tmod (Int.ofNat (p+1))),fun N hN=>by obtain ⟨M,rfl⟩:∃M,N=M+1:=⟨N-1,by omega⟩;have hp:=hps M (by omega);exact pure_of [(6,.b false),(10,.p (nat (p+1)))] [] (pf2 h1 hp) (x:=num (IntKind.i64.wrap (z-z.tmod (Int.ofNat (p+1))))) (bx:=[]) (by kernel_rfl) rfl⟩
theorem fn52 (nd:Nod)(s:Stt)(hs:s.small):∃(z:Int) (g:Bool),∀N,190080<=N->Gam.pureD (callF tab ext N) 52 [.agg nd.cells,.agg s.cells]=some (.tup [num z,boolX g]):=by
 have h22s:=fun N hN=>waiting_pure s hs N hN;obtain ⟨m,h97s⟩:=fn97 nd;obtain ⟨w,h98s⟩:=fn98 nd s.t;obtain ⟨p,h99s⟩:=fn99 nd;have hsl:=hs.slots;obtain ⟨a,b,sl⟩:=s;dsimp only at hsl h98s;have hn:=sltsC_length sl;obtain ⟨z,hls⟩:=loop52 sl (by omega) (τ:=⟨[(4,num 0),(16,.sl false 10 (sltsC sl)),(17,nat (sltsC sl).length),(18,num 0)],[.var nd.cells,.var [num a,num b,.sl false 10 (sltsC sl)]]⟩) (by kernel_rfl);have h22s:∀N,190020<=N->Gam.pureD (callF tab ext N) 22 [.agg [num a,num b,.sl false 10 (sltsC sl)]]=some (.sl false 10 (msgsC (accOf sl))):=h22s;show ∃(z:Int) (g:Bool),∀N,190080<=N->Gam.pureD (callF tab ext N) 52 [.agg nd.cells,.agg [num a,num b,.sl false 10 (sltsC sl)]]=some (.tup [num z,boolX g]);generalize msgsC (accOf sl)=R at*;generalize sltsC sl=ss at*;cases h1:(Int.ofNat R.length==0) with
 |true=>exact ⟨0,false,fun N hN=>by obtain ⟨M,rfl⟩:∃M,N=M+1:=⟨N-1,by omega⟩;have h22:=h22s M (by omega);have h97:=h97s M (by omega);have h98:=h98s M (by omega);have h99:=h99s M (by omega);have hl:=hls M (by omega) (by omega);exact pure_of [(9,.p (.sl false 10 R)),(11,.b true)] [] (pf2 h22 h1) (x:=.tup ([num 0,boolX false])) (bx:=[]) (by kernel_rfl) rfl⟩
 |false=>
  cases h2:(nd.kind==8) with
  |true=>
   cases h3:(decide (z>17592186044416)) with
   |true=>exact ⟨0,false,fun N hN=>by obtain ⟨M,rfl⟩:∃M,N=M+1:=⟨N-1,by omega⟩;have h22:=h22s M (by omega);have h97:=h97s M (by omega);have h98:=h98s M (by omega);have h99:=h99s M (by omega);have hl:=hls M (by omega) (by omega);exact pure_of [(9,.p (.sl false 10 R)),(11,.b false),(14,.b true),(35,.b true)] [(.exit 0,⟨[(4,num z),(16,.sl false 10 ss),(17,nat ss.length),(18,nat ss.length),(19,boolX false)],[]⟩)] (pf5 h22 h1 h2 hl h3) (x:=.tup ([num 0,boolX false])) (bx:=[]) (by kernel_rfl) rfl⟩
   |false=>exact ⟨z,true,fun N hN=>by obtain ⟨M,rfl⟩:∃M,N=M+1:=⟨N-1,by omega⟩;have h22:=h22s M (by omega);have h97:=h97s M (by omega);have h98:=h98s M (by omega);have h99:=h99s M (by omega);have hl:=hls M (by omega) (by omega);exact pure_of [(9,.p (.sl false 10 R)),(11,.b false),(14,.b true),(35,.b false)] [(.exit 0,⟨[(4,num z),(16,.sl false 10 ss),(17,nat ss.length),(18,nat ss.length),(19,boolX false)],[]⟩)] (pf5 h22 h1 h2 hl h3) (x:=.tup ([num z,boolX true])) (bx:=[]) (by kernel_rfl) rfl⟩
  |false=>
   cases h4:(m==0) with
   |true=>exact ⟨0,false,fun N hN=>by obtain ⟨M,rfl⟩:∃M,N=M+1:=⟨N-1,by omega⟩;have h22:=h22s M (by omega);have h97:=h97s M (by omega);have h98:=h98s M (by omega);have h99:=h99s M (by omega);have hl:=hls M (by omega) (by omega);exact pure_of [(9,.p (.sl false 10 R)),(11,.b false),(14,.b false),(38,.p (num m)),(39,.b true)] [] (pf5 h22 h1 h2 h97 h4) (x:=.tup ([num 0,boolX false])) (bx:=[]) (by kernel_rfl) rfl⟩
   |false=>
    cases h5:(decide ((if true=true then if a>0 then a else 0 else if a<0 then a else 0)>=m)) with
    |true=>
     cases h6:(decide (IntKind.i64.wrap (w+Int.ofNat (p+1))>17592186044416)) with
     |true=>exact ⟨0,false,fun N hN=>by obtain ⟨M,rfl⟩:∃M,N=M+1:=⟨N-1,by omega⟩;have h22:=h22s M (by omega);have h97:=h97s M (by omega);have h98:=h98s M (by omega);have h99:=h99s M (by omega);have hl:=hls M (by omega) (by omega);exact pure_of [(9,.p (.sl false 10 R)),(11,.b false),(14,.b false),(38,.p (num m)),(39,.b false),(46,.p (num m)),(47,.b true),(51,.p (num w)),(53,.p (nat (p+1))),(56,.b true)] [] (pf10 h22 h1 h2 h97 h4 h97 h5 h98 h99 h6) (x:=.tup ([num 0,boolX false])) (bx:=[]) (by kernel_rfl) rfl⟩
     |false=>exact ⟨(IntKind.i64.wrap (w+Int.ofNat (p+1))),true,fun N hN=>by obtain ⟨M,rfl⟩:∃M,N=M+1:=⟨N-1,by omega⟩;have h22:=h22s M (by omega);have h97:=h97s M (by omega);have h98:=h98s M (by omega);have h99:=h99s M (by omega);have hl:=hls M (by omega) (by omega);exact pure_of [(9,.p (.sl false 10 R)),(11,.b false),(14,.b false),(38,.p (num m)),(39,.b false),(46,.p (num m)),(47,.b true),(51,.p (num w)),(53,.p (nat (p+1))),(56,.b false)] [] (pf10 h22 h1 h2 h97 h4 h97 h5 h98 h99 h6) (x:=.tup ([num (IntKind.i64.wrap (w+Int.ofNat (p+1))),boolX true])) (bx:=[]) (by kernel_rfl) rfl⟩
    |false=>
     cases h7:(decide (b>17592186044416)) with
     |true=>exact ⟨0,false,fun N hN=>by obtain ⟨M,rfl⟩:∃M,N=M+1:=⟨N-1,by omega⟩;have h22:=h22s M (by omega);have h97:=h97s M (by omega);have h98:=h98s M (by omega);have h99:=h99s M (by omega);have hl:=hls M (by omega) (by omega);exact pure_of [(9,.p (.sl false 10 R)),(11,.b false),(14,.b false),(38,.p (num m)),(39,.b false),(46,.p (num m)),(47,.b false),(56,.b true)] [] (pf8 h22 h1 h2 h97 h4 h97 h5 h7) (x:=.tup ([num 0,boolX false])) (bx:=[]) (by kernel_rfl) rfl⟩
     |false=>exact ⟨b,true,fun N hN=>by obtain ⟨M,rfl⟩:∃M,N=M+1:=⟨N-1,by omega⟩;have h22:=h22s M (by omega);have h97:=h97s M (by omega);have h98:=h98s M (by omega);have h99:=h99s M (by omega);have hl:=hls M (by omega) (by omega);exact pure_of [(9,.p (.sl false 10 R)),(11,.b false),(14,.b false),(38,.p (num m)),(39,.b false),(46,.p (num m)),(47,.b false),(56,.b false)] [] (pf8 h22 h1 h2 h97 h4 h97 h5 h7) (x:=.tup ([num b,boolX true])) (bx:=[]) (by kernel_rfl) rfl⟩
end Go.Proofs.YtonnphbfclaigaaGreatDoor.Ck
namespace Go.Proofs.YtonnphbfclaigaaGreatDoor
open Go.Em
set_option maxRecDepth 100000
def kindsM:List (Value×X):=[(.int .i64 1,.fn 152 []),(.int .i64 2,.fn 153 []),(.int .i64 11,.fn 154 []),(.int .i64 12,.fn 155 []),(.int .i64 14,.fn 156 [])]
theorem kinds_at (N:Nat):callF tab ext (N+1) (.fn 100) [] []=some (.mp 0,[.map kindsM]):=callF_of [] [] pf0 (by kernel_rfl)
def zeroS (s:Stt):Bool:=(s.n==0)&&((s.t==0)&&(Int.ofNat (sltsC s.slots).length==0))
def isRouter (k:Int):Bool:=!((!(k==1))&&((!(k==2))&&((!(k==11))&&((!(k==12))&&(!(k==14))))))
def rcheckF (k:Int)(s:Stt):Int:=if isRouter k then (if zeroS s then 0 else 10) else 11
theorem kinds_get (k:Int):∃y,mapGet true (.v .nilFunc) (.int .i64 k) kindsM=some (.tup [y,.v (.bool (isRouter k))]):=by
 unfold mapGet kindsM isRouter;simp only [mapFind,keySame,if_true];cases h1:(k==1) with
 |true=>simp_all
 |false=>
  cases h2:(k==2) with
  |true=>simp_all
  |false=>
   cases h3:(k==11) with
   |true=>simp_all
   |false=>
    cases h4:(k==12) with
    |true=>simp_all
    |false=>
     cases h5:(k==14)<;>simp_all
theorem rcheck_pure (N:Nat)(n:Nod)(s:Stt):Gam.pureD (callF tab ext (N+2)) 55 [.agg n.cells,.agg s.cells]=some (num (rcheckF n.kind s)):=by
 have hk:=kinds_at N;obtain ⟨y,hg⟩:=kinds_get n.kind;obtain ⟨a,b,ss⟩:=s;unfold rcheckF zeroS;dsimp only;cases hr:isRouter n.kind with
 |false=>rw [hr] at hg;exact pure_of [(8,.o (.mp 0) [.map kindsM]),(11,.g (.tup [y,boolX false]))] [] (pf2 hk hg) (x:=num 11) (bx:=[]) (by kernel_rfl) rfl
 |true=>
  rw [hr] at hg;cases h1:(a==0) with
  |false=>
   have h1':(!(a==0))=true:=by rw [h1];rfl
   exact pure_of [(8,.o (.mp 0) [.map kindsM]),(11,.g (.tup [y,boolX true])),(18,.b true)] [] (pf3 hk hg h1') (x:=num 10) (bx:=[]) (by kernel_rfl) rfl
  |true=>
   have h1':(!(a==0))=false:=by rw [h1];rfl
   cases h2:(b==0) with
   |false=>
    have h2':(!(b==0))=true:=by rw [h2];rfl
    exact pure_of [(8,.o (.mp 0) [.map kindsM]),(11,.g (.tup [y,boolX true])),(18,.b false),(22,.b true)] [] (pf4 hk hg h1' h2') (x:=num 10) (bx:=[]) (by kernel_rfl) rfl
   |true=>
    have h2':(!(b==0))=false:=by rw [h2];rfl
    cases h3:(Int.ofNat (sltsC ss).length==0) with
    |true=>
     have h3':decide (Int.ofNat (sltsC ss).length>0)=false:=by have:=eq_of_beq h3;rw [this];rfl
     exact pure_of [(8,.o (.mp 0) [.map kindsM]),(11,.g (.tup [y,boolX true])),(18,.b false),(22,.b false),(28,.b false)] [] (pf5 hk hg h1' h2' h3') (x:=num 0) (bx:=[]) (by kernel_rfl) rfl
    |false=>
     have h3':decide (Int.ofNat (sltsC ss).length>0)=true:=by have:=ne_of_beq_false h3;simp only [qam] at this ⊢;exact decide_eq_true (by omega)
     exact pure_of [(8,.o (.mp 0) [.map kindsM]),(11,.g (.tup [y,boolX true])),(18,.b false),(22,.b false),(28,.b true)] [] (pf5 hk hg h1' h2' h3') (x:=num 10) (bx:=[]) (by kernel_rfl) rfl
end Go.Proofs.YtonnphbfclaigaaGreatDoor
