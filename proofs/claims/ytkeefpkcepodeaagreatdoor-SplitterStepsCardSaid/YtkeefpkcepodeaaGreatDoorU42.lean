/-.-/
import Derived.Test.YtkeefpkcepodeaaGreatDoorU36
import Derived.Test.YtkeefpkcepodeaaGreatDoorU37
import Derived.Test.YtkeefpkcepodeaaGreatDoorU38
import Derived.Test.YtkeefpkcepodeaaGreatDoorU39
import Derived.Test.YtkeefpkcepodeaaGreatDoorU40
import Derived.Test.YtkeefpkcepodeaaGreatDoorU41
set_option linter.all false
namespace Go.Proofs.YtkeefpkcepodeaaGreatDoor
open Go Go.Em Go.Ab
set_option maxRecDepth 100000
variable {H Hv:Int}{bs:List Val}
namespace Ct.Ff
theorem zoQ:∀c,c∈fiG->∀k,k<9->o9 c k=true:=fun c a k f=>by
 rcases qal.1 a with rfl|a
 ·match k with
  |0=>exact tF0
  |1=>exact tF1
  |2=>exact tF2
  |3=>exact tF3
  |4=>exact tF4
  |5=>exact tF5
  |6=>exact tF6
  |7=>exact tF7
  |8=>exact tF8
  |k+9=>omega
 obtain rfl:=qaa.1 a
 match k with
 |0=>exact tR0
 |1=>exact tR1
 |2=>exact tR2
 |3=>exact tR3
 |4=>exact tR4
 |5=>exact tR5
 |6=>exact tR6
 |7=>exact tR7
 |8=>exact tR8
 |k+9=>omega
theorem zll:∀c,c∈fiG->c.alts=xA/\c.mu=some ⟨1,0⟩/\Nat.blt 1 c.m=true:=fun c a=>by
 rcases qal.1 a with rfl|a;·exact ⟨rfl,rfl,rfl⟩
 obtain rfl:=qaa.1 a;exact ⟨rfl,rfl,rfl⟩
theorem zoS:ak T Gm fiG:=Jg (K:=K3) (L:=fiL) zoR (by kernel_rfl) (by kernel_rfl) fun c j ρ h E u=>by
 obtain ⟨w,y,A⟩:=zll c j;obtain ⟨p,q,B⟩:=u.alts;rw [w] at q;obtain ⟨k,m,rfl⟩:=qaR q;have f:k<9:=m;have a:=zoQ c j k f;refine ⟨(c.with [xA[k]],⟨1,0⟩),rfl,⟨fiO,?_⟩,A,ρ,u.with B,fun l n=>?_,id⟩
 ·unfold o9 at a;have e:xA.getD k []=xA[k]:=by rw [qaF,qad m];rfl
  rw [e] at a;exact a
 rw [y] at n;cases n;exact Int.le_refl _
def zqp:List Ctr:=[mkC 112 [zwj,xQ] [] none [(.kb true,[]),(.kb false,[])]]
theorem zkc:ak T Gm zqp:=hoA K3 (hpA za2 zoS)
end Ct.Ff
namespace Ct
theorem zgG {q1 q2 q3 q4:Int}{w e f:qaV}(hd:D T (H+1) 14 (dB q1 q2 q3 q4 w e f)):0<=H/\IsL T H [int,int,int,int,.slh 1 5,.slh 7 14,.zQ 11 15 0 100] (dB q1 q2 q3 q4 w e f):=by obtain ⟨F,m,n,l⟩:=mP hd;obtain rfl:=qaa.1 n;rw [Int.add_sub_cancel] at l;obtain ⟨_,_,_,_,⟨_,q,u,a⟩,⟨_,y,A,h⟩,⟨_,B,E,j⟩,_⟩:=l;exact ⟨by omega,⟨q1,rfl⟩,⟨q2,rfl⟩,⟨q3,rfl⟩,⟨q4,rfl⟩,⟨false,w,rfl,by grind[bW],a⟩,⟨false,e,rfl,by grind[bW],h⟩,⟨false,f,rfl,by omega,by omega,j⟩,trivial⟩
theorem zhw {a b c:Int}{s:qaW}{l f:qaV}(hd:D T H 1 [num a,num b,num c,strX s,.sl false 6 l,.sl false 7 f]):val.Is T 0 (.agg [num a,num b,num c,strX s,.sl false 6 l,.sl false 7 f]):=by obtain ⟨E,m,n,q⟩:=mP hd;obtain rfl:=qaa.1 n;obtain ⟨_,_,_,⟨_,u⟩,⟨_,w,y,h⟩,⟨_,A,B,j⟩,_⟩:=q;exact ⟨H-1,_,rfl,by omega,⟨a,rfl⟩,⟨b,rfl⟩,⟨c,rfl⟩,⟨s,rfl,by grind[bW]⟩,⟨false,l,rfl,by grind[bW],h⟩,⟨false,f,rfl,by grind[bW],j⟩,trivial⟩
theorem Gw {n:Nat}{ρ:Rho}{F:List Fact}{bx:List ABx}{bxs:List Bx}{a:AX}{r:X}(z:ρ 0=0)(hF:aV n ρ F)(g1:G T n ρ a r)(g2:GBs T n ρ bx bxs)
  (hd:a.data F bx false=some (.agg [.i .i64 ⟨17,0⟩,.i .i64 ⟨18,0⟩,.i .i64 ⟨19,0⟩,.s ⟨20,0⟩,.sl (some false) 6 21 ⟨16,0⟩ ⟨21,0⟩,.sl (some false) 7 22 ⟨16,0⟩ ⟨22,0⟩])) (b16:0<=ρ 16) (b20:ρ 20<=1000000) (b21:ρ 21<=1000000) (b22:ρ 22<=1000100):
  ∃(a b c:Int) (s:qaW) (l f:qaV),r.data bxs false=some (.agg [num a,num b,num c,strX s,.sl false 6 l,.sl false 7 f])/\∃H,D T H 21 [num a,num b,num c,strX s,.sl false 6 l,.sl false 7 f]:=by
 obtain ⟨y,m,j⟩:=G.data hF g2 z g1 hd;obtain ⟨U,rfl,u⟩:=zfs j;obtain ⟨x1,V,rfl,M,w⟩:=dW u;obtain ⟨x2,W,rfl,N,A⟩:=dW w;obtain ⟨x3,Y,rfl,O,B⟩:=dW A;obtain ⟨x4,Z,rfl,P,E⟩:=dW B;obtain ⟨x5,r5,rfl,Q,J⟩:=dW E;obtain ⟨x6,r6,rfl,S,L⟩:=dW J;obtain rfl:=zhb L;obtain ⟨a,rfl⟩:=g_i M;obtain ⟨b,rfl⟩:=g_i N;obtain ⟨c,rfl⟩:=g_i O;obtain ⟨s,rfl,h⟩:=g_s P;cases Q with
 |sl i5 j5 f5 e5 q5=>
  rename_i t l;obtain rfl:t=false:=f5;cases S with
  |sl i6 j6 f6 e6 q6=>rename_i q f;obtain rfl:q=false:=f6;unfold Lin.v at h e5 e6 q5 q6;dsimp only at h e5 e6 q5 q6;refine ⟨a,b,c,s,l,f,m,ρ 16+1,dI (by omega) (qaa.2 rfl) ?_⟩;rw [Int.add_sub_cancel];rw [Int.add_zero] at q5 q6;exact ⟨⟨rfl,(fun a e=>by cases e),(fun a e=>by cases e)⟩,⟨rfl,(fun a e=>by cases e),(fun a e=>by cases e)⟩,⟨rfl,(fun a e=>by cases e),(fun a e=>by cases e)⟩,⟨by omega,by omega⟩,⟨rfl,by omega,by omega,q5⟩,⟨rfl,by omega,by omega,q6⟩,trivial⟩
theorem LG {q1 q2 q3 q4:Int}{w e f:qaV}(hT:D T (H+1) 14 (dB q1 q2 q3 q4 w e f)){a b c:Int}{s:qaW}{l g:qaV}(hv:D T Hv 1 [num a,num b,num c,strX s,.sl false 6 l,.sl false 7 g]):
  ∃(a' b' c':Int) (s':qaW) (l' f':qaV),(∃H',D T H' 21 [num a',num b',num c',strX s',.sl false 6 l',.sl false 7 f'])/\∃B,∀N,B<=N->Gam.pureD (callF tab ext N) 111 [.agg (dB q1 q2 q3 q4 w e f),.agg [num a,num b,num c,strX s,.sl false 6 l,.sl false 7 g]]=some (.agg [num a',num b',num c',strX s',.sl false 6 l',.sl false 7 f']):=by
 obtain ⟨Q,L⟩:=zgG hT;obtain ⟨ρ,M⟩:=KD (T:=T) (f:=111) (args:=[typ,val]) (inb:=[]) (mu:=some (1,1)) (outs:=oV 16 (.bsr 0 0 1000100)) rfl rfl (xs:=[.agg (dB q1 q2 q3 q4 w e f),.agg [num a,num b,num c,strX s,.sl false 6 l,.sl false 7 g]]) ⟨⟨H,_,rfl,Q,L⟩,zhw hv,trivial⟩ (bx:=[]) trivial;obtain ⟨o,O,ρ',r,bx,V,h,E,J,B,P⟩:=Ff.Rt _ (qaq ..) ρ _ _ M;have z:=V.zero M.pos M.zero;rw [yR] at O;obtain ⟨q,y,rfl⟩:=qah.1 O;have j:∀(a':Int) (b' c':Int) (s':qaW) (l' f':qaV),r.data bx false=some (.agg [num a',num b',num c',strX s',.sl false 6 l',.sl false 7 f'])->∃B,∀N,B<=N->Gam.pureD (callF tab ext N) 111 [.agg (dB q1 q2 q3 q4 w e f),.agg [num a,num b,num c,strX s,.sl false 6 l,.sl false 7 g]]=some (.agg [num a',num b',num c',strX s',.sl false 6 l',.sl false 7 f']):=fun _ _ _ _ _ _ U=>⟨B,fun N S=>bf (P N S) U⟩;have up:∀{n k:Nat} {c:Int} {F:List Fact},aV n ρ' F->aj ⟨k,0⟩ (.k c)∈F->ρ' k<=c:=fun {n} {k} {c} {F} h hk=>by have:=(aC.1 (h _ hk)).2.2<;>grind[Lin.k_v,Lin.v]
 have A:∀{n k:Nat} {c:Int} {F:List Fact},aV n ρ' F->aj (.k c) ⟨k,0⟩∈F->c<=ρ' k:=fun {n} {k} {c} {F} h hk=>by have:=(aC.1 (h _ hk)).2.2<;>grind[Lin.k_v,Lin.v]
 rcases qal.1 y with rfl|y;·obtain ⟨a',b',c',s',l',f',m,u⟩:=Gw z h E J (by kernel_rfl) (A h (of_decide_eq_true (by kernel_rfl))) (up h (of_decide_eq_true (by kernel_rfl))) (up h (of_decide_eq_true (by kernel_rfl))) (up h (of_decide_eq_true (by kernel_rfl)));exact ⟨a',b',c',s',l',f',u,j a' b' c' s' l' f' m⟩
 rcases qal.1 y with rfl|y;·obtain ⟨a',b',c',s',l',f',m,u⟩:=Gw z h E J (by kernel_rfl) (A h (of_decide_eq_true (by kernel_rfl))) (up h (of_decide_eq_true (by kernel_rfl))) (up h (of_decide_eq_true (by kernel_rfl))) (up h (of_decide_eq_true (by kernel_rfl)));exact ⟨a',b',c',s',l',f',u,j a' b' c' s' l' f' m⟩
 obtain rfl:=qaa.1 y;obtain ⟨a',b',c',s',l',f',m,u⟩:=Gw z h E J (by kernel_rfl) (A h (of_decide_eq_true (by kernel_rfl))) (up h (of_decide_eq_true (by kernel_rfl))) (up h (of_decide_eq_true (by kernel_rfl))) (up h (of_decide_eq_true (by kernel_rfl)));exact ⟨a',b',c',s',l',f',u,j a' b' c' s' l' f' m⟩
theorem zcV {a b c:Int}{s:qaW}{l f:qaV}(hd:D T H 21 [num a,num b,num c,strX s,.sl false 6 l,.sl false 7 f]):xQ.Is T 0 (.agg [num a,num b,num c,strX s,.sl false 6 l,.sl false 7 f]):=by obtain ⟨E,m,n,q⟩:=mP hd;obtain rfl:=qaa.1 n;obtain ⟨_,_,_,⟨_,u⟩,⟨_,w,y,h⟩,⟨_,A,B,j⟩,_⟩:=q;exact ⟨H-1,_,rfl,by omega,⟨a,rfl⟩,⟨b,rfl⟩,⟨c,rfl⟩,⟨s,rfl,by grind[bW]⟩,⟨false,l,rfl,by grind[bW],h⟩,⟨false,f,rfl,by omega,by omega,j⟩,trivial⟩
theorem zbx {q1 q2 q3 q4:Int}{w e f:qaV}(hT:D T 8 14 (dB q1 q2 q3 q4 w e f)){a b c:Int}{s:qaW}{l g:qaV}(hv:D T Hv 21 [num a,num b,num c,strX s,.sl false 6 l,.sl false 7 g]):
  ∃b',∃B,∀N,B<=N->Gam.pureD (callF tab ext N) 112 [.agg (dB q1 q2 q3 q4 w e f),.agg [num a,num b,num c,strX s,.sl false 6 l,.sl false 7 g]]=some (boolX b'):=by
 obtain ⟨y,m⟩:=zgG (H:=7) hT;obtain ⟨o,n,r,bx,h,q,B,u⟩:=eU (Ff.zkc _ (qaa.2 rfl)) rfl rfl (xs:=[.agg (dB q1 q2 q3 q4 w e f),.agg [num a,num b,num c,strX s,.sl false 6 l,.sl false 7 g]]) ⟨⟨7,_,rfl,by decide,by decide,m⟩,zcV hv,trivial⟩ (bx:=[]) trivial;rcases qal.1 n with rfl|n;·obtain rfl:=qQ q;have h:r=boolX true:=h;subst h;exact ⟨true,B,fun N j=>bf (u N j) rfl⟩
 obtain rfl:=qaa.1 n;obtain rfl:=qQ q;have h:r=boolX false:=h;subst h;exact ⟨false,B,fun N j=>bf (u N j) rfl⟩
def vZ:Val:=.mk 0 0 0 ⟨#[]⟩ [] []
theorem rC:vZ.wide:=by simp_all[vZ,Val.wide,zX,xO]
theorem H8 {q1 q2 q3 q4:Int}{w e f:qaV}(hT:D T 8 14 (dB q1 q2 q3 q4 w e f)){a b c:Int}{s:qaW}{l g:qaV}(hv:D T Hv 1 [num a,num b,num c,strX s,.sl false 6 l,.sl false 7 g]):
  ∃(v:Val) (x:Int),v.wide/\(x=0\/x=18)/\∃B,∀N,B<=N->Gam.pureD (callF tab ext N) 80 [.agg (dB q1 q2 q3 q4 w e f),.agg [num a,num b,num c,strX s,.sl false 6 l,.sl false 7 g]]=some (.tup [.agg v.cells,num x]):=by
 obtain ⟨n,q,u,F,E,y,⟨Z,A⟩,j,h⟩:=LG (H:=7) hT hv;obtain ⟨V,m,zqp⟩:=zbx hT A;cases V with
 |false=>refine ⟨vZ,18,rC,.inr rfl,j+m+1,fun N W=>?_⟩;obtain ⟨M,rfl⟩:=pR_ N;exact puA [(9,.p (.agg [num n,num q,num u,strX F,.sl false 6 E,.sl false 7 y])),(12,.p (boolX false))] (pf2 (h M (by omega)) (zqp M (by omega))) (.tup [.agg CS,num 18])
 |true=>obtain ⟨v,Y,U,zcJ⟩:=zfT A;refine ⟨v,0,Y,.inl rfl,j+m+U+1,fun N W=>?_⟩;obtain ⟨M,rfl⟩:=pR_ N;have zcJ:=zcJ M (by omega);obtain ⟨J,L,O,P,Q,S⟩:=v;exact puA [(9,.p (.agg [num n,num q,num u,strX F,.sl false 6 E,.sl false 7 y])),(12,.p (boolX true)),(16,.p (.agg (Val.mk J L O P Q S).cells))] (pf3 (h M (by omega)) (zqp M (by omega)) zcJ) (.tup [.agg (Val.mk J L O P Q S).cells,num 0])
end Ct
namespace Ct
noncomputable def apA:C:=((ZK (bodyOf tab 37)).getD 0 (.skip,.skip)).1
noncomputable def apB:C:=((ZK (bodyOf tab 37)).getD 0 (.skip,.skip)).2
noncomputable def apRec (a b c d:Nat):Bx:=.loop .ready none [(5,.ptr a 0 0),(10,.ptr b 0 0),(11,.ptr c 0 0),(12,.ptr d 0 0)] [31,32] apA apB
noncomputable def apS (ty out:List X)(full:Int)(ab:Bool):List Bx:=[apRec 1 2 3 4,.var ty,.var out,.var [num full],.var [boolX ab]]
noncomputable def apI (ty out:List X)(full:Int)(ab:Bool)(fl:Int):List Bx:=[apRec 2 3 4 5,.var [.ptr 6 0 0],.var ty,.var out,.var [num full],.var [boolX ab],.var [num fl]]
def okV (y:List X):Prop:=∃(a b c:Int) (s:qaW) (l f:qaV),y=dA a b c s l f/\∃H,D T H 1 y
section
variable (q1 q2 q3 q4:Int) (w e f ls:qaV) (a b c:Int) (s:qaW) (l g:qaV) (a2 b2 c2:Int) (s2:qaW) (l2 g2:qaV) (a3 b3 c3:Int) (s3:qaW) (l3 g3:qaV) (full er:Int) (N:Nat)
variable (Xx:Gam.pureD (callF tab ext N) 79 [.agg (dA a b c s l g),.sl false 3 ls,.agg (dA a2 b2 c2 s2 l2 g2)]=some (.tup [.agg (dA a3 b3 c3 s3 l3 g3),num er])) (hf:(full==0)=true)
variable (hg:(full==0)=false)
include Xx hf in
theorem ztM:callF tab ext (N+1) .yl [.yl 0,.sl false 3 ls,.agg (dA a2 b2 c2 s2 l2 g2)] (apS (dB q1 q2 q3 q4 w e f) (dA a b c s l g) full true)=some (.v (.bool true),apS (dB q1 q2 q3 q4 w e f) (dA a3 b3 c3 s3 l3 g3) er true):=
 yiA [(44,.b true),(49,.p (.tup [.agg (dA a3 b3 c3 s3 l3 g3),num er]))] (pf2 hf Xx)
include hg in
theorem ztQ:callF tab ext (N+1) .yl [.yl 0,.sl false 3 ls,.agg (dA a2 b2 c2 s2 l2 g2)] (apS (dB q1 q2 q3 q4 w e f) (dA a b c s l g) full true)=some (.v (.bool true),apS (dB q1 q2 q3 q4 w e f) (dA a b c s l g) full true):=
 yiA [(44,.b false)] (pf1 hg)
variable (UG:Gam.pureD (callF tab ext N) 65 [.agg (dA a2 b2 c2 s2 l2 g2)]=some (boolX false))
include UG
include Xx hf in
theorem ztL:callF tab ext (N+1) .yl [.yl 0,.sl false 3 ls,.agg (dA a2 b2 c2 s2 l2 g2)] (apS (dB q1 q2 q3 q4 w e f) (dA a b c s l g) full false)=some (.v (.bool true),apS (dB q1 q2 q3 q4 w e f) (dA a3 b3 c3 s3 l3 g3) er false):=
 yiA [(36,.p (boolX false)),(44,.b true),(49,.p (.tup [.agg (dA a3 b3 c3 s3 l3 g3),num er]))] (pf3 UG hf Xx)
include hg in
theorem ztP:callF tab ext (N+1) .yl [.yl 0,.sl false 3 ls,.agg (dA a2 b2 c2 s2 l2 g2)] (apS (dB q1 q2 q3 q4 w e f) (dA a b c s l g) full false)=some (.v (.bool true),apS (dB q1 q2 q3 q4 w e f) (dA a b c s l g) full false):=
 yiA [(36,.p (boolX false)),(44,.b false)] (pf2 UG hg)
omit UG
variable (zbf:Gam.pureD (callF tab ext N) 65 [.agg (dA a2 b2 c2 s2 l2 g2)]=some (boolX true)) (r:Bool) (zcI:Gam.pureD (callF tab ext N) 78 [.agg (dB q1 q2 q3 q4 w e f),.sl false 3 ls]=some (boolX r))
include zbf zcI
include Xx hf in
theorem ztK:callF tab ext (N+1) .yl [.yl 0,.sl false 3 ls,.agg (dA a2 b2 c2 s2 l2 g2)] (apS (dB q1 q2 q3 q4 w e f) (dA a b c s l g) full false)=some (.v (.bool true),apS (dB q1 q2 q3 q4 w e f) (dA a3 b3 c3 s3 l3 g3) er r):=by
 cases r with
 |true=>exact yiA [(36,.p (boolX true)),(40,.p (boolX true)),(44,.b true),(49,.p (.tup [.agg (dA a3 b3 c3 s3 l3 g3),num er]))] (pf4 zbf zcI hf Xx)
 |false=>exact yiA [(36,.p (boolX true)),(40,.p (boolX false)),(44,.b true),(49,.p (.tup [.agg (dA a3 b3 c3 s3 l3 g3),num er]))] (pf4 zbf zcI hf Xx)
include hg in
theorem ztO:callF tab ext (N+1) .yl [.yl 0,.sl false 3 ls,.agg (dA a2 b2 c2 s2 l2 g2)] (apS (dB q1 q2 q3 q4 w e f) (dA a b c s l g) full false)=some (.v (.bool true),apS (dB q1 q2 q3 q4 w e f) (dA a b c s l g) full r):=by
 cases r with
 |true=>exact yiA [(36,.p (boolX true)),(40,.p (boolX true)),(44,.b false)] (pf3 zbf zcI hg)
 |false=>exact yiA [(36,.p (boolX true)),(40,.p (boolX false)),(44,.b false)] (pf3 zbf zcI hg)
end
theorem zgd {q1 q2 q3 q4:Int}{w e f:qaV}(hT:D T (H+1) 14 (dB q1 q2 q3 q4 w e f)){ls:qaV}(hl0:1<=ls.length)(hl:ls.length<=201)(hd:∀x,x∈ls->D T 1 7 x){out y:List X}(ho:okV out)(hy:okV y)(full:Int)(hfu:0<=full/\full<=100)(ab:Bool):
  ∃(out':List X) (full':Int) (ab':Bool),okV out'/\(0<=full'/\full'<=100)/\∃B,∀N,B<=N->callF tab ext N .yl [.yl 0,.sl false 3 ls,.agg y] (apS (dB q1 q2 q3 q4 w e f) out full ab)=some (.v (.bool true),apS (dB q1 q2 q3 q4 w e f) out' full' ab'):=by
 obtain ⟨a,b,c,s,l,g,rfl,H1,h1⟩:=ho;obtain ⟨m,n,q,E,A,u,rfl,H2,h2⟩:=hy;obtain ⟨P,Q,S,Y,W,U,L,h3,F,Z,Xx⟩:=zea h1 hl0 hl hd h2;obtain ⟨nl,B2,UG⟩:=WR h2;obtain ⟨r,B3,zcI⟩:=Ko hT hl hd;have J:okV (dA P Q S Y W U):=⟨P,Q,S,Y,W,U,rfl,h3⟩;have ok1:okV (dA a b c s l g):=⟨a,b,c,s,l,g,rfl,H1,h1⟩;have j:∀{z:X} {bx:List Bx},(∀M,Z+B2+B3<=M->callF tab ext (M+1) .yl [.yl 0,.sl false 3 ls,.agg (dA m n q E A u)] (apS (dB q1 q2 q3 q4 w e f) (dA a b c s l g) full ab)=some (z,bx))->∃B,∀N,B<=N->callF tab ext N .yl [.yl 0,.sl false 3 ls,.agg (dA m n q E A u)] (apS (dB q1 q2 q3 q4 w e f) (dA a b c s l g) full ab)=some (z,bx):=fun {z} {bx} h=>⟨Z+B2+B3+1,fun N hN=>by obtain ⟨M,rfl⟩:=pR_ N<;>simp_all⟩;cases O:(full==0) with
 |true=>
  cases ab with
  |true=>exact ⟨_,L,true,J,F,j fun M V=>ztM q1 q2 q3 q4 w e f ls a b c s l g m n q E A u P Q S Y W U full L M (Xx M (by omega)) O⟩
  |false=>
   cases nl with
   |false=>exact ⟨_,L,false,J,F,j fun M V=>ztL q1 q2 q3 q4 w e f ls a b c s l g m n q E A u P Q S Y W U full L M (Xx M (by omega)) O (UG M (by omega))⟩
   |true=>exact ⟨_,L,r,J,F,j fun M V=>ztK q1 q2 q3 q4 w e f ls a b c s l g m n q E A u P Q S Y W U full L M (Xx M (by omega)) O (UG M (by omega)) r (zcI M (by omega))⟩
 |false=>
  cases ab with
  |true=>exact ⟨_,full,true,ok1,hfu,j fun M V=>ztQ q1 q2 q3 q4 w e f ls a b c s l g m n q E A u full M O⟩
  |false=>
   cases nl with
   |false=>exact ⟨_,full,false,ok1,hfu,j fun M V=>ztP q1 q2 q3 q4 w e f ls a b c s l g m n q E A u full M O (UG M (by omega))⟩
   |true=>exact ⟨_,full,r,ok1,hfu,j fun M V=>ztO q1 q2 q3 q4 w e f ls a b c s l g m n q E A u full M O (UG M (by omega)) r (zcI M (by omega))⟩
section
variable (ru tg:qaV) (k1 b1 d1:Int) (s1:qaW) (l1 f1:qaV) (n j:Nat) (q1 q2 q3 q4:Int) (w e f:qaV) (k4 b4 d4:Int) (s4:qaW) (l4 f4:qaV) (k3 b3 d3:Int) (s3:qaW) (l3 f3:qaV) (full full':Int) (ab ab':Bool) (s:qaW) (o i:Int) (t:qaW) (vs es ls:qaV) (a b c:Int) (s2:qaW) (l g:qaV) (er:Int) (N:Nat)
def zrG:List (Nat×X):=[(0,.yl 0),(2,.dp (dA k1 b1 d1 s1 l1 f1)),(3,.ptr 1 0 0),(5,.sl false 1 tg),(13,.sl false 6 ru),(14,nat n),(15,nat j)]
noncomputable def itH:St:=⟨zrG ru tg k1 b1 d1 s1 l1 f1 n j,apI (dB q1 q2 q3 q4 w e f) (dA k4 b4 d4 s4 l4 f4) full ab 0⟩
noncomputable def itN:St:=⟨zrG ru tg k1 b1 d1 s1 l1 f1 n (j+1),apI (dB q1 q2 q3 q4 w e f) (dA k4 b4 d4 s4 l4 f4) full ab 0++[.var (fU s o i t vs es),.var (dA a b c s2 l g)]⟩
noncomputable def itE:St:=⟨zrG ru tg k1 b1 d1 s1 l1 f1 n j++[(16,boolX false)],apI (dB q1 q2 q3 q4 w e f) (dA k4 b4 d4 s4 l4 f4) full ab 0⟩
noncomputable def itF:St:=⟨[],apI (dB q1 q2 q3 q4 w e f) (dA k4 b4 d4 s4 l4 f4) full ab er++[.var (fU s o i t vs es),.var (dA a b c s2 l g)]⟩
theorem KI:canon 7 (itH ru tg k1 b1 d1 s1 l1 f1 n j q1 q2 q3 q4 w e f k4 b4 d4 s4 l4 f4 full ab)=some (itH ru tg k1 b1 d1 s1 l1 f1 n j q1 q2 q3 q4 w e f k4 b4 d4 s4 l4 f4 full ab):=by kernel_rfl
theorem FM:canon 7 (itN ru tg k1 b1 d1 s1 l1 f1 n j q1 q2 q3 q4 w e f k4 b4 d4 s4 l4 f4 full ab s o i t vs es a b c s2 l g)=some (itH ru tg k1 b1 d1 s1 l1 f1 n (j+1) q1 q2 q3 q4 w e f k4 b4 d4 s4 l4 f4 full ab):=by kernel_rfl
theorem zaF (h:¬j<n):run (callF tab ext N) 7 N (loopAt 106 0) (itH ru tg k1 b1 d1 s1 l1 f1 n j q1 q2 q3 q4 w e f k4 b4 d4 s4 l4 f4 full ab)=some (.exit 0,itE ru tg k1 b1 d1 s1 l1 f1 n j q1 q2 q3 q4 w e f k4 b4 d4 s4 l4 f4 full ab):=
 ruA [(16,.b false)] (pf1 (aG h))
variable (hj:j<n) (hi:ru[j]?=some (fU s o i t vs es))
include hj hi
theorem zjr (zg9:Gam.pureD (callF tab ext N) 108 [.agg (mQ o i t vs es),.agg (dA k1 b1 d1 s1 l1 f1)]=some (.tup [.agg (dA a b c s2 l g),num er]))(he:(er !=0)=true):run (callF tab ext N) 7 N (loopAt 106 0) (itH ru tg k1 b1 d1 s1 l1 f1 n j q1 q2 q3 q4 w e f k4 b4 d4 s4 l4 f4 full ab)=some (.ret,itF q1 q2 q3 q4 w e f k4 b4 d4 s4 l4 f4 full ab s o i t vs es a b c s2 l g er):=
 ruA [(16,.b true),(18,.e (fU s o i t vs es)),(24,.p (.tup [.agg (dA a b c s2 l g),num er])),(28,.b true)] (pf4 (aH hj) hi zg9 he)
theorem QE (hn:n<=1000)(zg9:Gam.pureD (callF tab ext N) 108 [.agg (mQ o i t vs es),.agg (dA k1 b1 d1 s1 l1 f1)]=some (.tup [.agg (dA a b c s2 l g),num 0]))(htg:tg[j]?=some [.sl false 3 ls])
  (hy:callF tab ext N .yl [.yl 0,.sl false 3 ls,.agg (dA a b c s2 l g)] (apS (dB q1 q2 q3 q4 w e f) (dA k4 b4 d4 s4 l4 f4) full ab)=some (.v (.bool true),apS (dB q1 q2 q3 q4 w e f) (dA k3 b3 d3 s3 l3 f3) full' ab')):
  run (callF tab ext N) 7 N (loopAt 106 0) (itH ru tg k1 b1 d1 s1 l1 f1 n j q1 q2 q3 q4 w e f k4 b4 d4 s4 l4 f4 full ab)=some (.norm,itN ru tg k1 b1 d1 s1 l1 f1 n j q1 q2 q3 q4 w e f k3 b3 d3 s3 l3 f3 full' ab' s o i t vs es a b c s2 l g):=
 ruA [(16,.b true),(18,.e (fU s o i t vs es)),(24,.p (.tup [.agg (dA a b c s2 l g),num 0])),(35,.e [.sl false 3 ls]),(38,.r (.v (.bool true)) (apS (dB q1 q2 q3 q4 w e f) (dA k3 b3 d3 s3 l3 f3) full' ab')),(40,.i (Int.ofNat (j+1)))] (pf6 (aH hj) hi zg9 htg hy (ay (j:=j) (by omega)))
end
structure zmu (ru:qaV) (x0:List X) (ev:Nat->List X×Int) (B:Nat):Prop where
 all:∀j,j<ru.length->∀s o i t vs es,ru[j]?=some (fU s o i t vs es)->okV (ev j).1/\(0<=(ev j).2/\(ev j).2<=100)/\∀N,B<=N->Gam.pureD (callF tab ext N) 108 [.agg (mQ o i t vs es),.agg x0]=some (.tup [.agg (ev j).1,num (ev j).2])
def Yj:List X:=dA 9 0 0 ⟨#[]⟩ [] []
theorem zhu:okV Yj:=⟨9,0,0,⟨#[]⟩,[],[],rfl,1,dI (by decide) (qaa.2 rfl) ⟨⟨rfl,(fun a e=>by cases e),(fun a e=>by cases e)⟩,⟨rfl,(fun a e=>by cases e),(fun a e=>by cases e)⟩,⟨rfl,(fun a e=>by cases e),(fun a e=>by cases e)⟩,⟨by decide,by decide⟩,⟨rfl,by decide,by decide,fun e f=>by grind⟩,⟨rfl,by decide,by decide,fun e f=>by grind⟩,trivial⟩⟩
theorem zaD (ru:qaV)(pr:Nat->qaV×Int)(B0:Nat)(h:Rules ru pr B0)(hok:∀j,j<ru.length->(pr j).2=0)(k1 b1 d1:Int)(s1:qaW)(l1 f1:qaV)(ev:Nat->List X×Int)(Be:Nat)(he:zmu ru (dA k1 b1 d1 s1 l1 f1) ev Be){q1 q2 q3 q4:Int}{w e f:qaV}(hT:D T (H+1) 14 (dB q1 q2 q3 q4 w e f)):
  ∃(out:List X) (full:Int) (ab:Bool) (fl:Int),okV out/\(0<=full/\full<=100)/\(0<=fl/\fl<=100)/\∃B,∀N,B<=N->callF tab ext N (.fn 106) [.yl 0,.dp [.sl false 6 ru],.dp (dA k1 b1 d1 s1 l1 f1),.ptr 1 0 0] (apI (dB q1 q2 q3 q4 w e f) Yj 0 false 0)=some (.tup [],apI (dB q1 q2 q3 q4 w e f) out full ab fl):=by
 have hl:=h.len;obtain ⟨Z,σ',B,hQ,m⟩:=jC (nIn:=7) (b:=loopAt 106 0) (H:=fun p:Nat×(Int×Int×Int×qaW×qaV×qaV)×Int×Bool=>itH ru (tgts pr ru.length) k1 b1 d1 s1 l1 f1 ru.length p.1 q1 q2 q3 q4 w e f p.2.1.1 p.2.1.2.1 p.2.1.2.2.1 p.2.1.2.2.2.1 p.2.1.2.2.2.2.1 p.2.1.2.2.2.2.2 p.2.2.1 p.2.2.2)
  (I:=fun p=>p.1<=ru.length/\okV (dA p.2.1.1 p.2.1.2.1 p.2.1.2.2.1 p.2.1.2.2.2.1 p.2.1.2.2.2.2.1 p.2.1.2.2.2.2.2)/\0<=p.2.2.1/\p.2.2.1<=100) (μ:=fun p=>ru.length-p.1)
  (Q:=fun Z σ'=>(∃(k4 b4 d4:Int) (s4:qaW) (l4 f4:qaV) (full:Int) (ab:Bool) (s:qaW) (o i:Int) (t:qaW) (vs es:qaV) (a b c:Int) (s2:qaW) (l g:qaV) (er:Int),Z=.ret/\σ'=itF q1 q2 q3 q4 w e f k4 b4 d4 s4 l4 f4 full ab s o i t vs es a b c s2 l g er/\okV (dA k4 b4 d4 s4 l4 f4)/\(0<=full/\full<=100)/\0<=er/\er<=100)\/
   (∃(k4 b4 d4:Int) (s4:qaW) (l4 f4:qaV) (full:Int) (ab:Bool),Z=.exit 0/\σ'=itE ru (tgts pr ru.length) k1 b1 d1 s1 l1 f1 ru.length ru.length q1 q2 q3 q4 w e f k4 b4 d4 s4 l4 f4 full ab/\okV (dA k4 b4 d4 s4 l4 f4)/\0<=full/\full<=100)) (fun p hp=>by
   obtain ⟨j,⟨k4,b4,d4,s4,l4,f4⟩,full,ab⟩:=p;obtain ⟨i1,O,P,S⟩:=hp;dsimp only at i1 O P S ⊢;by_cases J:j<ru.length
   ·obtain ⟨s,o,i,t,vs,es,hi,_,_,hP,_⟩:=h.rule j J;obtain ⟨⟨a,b,c,s2,l,g,hv,hD⟩,A,E⟩:=he.all j J s o i t vs es hi;have W:=hok j J;generalize hq:pr j=q at hP W;generalize ev j=y at hv hD A E;obtain ⟨y,er⟩:=y;dsimp only at hv hD A E;subst hv;obtain ⟨ls,pe⟩:=q;dsimp only at W;subst W;rcases hP with ⟨⟨c1,_⟩,_⟩|⟨_,⟨n1,n2⟩,n3⟩
    ·grind
    dsimp only at n1 n2 n3;cases hz:(er !=0) with
    |true=>exact .inr ⟨_,_,Be,(by grind),.inl ⟨k4,b4,d4,s4,l4,f4,full,ab,s,o,i,t,vs,es,a,b,c,s2,l,g,er,rfl,rfl,O,⟨P,S⟩,A⟩,fun M hM=>zjr ru (tgts pr ru.length) k1 b1 d1 s1 l1 f1 ru.length j q1 q2 q3 q4 w e f k4 b4 d4 s4 l4 f4 full ab s o i t vs es a b c s2 l g er M J hi (E M hM) hz⟩
    |false=>
     have Y:er=0:=by simpa using hz
     subst Y;obtain ⟨pf,u,L,⟨k3,U,V,s3,l3,f3,pb,pa⟩,pd,By,hy⟩:=zgd hT n1 n2 (AB n3) O (⟨a,b,c,s2,l,g,rfl,hD⟩:okV (dA a b c s2 l g)) full ⟨P,S⟩ ab;subst pb;have pc:(tgts pr ru.length)[j]?=some [.sl false 3 ls]:=by rw [zdq pr J,hq]
     exact .inl ⟨_,(j+1,(k3,U,V,s3,l3,f3),u,L),Be+By,fun M hM=>QE ru (tgts pr ru.length) k1 b1 d1 s1 l1 f1 ru.length j q1 q2 q3 q4 w e f k4 b4 d4 s4 l4 f4 k3 U V s3 l3 f3 full u ab L s o i t vs es ls a b c s2 l g M J hi (by omega) (E M (by omega)) pc (hy M (by omega)),FM ..,⟨by grind,⟨k3,U,V,s3,l3,f3,rfl,pa⟩,pd⟩,by grind⟩
   obtain rfl:j=ru.length:=by omega
   exact .inr ⟨_,_,0,(by grind),.inr ⟨k4,b4,d4,s4,l4,f4,full,ab,rfl,rfl,O,P,S⟩,fun M _=>zaF ru (tgts pr ru.length) k1 b1 d1 s1 l1 f1 ru.length ru.length q1 q2 q3 q4 w e f k4 b4 d4 s4 l4 f4 full ab M J⟩)
  (a:=(0,(9,0,0,⟨#[]⟩,[],[]),0,false)) ⟨Nat.zero_le _,zhu,by decide,by decide⟩ (KI ..)
 have ht:=fun N hN=>MV ru pr B0 h N hN;generalize tgts pr ru.length=tg at ht m hQ;rcases hQ with ⟨k4,b4,d4,s4,l4,f4,full,ab,s,o,i,t,vs,es,a,b,c,s2,l,g,er,rfl,rfl,ho,F,A⟩|⟨k4,b4,d4,s4,l4,f4,full,ab,rfl,rfl,ho,F⟩
 ·refine ⟨_,full,ab,er,ho,F,A,B0+B+21,fun N hN=>?_⟩;obtain ⟨M,rfl⟩:=pR_ N;exact caB [(11,.p (.sl false 1 tg))] [(.ret,itF q1 q2 q3 q4 w e f k4 b4 d4 s4 l4 f4 full ab s o i t vs es a b c s2 l g er)] (pf2 (ht M (by omega)) (m M (by omega)))
 refine ⟨_,full,ab,0,ho,F,by decide,B0+B+21,fun N hN=>?_⟩;obtain ⟨M,rfl⟩:=pR_ N;have m:=m M (by omega);generalize ru.length=n at m;exact caB [(11,.p (.sl false 1 tg))] [(.exit 0,itE ru tg k1 b1 d1 s1 l1 f1 n n q1 q2 q3 q4 w e f k4 b4 d4 s4 l4 f4 full ab)] (pf2 (ht M (by omega)) m)
end Ct
namespace Ct
section
variable (ru:qaV) (k1 b1 d1:Int) (s1:qaW) (l1 f1:qaV) (q1 q2 q3 q4:Int) (w e f:qaV) (k4 b4 d4:Int) (s4:qaW) (l4 f4:qaV) (full fl:Int) (ab:Bool) (N:Nat)
def zvk:List (Nat×X):=[(5,.ptr 2 0 0),(6,.ptr 3 0 0),(9,.ptr 4 0 0),(10,.ptr 5 0 0),(11,.ptr 6 0 0),(12,.ptr 7 0 0),(30,.fn 106 [.dp [.sl false 6 ru],.dp (dA k1 b1 d1 s1 l1 f1),.ptr 8 0 0])]
def ztI (out:List X)(full:Int)(ab:Bool)(fl:Int):List Bx:=[.var [.sl false 6 ru],.var (dA k1 b1 d1 s1 l1 f1),.var (dB q1 q2 q3 q4 w e f),.var CS,.var [num fl],.var out,.var [num full],.var [boolX ab],.var [.ptr 4 0 0]]
def arS:St:=⟨zvk ru k1 b1 d1 s1 l1 f1,ztI ru k1 b1 d1 s1 l1 f1 q1 q2 q3 q4 w e f Yj 0 false 0⟩
def arF:St:=⟨zvk ru k1 b1 d1 s1 l1 f1,ztI ru k1 b1 d1 s1 l1 f1 q1 q2 q3 q4 w e f (dA k4 b4 d4 s4 l4 f4) full ab fl++[.dead]⟩
theorem ztN (hy:callF tab ext N (.fn 106) [.yl 0,.dp [.sl false 6 ru],.dp (dA k1 b1 d1 s1 l1 f1),.ptr 1 0 0] (apI (dB q1 q2 q3 q4 w e f) Yj 0 false 0)=some (.tup [],apI (dB q1 q2 q3 q4 w e f) (dA k4 b4 d4 s4 l4 f4) full ab fl)):
  run (callF tab ext N) 0 N (.rf (.t 30) [31,32] [5,10,11,12] apA apB) (arS ru k1 b1 d1 s1 l1 f1 q1 q2 q3 q4 w e f)=some (.norm,arF ru k1 b1 d1 s1 l1 f1 q1 q2 q3 q4 w e f k4 b4 d4 s4 l4 f4 full fl ab):=
 Hq (g:=106) (caps:=[.dp [.sl false 6 ru],.dp (dA k1 b1 d1 s1 l1 f1),.ptr 8 0 0]) (y:=.tup []) (outb:=apI (dB q1 q2 q3 q4 w e f) (dA k4 b4 d4 s4 l4 f4) full ab fl)
  (q:=(.tup [],ztI ru k1 b1 d1 s1 l1 f1 q1 q2 q3 q4 w e f (dA k4 b4 d4 s4 l4 f4) full ab fl++[apRec 2 5 6 7],[9,8,2,5,6,7,4])) hy (by kernel_rfl) (by kernel_rfl) (by kernel_rfl)
variable (c:Int)
theorem zmc (UF:Gam.pureD (callF tab ext N) 76 [.agg [.sl false 6 ru]]=some (num c))(hc:(c !=0)=true):Gam.pureD (callF tab ext (N+1)) 37 [.agg [.sl false 6 ru],.agg (dA k1 b1 d1 s1 l1 f1),.agg (dB q1 q2 q3 q4 w e f)]=some (.tup [.agg vZ.cells,num c]):=
 puA [(18,.p (num c)),(20,.b true)] (pf2 UF hc) (.tup [.agg CS,num c])
variable (UF:Gam.pureD (callF tab ext (N+20)) 76 [.agg [.sl false 6 ru]]=some (num 0))
include UF
theorem zl9 (hk:(k1 !=9)=true):Gam.pureD (callF tab ext (N+21)) 37 [.agg [.sl false 6 ru],.agg (dA k1 b1 d1 s1 l1 f1),.agg (dB q1 q2 q3 q4 w e f)]=some (.tup [.agg vZ.cells,num 11]):=
 puA [(18,.p (num 0)),(25,.b true)] (pf2 UF hk) (.tup [.agg CS,num 11])
variable (hk:(k1 !=9)=false) (Pz:Gam.pureD (callF tab ext (N+20)) 32 [.sl false 7 []]=some (.agg Yj)) (hrf:run (callF tab ext (N+20)) 0 (N+20) (.rf (.t 30) [31,32] [5,10,11,12] apA apB) (arS ru k1 b1 d1 s1 l1 f1 q1 q2 q3 q4 w e f)=some (.norm,arF ru k1 b1 d1 s1 l1 f1 q1 q2 q3 q4 w e f k4 b4 d4 s4 l4 f4 full fl ab))
include hk Pz hrf
theorem zcn (hf:(fl !=0)=true):Gam.pureD (callF tab ext (N+21)) 37 [.agg [.sl false 6 ru],.agg (dA k1 b1 d1 s1 l1 f1),.agg (dB q1 q2 q3 q4 w e f)]=some (.tup [.agg vZ.cells,num fl]):=
 puB [(18,.p (num 0)),(25,.b false),(27,.p (.agg Yj)),(54,.b true)] [(.norm,arF ru k1 b1 d1 s1 l1 f1 q1 q2 q3 q4 w e f k4 b4 d4 s4 l4 f4 full fl ab)] (pf5 UF hk Pz hrf hf) (.tup [.agg CS,num fl])
variable (hf:(fl !=0)=false)
include hf
theorem zmb (hg:(full !=0)=true):Gam.pureD (callF tab ext (N+21)) 37 [.agg [.sl false 6 ru],.agg (dA k1 b1 d1 s1 l1 f1),.agg (dB q1 q2 q3 q4 w e f)]=some (.tup [.agg vZ.cells,num full]):=
 puB [(18,.p (num 0)),(25,.b false),(27,.p (.agg Yj)),(54,.b false),(59,.b true)] [(.norm,arF ru k1 b1 d1 s1 l1 f1 q1 q2 q3 q4 w e f k4 b4 d4 s4 l4 f4 full fl ab)] (pf6 UF hk Pz hrf hf hg) (.tup [.agg CS,num full])
variable (hg:(full !=0)=false)
include hg
theorem zco (ha:ab=true):Gam.pureD (callF tab ext (N+21)) 37 [.agg [.sl false 6 ru],.agg (dA k1 b1 d1 s1 l1 f1),.agg (dB q1 q2 q3 q4 w e f)]=some (.tup [.agg vZ.cells,num 19]):=by subst ha;exact puB [(18,.p (num 0)),(25,.b false),(27,.p (.agg Yj)),(54,.b false),(59,.b false)] [(.norm,arF ru k1 b1 d1 s1 l1 f1 q1 q2 q3 q4 w e f k4 b4 d4 s4 l4 f4 full fl true)] (pf6 UF hk Pz hrf hf hg) (.tup [.agg CS,num 19])
variable (ha:ab=false) (v:Val)
include ha
theorem zl8 (zfr:Gam.pureD (callF tab ext (N+20)) 80 [.agg (dB q1 q2 q3 q4 w e f),.agg (dA k4 b4 d4 s4 l4 f4)]=some (.tup [.agg v.cells,num 18])):Gam.pureD (callF tab ext (N+21)) 37 [.agg [.sl false 6 ru],.agg (dA k1 b1 d1 s1 l1 f1),.agg (dB q1 q2 q3 q4 w e f)]=some (.tup [.agg vZ.cells,num 18]):=by subst ha;obtain ⟨a,h,j,l,m,n⟩:=v;exact puB [(18,.p (num 0)),(25,.b false),(27,.p (.agg Yj)),(54,.b false),(59,.b false),(68,.p (.tup [.agg (Val.mk a h j l m n).cells,num 18]))] [(.norm,arF ru k1 b1 d1 s1 l1 f1 q1 q2 q3 q4 w e f k4 b4 d4 s4 l4 f4 full fl false)] (pf7 UF hk Pz hrf hf hg zfr) (.tup [.agg CS,num 18])
variable (zfr:Gam.pureD (callF tab ext (N+20)) 80 [.agg (dB q1 q2 q3 q4 w e f),.agg (dA k4 b4 d4 s4 l4 f4)]=some (.tup [.agg v.cells,num 0])) (zmP:Gam.pureD (callF tab ext (N+20)) 81 [.agg v.cells]=some (num c))
include zfr zmP
theorem zpi (hc:(c !=0)=true):Gam.pureD (callF tab ext (N+21)) 37 [.agg [.sl false 6 ru],.agg (dA k1 b1 d1 s1 l1 f1),.agg (dB q1 q2 q3 q4 w e f)]=some (.tup [.agg vZ.cells,num c]):=by subst ha;obtain ⟨a,h,j,l,m,n⟩:=v;exact puB [(18,.p (num 0)),(25,.b false),(27,.p (.agg Yj)),(54,.b false),(59,.b false),(68,.p (.tup [.agg (Val.mk a h j l m n).cells,num 0])),(76,.p (num c)),(78,.b true)] [(.norm,arF ru k1 b1 d1 s1 l1 f1 q1 q2 q3 q4 w e f k4 b4 d4 s4 l4 f4 full fl false)] (pf9 UF hk Pz hrf hf hg zfr zmP hc) (.tup [.agg CS,num c])
theorem zma (hc:(c !=0)=false):Gam.pureD (callF tab ext (N+21)) 37 [.agg [.sl false 6 ru],.agg (dA k1 b1 d1 s1 l1 f1),.agg (dB q1 q2 q3 q4 w e f)]=some (.tup [.agg v.cells,num 0]):=by subst ha;obtain ⟨a,h,j,l,m,n⟩:=v;exact puB [(18,.p (num 0)),(25,.b false),(27,.p (.agg Yj)),(54,.b false),(59,.b false),(68,.p (.tup [.agg (Val.mk a h j l m n).cells,num 0])),(76,.p (num c)),(78,.b false)] [(.norm,arF ru k1 b1 d1 s1 l1 f1 q1 q2 q3 q4 w e f k4 b4 d4 s4 l4 f4 full fl false)] (pf9 UF hk Pz hrf hf hg zfr zmP hc) (.tup [.agg (Val.mk a h j l m n).cells,num 0])
end
theorem Ye (ru:qaV)(pr:Nat->qaV×Int)(B0:Nat)(h:Rules ru pr B0)(k1 b1 d1:Int)(s1:qaW)(l1 f1:qaV)(ev:Nat->List X×Int)(Be:Nat)(he:zmu ru (dA k1 b1 d1 s1 l1 f1) ev Be){q1 q2 q3 q4:Int}{w e f:qaV}(hT:D T 8 14 (dB q1 q2 q3 q4 w e f)):
  ∃(v:Val) (x:Int),v.wide/\(0<=x/\x<=100)/\∃B,∀N,B<=N->Gam.pureD (callF tab ext N) 37 [.agg [.sl false 6 ru],.agg (dA k1 b1 d1 s1 l1 f1),.agg (dB q1 q2 q3 q4 w e f)]=some (.tup [.agg v.cells,num x]):=by
 obtain ⟨c,hc,m,j,W⟩:=zbu ru pr B0 h;cases pc:(c !=0) with
 |true=>
  refine ⟨vZ,c,rC,hc,j+1,fun N l=>?_⟩;obtain ⟨M,rfl⟩:=pR_ N
  grind[zmc]
 |false=>
  obtain rfl:c=0:=by grind
  have m:=m rfl;cases hk:(k1 !=9) with
  |true=>
   refine ⟨vZ,11,rC,by decide,j+21,fun N l=>?_⟩;obtain ⟨M,rfl⟩:∃M,N=M+21:=⟨N-21,by omega⟩
   grind[zl9]
  |false=>
   obtain ⟨pd,a,A,y,⟨P,F,L,S,Q,O,rfl,Ho,hD⟩,pb,pa,u,hit⟩:=zaD ru pr B0 h m k1 b1 d1 s1 l1 f1 ev Be he (H:=7) hT;have V:∀M,Gam.pureD (callF tab ext (M+61)) 32 [.sl false 7 []]=some (.agg Yj):=fun M=>bf (ZQ M) rfl;have n:=fun M hM=>ztN ru k1 b1 d1 s1 l1 f1 q1 q2 q3 q4 w e f P F L S Q O a y A M (hit M hM);cases hf:(y !=0) with
   |true=>
    refine ⟨vZ,y,rC,pa,j+u+82,fun N l=>?_⟩;obtain ⟨M,rfl⟩:∃M,N=M+62:=⟨N-62,by omega⟩
    grind[zcn]
   |false=>
    cases hg:(a !=0) with
    |true=>
     refine ⟨vZ,a,rC,pb,j+u+82,fun N l=>?_⟩;obtain ⟨M,rfl⟩:∃M,N=M+62:=⟨N-62,by omega⟩
     grind[zmb]
    |false=>
     cases Y:A with
     |true=>
      refine ⟨vZ,19,rC,by decide,j+u+82,fun N l=>?_⟩;obtain ⟨M,rfl⟩:∃M,N=M+62:=⟨N-62,by omega⟩
      grind[zco]
     |false=>
      obtain ⟨v,x,hw,hx,U,q⟩:=H8 hT hD;rcases hx with rfl|rfl
      ·obtain ⟨J,Z,E⟩:=Io v hw;cases hz:(J !=0) with
       |true=>refine ⟨vZ,J,rC,Z,j+u+U+60025+v.size+82,fun N l=>?_⟩;obtain ⟨M,rfl⟩:∃M,N=M+62:=⟨N-62,by omega⟩;exact zpi ru k1 b1 d1 s1 l1 f1 q1 q2 q3 q4 w e f P F L S Q O a y A (M+41) J (W _ (by omega)) hk (V M) (n _ (by omega)) hf hg Y v (q _ (by omega)) (E _ (by omega)) hz
       |false=>refine ⟨v,0,hw,by decide,j+u+U+60025+v.size+82,fun N l=>?_⟩;obtain ⟨M,rfl⟩:∃M,N=M+62:=⟨N-62,by omega⟩;exact zma ru k1 b1 d1 s1 l1 f1 q1 q2 q3 q4 w e f P F L S Q O a y A (M+41) J (W _ (by omega)) hk (V M) (n _ (by omega)) hf hg Y v (q _ (by omega)) (E _ (by omega)) hz
      refine ⟨vZ,18,rC,by decide,j+u+U+82,fun N l=>?_⟩;obtain ⟨M,rfl⟩:∃M,N=M+62:=⟨N-62,by omega⟩;exact zl8 ru k1 b1 d1 s1 l1 f1 q1 q2 q3 q4 w e f P F L S Q O a y A (M+41) (W _ (by omega)) hk (V M) (n _ (by omega)) hf hg Y v (q _ (by omega))
end Ct
namespace Ct
theorem vX {P:Nat->List X->Prop}(z:Int):Ea P (.i .i64 none none) (num z):=⟨rfl,(fun a e=>by cases e),(fun a e=>by cases e)⟩
theorem zq3:∀(h:Nat) (x:List X),sT h x->D T ((h:Int)+4) 14 x
 |0,_,hx=>hx.elim
 |h+1,x,⟨a,b,c,d,w,e,f,hxe,hw,dw,he,de,hf,df⟩=>by
  subst hxe;refine dI (by omega) (qaa.2 rfl) ⟨vX a,vX b,vX c,vX d,⟨rfl,Nat.zero_le _,by omega,fun v hv=>?_⟩,⟨rfl,Nat.zero_le _,by omega,fun y hy=>?_⟩,⟨rfl,Nat.zero_le _,by omega,fun y hy=>?_⟩,trivial⟩;·obtain ⟨t,rfl,ht⟩:=dw v hv;exact dI (by omega) (qaa.2 rfl) ⟨⟨Nat.zero_le _,by omega⟩,trivial⟩
  ·exact fP (by omega) (zq3 h y (de y hy))
  obtain ⟨p,t,q,a',b',c',d',w',e',f',dl,rfl,ht,hT,hdl,hd⟩:=df y hy;obtain ⟨_,alt,ha,hs⟩:=mP (zq3 h _ hT);obtain rfl:=qaa.1 ha;obtain ⟨_,_,_,_,k5,k6,k7,_⟩:=hs;obtain ⟨_,k51,k52,k53⟩:=k5;obtain ⟨_,k61,k62,k63⟩:=k6;obtain ⟨_,k71,k72,k73⟩:=k7;refine dI (by omega) (qaa.2 rfl) ⟨vX p,⟨Nat.zero_le _,by omega⟩,vX q,vX a',vX b',vX c',vX d',⟨rfl,k51,k52,fun v hv=>fP (by omega) (k53 v hv)⟩,⟨rfl,k61,k62,fun v hv=>fP (by omega) (k63 v hv)⟩,⟨rfl,k71,k72,fun v hv=>fP (by omega) (k73 v hv)⟩,⟨rfl,Nat.zero_le _,by omega,fun v hv=>?_⟩,trivial⟩;obtain ⟨u,rfl⟩:=hd v hv;exact fP (by omega) (DJ 2 u)
end Ct
open Go.Em
theorem Pj (a:qaW):(a.toList==a.toList)=true:=by grind
def ocC (n t:Int)(ss outs pq letters:qaV):List X:=[num n,num t,.sl false 10 ss,.sl false 11 outs,.sl false 11 [],.sl false 6 pq,.sl false 10 letters]
theorem yE (i:Inp):(aJ i).m=fE i.m:=rfl
namespace Ct
inductive Res where
 |rej (r:qaW)
 |pas (j:Nat)
end Ct
namespace Ct
theorem zfG (ru:qaV)(hr:∀x,x∈ru->zi x)(u:Val)(hu:D T 7 11 u.cells):∃ev B,zmu ru u.cells ev B:=by
 obtain ⟨ev,B,h⟩:=jZ (List.range ru.length) (R:=fun _ (p:List X×Int)=>okV p.1/\0<=p.2/\p.2<=100) (Q:=fun j p N=>∀s o i t vs es,ru[j]?=some (fU s o i t vs es)->Gam.pureD (callF tab ext N) 108 [.agg (mQ o i t vs es),.agg u.cells]=some (.tup [.agg p.1,num p.2])) (fun j m=>by
  have m:=List.mem_range.1 m;obtain ⟨s,o,i,t,vs,es,e,_,U⟩:=hr _ (qaf m);have S:ru[j]?=some (fU s o i t vs es):=by rw [qad m,e];rfl
  obtain ⟨y,J,⟨⟨H,V⟩,M⟩,P⟩:=zbN (h:=4) (by decide) (N7 4 _ U) hu;obtain ⟨a,b,c,E,t2,l,t3,f,rfl,A⟩:=zhf V;obtain ⟨B,O⟩:=gq P (y:=.tup [.agg (dA a b c E l f),num J]) rfl;refine ⟨(dA a b c E l f,J),⟨⟨a,b,c,E,l,f,rfl,H,A⟩,M⟩,B,fun N w s' Y W Z F q n=>?_⟩;rw [S] at n;have L:mQ o i t vs es=mQ Y W Z F q:=by simp only [fU,qag,List.cons.injEq] at n;unfold mQ;rw [n.2.1,n.2.2.1,n.2.2.2.1,n.2.2.2.2.1,n.2.2.2.2.2.1]
  rw [<-L];exact O N w)
 exact ⟨ev,B,⟨fun j m s o i t vs es e=>⟨(h j (List.mem_range.2 m)).1.1,(h j (List.mem_range.2 m)).1.2,fun N w=>(h j (List.mem_range.2 m)).2 N w s o i t vs es e⟩⟩⟩
theorem Yf (nd:Nod)(hs:nd.small)(u:Val)(hu:D T 7 11 u.cells):∃(w:Val) (x:Int),w.wide/\(0<=x/\x<=100)/\∃B,∀N,B<=N->Gam.pureD (callF tab ext N) 37 [.agg [.sl false 6 nd.rules],.agg u.cells,.agg (dB nd.ty.1 nd.ty.2.1 nd.ty.2.2.1 nd.ty.2.2.2 nd.words nd.elem nd.fields)]=some (.tup [.agg w.cells,num x]):=by obtain ⟨_,_,a,_,_,y,h⟩:=hs;obtain ⟨A,j,n⟩:=zd0 nd.rules y h;obtain ⟨ev,m,q⟩:=zfG nd.rules h u hu;have a:=zq3 4 _ a;obtain ⟨k,i,s,t,l,f⟩:=u;exact Ye nd.rules A j n k i s t (ah l) (au f) ev m q a
end Ct
namespace Ct
def elV (l:List Val)(j:Nat):Val:=l.getD j (.mk 0 0 0 ⟨#[]⟩ [] [])
theorem U1 {l:List Val}{j:Nat}(h:j<l.length):elV l j=l[j]:=by simp [elV,qad h]
theorem zrS {h:Int}(h1:1<=h)(i:Int):D T h 11 (inV i).cells:=Ej h1 (by decide) (Nat.zero_le _) (Nat.zero_le _) (fun e a=>by cases a) (fun e a=>by cases a)
theorem zo1 {b x:Val}(hb:D T 6 11 b.cells)(hx:D T 6 11 x.cells)(i:Int):D T 7 11 (zC b i x).cells:=by
 have h:D T 6 11 (inV i).cells:=zrS (by decide) i;have m:nmB.size<=1000000:=by decide
 have n:nmX.size<=1000000:=by decide
 have u:nmI.size<=1000000:=by decide
 unfold zC;refine Ej (by decide) (by decide) (Nat.zero_le _) ?_ (fun e a=>by cases a) (fun e a=>?_);·rw [aT];cases dU b<;>cases dU x<;>simp [PE]
 obtain ⟨p,j,rfl⟩:=uQ a;have f:∀q,q∈PE (dU b) (dU x) b i x->q=(nmB,b)\/q=(nmX,inV i)\/q=(nmI,x):=by intro q l;cases dU b<;>cases dU x<;>simp [PE] at l<;>grind
 rcases f p j with rfl|rfl|rfl;·exact OG hb m
 ·exact OG h n
 exact OG hx u
theorem zl6 (nd:Nod)(hs:nd.small)(b:Val)(hb:D T 6 11 b.cells)(l:List Val)(hl:∀v,v∈l->v.wide/\D T 6 11 v.cells):∃(f:Nat->Val×Int) (B:Nat),∀j,j<l.length->((f j).1.wide/\0<=(f j).2/\(f j).2<=100)/\∀N,B<=N->Gam.pureD (callF tab ext N) 37 (zO nd (zC b (Int.ofNat j) (elV l j)))=some (.tup [.agg (f j).1.cells,num (f j).2]):=by obtain ⟨f,B,h⟩:=jZ (List.range l.length) (R:=fun _ (p:Val×Int)=>p.1.wide/\0<=p.2/\p.2<=100) (Q:=fun j p N=>Gam.pureD (callF tab ext N) 37 (zO nd (zC b (Int.ofNat j) (elV l j)))=some (.tup [.agg p.1.cells,num p.2])) (fun j a=>by have a:=List.mem_range.1 a;obtain ⟨w,x,n,q,B,m⟩:=Yf nd hs (zC b (Int.ofNat j) (elV l j)) (zo1 hb (by rw [U1 a];exact (hl _ (qaf a)).2) _);exact ⟨(w,x),⟨n,q⟩,B,m⟩);exact ⟨f,B,fun j a=>h j (List.mem_range.2 a)⟩
def uF (f:Nat->Val×Int)(n:Nat):List Val:=(List.range n).map fun j=>(f j).1
theorem MO (f:Nat->Val×Int)(j:Nat):ah (uF f (j+1))=ah (uF f j)++[(f j).1.cells]:=by simp [uF,dN,List.range_succ]
theorem pO (f:Nat->Val×Int)(j:Nat):(ah (uF f j)).length=j:=by simp [uF,dN]
theorem Si {l:List Val}{j:Nat}(h:j<l.length):(ah l)[j]?=some (elV l j).cells:=by rw [dR h,U1 h]
theorem xB {l:List Val}{j:Nat}(h:j<l.length):elV l j∈l:=by rw [U1 h];exact qaf h
theorem UZ {b:Val}{l:List Val}{j n:Nat}(h:j<n):(ah (mV b l n))[j]?=some (zC b (Int.ofNat j) (elV l j)).cells:=by simp [mV,dN,elV,h]
noncomputable def snS (nd:Nod)(L:qaV)(b:Val)(f:Nat->Val×Int):Nat->St
 |0=>sn0 nd L b
 |j+1=>snH nd L (ah (uF f (j+1))) b (j+1)
noncomputable def eeS (L:qaV)(b:Val)(l:List Val):Nat->St
 |0=>ee0 L b
 |j+1=>eeH L (ah (mV b l (j+1))) b (j+1)
section
variable (nd:Nod) (b:Val) (hb:b.wide) (l:List Val) (hl:l.length<=6) (hw:∀v,v∈l->v.wide) (f:Nat->Val×Int) (N:Nat) (hN:b.size+iZ l+700<=N)
include hb hl hw hN
theorem zfN {j:Nat}(hj:j<l.length):∃υ,run (callF tab ext N) 3 N (loopAt 75 0) (eeS (ah l) b l j)=some (.norm,υ)/\canon 3 υ=some (eeS (ah l) b l (j+1)):=by
 obtain ⟨M,rfl⟩:∃M,N=M+60:=⟨N-60,by omega⟩;have H:=aF l;have h:=Si hj;have F:=fD (xB hj);have m:=zd4 b hb (Int.ofNat j) (elV l j) (hw _ (xB hj)) (M+60) (by omega);have f:=zdU (N:=M+59) (zC b (Int.ofNat j) (elV l j)) j (ah (mV b l j)) (by omega) (iT ..).symm;have n:ah (mV b l (j+1))=ah (mV b l j)++[(zC b (Int.ofNat j) (elV l j)).cells]:=by rw [OT _ _ _ hj,U1 hj]
 rw [<-n] at f;have a:=aH (show j<(ah l).length by omega);generalize elV l j=x at h m f;obtain ⟨q,u,w,y,A,B⟩:=x;clear n F;cases j with
 |zero=>have E:ah (mV b l 0)=[]:=rfl;rw [E] at f;exact zfM (ah l) _ b _ q u w y A B M a h m f
 |succ j=>exact zlt (ah l) _ _ b _ q u w y A B (j+1) M a h m f (by omega)
theorem zo7 (h0:0<l.length):callF tab ext (N+1) (.fn 75) [.yl 0,.dp [.sl false 6 (ah l)],.dp b.cells] (seS 0 [])=some (.tup [],seI l.length (ah (mV b l l.length))):=by
 obtain ⟨k,A⟩:∃k,l.length=k+1:=⟨l.length-1,by omega⟩;have B:=aF l;have a:run (callF tab ext N) 3 N (.loop (loopAt 75 0)) (ee0 (ah l) b)=some (.exit 0,⟨Yo (ah l) b.cells l.length++[(10,boolX false)],seI l.length (ah (mV b l l.length))⟩):=by
  refine aQ (σ:=eeS (ah l) b l) (k:=l.length) (zbW ..) (fun j y=>zfN b hb l hl hw N hN y) ?_ (by simp) (by omega);have e:eeS (ah l) b l l.length=eeH (ah l) (ah (mV b l l.length)) b l.length:=by rw [A];rfl
  rw [e];exact zo6 _ _ _ _ _ (by omega)
 generalize ah (mV b l l.length)=o at a ⊢;generalize l.length=n at a ⊢;generalize ah l=L at a ⊢;obtain ⟨f,h,m,q,u,w⟩:=b;exact caB [] [(.exit 0,⟨Yo L (Val.mk f h m q u w).cells n++[(10,boolX false)],seI n o⟩)] (pf1 a)
variable (hf:∀j,j<l.length->((f j).1.wide/\0<=(f j).2/\(f j).2<=100)/\∀M,N<=M+100->Gam.pureD (callF tab ext M) 37 (zO nd (zC b (Int.ofNat j) (elV l j)))=some (.tup [.agg (f j).1.cells,num (f j).2]))
include hf
theorem TF {j:Nat}(hj:j<l.length)(hz:(f j).2=0):∃υ,run (callF tab ext N) 6 N (loopAt 75 0) (snS nd (ah l) b f j)=some (.norm,υ)/\canon 6 υ=some (snS nd (ah l) b f (j+1)):=by
 obtain ⟨M,rfl⟩:∃M,N=M+60:=⟨N-60,by omega⟩;have J:=aF l;have n:=Si hj;have H:=fD (xB hj);have q:=zd4 b hb (Int.ofNat j) (elV l j) (hw _ (xB hj)) (M+60) (by omega);have m:=(hf j hj).2 (M+59) (by omega);rw [hz] at m;have h:=zdY (N:=M+59) nd (zC b (Int.ofNat j) (elV l j)) (f j).1 j (ah (uF f j)) m (by omega) (pO ..).symm;rw [<-MO] at h;have a:=aH (show j<(ah l).length by omega);clear m hf;generalize elV l j=x at n q h;obtain ⟨u,w,y,A,B,E⟩:=x;clear H hz;cases j with
 |zero=>have F:ah (uF f 0)=[]:=rfl;rw [F] at h;exact zdJ nd (ah l) _ b _ u w y A B E M a n q h
 |succ j=>exact zh9 nd (ah l) _ _ b _ u w y A B E (j+1) M a n q h (by omega)
theorem zia (h0:0<l.length)(hz:∀j,j<l.length->(f j).2=0):callF tab ext (N+1) (.fn 75) [.yl 0,.dp [.sl false 6 (ah l)],.dp b.cells] (sbS nd 0 [])=some (.tup [],sbI nd l.length (ah (uF f l.length))):=by
 obtain ⟨k,B⟩:∃k,l.length=k+1:=⟨l.length-1,by omega⟩;have E:=aF l;have a:run (callF tab ext N) 6 N (.loop (loopAt 75 0)) (sn0 nd (ah l) b)=some (.exit 0,⟨Yo (ah l) b.cells l.length++[(10,boolX false)],sbI nd l.length (ah (uF f l.length))⟩):=by
  refine aQ (σ:=snS nd (ah l) b f) (k:=l.length) (Ez ..) (fun j h=>TF nd b hb l hl hw f N hN hf h (hz j h)) ?_ (by simp) (by omega);have e:snS nd (ah l) b f l.length=snH nd (ah l) (ah (uF f l.length)) b l.length:=by rw [B];rfl
  rw [e];exact znk _ _ _ _ _ _ (by omega)
 clear hf;generalize ah (uF f l.length)=o at a ⊢;generalize l.length=n at a ⊢;generalize ah l=L at a ⊢;obtain ⟨m,q,u,w,y,A⟩:=b;exact caB [] [(.exit 0,⟨Yo L (Val.mk m q u w y A).cells n++[(10,boolX false)],sbI nd n o⟩)] (pf1 a)
theorem znl {k:Nat}(hk:k<l.length)(hz:∀j,j<k->(f j).2=0)(hx:((f k).2 !=0)=true):
  callF tab ext (N+1) (.fn 75) [.yl 0,.dp [.sl false 6 (ah l)],.dp b.cells] (sbS nd 0 [])=some (.tup [],sbH nd false (eG (f k).2) [.var [.bs 5 0 0],.row 6 []])\/
  ∃j outs,callF tab ext (N+1) (.fn 75) [.yl 0,.dp [.sl false 6 (ah l)],.dp b.cells] (sbS nd 0 [])=some (.tup [],sbH nd false (eG (f k).2) [.var [.bs 6 0 j],.dead,.row 6 outs]):=by
 have J:=fun j (hj:j<k)=>TF nd b hb l hl hw f N hN hf (show j<l.length by omega) (hz j hj);obtain ⟨M,rfl⟩:∃M,N=M+60:=⟨N-60,by omega⟩;have ll:=aF l;have F:=Si hk;have hm:=fD (xB hk);have H:=zd4 b hb (Int.ofNat k) (elV l k) (hw _ (xB hk)) (M+60) (by omega);have Py:=(hf k hk).2 (M+59) (by omega);have D5:=iP (f k).2 (hf k hk).1.2 (M+59) (by omega);have m:=zio (N:=M+59) nd (zC b (Int.ofNat k) (elV l k)) (f k).1 k (ah (uF f k)) (f k).2 Py hx _ D5;have h:=aH (show k<(ah l).length by omega);clear Py hf D5;generalize elV l k=x at F H m;obtain ⟨n,q,u,w,y,A⟩:=x;clear hm hz hx;cases k with
 |zero=>
  have h0:ah (uF f 0)=[]:=rfl;rw [h0] at m;have B:=zdI nd (ah l) b _ n q u w y A M _ h F H m;have a:run (callF tab ext (M+60)) 6 (M+60) (.loop (loopAt 75 0)) (sn0 nd (ah l) b)=some (.ret,_):=
   aQ (σ:=snS nd (ah l) b f) (k:=0) (Ez ..) J B (by simp) (by omega)
  left;generalize eG (f 0).2=rs at a ⊢;generalize zC b (Int.ofNat 0) (Val.mk n q u w y A)=E at a;obtain ⟨O,P,Q,S,U,V⟩:=b;obtain ⟨W,Y,Z,e4,e5,e6⟩:=E;clear H m F h J B;generalize ah l=L at a ⊢;exact caB [] [(.ret,zum nd L (Val.mk O P Q S U V) (Val.mk W Y Z e4 e5 e6) n q u w y A rs)] (pf1 a)
 |succ k=>
  have B:=zh8 nd (ah l) _ b _ n q u w y A (k+1) M _ h F H m;have a:run (callF tab ext (M+60)) 6 (M+60) (.loop (loopAt 75 0)) (sn0 nd (ah l) b)=some (.ret,_):=
   aQ (σ:=snS nd (ah l) b f) (k:=k+1) (Ez ..) J B (by simp) (by omega)
  refine .inr ⟨k+1,ah (uF f (k+1)),?_⟩;generalize eG (f (k+1)).2=rs at a ⊢;generalize zC b (Int.ofNat (k+1)) (Val.mk n q u w y A)=E at a;obtain ⟨O,P,Q,S,U,V⟩:=b;obtain ⟨W,Y,Z,e4,e5,e6⟩:=E;clear H m F h J B;generalize ah (uF f (k+1))=o at a ⊢;generalize ah l=L at a ⊢;exact caB [] [(.ret,snE nd L o (Val.mk O P Q S U V) (Val.mk W Y Z e4 e5 e6) n q u w y A (k+1) rs)] (pf1 a)
abbrev bdH (nd:Nod) (L acc:qaV) (j:Nat):St:=⟨[(2,.ptr 0 0 0),(6,.sl false 6 L),(7,noText),(8,.bs 1 0 j),(9,nat j)],[.var nd.cells,.row 6 acc]⟩
abbrev bdE (nd:Nod) (L acc:qaV) (j:Nat):St:=⟨[(2,.ptr 0 0 0),(6,.sl false 6 L),(7,noText),(8,.bs 1 0 j),(9,nat j),(21,boolX false)],[.var nd.cells,.row 6 acc]⟩
abbrev bdR (nd:Nod) (acc:qaV) (w:Val) (rs:qaW):St:=⟨[(4,.sl true 6 []),(5,strX rs)],[.var nd.cells,.row 6 acc,.var w.cells]⟩
omit hb hw hN in
theorem Vj {j:Nat}(hj:j<l.length)(hz:(f j).2=0):∃υ,run (callF tab ext N) 0 N (loopAt 16 0) (bdH nd (ah (mV b l l.length)) (ah (uF f j)) j)=some (.norm,υ)/\canon 0 υ=some (bdH nd (ah (mV b l l.length)) (ah (uF f (j+1))) (j+1)):=by have U:=iT b l l.length;have n:=UZ (b:=b) (l:=l) hj;have m:=(hf j hj).2 N (by omega);rw [hz] at m;have h:=aH (show j<(ah (mV b l l.length)).length by omega);have a:=dX (acc:=ah (uF f j)) j 1 88 (pO ..).symm (by omega) (by omega);have q:=ay (j:=j) (by omega);rw [MO];clear hf;generalize zC b (Int.ofNat j) (elV l j)=E at n m;generalize ah (uF f j)=acc at a ⊢;generalize (f j).1=w at m ⊢;generalize ah (mV b l l.length)=L at n h ⊢;obtain ⟨u,y,A,B,F,H⟩:=E;obtain ⟨J,M,O,P,Q,S⟩:=w;exact dQ [(21,.b true),(29,.e (Val.mk u y A B F H).cells),(33,.p (.tup [.agg (Val.mk J M O P Q S).cells,num 0])),(43,.app),(23,.i (Int.ofNat (j+1)))] (pf5 h n m a q) (by kernel_rfl)
omit hb hw in
theorem zlZ (hz:∀j,j<l.length->(f j).2=0):run (callF tab ext N) 0 N (.loop (loopAt 16 0)) ⟨[(2,.ptr 0 0 0),(6,.sl false 6 (ah (mV b l l.length))),(7,noText),(8,.bs 2 0 0),(9,num 0)],[.var nd.cells,.var b.cells,.row 6 []]⟩=some (.exit 0,bdE nd (ah (mV b l l.length)) (ah (uF f l.length)) l.length):=by
 have B:=iT b l l.length;refine aQ (σ:=fun j=>bdH nd (ah (mV b l l.length)) (ah (uF f j)) j) (k:=l.length) ?_ (fun j h=>Vj nd b l hl f N hf h (hz j h)) ?_ (by simp) (by omega);·obtain ⟨m,q,u,w,y,A⟩:=b;generalize ah (mV (.mk m q u w y A) l l.length)=L;kernel_rfl
 have a:=aG (j:=l.length) (k:=(ah (mV b l l.length)).length) (by omega);generalize ah (mV b l l.length)=L at a ⊢;generalize ah (uF f l.length)=acc;generalize l.length=n at a ⊢;exact ruA [(21,.b false)] (pf1 a)
omit hb hw in
theorem zph {k:Nat}(hk:k<l.length)(hz:∀j,j<k->(f j).2=0)(hx:((f k).2 !=0)=true):run (callF tab ext N) 0 N (.loop (loopAt 16 0)) ⟨[(2,.ptr 0 0 0),(6,.sl false 6 (ah (mV b l l.length))),(7,noText),(8,.bs 2 0 0),(9,num 0)],[.var nd.cells,.var b.cells,.row 6 []]⟩=some (.ret,bdR nd (ah (uF f k)) (f k).1 (eG (f k).2)):=by
 have ll:=iT b l l.length;refine aQ (σ:=fun j=>bdH nd (ah (mV b l l.length)) (ah (uF f j)) j) (k:=k) ?_ (fun j S=>Vj nd b l hl f N hf (by omega) (hz j S)) ?_ (by simp) (by omega);·obtain ⟨q,u,y,A,B,F⟩:=b;generalize ah (mV (.mk q u y A B F) l l.length)=L;kernel_rfl
 have n:=UZ (b:=b) (l:=l) hk;have h:=(hf k hk).2 N (by omega);have m:=iP (f k).2 (hf k hk).1.2 N (by omega);have a:=aH (show k<(ah (mV b l l.length)).length by omega);clear hf;generalize zC b (Int.ofNat k) (elV l k)=E at n h;generalize ah (uF f k)=acc;generalize (f k).1=w at h ⊢;generalize eG (f k).2=rs at m ⊢;generalize (f k).2=e at h m hx;generalize ah (mV b l l.length)=L at n a ⊢;obtain ⟨H,J,M,O,P,Q⟩:=E;obtain ⟨U,V,W,Y,Z,w6⟩:=w;exact ruA [(21,.b true),(29,.e (Val.mk H J M O P Q).cells),(33,.p (.tup [.agg (Val.mk U V W Y Z w6).cells,num e])),(37,.b true),(39,.p (strX rs))] (pf5 a n h hx m)
end
end Ct
namespace Ct
def uX (f:Nat->Val×Int)(n:Nat):Option Nat:=(List.range n).find? fun j=>(f j).2 !=0
theorem zA {f:Nat->Val×Int}{n:Nat}(h:uX f n=none):∀j,j<n->(f j).2=0:=fun j a=>by have:=List.find?_eq_none.1 h j (List.mem_range.2 a);simpa using this
theorem zy {f:Nat->Val×Int}{n k:Nat}(h:uX f n=some k):k<n/\((f k).2 !=0)=true/\∀j,j<k->(f j).2=0:=by obtain ⟨a,l,m⟩:=List.find?_range_eq_some.1 h;refine ⟨List.mem_range.1 l,a,fun j q=>?_⟩;have:=m j q;simpa using this
def SL.app (f:Nat->Val×Int):SL->SL
 |.bad r=>.bad r
 |.good l=>match uX f l.length with
  |none=>.good (uF f l.length)
  |some k=>.bad (eG (f k).2)
def SL.okB:SL->Prop
 |.bad r=>(!(r.toList==(⟨#[]⟩:qaW).toList))=true
 |.good l=>0<l.length/\l.length<=6/\∀v,v∈l->v.wide
theorem zck {q:SL}(hq:q.ok){f:Nat->Val×Int}(hf:∀l,q=.good l->∀j,j<l.length->(f j).1.wide):(q.app f).okB:=by
 cases q with
 |bad r=>exact hq
 |good l=>
  cases h:uX f l.length with
  |none=>obtain ⟨a,m,_⟩:=hq;simp only [SL.app,h];refine ⟨by simp [uF];exact a,by simp [uF];exact m,fun v u=>?_⟩;obtain ⟨j,n,rfl⟩:=qah.1 u;exact hf l rfl j (List.mem_range.1 n)
  |some k=>simp only [SL.app,h];exact sN _
theorem zW {l:List Val}(h:∀v,v∈l->v.wide/\D T 6 11 v.cells):∀v,v∈l->v.wide:=fun v a=>(h v a).1
section
variable (nd:Nod) (L outs:qaV) (b1 b2 b3:Int) (b4:qaW) (b5 b6:qaV) (n:Nat) (N:Nat)
noncomputable def zwt:Bx:=.loop .ready none [(8,.ptr 2 0 0)] [23,24] seA seB
def zup:List (Nat×X):=[(8,.ptr 2 0 0),(22,.fn 75 [.dp [.sl false 6 L],.dp (dA b1 b2 b3 b4 b5 b6)])]
def zwr:St:=⟨zup L b1 b2 b3 b4 b5 b6,[.var nd.cells,.var (dA b1 b2 b3 b4 b5 b6),.var [.bs 3 0 0],.row 6 []]⟩
def znG:St:=⟨zup L b1 b2 b3 b4 b5 b6,[.var nd.cells,.var (dA b1 b2 b3 b4 b5 b6),.var [.bs 5 0 n],.dead,.dead,.row 6 outs]⟩
theorem zqZ (hy:callF tab ext N (.fn 75) [.yl 0,.dp [.sl false 6 L],.dp (dA b1 b2 b3 b4 b5 b6)] (seS 0 [])=some (.tup [],seI n outs)):
  run (callF tab ext N) 0 N (.rf (.t 22) [23,24] [8] seA seB) (zwr nd L b1 b2 b3 b4 b5 b6)=some (.norm,znG nd L outs b1 b2 b3 b4 b5 b6 n):=
 Hq (g:=75) (caps:=[.dp [.sl false 6 L],.dp (dA b1 b2 b3 b4 b5 b6)]) (y:=.tup []) (outb:=seI n outs)
  (q:=(.tup [],[.var nd.cells,.var (dA b1 b2 b3 b4 b5 b6),.var [.bs 5 0 n],.dead,zwt,.row 6 outs],[4,2,3])) hy (by kernel_rfl) (by kernel_rfl) (by kernel_rfl)
def zuq:List (Nat×X):=[(2,.ptr 0 0 0),(4,.ptr 2 0 0),(5,.ptr 3 0 0),(8,.ptr 4 0 0),(24,.fn 75 [.dp [.sl false 6 L],.dp (dA b1 b2 b3 b4 b5 b6)])]
def zq1:St:=⟨zuq L b1 b2 b3 b4 b5 b6,[.var nd.cells,.var (dA b1 b2 b3 b4 b5 b6),.var [.sl true 6 []],.var [strX ⟨#[]⟩],.var [.bs 5 0 0],.row 6 []]⟩
def Wq (t:qaW)(r:List Bx):St:=⟨zuq L b1 b2 b3 b4 b5 b6,.var nd.cells::.var (dA b1 b2 b3 b4 b5 b6)::.var [.sl true 6 []]::.var [strX t]::r⟩
theorem zq0 (hy:callF tab ext N (.fn 75) [.yl 0,.dp [.sl false 6 L],.dp (dA b1 b2 b3 b4 b5 b6)] (sbS nd 0 [])=some (.tup [],sbI nd n outs)):
  run (callF tab ext N) 0 N (.rf (.t 24) [25,26] [2,4,5,8] boA boB) (zq1 nd L b1 b2 b3 b4 b5 b6)=some (.norm,Wq nd L b1 b2 b3 b4 b5 b6 ⟨#[]⟩ [.var [.bs 7 0 n],.dead,.dead,.row 6 outs]):=
 Hq (g:=75) (caps:=[.dp [.sl false 6 L],.dp (dA b1 b2 b3 b4 b5 b6)]) (y:=.tup []) (outb:=sbI nd n outs)
  (q:=(.tup [],[.var nd.cells,.var (dA b1 b2 b3 b4 b5 b6),.var [.sl true 6 []],.var [strX ⟨#[]⟩],.var [.bs 7 0 n],.dead,zto .ready none,.row 6 outs],[6,0,2,3,4,5])) hy (by kernel_rfl) (by kernel_rfl) (by kernel_rfl)
theorem znH (rs:qaW)(hy:callF tab ext N (.fn 75) [.yl 0,.dp [.sl false 6 L],.dp (dA b1 b2 b3 b4 b5 b6)] (sbS nd 0 [])=some (.tup [],sbH nd false rs [.var [.bs 6 0 n],.dead,.row 6 outs])):
  run (callF tab ext N) 0 N (.rf (.t 24) [25,26] [2,4,5,8] boA boB) (zq1 nd L b1 b2 b3 b4 b5 b6)=some (.ret,Wq nd L b1 b2 b3 b4 b5 b6 rs [.var [.bs 7 0 n],.dead,.dead,.row 6 outs]):=
 Hq (g:=75) (caps:=[.dp [.sl false 6 L],.dp (dA b1 b2 b3 b4 b5 b6)]) (y:=.tup []) (outb:=sbH nd false rs [.var [.bs 6 0 n],.dead,.row 6 outs])
  (q:=(.tup [],[.var nd.cells,.var (dA b1 b2 b3 b4 b5 b6),.var [.sl true 6 []],.var [strX rs],.var [.bs 7 0 n],.dead,zto .done (some .ret),.row 6 outs],[6,0,2,3,4,5])) hy (by kernel_rfl) (by kernel_rfl) (by kernel_rfl)
theorem ziq (rs:qaW)(hy:callF tab ext N (.fn 75) [.yl 0,.dp [.sl false 6 L],.dp (dA b1 b2 b3 b4 b5 b6)] (sbS nd 0 [])=some (.tup [],sbH nd false rs [.var [.bs 5 0 0],.row 6 []])):
  run (callF tab ext N) 0 N (.rf (.t 24) [25,26] [2,4,5,8] boA boB) (zq1 nd L b1 b2 b3 b4 b5 b6)=some (.ret,Wq nd L b1 b2 b3 b4 b5 b6 rs [.var [.bs 5 0 0],.row 6 [],.dead]):=
 Hq (g:=75) (caps:=[.dp [.sl false 6 L],.dp (dA b1 b2 b3 b4 b5 b6)]) (y:=.tup []) (outb:=sbH nd false rs [.var [.bs 5 0 0],.row 6 []])
  (q:=(.tup [],[.var nd.cells,.var (dA b1 b2 b3 b4 b5 b6),.var [.sl true 6 []],.var [strX rs],.var [.bs 5 0 0],.row 6 [],zto .done (some .ret)],[6,0,2,3,4,5])) hy (by kernel_rfl) (by kernel_rfl) (by kernel_rfl)
end
theorem b79 (nd:Nod)(b:Val)(hb:b.wide)(q:SL)(hq:q.ok)(B:Nat)(h:∀N,B<=N->Gam.pureD (callF tab ext N) 35 [.agg nd.cells,.agg b.cells]=some q.list):∃B,∀N,B<=N->Gam.pureD (callF tab ext N) 13 [.agg nd.cells,.agg b.cells]=some (q.els b):=by
 cases q with
 |bad r=>refine ⟨B+1,fun N J=>?_⟩;obtain ⟨M,rfl⟩:=pR_ N;have h:=h M (by omega);obtain ⟨f,j,m,u,w,y⟩:=b;exact puA [(14,.p (.tup ([.sl false 6 [],strX r]))),(18,.b true)] (pf2 h hq) (.tup ([.sl true 6 [],strX r]))
 |good l=>obtain ⟨F,O,H⟩:=hq;refine ⟨B+b.size+iZ l+720,fun N J=>?_⟩;obtain ⟨M,rfl⟩:∃M,N=M+11:=⟨N-11,by omega⟩;have h:=h (M+10) (by omega);have a:=zo7 b hb l (by omega) (zW H) (M+9) (by omega) F;have A:=iT b l l.length;show Gam.pureD _ _ _=some (.tup [.sl false 6 (ah (mV b l l.length)),strX ⟨#[]⟩]);have h:Gam.pureD (callF tab ext (M+10)) 35 [.agg nd.cells,.agg b.cells]=some (.tup [.sl false 6 (ah l),strX ⟨#[]⟩]):=h;generalize ah (mV b l l.length)=o at a A ⊢;generalize l.length=n at a A;generalize ah l=L at h a;obtain ⟨f,j,m,u,w,y⟩:=b;have E:=zqZ nd L o f j m u (ah w) (au y) n (M+10) a;refine pure_of [(14,.p (.tup [.sl false 6 L,strX ⟨#[]⟩]))] [(.norm,znG nd L o f j m u (ah w) (au y) n)] (pf2 h E) (x:=.tup [.bs 0 0 n,strX ⟨#[]⟩]) (bx:=[.row 6 o]) (by kernel_rfl) ?_;simp [X.data,dH,strX,fG (bx:=[.row 6 o]) (i:=0) (n:=n) rfl A.symm]
theorem zl2 (nd:Nod)(b:Val)(r:qaW)(hr:(!(r.toList==(⟨#[]⟩:qaW).toList))=true)(N:Nat)(h:Gam.pureD (callF tab ext N) 35 [.agg nd.cells,.agg b.cells]=some (.tup [.sl false 6 [],strX r])):Gam.pureD (callF tab ext (N+1)) 14 [.agg nd.cells,.agg b.cells]=some (.tup [.sl false 6 [],strX r]):=by obtain ⟨a,f,j,l,m,n⟩:=b;exact puA [(16,.p (.tup ([.sl false 6 [],strX r]))),(20,.b true)] (pf2 h hr) (.tup ([.sl true 6 [],strX r]))
theorem zl1 (nd:Nod)(b:Val)(r:qaW)(N:Nat)(h:Gam.pureD (callF tab ext (N+1)) 15 [.agg nd.cells,.agg b.cells]=some (.tup [.sl false 6 [],strX r])):Gam.pureD (callF tab ext (N+2)) 16 [.agg nd.cells,.agg b.cells]=some (.tup [.sl false 6 [],strX r]):=by
 obtain ⟨a,f,l,m,n,q⟩:=b;have u:run (callF tab ext (N+1)) 0 (N+1) (.loop (loopAt 16 0)) ⟨[(2,.ptr 0 0 0),(6,.sl false 6 []),(7,strX r),(8,.bs 2 0 0),(9,num 0)],[.var nd.cells,.var (Val.mk a f l m n q).cells,.row 6 []]⟩=some (.exit 0,⟨[(2,.ptr 0 0 0),(6,.sl false 6 []),(7,strX r),(8,.bs 1 0 0),(9,num 0),(21,boolX false)],[.var nd.cells,.row 6 []]⟩):=
  aQ (σ:=fun _=>⟨[(2,.ptr 0 0 0),(6,.sl false 6 []),(7,strX r),(8,.bs 1 0 0),(9,num 0)],[.var nd.cells,.row 6 []]⟩) (k:=0) (by kernel_rfl) (fun j w=>by omega) (ruA [] pf0) (by simp) (by omega)
 exact pure_of [(15,.p (.tup ([.sl false 6 [],strX r])))] [(.exit 0,⟨[(2,.ptr 0 0 0),(6,.sl false 6 []),(7,strX r),(8,.bs 1 0 0),(9,num 0),(21,boolX false)],[.var nd.cells,.row 6 []]⟩)] (pf2 h u) (x:=.tup ([.bs 0 0 0,strX r])) (bx:=[.row 6 []]) (by kernel_rfl) rfl
section
variable (nd:Nod) (b:Val) (hb:b.wide) (q:SL) (hq:q.ok) (f:Nat->Val×Int) (B:Nat)
 (hf:∀l,q=.good l->∀j,j<l.length->((f j).1.wide/\0<=(f j).2/\(f j).2<=100)/\∀N,B<=N->Gam.pureD (callF tab ext N) 37 (zO nd (zC b (Int.ofNat j) (elV l j)))=some (.tup [.agg (f j).1.cells,num (f j).2]))
include hb hq hf
theorem b72 (h:∀N,B<=N->Gam.pureD (callF tab ext N) 35 [.agg nd.cells,.agg b.cells]=some q.list):∃B,∀N,B<=N->Gam.pureD (callF tab ext N) 14 [.agg nd.cells,.agg b.cells]=some (q.app f).list:=by
 cases q with
 |bad r=>refine ⟨B+1,fun N W=>?_⟩;obtain ⟨M,rfl⟩:=pR_ N;exact zl2 nd b r hq M (h M (by omega))
 |good l=>
  obtain ⟨V,Z,Q⟩:=hq;have O:=hf l rfl;refine ⟨B+b.size+iZ l+820,fun N W=>?_⟩;obtain ⟨M,rfl⟩:∃M,N=M+11:=⟨N-11,by omega⟩;have h:Gam.pureD (callF tab ext (M+10)) 35 [.agg nd.cells,.agg b.cells]=some (.tup [.sl false 6 (ah l),strX ⟨#[]⟩]):=h (M+10) (by omega);have w:∀j,j<l.length->((f j).1.wide/\0<=(f j).2/\(f j).2<=100)/\∀K,M+9<=K+100->Gam.pureD (callF tab ext K) 37 (zO nd (zC b (Int.ofNat j) (elV l j)))=some (.tup [.agg (f j).1.cells,num (f j).2]):=fun j S=>⟨(O j S).1,fun K hK=>(O j S).2 K (by omega)⟩;clear O;cases a:uX f l.length with
  |none=>have m:=zia nd b hb l (by omega) (zW Q) f (M+9) (by omega) w V (zA a);have P:=pO f l.length;simp only [SL.app,a];show Gam.pureD _ _ _=some (.tup [.sl false 6 (ah (uF f l.length)),strX ⟨#[]⟩]);clear w a;generalize ah (uF f l.length)=o at m P ⊢;generalize l.length=n at m P;generalize ah l=L at h m;obtain ⟨y,A,E,F,H,J⟩:=b;have u:=zq0 nd L o y A E F (ah H) (au J) n (M+10) m;refine pure_of [(16,.p (.tup [.sl false 6 L,strX ⟨#[]⟩]))] [(.norm,Wq nd L y A E F (ah H) (au J) ⟨#[]⟩ [.var [.bs 7 0 n],.dead,.dead,.row 6 o])] (pf2 h u) (x:=.tup [.bs 0 0 n,strX ⟨#[]⟩]) (bx:=[.row 6 o]) (by kernel_rfl) ?_;simp [X.data,dH,strX,fG (bx:=[.row 6 o]) (i:=0) (n:=n) rfl P.symm]
  |some k=>
   obtain ⟨Y,U,hz⟩:=zy a;have m:=znl nd b hb l (by omega) (zW Q) f (M+9) (by omega) w Y hz U;simp only [SL.app,a];show Gam.pureD _ _ _=some (.tup [.sl false 6 [],strX (eG (f k).2)]);clear w a hz U;generalize eG (f k).2=rs at m ⊢;generalize ah l=L at h m;obtain ⟨y,A,E,F,H,J⟩:=b;rcases m with m|⟨j,o,m⟩;·have u:=ziq nd L y A E F (ah H) (au J) (M+10) rs m;exact puB [(16,.p (.tup [.sl false 6 L,strX ⟨#[]⟩]))] [(.ret,Wq nd L y A E F (ah H) (au J) rs [.var [.bs 5 0 0],.row 6 [],.dead])] (pf2 h u) (.tup [.sl true 6 [],strX rs])
   have u:=znH nd L o y A E F (ah H) (au J) j (M+10) rs m;exact puB [(16,.p (.tup [.sl false 6 L,strX ⟨#[]⟩]))] [(.ret,Wq nd L y A E F (ah H) (au J) rs [.var [.bs 7 0 j],.dead,.dead,.row 6 o])] (pf2 h u) (.tup [.sl true 6 [],strX rs])
omit hb in
theorem b81 (h:∀N,B<=N->Gam.pureD (callF tab ext N) 15 [.agg nd.cells,.agg b.cells]=some (q.els b)):∃B,∀N,B<=N->Gam.pureD (callF tab ext N) 16 [.agg nd.cells,.agg b.cells]=some (q.app f).list:=by
 cases q with
 |bad r=>refine ⟨B+2,fun N V=>?_⟩;obtain ⟨M,rfl⟩:∃M,N=M+2:=⟨N-2,by omega⟩;exact zl1 nd b r M (h (M+1) (by omega))
 |good l=>
  obtain ⟨h1,E,h3⟩:=hq;have y:=hf l rfl;refine ⟨B+b.size+iZ l+820,fun N V=>?_⟩;obtain ⟨M,rfl⟩:∃M,N=M+11:=⟨N-11,by omega⟩;have h:Gam.pureD (callF tab ext (M+10)) 15 [.agg nd.cells,.agg b.cells]=some (.tup [.sl false 6 (ah (mV b l l.length)),strX ⟨#[]⟩]):=h (M+10) (by omega);have u:∀j,j<l.length->((f j).1.wide/\0<=(f j).2/\(f j).2<=100)/\∀K,M+10<=K+100->Gam.pureD (callF tab ext K) 37 (zO nd (zC b (Int.ofNat j) (elV l j)))=some (.tup [.agg (f j).1.cells,num (f j).2]):=fun j F=>⟨(y j F).1,fun K hK=>(y j F).2 K (by omega)⟩;clear y;cases a:uX f l.length with
  |none=>have m:=zlZ nd b l E f (M+10) (by omega) u (zA a);have A:=pO f l.length;simp only [SL.app,a];show Gam.pureD _ _ _=some (.tup [.sl false 6 (ah (uF f l.length)),strX ⟨#[]⟩]);clear u a;generalize ah (uF f l.length)=o at m A ⊢;generalize ah (mV b l l.length)=L at h m;generalize l.length=n at m A;obtain ⟨J,O,P,Q,S,U⟩:=b;refine pure_of [(15,.p (.tup [.sl false 6 L,strX ⟨#[]⟩]))] [(.exit 0,bdE nd L o n)] (pf2 h m) (x:=.tup [.bs 0 0 n,strX ⟨#[]⟩]) (bx:=[.row 6 o]) (by kernel_rfl) ?_;simp [X.data,dH,strX,fG (bx:=[.row 6 o]) (i:=0) (n:=n) rfl A.symm]
  |some k=>obtain ⟨W,H,hz⟩:=zy a;have m:=zph nd b l E f (M+10) (by omega) u W hz H;simp only [SL.app,a];show Gam.pureD _ _ _=some (.tup [.sl false 6 [],strX (eG (f k).2)]);clear u a hz H;generalize eG (f k).2=rs at m ⊢;generalize ah (uF f k)=o at m;generalize (f k).1=w at m;generalize ah (mV b l l.length)=L at h m;obtain ⟨J,O,P,Q,S,U⟩:=b;obtain ⟨Y,Z,w3,w4,w5,w6⟩:=w;exact puB [(15,.p (.tup [.sl false 6 L,strX ⟨#[]⟩]))] [(.ret,bdR nd o (.mk Y Z w3 w4 w5 w6) rs)] (pf2 h m) (.tup [.sl true 6 [],strX rs])
end
theorem Vo (nd:Nod)(hs:nd.small)(v:Val)(q:SL)(hq:q.ok):∃(f:Nat->Val×Int) (B:Nat),∀l,q=.good l->∀j,j<l.length->((f j).1.wide/\0<=(f j).2/\(f j).2<=100)/\∀N,B<=N->Gam.pureD (callF tab ext N) 37 (zO nd (zC (aO 4 v) (Int.ofNat j) (elV l j)))=some (.tup [.agg (f j).1.cells,num (f j).2]):=by
 cases q with
 |bad r=>exact ⟨fun _=>(.mk 0 0 0 ⟨#[]⟩ [] [],0),0,fun l e=>by cases e⟩
 |good l=>obtain ⟨f,B,h⟩:=zl6 nd hs (aO 4 v) (fP (by decide) (yD 4 v)) l hq.2.2;exact ⟨f,B,fun a e=>by cases e;exact h⟩
theorem XU (nd:Nod)(hs:nd.small)(v:Val):∃q:SL,q.okB/\∃B,∀N,B<=N->Gam.pureD (callF tab ext N) 14 [.agg nd.cells,.agg (aO 4 v).cells]=some q.list:=by obtain ⟨q,w,B,h⟩:=Jk nd hs.2.1 v;obtain ⟨f,y,n⟩:=Vo nd hs v q w;have u:=fun l e j a=>(⟨(n l e j a).1,fun N E=>(n l e j a).2 N (by omega)⟩:_/\∀N,B+y<=N->_);obtain ⟨A,m⟩:=b72 nd (aO 4 v) (oq (nD v (by decide))) q w f (B+y) u (fun N E=>(h N (by omega)).1);exact ⟨q.app f,zck w (fun l e j a=>(n l e j a).1.1),A,m⟩
theorem Na (nd:Nod)(hs:nd.small)(v:Val):∃q q':SL,q.ok/\q'.okB/\∃B,∀N,B<=N->(Gam.pureD (callF tab ext N) 13 [.agg nd.cells,.agg (aO 4 v).cells]=some (q.els (aO 4 v))/\Gam.pureD (callF tab ext N) 15 [.agg nd.cells,.agg (aO 4 v).cells]=some (q.els (aO 4 v)))/\
  Gam.pureD (callF tab ext N) 14 [.agg nd.cells,.agg (aO 4 v).cells]=some q'.list/\Gam.pureD (callF tab ext N) 16 [.agg nd.cells,.agg (aO 4 v).cells]=some q'.list:=by
 obtain ⟨q,a,B,h⟩:=Jk nd hs.2.1 v;obtain ⟨f,w,F⟩:=Vo nd hs v q a;have H:=oq (nD v (by decide:4<=4));have n:=fun l e j u=>(⟨(F l e j u).1,fun N m=>(F l e j u).2 N (by omega)⟩:_/\∀N,B+w<=N->_);obtain ⟨J,y⟩:=b72 nd (aO 4 v) H q a f (B+w) n (fun N m=>(h N (by omega)).1);obtain ⟨L,E⟩:=b81 nd (aO 4 v) q a f (B+w) n (fun N m=>(h N (by omega)).2);obtain ⟨M,A⟩:=b79 nd (aO 4 v) H q a B (fun N m=>(h N m).1);exact ⟨q,q.app f,a,zck a (fun l e j u=>(F l e j u).1.1),B+J+L+M,fun N m=>⟨⟨A N (by omega),(h N (by omega)).2⟩,y N (by omega),E N (by omega)⟩⟩
end Ct
theorem Xh (p:List Int)(k:Int):aB p++[[num k]]=aB (p++[k]):=by
 induction p with
 |nil=>rfl
 |cons a r ih=>exact congrArg (([num a])::·) ih
theorem zhz (M:Nat)(e k:Int)(l:qaV)(n:Nat)(h1:callF tab ext (M+1) (.fn 34) [.sl false 1 l] []=some (.bs 0 0 n,[.row 1 l]))(hn:n=l.length)(hb:n<1000000):Gam.pureD (callF tab ext (M+2)) 12 [.agg [num e,.sl false 1 l],num k]=some (X.agg [num e,.sl false 1 (l++[[num k]])]):=by refine pure_of [(9,.o (.bs 0 0 n) [.row 1 l]),(12,.app)] [] (pf2 h1 (dX n 0 8 hn hb (by omega))) (x:=.agg [num e,.bs 0 0 (n+1)]) (bx:=[.row 1 (l++[[num k]])]) (by kernel_rfl) ?_;have a:rowOf [.row 1 (l++[[num k]])] 0 0 (n+1)=some (1,l++[[num k]]):=fG rfl (by rw [qaw];simp [hn])<;>simp_all[num,X.data,dH]
theorem Ip (s:Stp)(hs:s.ok)(k:Int)(N:Nat)(hN:10<=N):Gam.pureD (callF tab ext N) 12 [.agg s.cells,num k]=some (.agg (Stp.mk s.e (s.p++[k])).cells):=by obtain ⟨M,rfl⟩:∃M,N=M+2:=⟨N-2,by omega⟩;have h:=zhz M s.e k (aB s.p) s.p.length (O4 M s.p hs.p) (bD s.p).symm (by have:=hs.p;omega);rw [Xh] at h;exact h
def Qg:C->List (C×C)
 |.seq a b|.cond _ a b=>Qg a++Qg b
 |.block _ b|.loop b=>Qg b
 |.rf _ _ _ a b=>(a,b)::(Qg a++Qg b)
 |_=>[]
noncomputable def paA:C:=((Qg (bodyOf tab 21)).getD 0 (.skip,.skip)).1
noncomputable def paB:C:=((Qg (bodyOf tab 21)).getD 0 (.skip,.skip)).2
noncomputable def ziX:Bx:=.loop .ready none [(2,.ptr 1 0 0),(3,.ptr 2 0 0),(5,.ptr 3 0 0)] [14,15] paA paB
def oH (ms:Int)(n j:Nat):Int:=if Int.ofNat j<ms.tmod (Int.ofNat n) then IntKind.i64.wrap (IntKind.i64.wrap (ms.tdiv (Int.ofNat n))+1) else IntKind.i64.wrap (ms.tdiv (Int.ofNat n))
def NW (m:Msg)(b:Val)(n j:Nat):Msg:=⟨⟨m.st.e,m.st.p++[Int.ofNat j]⟩,oH m.vO n j,m.orig,b⟩
def zhe:Val:=.mk 0 0 0 ⟨#[]⟩ [] []
def bg (m:Msg)(bs:List Val)(k:Nat):List Msg:=(List.range k).map fun j=>NW m (bs.getD j zhe) bs.length j
theorem yM (m:Msg)(bs:List Val)(k:Nat):(aI (bg m bs k)).length=k:=by grind[bg,aI]
theorem ES (m:Msg)(bs:List Val)(k:Nat):aI (bg m bs (k+1))=aI (bg m bs k)++[(NW m (bs.getD k zhe) bs.length k).cells]:=by grind[bg,aI,List.range_succ]
theorem P6 (N:Nat)(a b:Int):Gam.pureD (callF tab ext (N+2)) 49 [num a,num b]=some (.fn 90 [.dp [num b],.dp [num a]]):=by kernel_rfl
section
variable (mc:List X) (vs:qaV) (j:Nat) (outs:qaV)
noncomputable def paS:List Bx:=[ziX,.var mc,.var [.sl false 6 vs],.var [.bs 4 0 j],.row 10 outs]
noncomputable def paI:List Bx:=[ziX,.var mc,.var [.sl false 6 vs],.var [.bs 5 0 j],.dead,.row 10 outs]
noncomputable def paO:List Bx:=[ziX,.var mc,.var [.sl false 6 vs],.var [.bs 6 0 j],.dead,.dead,.row 10 outs]
end
theorem zef (N:Nat)(hN:190010<=N)(m:Msg)(hm:m.ok)(b:Val)(h1:Gam.pureD (callF tab ext N) 50 [.agg m.cells,.agg b.cells]=some (.agg ({m with body:=b}:Msg).cells))(vs outs:qaV)(sh:Int)(j:Nat)(hv:vs[j]?=some b.cells)(hj:j<4000)(ho:j=outs.length):
  callF tab ext (N+1) .yl [.yl 0,nat j,num sh] (paS m.cells vs j outs)=some (.v (.bool true),paI m.cells vs (j+1) (outs++[(Msg.mk ⟨m.st.e,m.st.p++[Int.ofNat j]⟩ sh m.orig b).cells])):=by
 have a:=Ip m.st hm.st (Int.ofNat j) N (by omega);obtain ⟨⟨e,p⟩,w,o,⟨y,A,B,E,F,H⟩⟩:=m;obtain ⟨f,h,l,n,q,u⟩:=b;dsimp only at a ⊢;generalize p++[Int.ofNat j]=sp at a ⊢;exact yiA [(19,.e (Val.mk f h l n q u).cells),(21,.p (.agg (Msg.mk ⟨e,p⟩ w o (.mk f h l n q u)).cells)),(25,.p (.agg (Stp.mk e sp).cells)),(32,.app)] (pf4 hv h1 a (dX j 4 152 ho (by omega) (by omega)))
def zmA (n:Nat)(ms:Int)(j:Nat):List (Nat×X):=[(0,.yl 0),(1,.dp [nat n]),(2,.dp [num ms]),(6,nat n),(7,nat j)]
def mX (e:Int)(p:qaV)(ms:Int)(o:qaV)(a1 a2 a3:Int)(a4:qaW)(a5 a6:qaV):List X:=[num e,.sl false 1 p,num ms,.sl false 1 o,num a1,num a2,num a3,strX a4,.sl false 6 a5,.sl false 7 a6]
section
variable (e:Int) (p:qaV) (q:Int) (o:qaV) (a1 a2 a3:Int) (a4:qaW) (a5 a6:qaV) (vs:qaV) (n k:Nat) (ms:Int) (j:Nat) (outs:qaV)
noncomputable def sh0:St:=⟨zmA n ms 0,paS (mX e p q o a1 a2 a3 a4 a5 a6) vs 0 []⟩
noncomputable def shH:St:=⟨zmA n ms j,paI (mX e p q o a1 a2 a3 a4 a5 a6) vs j outs⟩
noncomputable def zuo:St:=⟨zmA n ms j,paO (mX e p q o a1 a2 a3 a4 a5 a6) vs j outs⟩
theorem ZC:canon 5 (sh0 e p q o a1 a2 a3 a4 a5 a6 vs n ms)=some (sh0 e p q o a1 a2 a3 a4 a5 a6 vs n ms):=by kernel_rfl
theorem zdS:canon 5 (shH e p q o a1 a2 a3 a4 a5 a6 vs n ms j outs)=some (shH e p q o a1 a2 a3 a4 a5 a6 vs n ms j outs):=by kernel_rfl
theorem ZE:canon 5 (zuo e p q o a1 a2 a3 a4 a5 a6 vs n ms j outs)=some (shH e p q o a1 a2 a3 a4 a5 a6 vs n ms j outs):=by kernel_rfl
theorem zdR (N:Nat)(x:List X)(hk:j<k+1)(hj:j<4000)(hy:callF tab ext N .yl [.yl 0,nat j,num (oH ms (k+1) j)] (paS (mX e p q o a1 a2 a3 a4 a5 a6) vs j outs)=some (.v (.bool true),paI (mX e p q o a1 a2 a3 a4 a5 a6) vs (j+1) (outs++[x]))):
  run (callF tab ext N) 5 N (loopAt 90 0) (shH e p q o a1 a2 a3 a4 a5 a6 vs (k+1) ms j outs)=some (.norm,zuo e p q o a1 a2 a3 a4 a5 a6 vs (k+1) ms (j+1) (outs++[x])):=by
 unfold oH at hy;generalize outs++[x]=o1 at hy ⊢;cases h:decide (Int.ofNat j<ms.tmod (Int.ofNat (k+1))) with
 |true=>rw [if_pos (of_decide_eq_true h)] at hy;exact ruA [(8,.b true),(17,.b true),(23,.r (.v (.bool true)) (paI (mX e p q o a1 a2 a3 a4 a5 a6) vs (j+1) o1)),(25,.i (Int.ofNat (j+1)))] (pf4 (aH hk) h hy (ay (j:=j) (by omega)))
 |false=>rw [if_neg (of_decide_eq_false h)] at hy;exact ruA [(8,.b true),(17,.b false),(23,.r (.v (.bool true)) (paI (mX e p q o a1 a2 a3 a4 a5 a6) vs (j+1) o1)),(25,.i (Int.ofNat (j+1)))] (pf4 (aH hk) h hy (ay (j:=j) (by omega)))
theorem ZB (N:Nat)(x:List X)(hy:callF tab ext N .yl [.yl 0,nat 0,num (oH ms (k+1) 0)] (paS (mX e p q o a1 a2 a3 a4 a5 a6) vs 0 [])=some (.v (.bool true),paI (mX e p q o a1 a2 a3 a4 a5 a6) vs 1 [x])):
  run (callF tab ext N) 5 N (loopAt 90 0) (sh0 e p q o a1 a2 a3 a4 a5 a6 vs (k+1) ms)=some (.norm,shH e p q o a1 a2 a3 a4 a5 a6 vs (k+1) ms 1 [x]):=by
 unfold oH at hy;cases h:decide (Int.ofNat 0<ms.tmod (Int.ofNat (k+1))) with
 |true=>rw [if_pos (of_decide_eq_true h)] at hy;exact ruA [(8,.b true),(17,.b true),(23,.r (.v (.bool true)) (paI (mX e p q o a1 a2 a3 a4 a5 a6) vs 1 [x])),(25,.i (Int.ofNat 1))] (pf4 (aH (j:=0) (k:=k+1) (by omega)) h hy (ay (j:=0) (by omega)))
 |false=>rw [if_neg (of_decide_eq_false h)] at hy;exact ruA [(8,.b true),(17,.b false),(23,.r (.v (.bool true)) (paI (mX e p q o a1 a2 a3 a4 a5 a6) vs 1 [x])),(25,.i (Int.ofNat 1))] (pf4 (aH (j:=0) (k:=k+1) (by omega)) h hy (ay (j:=0) (by omega)))
theorem znC (N:Nat):run (callF tab ext N) 5 N (loopAt 90 0) (shH e p q o a1 a2 a3 a4 a5 a6 vs (k+1) ms (k+1) outs)=some (.exit 0,⟨zmA (k+1) ms (k+1)++[(8,.v (.bool false))],paI (mX e p q o a1 a2 a3 a4 a5 a6) vs (k+1) outs⟩):=
 ruA [(8,.b false)] (pf1 (aG (j:=k+1) (k:=k+1) (by omega)))
end
theorem Vb (m:Msg):∃a1 a2 a3 a4 a5 a6,m.cells=mX m.st.e (aB m.st.p) m.vO (aB m.orig) a1 a2 a3 a4 a5 a6:=by obtain ⟨⟨e,p⟩,a,o,⟨a1,a2,a3,a4,a5,a6⟩⟩:=m;exact ⟨a1,a2,a3,a4,ah a5,au a6,rfl⟩
theorem YE {j:Nat}(h:j<bs.length):(ah bs)[j]?=some (bs.getD j zhe).cells:=by grind[dR]
theorem MP {j:Nat}(h:j<bs.length):bs.getD j zhe∈bs:=by grind
theorem Z5 (B N:Nat)(hN:190020<=N)(hB:B+10<=N)(m:Msg)(hm:m.ok)(bs:List Val)(hb:∀b,b∈bs->∀N,B<=N->Gam.pureD (callF tab ext N) 50 [.agg m.cells,.agg b.cells]=some (.agg ({m with body:=b}:Msg).cells))(k:Nat)(hk:bs.length=k+1)(hk2:k<3000):
  callF tab ext (N+1) (.fn 90) [.yl 0,.dp [nat (k+1)],.dp [num m.vO]] (paS m.cells (ah bs) 0 [])=some (.tup [],paI m.cells (ah bs) (k+1) (aI (bg m bs (k+1)))):=by
 obtain ⟨M,rfl⟩:=pR_ N;have hy:∀j,j<k+1->callF tab ext (M+1) .yl [.yl 0,nat j,num (oH m.vO (k+1) j)] (paS m.cells (ah bs) j (aI (bg m bs j)))=some (.v (.bool true),paI m.cells (ah bs) (j+1) (aI (bg m bs (j+1)))):=by intro j hj;have h:=zef M (by omega) m hm (bs.getD j zhe) (hb _ (MP (by omega)) M (by omega)) (ah bs) (aI (bg m bs j)) (oH m.vO (k+1) j) j (YE (by omega)) (by omega) (yM _ _ _).symm;rw [ES,hk];exact h
 have y:aI (bg m bs 0)=[]:=rfl;obtain ⟨f,l,n,q,u,w,E⟩:=Vb m;rw [E] at hy ⊢;have A:∀j,aI (bg m bs (j+1))=aI (bg m bs j)++[(NW m (bs.getD j zhe) bs.length j).cells]:=ES m bs;generalize m.vO=ms at hy ⊢;generalize m.st.e=e at hy ⊢;generalize aB m.st.p=p at hy ⊢;generalize aB m.orig=o at hy ⊢;have a:run (callF tab ext (M+1)) 5 (M+1) (.loop (loopAt 90 0)) (sh0 e p ms o f l n q u w (ah bs) (k+1) ms)=some (.exit 0,⟨zmA (k+1) ms (k+1)++[(8,.v (.bool false))],paI (mX e p ms o f l n q u w) (ah bs) (k+1) (aI (bg m bs (k+1)))⟩):=by
  refine aQ (σ:=fun j=>match j with
   |0=>sh0 e p ms o f l n q u w (ah bs) (k+1) ms
   |j+1=>shH e p ms o f l n q u w (ah bs) (k+1) ms (j+1) (aI (bg m bs (j+1)))) (k:=k+1) (ZC ..) (fun j hj=>?_) (znC ..) (by simp) (by omega)
  match j with
  |0=>have h:=hy 0 (by omega);rw [y,A 0,y] at h;refine ⟨_,ZB (hy:=h) ..,?_⟩<;>grind[zdS]
  |j+1=>have h:=hy (j+1) hj;rw [A (j+1)] at h;refine ⟨_,zdR (hk:=hj) (hj:=by omega) (hy:=h) ..,?_⟩<;>grind[ZE]
 generalize aI (bg m bs (k+1))=o1 at a ⊢;exact caB [] [(.exit 0,⟨zmA (k+1) ms (k+1)++[(8,.v (.bool false))],paI (mX e p ms o f l n q u w) (ah bs) (k+1) o1⟩)] (pf1 a)
section
variable (e:Int) (p:qaV) (q:Int) (o:qaV) (a1 a2 a3:Int) (a4:qaW) (a5 a6:qaV) (vs:qaV) (n:Nat) (ms:Int) (outs:qaV)
noncomputable def zwC:Bx:=.loop .ready none [(2,.ptr 0 0 0),(3,.ptr 1 0 0),(5,.ptr 2 0 0)] [14,15] paA paB
def zut:List (Nat×X):=[(2,.ptr 0 0 0),(3,.ptr 1 0 0),(5,.ptr 2 0 0),(13,.fn 90 [.dp [nat n],.dp [num ms]])]
def zuu:St:=⟨zut n ms,[.var (mX e p q o a1 a2 a3 a4 a5 a6),.var [.sl false 6 vs],.var [.bs 3 0 0],.row 10 []]⟩
def ziW:St:=⟨zut n ms,[.var (mX e p q o a1 a2 a3 a4 a5 a6),.var [.sl false 6 vs],.var [.bs 5 0 n],.dead,.dead,.row 10 outs]⟩
theorem zrh (N:Nat)(hy:callF tab ext N (.fn 90) [.yl 0,.dp [nat n],.dp [num ms]] (paS (mX e p q o a1 a2 a3 a4 a5 a6) vs 0 [])=some (.tup [],paI (mX e p q o a1 a2 a3 a4 a5 a6) vs n outs)):
  run (callF tab ext N) 0 N (.rf (.t 13) [14,15] [2,3,5] paA paB) (zuu e p q o a1 a2 a3 a4 a5 a6 vs n ms)=some (.norm,ziW e p q o a1 a2 a3 a4 a5 a6 vs n ms outs):=
 Hq (g:=90) (caps:=[.dp [nat n],.dp [num ms]]) (y:=.tup []) (outb:=paI (mX e p q o a1 a2 a3 a4 a5 a6) vs n outs)
  (q:=(.tup [],[.var (mX e p q o a1 a2 a3 a4 a5 a6),.var [.sl false 6 vs],.var [.bs 5 0 n],.dead,zwC,.row 10 outs],[4,0,1,2,3])) hy (by kernel_rfl) (by kernel_rfl) (by kernel_rfl)
theorem ziV (N:Nat)(hl:vs.length=n)(h1:Gam.pureD (callF tab ext N) 49 [num q,nat vs.length]=some (.fn 90 [.dp [nat vs.length],.dp [num q]]))(hrf:run (callF tab ext N) 0 N (.rf (.t 13) [14,15] [2,3,5] paA paB) (zuu e p q o a1 a2 a3 a4 a5 a6 vs n q)=some (.norm,ziW e p q o a1 a2 a3 a4 a5 a6 vs n q outs))(ho:outs.length=n):
  Gam.pureD (callF tab ext (N+1)) 21 [.agg (mX e p q o a1 a2 a3 a4 a5 a6),.sl false 6 vs]=some (.sl false 10 outs):=by
 subst hl;refine pure_of [(13,.p (.fn 90 [.dp [nat vs.length],.dp [num q]]))] [(.norm,ziW e p q o a1 a2 a3 a4 a5 a6 vs vs.length q outs)] (pf2 h1 hrf) (x:=.bs 0 0 vs.length) (bx:=[.row 10 outs]) (by kernel_rfl) ?_;simp [X.data,fG (bx:=[.row 10 outs]) (i:=0) (n:=vs.length) rfl ho.symm]
end
theorem WW (B N:Nat)(hN:190030<=N)(hB:B+20<=N)(m:Msg)(hm:m.ok)(bs:List Val)(hb:∀b,b∈bs->∀N,B<=N->Gam.pureD (callF tab ext N) 50 [.agg m.cells,.agg b.cells]=some (.agg ({m with body:=b}:Msg).cells))(h0:0<bs.length)(h1:bs.length<3000):
  Gam.pureD (callF tab ext N) 21 [.agg m.cells,.sl false 6 (ah bs)]=some (.sl false 10 (aI (bg m bs bs.length))):=by
 obtain ⟨M,rfl⟩:∃M,N=M+2:=⟨N-2,by omega⟩;obtain ⟨k,f⟩:∃k,bs.length=k+1:=⟨bs.length-1,by omega⟩;have a:=Z5 B M (by omega) (by omega) m hm bs hb k f (by omega);have j:=aF bs;have l:=yM m bs bs.length;rw [<-f] at a;obtain ⟨K,rfl⟩:=pR_ M;have n:=P6 K m.vO (nat (ah bs).length|>fun _=>Int.ofNat (ah bs).length);obtain ⟨q,u,w,y,A,E,h⟩:=Vb m;rw [h] at a ⊢;exact ziV _ _ _ _ _ _ _ _ _ _ _ _ _ _ j n (zrh _ _ _ _ _ _ _ _ _ _ _ _ _ _ _ a) l
theorem Ep {ss:List Stp}{j:Nat}(h:j<ss.length):bQ (ss.take (j+1))=bQ (ss.take j)++[(ss[j]).cells]:=by grind[List.take_add_one,bQ]
section
variable (N n j:Nat) (ms ss:qaV) (e q:Int) (p o:qaV) (a1 a2 a3:Int) (a4:qaW) (a5 a6:qaV)
def smH:St:=⟨[(3,.bs 0 0 j),(6,.sl false 10 ms),(7,nat n),(8,nat j)],[.row 2 ss]⟩
def zun (mc:List X):St:=⟨[(3,.bs 2 0 (j+1)),(6,.sl false 10 ms),(7,nat n),(8,nat (j+1))],[.dead,.var mc,.row 2 ss]⟩
theorem zdK:canon 0 (smH n j ms ss)=some (smH n j ms ss):=by kernel_rfl
theorem Zd:canon 0 (zun n j ms ss [num e,.sl false 1 p,num q,.sl false 1 o,num a1,num a2,num a3,strX a4,.sl false 6 a5,.sl false 7 a6])=some (smH n (j+1) ms ss):=by kernel_rfl
theorem zib (hi:ms[j]?=some [num e,.sl false 1 p,num q,.sl false 1 o,num a1,num a2,num a3,strX a4,.sl false 6 a5,.sl false 7 a6])(h1:Gam.pureD (callF tab ext N) 52 [.agg [num e,.sl false 1 p]]=some (.agg [num e,.sl false 1 p]))(hj:j<n)(hl:n<100000)(hs:j=ss.length):
  run (callF tab ext N) 0 N (loopAt 23 0) (smH n j ms ss)=some (.norm,zun n j ms (ss++[[num e,.sl false 1 p]]) [num e,.sl false 1 p,num q,.sl false 1 o,num a1,num a2,num a3,strX a4,.sl false 6 a5,.sl false 7 a6]):=
 ruA [(9,.b true),(10,.e [num e,.sl false 1 p,num q,.sl false 1 o,num a1,num a2,num a3,strX a4,.sl false 6 a5,.sl false 7 a6]),(15,.p (.agg [num e,.sl false 1 p])),(17,.app),(18,.i (Int.ofNat (j+1)))] (pf5 (aH hj) hi h1 (dX j 0 32 hs (by omega) (by omega)) (ay (j:=j) (by omega)))
theorem znm:run (callF tab ext N) 0 N (loopAt 23 0) (smH n n ms ss)=some (.exit 0,⟨[(3,.bs 0 0 n),(6,.sl false 10 ms),(7,nat n),(8,nat n),(9,.v (.bool false))],[.row 2 ss]⟩):=
 ruA [(9,.b false)] (pf1 (aG (j:=n) (k:=n) (by omega)))
end
def dZ (ms:List Msg):List Stp:=ms.map (·.st)
theorem MZ {ms:List Msg}{j:Nat}(h:j<ms.length):bQ (dZ (ms.take (j+1)))=bQ (dZ (ms.take j))++[(ms[j]).st.cells]:=by grind[List.take_add_one,bQ,dZ]
theorem Eu (N:Nat)(ms:List Msg)(hm:∀m,m∈ms->m.st.ok)(h0:0<ms.length)(hl:ms.length<50000)(hN:ms.length+10<=N):Gam.pureD (callF tab ext N) 23 [.sl false 10 (aI ms)]=some (.sl false 2 (bQ (dZ ms))):=by
 obtain ⟨M,rfl⟩:∃M,N=M+3:=⟨N-3,by omega⟩;have f:=dG ms;have a:run (callF tab ext (M+2)) 0 (M+2) (.loop (loopAt 23 0)) (smH ms.length 0 (aI ms) [])=some (.exit 0,⟨[(3,.bs 0 0 ms.length),(6,.sl false 10 (aI ms)),(7,nat ms.length),(8,nat ms.length),(9,.v (.bool false))],[.row 2 (bQ (dZ ms))]⟩):=by
  refine aQ (σ:=fun j=>smH ms.length j (aI ms) (bQ (dZ (ms.take j)))) (k:=ms.length) (zdK ..) (fun j hj=>?_) ?_ (by simp) (by omega);·have h:=mD M (ms[j]).st (hm _ (qaf hj));have l:=jU hj;have u:=MZ hj;generalize ms[j]=q at h l u;obtain ⟨⟨e,p⟩,w,o,⟨y,A,B,E,F,H⟩⟩:=q;refine ⟨_,zib (hi:=l) (h1:=h) (hj:=hj) (hl:=by omega) (hs:=by grind[bQ,dZ]) ..,?_⟩;rw [u];exact Zd ..
  ·grind[znm]
 rw [<-f] at a;have hs:(bQ (dZ ms)).length=(aI ms).length:=by simp [bQ,dZ,aI]
 generalize bQ (dZ ms)=so at a hs ⊢;generalize aI ms=mc at a hs ⊢;refine pure_of [] [(.exit 0,⟨[(3,.bs 0 0 mc.length),(6,.sl false 10 mc),(7,nat mc.length),(8,nat mc.length),(9,.v (.bool false))],[.row 2 so]⟩)] (pf1 a) (x:=.bs 0 0 mc.length) (bx:=[.row 2 so]) (by kernel_rfl) ?_;simp [X.data,fG (bx:=[.row 2 so]) (i:=0) (n:=mc.length) rfl hs.symm]
section
variable (N n j:Nat) (e k:Int) (p:qaV) (nm:qaW) (l ss:qaV) (se:Int) (sp:qaV)
def itH:St:=⟨[(0,.ptr 0 0 0),(5,.sl false 2 l),(6,nat n),(7,nat j)],[.var [num e,.sl false 1 p,num k,strX nm,.bs 1 0 j,noText],.row 2 ss]⟩
def zux:St:=⟨[(0,.ptr 0 0 0),(5,.sl false 2 l),(6,nat n),(7,nat (j+1))],[.var [num e,.sl false 1 p,num k,strX nm,.bs 3 0 (j+1),noText],.dead,.var [num se,.sl false 1 sp],.row 2 ss]⟩
theorem KI:canon 1 (itH n j e k p nm l ss)=some (itH n j e k p nm l ss):=by kernel_rfl
theorem FM:canon 1 (zux n j e k p nm l ss se sp)=some (itH n (j+1) e k p nm l ss):=by kernel_rfl
theorem QE (hi:l[j]?=some [num se,.sl false 1 sp])(h1:Gam.pureD (callF tab ext N) 52 [.agg [num se,.sl false 1 sp]]=some (.agg [num se,.sl false 1 sp]))(hj:j<n)(hl:n<100000)(hs:j=ss.length):
  run (callF tab ext N) 1 N (loopAt 91 0) (itH n j e k p nm l ss)=some (.norm,zux n j e k p nm l (ss++[[num se,.sl false 1 sp]]) se sp):=
 ruA [(8,.b true),(9,.e [num se,.sl false 1 sp]),(17,.p (.agg [num se,.sl false 1 sp])),(19,.app),(22,.i (Int.ofNat (j+1)))] (pf5 (aH hj) hi h1 (dX j 1 32 hs (by omega) (by omega)) (ay (j:=j) (by omega)))
theorem zaF:run (callF tab ext N) 1 N (loopAt 91 0) (itH n n e k p nm l ss)=some (.exit 0,⟨[(0,.ptr 0 0 0),(5,.sl false 2 l),(6,nat n),(7,nat n),(8,.v (.bool false))],[.var [num e,.sl false 1 p,num k,strX nm,.bs 1 0 n,noText],.row 2 ss]⟩):=
 ruA [(8,.b false)] (pf1 (aG (j:=n) (k:=n) (by omega)))
end
theorem zaH (N:Nat)(ss:List Stp)(hs:∀s,s∈ss->s.ok)(hl:ss.length<50000)(hN:ss.length+10<=N)(e k:Int)(p:qaV)(nm:qaW):
  callF tab ext N (.fn 91) [.ptr 0 0 0,.dp [.sl false 2 (bQ ss)]] [.var [num e,.sl false 1 p,num k,strX nm,.sl true 2 [],noText]]=some (.tup [],[.var [num e,.sl false 1 p,num k,strX nm,.bs 1 0 ss.length,noText],.row 2 (bQ ss)]):=by
 obtain ⟨M,rfl⟩:∃M,N=M+3:=⟨N-3,by omega⟩;have f:=nC ss;have a:run (callF tab ext (M+2)) 1 (M+2) (.loop (loopAt 91 0)) (itH ss.length 0 e k p nm (bQ ss) [])=some (.exit 0,⟨[(0,.ptr 0 0 0),(5,.sl false 2 (bQ ss)),(6,nat ss.length),(7,nat ss.length),(8,.v (.bool false))],[.var [num e,.sl false 1 p,num k,strX nm,.bs 1 0 ss.length,noText],.row 2 (bQ ss)]⟩):=by
  refine aQ (σ:=fun j=>itH ss.length j e k p nm (bQ ss) (bQ (ss.take j))) (k:=ss.length) (KI ..) (fun j hj=>?_) ?_ (by simp) (by omega);·have h:=mD M ss[j] (hs _ (qaf hj));have l:=Es hj;have m:=Ep hj;generalize ss[j]=q at h l m;obtain ⟨n,u⟩:=q;refine ⟨_,QE (hi:=l) (h1:=h) (hj:=hj) (hl:=by omega) (hs:=by grind[bQ]) ..,?_⟩;rw [m];exact FM ..
  ·grind[zaF]
 rw [<-f] at a ⊢;generalize bQ ss=so at a ⊢;exact caB [] [(.exit 0,⟨[(0,.ptr 0 0 0),(5,.sl false 2 so),(6,nat so.length),(7,nat so.length),(8,.v (.bool false))],[.var [num e,.sl false 1 p,num k,strX nm,.bs 1 0 so.length,noText],.row 2 so]⟩)] (pf1 a)
theorem zoT (N:Nat)(e q:Int)(p o:qaV)(a1 a2 a3:Int)(a4:qaW)(a5 a6:qaV)(nm:qaW)(l:qaV)(h1:Gam.pureD (callF tab ext (N+5)) 52 [.agg [num e,.sl false 1 p]]=some (.agg [num e,.sl false 1 p]))
  (h2:callF tab ext (N+5) (.fn 91) [.ptr 0 0 0,.dp [.sl false 2 l]] [.var [num e,.sl false 1 p,num 1,strX nm,.sl true 2 [],noText]]=some (.tup [],[.var [num e,.sl false 1 p,num 1,strX nm,.bs 1 0 l.length,noText],.row 2 l])):
  Gam.pureD (callF tab ext (N+6)) 47 [.agg [num e,.sl false 1 p,num q,.sl false 1 o,num a1,num a2,num a3,strX a4,.sl false 6 a5,.sl false 7 a6],strX nm,num 1,.sl false 1 [[.fn 91 [.dp [.sl false 2 l]]]]]=some (.agg [num e,.sl false 1 p,num 1,strX nm,.sl false 2 l,noText]):=by
 refine pure_of [(14,.p (.agg [num e,.sl false 1 p])),(25,.r (.tup []) [.var [num e,.sl false 1 p,num 1,strX nm,.bs 1 0 l.length,noText],.row 2 l])] [] (pf2 h1 h2) (x:=.agg [num e,.sl false 1 p,num 1,strX nm,.bs 0 0 l.length,noText]) (bx:=[.row 2 l]) (by kernel_rfl) ?_;have a:=fG (bx:=[.row 2 l]) (i:=0) (n:=l.length) rfl rfl<;>simp_all[X.data,dH,num,strX,noText]
theorem yI (N:Nat)(m:Msg)(h:m.st.ok)(nm:qaW)(ss:List Stp)(hs:∀s,s∈ss->s.ok)(hl:ss.length<50000)(hN:ss.length+30<=N):Gam.pureD (callF tab ext N) 22 [.agg m.cells,strX nm,.sl false 2 (bQ ss)]=some (.agg (Fte.mk m.st 1 nm ss ⟨#[]⟩).cells):=by obtain ⟨M,rfl⟩:∃M,N=M+12:=⟨N-12,by omega⟩;have B:=mD (M+8) m.st h;have a:=zaH (M+10) ss hs hl (by omega) m.st.e 1 (aB m.st.p) nm;rw [<-nC ss] at a;obtain ⟨⟨e,p⟩,w,o,⟨j,n,q,u,y,A⟩⟩:=m;have f:=zoT (M+5) e w (aB p) (aB o) j n q u (ah y) (au A) nm (bQ ss) B a;show _=some (X.agg [num e,.sl false 1 (aB p),num 1,strX nm,.sl false 2 (bQ ss),noText]);generalize bQ ss=l at f ⊢;exact puA [(12,.p (.agg [num e,.sl false 1 (aB p),num 1,strX nm,.sl false 2 l,noText]))] (pf1 f) (.agg [num e,.sl false 1 (aB p),num 1,strX nm,.sl false 2 l,noText])
section
variable (N:Nat) (nd:Nod) (a b:Int) (ss:qaV) (e q:Int) (p o:qaV) (a1 a2 a3:Int) (a4:qaW) (a5 a6:qaV) (ms:qaV) (n j:Nat) (outs:qaV) (be bq:Int) (bp bo:qaV) (b1 b2 b3:Int) (b4:qaW) (b5 b6:qaV)
def zri:List X:=[num 0,num 0,.sl true 10 [],.sl true 11 [],.sl true 11 [],.sl true 6 [],.sl true 10 []]
end
section
variable (N:Nat) (nd:Nod) (a b:Int) (ss:qaV) (e q:Int) (p o:qaV) (a1 a2 a3:Int) (a4:qaW) (a5 a6:qaV) (k j:Nat) (outs sts:qaV) (x:List X)
end
section
variable (N:Nat) (nd:Nod) (a b:Int) (ss:qaV) (e q:Int) (o:qaV) (a1 a2 a3:Int) (a4:qaW) (a5 a6:qaV) (k j:Nat) (outs sts:qaV)
end
theorem uJ (i:Inp):(aJ i).m.st.p.length<50000:=by rw [yE];have:=xC i.m.st.p;show (zcM i.m.st.p).length<50000;omega
section
variable (N:Nat) (a b:Int) (ss outs pq letters:qaV) (j:Nat)
end
def zgW (s:Stt):Ocm:=⟨s,[],[],[]⟩
theorem zi7 {s:Stt}(h:s.ok):(zgW s).ok:=⟨h,by simp [zgW],(fun x a=>by cases a),by simp [zgW],(fun x a=>by cases a),by simp [zgW],(fun x a=>by cases a)⟩
end Go.Proofs.YtkeefpkcepodeaaGreatDoor
