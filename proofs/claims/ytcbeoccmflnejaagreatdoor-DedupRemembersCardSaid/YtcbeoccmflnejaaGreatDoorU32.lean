/-.-/
import Derived.Test.YtcbeoccmflnejaaGreatDoorU31
set_option linter.all false
namespace Go.Proofs.YtcbeoccmflnejaaGreatDoor
open Go Go.Em Go.Ab
set_option maxRecDepth 100000
variable {u v:Bool}{nm t:qaX}{Γ:Gam}{h:Int}{ps:List Prop}{ss:List Slt}{c e:List X}{fu nIn:Nat}{σ σ':St}
namespace Ct
theorem Z4 {x:X}(hx:val.Is T 0 x):∃(h' a b c:Int) (s:qaX) (t:Bool) (l:qaW) (t':Bool) (f:qaW),x=.agg [num a,num b,num c,strX s,.sl t 6 l,.sl t' 7 f]/\0<=h'/\IsL T h' [int,int,int,.s,.slh 6 1,.slh 7 2] [num a,num b,num c,strX s,.sl false 6 l,.sl false 7 f]:=by
 obtain ⟨h',xs,rfl,h,j⟩:∃h' xs,x=.agg xs/\0<=h'/\IsL T h' [int,int,int,.s,.slh 6 1,.slh 7 2] xs:=hx
 match xs,j with
 |[_,_,_,_,_,_],⟨⟨a,rfl⟩,⟨b,rfl⟩,⟨c,rfl⟩,⟨s,rfl,k1⟩,⟨t,l,rfl,k2,k3⟩,⟨t',f,rfl,k4,k5⟩,_⟩=>exact ⟨h',a,b,c,s,t,l,t',f,rfl,h,⟨a,rfl⟩,⟨b,rfl⟩,⟨c,rfl⟩,⟨s,rfl,k1⟩,⟨false,l,rfl,k2,k3⟩,⟨false,f,rfl,k4,k5⟩,trivial⟩
theorem WQ {b:Bx}(hb:(BSh.jD 0 6 kM).Is T b):∃(a b' c:Int) (s:qaX) (t:Bool) (l:qaW) (t':Bool) (f:qaW) (e:Int),b=.var [num a,num b',num c,strX s,.sl t 6 l,.sl t' 7 f,num e]/\0<=e/\e<=100:=by
 obtain ⟨h',xs,rfl,_,_,h⟩:∃h' xs,b=.var xs/\0<=h'/\h'<=6/\IsL T h' kM xs:=hb
 match xs,h with
 |[_,_,_,_,_,_,_],⟨⟨a,rfl⟩,⟨b,rfl⟩,⟨c,rfl⟩,⟨s,rfl,_⟩,⟨t,l,rfl,_⟩,⟨t',f,rfl,_⟩,⟨e,rfl,er⟩,_⟩=>exact ⟨a,b,c,s,t,l,t',f,e,rfl,er⟩
end Ct
namespace Ct
theorem zdr {n:Nat}(h:DN T (n+1) 1 e):∃(a b c:Int) (s:qaX) (t:Bool) (l:qaW) (t':Bool) (f:qaW),e=[num a,num b,num c,strX s,.sl t 6 l,.sl t' 7 f]/\s.size<=1000000/\l.length<=1000000/\f.length<=1000000/\(∀x,x∈l->DN T n 1 x)/\∀x,x∈f->DN T n 2 x:=by
 obtain ⟨j,m,q⟩:=h;obtain rfl:=qaa.1 m
 match e,q with
 |[.v (.int _ a),.v (.int _ b),.v (.int _ c),.v (.string s),.sl t _ l,.sl t' _ f],⟨⟨rfl,_⟩,⟨rfl,_⟩,⟨rfl,_⟩,h4,⟨rfl,_,h5,h6⟩,⟨rfl,_,h7,h8⟩,_⟩=>exact ⟨a,b,c,s,t,l,t',f,rfl,h4.2,h5,h7,h6,h8⟩
theorem zdq {n:Nat}(h:DN T n 2 e):∃(nm:qaX) (x:List X),e=strX nm::x/\nm.size<=1000000/\DN T n 1 x:=by
 cases n with
 |zero=>exact h.elim
 |succ n=>
  obtain ⟨a,f,j⟩:=h;obtain rfl:=qaa.1 f
  match e,j with
  |.v (.string s)::x,⟨h1,h2⟩=>exact ⟨s,x,rfl,h1.2,_,qaa.2 rfl,h2⟩
theorem zdE {n:Nat}{x:List X}(h:DN T n 1 x):∃v:Val,v.wide/\∃(a b c:Int) (s:qaX) (t:Bool) (l:qaW) (t':Bool) (f:qaW),x=[num a,num b,num c,strX s,.sl t 6 l,.sl t' 7 f]/\∃B,∀N,B<=N->Gam.pureD (callF tab ext N) 56 [.agg [num a,num b,num c,strX s,.sl false 6 l,.sl false 7 f]]=some (.agg v.cells):=
 Gx (k:=1) (kf:=2) (fun _ v=>v.wide) (fun h=>by obtain ⟨a,b,c,s,t,l,t',f,rfl,_,j,E,m,q⟩:=zdr h;refine ⟨a,b,c,s,t,l,t',f,rfl,j,by omega,m,q,fun H F y A w u=>?_⟩;simp only [Val.wide];exact ⟨⟨by omega,by omega⟩,vO fun v h=>w v h,vS fun p h=>(u p h).2⟩) zdq n h
theorem Yh {h:Nat}(hh:h<=900){op n:Int}{s:qaX}{vs ar:qaW}(hx:okE h [num op,num n,strX s,.sl false 6 vs,.sl false 5 ar]){x0:List X}(hx0:D T 7 11 x0):∃(v:Val) (e:Int),(v.wide/\0<=e/\e<=100)/\∃B,∀N,B<=N->Gam.pureD (callF tab ext N) 42 [.agg [num op,num n,strX s,.sl false 6 vs,.sl false 5 ar],.agg x0]=some (.tup [.agg v.cells,num e]):=by
 have j:∀{v:Val} {e:Int} {B:Nat},(∀M,B<=M->Gam.pureD (callF tab ext (M+1)) 42 [.agg [num op,num n,strX s,.sl false 6 vs,.sl false 5 ar],.agg x0]=some (.tup [.agg v.cells,num e]))->∃B,∀N,B<=N->Gam.pureD (callF tab ext N) 42 [.agg [num op,num n,strX s,.sl false 6 vs,.sl false 5 ar],.agg x0]=some (.tup [.agg v.cells,num e]):=fun {v} {e} {B} h=>⟨B+1,fun N hN=>by obtain ⟨M,rfl⟩:=pR_ N;exact h M (by omega)⟩;have hz:(Val.mk 0 0 0 ⟨#[]⟩ [] []).wide:=by simp [Val.wide,vP,vT]
 obtain ⟨c,⟨Q,cr⟩,q⟩:=OJ hh hx;obtain ⟨E,q⟩:=jo q rfl;obtain ⟨_,a,b,d,s1,t,l,w,f,rfl,S,U,k3,k4,k5⟩:=d11 (h:=6) hx0;cases y:(c !=0) with
 |true=>exact ⟨.mk 0 0 0 ⟨#[]⟩ [] [],c,⟨hz,cr⟩,j (B:=E) fun M A=>puA [(10,.p (num c)),(12,.b true)] (pf2 (q M A) y) (.tup [.agg [num 0,num 0,num 0,noText,.sl true 6 [],.sl true 7 []],num c])⟩
 |false=>
  cases O:(a !=9) with
  |true=>exact ⟨.mk 0 0 0 ⟨#[]⟩ [] [],11,⟨hz,by decide,by decide⟩,j (B:=E) fun M A=>puA [(10,.p (num c)),(12,.b false),(17,.b true)] (pf3 (q M A) y O) (.tup [.agg [num 0,num 0,num 0,noText,.sl true 6 [],.sl true 7 []],num 11])⟩
  |false=>
   have hd:=Q (by simpa using y);obtain ⟨o,ho,r,bx,hi,P,B2,he⟩:=fU (f:=92) (args:=[.p 0,.el 10]) (inb:=[.jD 0 6 kM]) (mu:=some (1,0)) (outs:=[(val,[.jD 0 6 kM])]) (zgq evA (qay ..)) rfl rfl (xs:=[.ptr 0 0 0,.agg [num op,num n,strX s,.sl false 6 vs,.sl false 5 ar]])
    ⟨rfl,⟨_,9+(h:Int),rfl,by omega,hd⟩,trivial⟩ (bx:=[.var [num a,num b,num d,strX s1,.sl t 6 l,.sl w 7 f,num 0]]) ⟨⟨6,_,rfl,by decide,by decide,⟨a,rfl⟩,⟨b,rfl⟩,⟨d,rfl⟩,⟨s1,rfl,by unfold dW;omega⟩,⟨t,l,rfl,by omega,by omega,k4⟩,⟨w,f,rfl,by omega,by omega,k5⟩,⟨0,rfl,by decide,by decide⟩,trivial⟩,trivial⟩
   obtain rfl:=qaa.1 ho
   match bx,P with
   |[bb],⟨P,_⟩=>
    obtain ⟨k0,S,U,s4,t2,ml,w2,mf,u,rfl,err⟩:=WQ P;obtain ⟨h',F,H,J,W,t',V,w',L,rfl,pa,m⟩:=Z4 hi;cases h3:(u !=0) with
    |true=>exact ⟨.mk 0 0 0 ⟨#[]⟩ [] [],u,⟨hz,err⟩,j (B:=max E B2) fun M A=>puA [(10,.p (num c)),(12,.b false),(17,.b false),(24,.r (.agg [num F,num H,num J,strX W,.sl t' 6 V,.sl w' 7 L]) [.var [num k0,num S,num U,strX s4,.sl t2 6 ml,.sl w2 7 mf,num u]]),(29,.b true)] (pf5 (q M (by omega)) y O (he M (by omega)) h3) (.tup [.agg [num 0,num 0,num 0,noText,.sl true 6 [],.sl true 7 []],num u])⟩
    |false=>obtain ⟨_,_,_,⟨s3,e3,q3⟩,⟨u5,l5,e5,q5,q6⟩,⟨u7,f7,e7,q7,q8⟩,_⟩:=m;cases e3;cases e5;cases e7;have hD:DN T (h'.toNat+1) 1 [num F,num H,num J,strX W,.sl false 6 V,.sl false 7 L]:=⟨_,qaa.2 rfl,⟨rfl,(fun a e=>by cases e),(fun a e=>by cases e)⟩,⟨rfl,(fun a e=>by cases e),(fun a e=>by cases e)⟩,⟨rfl,(fun a e=>by cases e),(fun a e=>by cases e)⟩,⟨Nat.zero_le _,by unfold dW at q3;omega⟩,⟨rfl,Nat.zero_le _,by unfold dW at q5;omega,q6⟩,⟨rfl,Nat.zero_le _,by unfold dW at q7;omega,q8⟩,trivial⟩;obtain ⟨v,hv,_,_,_,_,_,_,_,_,e9,B3,m⟩:=zdE hD;cases e9;obtain ⟨Y,Z,v3,v4,v5,v6⟩:=v;exact ⟨.mk Y Z v3 v4 v5 v6,0,⟨hv,by decide,by decide⟩,j (B:=E+B2+B3) fun M A=>puA [(10,.p (num c)),(12,.b false),(17,.b false),(24,.r (.agg [num F,num H,num J,strX W,.sl t' 6 V,.sl w' 7 L]) [.var [num k0,num S,num U,strX s4,.sl t2 6 ml,.sl w2 7 mf,num u]]),(29,.b false),(36,.p (.agg (Val.mk Y Z v3 v4 v5 v6).cells))] (pf6 (q M (by omega)) y O (he M (by omega)) h3 (m M (by omega))) (.tup [.agg (Val.mk Y Z v3 v4 v5 v6).cells,num 0])⟩
end Ct
open Go.Em
def minS:Slt->List Slt->Slt
 |m,[]=>m
 |m,x::r=>minS (if x.n<m.n then x else m) r
def aQ (n:Int):List Slt->Nat
 |[]=>0
 |x::r=>if x.n=n then 0 else aQ n r+1
def bf:List Slt->List Slt
 |[]=>[]
 |x::r=>(x::r).eraseIdx (aQ (minS x r).n (x::r))
def trimS:Nat->Nat->List Slt->List Slt
 |0,_,ss=>ss
 |d+1,w,ss=>if w<ss.length then trimS d w (bf ss) else ss
theorem vk:∀(r:List Slt) (m:Slt),minS m r=m\/minS m r∈r
 |[],m=>.inl rfl
 |x::r,m=>by
  unfold minS;split
  ·rcases vk r x with h|h;·rw [h];exact .inr (qay ..)
   exact .inr (qaD _ h)
  rcases vk r m with h|h;·exact .inl h
  exact .inr (qaD _ h)
theorem wX:∀(r:List Slt) (m:Slt),(minS m r).n<=m.n/\∀x,x∈r->(minS m r).n<=x.n
 |[],m=>⟨Int.le_refl _,fun x h=>by cases h⟩
 |y::r,m=>by
  unfold minS;split
  ·rename_i hlt;obtain ⟨h1,h2⟩:=wX r y;refine ⟨by omega,fun x hx=>?_⟩;rcases qal.1 hx with rfl|hx;·exact h1
   exact h2 x hx
  rename_i hlt;obtain ⟨h1,h2⟩:=wX r m;refine ⟨h1,fun x hx=>?_⟩;rcases qal.1 hx with rfl|hx;·omega
  exact h2 x hx
theorem qo {n:Int}:∀{l:List Slt},(∃x,x∈l/\x.n=n)->aQ n l<l.length
 |[],⟨x,h,_⟩=>by cases h
 |y::r,⟨x,h,e⟩=>by
  unfold aQ;split;·simp
  rename_i hne;have:∃x,x∈r/\x.n=n:=by
   rcases qal.1 h with rfl|h;·exact absurd e hne
   exact ⟨x,h,e⟩
  have:=qo this;simp only [qat];omega
theorem Cj (x:Slt)(r:List Slt):minS x r∈x::r:=by
 rcases vk r x with h|h;·rw [h];exact qay ..
 exact qaD _ h
theorem uh (x:Slt)(r:List Slt):aQ (minS x r).n (x::r)<(x::r).length:=qo ⟨_,Cj x r,rfl⟩
theorem bT (h:0<ss.length):(bf ss).length=ss.length-1:=by
 cases ss with
 |nil=>simp at h
 |cons x r=>unfold bf;rw [List.length_eraseIdx,if_pos (uh x r)]
theorem oG (ss:List Slt):(bf ss).Sublist ss:=by
 cases ss with
 |nil=>exact .slnil
 |cons x r=>exact List.eraseIdx_sublist ..
theorem pq {d w:Nat}(h:¬w<ss.length):trimS d w ss=ss:=by
 cases d with
 |zero=>rfl
 |succ d=>unfold trimS;rw [if_neg h]
theorem Qu {bx:List Bx}{i sz n:Nat}{es:qaW}(h:bx[i]?=some (.row sz es))(hn:n=es.length):rowOf bx i 0 n=some (sz,es):=by subst hn;simp [rowOf,h]
theorem Xt (N:Nat)(rows:qaW)(n i:Nat)(x:List X)(hn:n=rows.length)(hi:i<=n)(hl:n<=2000000):
  callF tab ext (N+1) (.fn 93) [.bs 0 0 n,nat i,.sl true 10 [x]] [.row 10 rows]=some (.bs 1 0 (n+1),[.dead,.row 10 (rows.take i++[x]++rows.drop i)]):=by
 have e:callF tab ext (N+1) (.fn 93) [.bs 0 0 n,nat i,.sl true 10 [x]] [.row 10 rows]=Ru 10 [.bs 0 0 n,nat i,.sl true 10 [x]] [.row 10 rows]:=rfl;rw [e];show (if 10=10/\10=10/\n=rows.length/\n<=2000000/\0<=Int.ofNat i/\(Int.ofNat i).toNat<=n then some (X.bs 1 0 (n+1),[Bx.dead,Bx.row 10 (rows.take (Int.ofNat i).toNat++[x]++rows.drop (Int.ofNat i).toNat)]) else none)=_;rw [if_pos ⟨rfl,rfl,hn,hl,Int.natCast_nonneg i,hi⟩];rfl
theorem PY {k:Nat}(h:k<1024):decide (Int.ofNat k>=1024)=false:=decide_eq_false (by simp only [qaq];omega)
def qJ (b:Bool)(i:Nat)(x:Slt)(ss:List Slt):List Slt:=if b then ss.set i x else ss.take i++[x]++ss.drop i
theorem QO {a b:Int}:dZ a b<0↔a<b:=by
 unfold dZ;split;next h=>exact ⟨fun _=>h,fun _=>by decide⟩
 split;next h j=>exact ⟨fun f=>absurd f (by decide),fun f=>absurd f h⟩
 rename_i h j;exact ⟨fun f=>absurd f (by decide),fun f=>absurd f h⟩
theorem min1 (N:Nat)(a b:Slt):Gam.pureD (callF tab ext (N+6)) 134 [.agg a.cells,.agg b.cells]=some (num (dZ a.n b.n)):=by have h:=jQ (N+1) a.n b.n;obtain ⟨⟨k,i,s,H,J,w⟩,n,t,B,L⟩:=a;obtain ⟨⟨A,y,E,m,q,f⟩,l,F,j,u⟩:=b;dsimp only at h ⊢;generalize dZ n l=r at h;exact puA [(9,.p (num r))] (pf1 h) (num r)
def Y3:List X:=[num 0,num 0,num 0,noText,.sl true 6 [],.sl true 7 [],num 0,num 0,.sl true 10 [],.sl true 6 []]
def mnH (l:qaW)(m:Nat)(c:List X)(j:Nat):St:=⟨[(0,.bs 0 0 m),(1,.fn 134 []),(4,.ptr 1 0 0),(5,.ptr 2 0 0),(6,nat j)],[.row 10 l,.var Y3,.var c]⟩
def mnE (l:qaW)(m:Nat)(c:List X)(j:Nat):St:=⟨[(0,.bs 0 0 m),(1,.fn 134 []),(4,.ptr 1 0 0),(5,.ptr 2 0 0),(6,nat j),(17,boolX false)],[.row 10 l,.var Y3,.var c]⟩
theorem KH (l:qaW)(m:Nat)(c:Slt)(j:Nat):canon 1 (mnH l m c.cells j)=some (mnH l m c.cells j):=by obtain ⟨⟨w,u,A,h,n,a⟩,y,B,f,q⟩:=c;kernel_rfl
theorem zbs (l:qaW)(m:Nat)(c x:Slt)(j:Nat)(hj:j<m)(hm:m<1000000)(hg:l[0+j]?=some x.cells)(M:Nat):run (callF tab ext (M+6)) 1 (M+6) (loopAt 133 0) (mnH l m c.cells j)=some (.norm,mnH l m (if x.n<c.n then x else c).cells (j+1)):=by
 have E:=aI hj;have f:=min1 M x c;have F:=ay (j:=j) (by omega);have a:=@QO x.n c.n;obtain ⟨⟨k,i,s,y,A,q⟩,n,t,w,B⟩:=x;obtain ⟨⟨U,S,V,O,P,J⟩,H,W,N,Q⟩:=c;dsimp only at f a ⊢;generalize dZ n H=r at f a;by_cases h:n<H;·rw [if_pos h];have u:decide (r<0)=true:=decide_eq_true (a.2 h);exact ruA [(17,.b true),(23,.at),(24,.ld (aJ k i s y (ah A) (aj q) n t (aA w) (ah B))),(26,.p (num r)),(27,.b true),(30,.at),(31,.ld (aJ k i s y (ah A) (aj q) n t (aA w) (ah B))),(19,.i (Int.ofNat (j+1)))] (pf8 E hj hg f u hj hg F)
 rw [if_neg h];have u:decide (r<0)=false:=decide_eq_false (fun L=>h (a.1 L));exact ruA [(17,.b true),(23,.at),(24,.ld (aJ k i s y (ah A) (aj q) n t (aA w) (ah B))),(26,.p (num r)),(27,.b false),(19,.i (Int.ofNat (j+1)))] (pf6 E hj hg f u F)
theorem zfY (l:qaW)(m:Nat)(c:Slt)(M:Nat):run (callF tab ext M) 1 M (loopAt 133 0) (mnH l m c.cells m)=some (.exit 0,mnE l m c.cells m):=by obtain ⟨⟨u,q,y,h,j,a⟩,w,A,f,n⟩:=c;exact ruA [(17,.b false)] (pf1 (aG (qan m)))
theorem wW (x:Slt):∀(r:List Slt) (j:Nat) (h:j<r.length),minS x (r.take (j+1))=if r[j].n<(minS x (r.take j)).n then r[j] else minS x (r.take j)
 |y::r,0,_=>by simp [minS]
 |y::r,j+1,h=>by simp only [List.take_succ_cons,minS,List.getElem_cons_succ];exact wW (if y.n<x.n then y else x) r j (by simpa using h)
theorem WJ (x:Slt)(r:List Slt)(hl:r.length<100000)(N:Nat)(hN:r.length+20<=N):callF tab ext N (.fn 133) [.bs 0 0 (ak (x::r)).length,.fn 134 []] [.row 10 (ak (x::r))]=some (.agg (minS x r).cells,[.row 10 (ak (x::r))]):=by
 obtain ⟨M,rfl⟩:∃M,N=M+7:=⟨N-7,by omega⟩;have f:=aN (x::r);simp only [qat] at f;have a:run (callF tab ext (M+6)) 1 (M+6) (.loop (loopAt 133 0)) (mnH (ak (x::r)) (ak (x::r)).length x.cells 1)=some (.exit 0,mnE (ak (x::r)) (ak (x::r)).length (minS x r).cells (ak (x::r)).length):=by
  refine loop_for (σ:=fun j=>mnH (ak (x::r)) (ak (x::r)).length (minS x (r.take j)).cells (j+1)) (k:=r.length) (by simpa [minS] using KH (ak (x::r)) _ x 1) (fun j F=>?_) ?_ (by simp) (by omega)
  ·refine ⟨_,zbs _ _ _ r[j] (j+1) (by omega) (by omega) ?_ M,?_⟩;·rw [Nat.zero_add];exact aW (l:=x::r) (j:=j+1) (by simpa using F)
   rw [<-wW];exact KH ..
  rw [List.take_length,<-f];exact zfY ..
 have A:decide (Int.ofNat (ak (x::r)).length<1)=false:=decide_eq_false (by simp only [qaq];omega);have h:0<(ak (x::r)).length:=by omega
 have B:(ak (x::r))[0]?=some x.cells:=rfl;generalize ak (x::r)=l at a A h B ⊢;generalize minS x r=z at a ⊢;obtain ⟨⟨k,i,s,S,U,E⟩,n,t,L,V⟩:=x;obtain ⟨⟨J,H,P,u,w,m⟩,O,Q,q,y⟩:=z;exact caB [(9,.b false),(12,.at),(13,.ld (aJ k i s S (ah U) (aj E) n t (aA L) (ah V)))] [(.exit 0,mnE l l.length (aJ J H P u (ah w) (aj m) O Q (aA q) (ah y)) l.length)] (pf4 A h B a)
theorem Wx (x:Slt)(r:List Slt)(hl:r.length<100000)(N:Nat)(hN:r.length+30<=N):callF tab ext N (.fn 85) [.bs 0 0 (ak (x::r)).length] [.row 10 (ak (x::r))]=some (.agg (minS x r).cells,[.row 10 (ak (x::r))]):=by obtain ⟨M,rfl⟩:=pR_ N;have h:=WJ x r hl M (by omega);generalize ak (x::r)=l at h ⊢;generalize minS x r=z at h ⊢;obtain ⟨⟨k,i,s,j,m,a⟩,n,t,f,q⟩:=z;exact caA [(4,.r (.agg (aJ k i s j (ah m) (aj a) n t (aA f) (ah q))) ([.row 10 l]))] (pf1 h)
theorem zfo (N:Nat)(a b:Slt):Gam.pureD (callF tab ext (N+1)) 87 [.agg a.cells,.dp b.cells]=some (boolX (a.n==b.n)):=by obtain ⟨⟨k,i,s,F,H,u⟩,n,t,A,J⟩:=a;obtain ⟨⟨y,w,B,l,m,f⟩,j,E,h,q⟩:=b;exact puA [] pf0 (boolX (n==j))
def aiH (l:qaW)(c:List X)(m j:Nat):St:=⟨[(0,.sl false 10 l),(1,.fn 87 [.dp c]),(7,nat m),(8,nat j)],[]⟩
theorem LZ (l:qaW)(c:List X)(m j:Nat):canon 0 (aiH l c m j)=some (aiH l c m j):=by kernel_rfl
theorem zed (ss:List Slt)(b:Slt)(hx:∃y,y∈ss/\y.n=b.n)(hl:ss.length<100000)(M:Nat)(hM:ss.length+20<=M):run (callF tab ext M) 0 M (.loop (loopAt 86 0)) (aiH (ak ss) b.cells (ak ss).length 0)=some (.ret,⟨[(4,nat (aQ b.n ss))],[]⟩):=by
 have l:=qo hx;have u:=aN ss;have a:∀j (h:j<ss.length),j<=aQ b.n ss->(ss[j].n==b.n)=decide (j=aQ b.n ss):=by
  clear l u hM hl hx;induction ss with
  |nil=>intro j h;simp at h
  |cons y r ih=>
   intro j h B;unfold aQ at B ⊢;split
   ·rename_i U;rw [if_pos U] at B;have:j=0:=by omega
    subst this;simp [U]
   rename_i w;rw [if_neg w] at B;cases j with
   |zero=>simp [w]
   |succ j=>simpa using ih j (by simpa using h) (by omega)
 obtain ⟨K,rfl⟩:=pR_ M;refine loop_for (σ:=fun j=>aiH (ak ss) b.cells (ak ss).length j) (k:=aQ b.n ss) (LZ ..) (fun j B=>?_) ?_ (by simp) (by omega)
 ·have A:decide (Int.ofNat j<Int.ofNat (ak ss).length)=true:=aI (by omega);have q:j<ss.length:=by omega
  have m:=aW q;have f:=zfo K ss[j] b;rw [a j q (by omega),decide_eq_false (by omega)] at f;have V:=ay (j:=j) (by omega);generalize ss[j]=y at m f;refine ⟨aiH (ak ss) b.cells (ak ss).length (j+1),?_,LZ ..⟩;obtain ⟨⟨k,i,s,L,O,E⟩,n,t,H,Q⟩:=y;obtain ⟨⟨Y,W,s1,N,P,F⟩,Z,t1,J,S⟩:=b;exact ruA [(9,.b true),(14,.e (aJ k i s L (ah O) (aj E) n t (aA H) (ah Q))),(16,.p (boolX false)),(18,.i (Int.ofNat (j+1)))] (pf4 A m f V)
 have A:decide (Int.ofNat (aQ b.n ss)<Int.ofNat (ak ss).length)=true:=aI (by omega);have m:=aW l;have f:=zfo K ss[aQ b.n ss] b;rw [a _ l (Nat.le_refl _),decide_eq_true rfl] at f;generalize ss[aQ b.n ss]=y at m f;generalize aQ b.n ss=j at A m ⊢;obtain ⟨⟨k,i,s,L,O,E⟩,n,t,H,Q⟩:=y;obtain ⟨⟨Y,W,s1,N,P,F⟩,Z,t1,J,S⟩:=b;exact ruA [(9,.b true),(14,.e (aJ k i s L (ah O) (aj E) n t (aA H) (ah Q))),(16,.p (boolX true))] (pf3 A m f)
theorem Oa (ss:List Slt)(b:Slt)(hx:∃y,y∈ss/\y.n=b.n)(hl:ss.length<100000)(N:Nat)(hN:ss.length+30<=N):Gam.pureD (callF tab ext N) 86 [.sl false 10 (ak ss),.fn 87 [.dp b.cells]]=some (nat (aQ b.n ss)):=by obtain ⟨M,rfl⟩:=pR_ N;have h:=zed ss b hx hl M (by omega);generalize aQ b.n ss=j at h ⊢;generalize ak ss=l at h ⊢;obtain ⟨⟨A,w,E,m,q,a⟩,B,F,f,u⟩:=b;exact puB [] [(.ret,⟨[(4,nat j)],[]⟩)] (pf1 h) (nat j)
theorem vI:∀(n N:Nat) (v w:Val),v.size<=n->3*n+12<=N->v.wide->Gam.pureD (callF tab ext N) 27 [.agg v.cells,.agg w.cells]=some (num (cu v w))
 |0,_,.mk ..,_,h,_,_=>by grind[Val.size]
 |n+1,N,.mk k i s t l f,.mk k' i' s' t' l' f',h,hN,hs=>by
  obtain ⟨M,rfl⟩:∃M,N=M+12:=⟨N-12,by omega⟩;simp only [Val.size] at h;simp only [Val.wide] at hs;obtain ⟨⟨hl0,hf0⟩,hwl,hwf⟩:=hs;have hl:=dU l;have hf:=dK f;have h1:Gam.pureD (callF tab ext (M+11)) 68 [.sl false 6 (ah l),.sl false 6 (ah l'),.fn 27 []]=some (num (gW cu l l')):=
   yD (M+10) 27 l l' cu (fun a b ha _=>by have:=jU ha;exact vI n (M+10) a b (by omega) (by omega) (oP hwl ha)) (by omega) (by omega)
  have h2:Gam.pureD (callF tab ext (M+11)) 69 [.sl false 7 (aj f),.sl false 7 (aj f'),.fn 70 []]=some (num (gW LK f f')):=
   yx (M+10) 70 f f' LK (fun a b ha _=>by have:=jV ha;have hv:=vI n (M+9) a.2 b.2 (by omega) (by omega) (oQ hwf ha);obtain ⟨a0,a1,a2,a3,a4,a5,a6⟩:=a;obtain ⟨b0,b1,b2,b3,b4,b5,b6⟩:=b;have ho:=wR (M+8) [uy a0 b0,cu (Val.mk a1 a2 a3 a4 a5 a6) (Val.mk b1 b2 b3 b4 b5 b6)] (by simp) (by simp);exact puA [(9,.p (num (uy a0 b0))),(14,.p (num (cu (Val.mk a1 a2 a3 a4 a5 a6) (Val.mk b1 b2 b3 b4 b5 b6)))),(16,.p (num (orL [uy a0 b0,cu (Val.mk a1 a2 a3 a4 a5 a6) (Val.mk b1 b2 b3 b4 b5 b6)])))] (pf3 (DW (M+6) a0 b0) hv ho) (num (orL [uy a0 b0,cu (Val.mk a1 a2 a3 a4 a5 a6) (Val.mk b1 b2 b3 b4 b5 b6)]))) (by omega) (by omega)
  have ho:=wR (M+10) [dZ k k',dZ i i',dZ s s',uy t t',gW cu l l',gW LK f f'] (by simp) (by simp);rw [cu,DZ,D5];exact puA [(9,.p (num (dZ k k'))),(14,.p (num (dZ i i'))),(19,.p (num (dZ s s'))),(24,.p (num (uy t t'))),(29,.p (num (gW cu l l'))),(34,.p (num (gW LK f f'))),(36,.p (num (orL [dZ k k',dZ i i',dZ s s',uy t t',gW cu l l',gW LK f f'])))] (pf7 (jQ (M+7) k k') (jQ (M+7) i i') (jQ (M+7) s s') (DW (M+8) t t') h1 h2 ho) (num (orL [dZ k k',dZ i i',dZ s s',uy t t',gW cu l l',gW LK f f']))
theorem zdm (N:Nat)(v w:Val)(h:3*v.size+13<=N)(hs:v.wide):Gam.pureD (callF tab ext N) 51 [.agg v.cells,.agg w.cells]=some (boolX (cu v w==0)):=by obtain ⟨M,rfl⟩:=pR_ N;have y:=vI v.size M v w (Nat.le_refl _) (by omega) hs;obtain ⟨k,i,s,t,l,f⟩:=v;obtain ⟨m,j,q,u,n,a⟩:=w;exact puA [(7,.p (num (cu (Val.mk k i s t l f) (Val.mk m j q u n a))))] (pf1 y) (boolX (cu (Val.mk k i s t l f) (Val.mk m j q u n a)==0))
theorem EY (N:Nat)(v:Val)(h:3*v.size+13<=N)(hs:v.wide):Gam.pureD (callF tab ext N) 51 [.agg v.cells,.agg v.cells]=some (boolX true):=by grind[zdm,kG]
theorem iT:∀(N:Nat) (v:Val),v.size<N->v.wide->Gam.pureD (callF tab ext N) 56 [.agg v.cells]=some (.agg v.cells)
 |0,_,h,_=>by omega
 |M+1,.mk k i s t l f,h,hs=>by
  simp only [Val.size] at h;simp only [Val.wide] at hs;obtain ⟨⟨hl0,hf0⟩,hwl,hwf⟩:=hs;have hl:=dU l;have hf:=dK f;have el:=aK l;have ef:=aT f;have h1:run (callF tab ext M) 0 M (.loop (loopAt 56 0)) (clH k i s t (ah l) (aj f) [] (ah l).length 0)=some (.exit 0,clE k i s t (ah l) (aj f) (ah l) (ah l).length (ah l).length):=by
   refine loop_for (σ:=fun j=>clH k i s t (ah l) (aj f) ((ah l).take j) (ah l).length j) (k:=(ah l).length) (D7 _ _ _ _ _ _ _ _ _) (fun j hj=>?_) ?_ (by simp) (by omega)
   ·have hj':j<l.length:=by omega
    have hg:=dN hj';have hm:=jU (qae hj');have hc:=iT M l[j] (by omega) (oP hwl (qae hj'));have hacc:j=((ah l).take j).length:=by rw [qag];omega
    rw [show (ah l).take (j+1)=(ah l).take j++[l[j].cells] from (bI hg).symm];generalize l[j]=u at hc hg ⊢;obtain ⟨a1,a2,a3,a4,l',f'⟩:=u;refine ⟨_,LP M k i s t _ _ _ _ j (.mk a1 a2 a3 a4 l' f') a1 a2 a3 a4 false false (ah l') (aj f') hc hg (by omega) (by omega) hacc,?_⟩<;>grind[yJ]
   ·grind[TY]
  have h2:run (callF tab ext M) 0 M (.loop (loopAt 56 1)) ⟨[(2,.ptr 1 0 0),(3,.ptr 2 0 0),(27,.sl false 7 (aj f)),(28,nat (aj f).length),(29,nat 0)],[.var [num k,num i,num s,strX t,.sl false 6 (ah l),.sl false 7 (aj f)],.var G5,.var [num k,num i,num s,strX t,.bs 3 0 (ah l).length,.bs 4 0 0],.row 6 (ah l),.row 7 []]⟩=some (.exit 2,cfE k i s t (aj f) (ah l) (aj f) (aj f).length (aj f).length (ah l).length):=by
   refine loop_for (σ:=fun j=>cfH k i s t (aj f) (ah l) ((aj f).take j) (aj f).length j (ah l).length) (k:=(aj f).length) (by kernel_rfl) (fun j hj=>?_) ?_ (by simp) (by omega)
   ·have hj':j<f.length:=by omega
    have hg:=eG hj';have hm:=jV (qae hj');have hc:=iT M f[j].2 (by omega) (oQ hwf (qae hj'));have hacc:j=((aj f).take j).length:=by rw [qag];omega
    rw [show (aj f).take (j+1)=(aj f).take j++[strX f[j].1::f[j].2.cells] from (bI hg).symm];generalize f[j]=u at hc hg ⊢;obtain ⟨nm,a1,a2,a3,a4,l',f'⟩:=u;refine ⟨_,LQ M k i s t _ _ _ _ j _ (.mk a1 a2 a3 a4 l' f') nm a1 a2 a3 a4 false false (ah l') (aj f') hc hg (by omega) (by omega) hacc,?_⟩<;>grind[yN]
   ·grind[Ud]
  have h3:(X.agg [num k,num i,num s,strX t,.bs 0 0 (ah l).length,.bs 1 0 (aj f).length]).data [.row 6 (ah l),.row 7 (aj f)] false=some (.agg (Val.mk k i s t l f).cells):=by simp [X.data,dataL,rowOf,Val.cells,num,strX]
  exact pure_of [] [(.exit 0,clE k i s t (ah l) (aj f) (ah l) (ah l).length (ah l).length),(.exit 2,cfE k i s t (aj f) (ah l) (aj f) (aj f).length (aj f).length (ah l).length)]
   (pf2 h1 h2) (bx:=[.row 6 (ah l),.row 7 (aj f)]) (by kernel_rfl) h3
theorem Tq (m:Msg)(hm:m.ok)(name r:qaX)(N:Nat)(hN:300<=N):Gam.pureD (callF tab ext N) 128 [.agg m.cells,strX name,num 4,.sl false 1 [[.fn 129 [.dp [strX r]]]]]=some (.agg (Fte.mk m.st 4 name [] r).cells):=by obtain ⟨M,rfl⟩:∃M,N=M+101:=⟨N-101,by omega⟩;have a:=yG (M+98) m.st hm.st;obtain ⟨⟨e,p⟩,u,o,⟨f,h,j,l,n,q⟩⟩:=m;exact puA [(14,.p (.agg (Stp.mk e p).cells))] (pf1 a) (.agg [num e,.sl false 1 (aC p),num 4,strX name,.sl true 2 [],strX r])
theorem pR (m:Msg)(hm:m.ok)(name r:qaX)(N:Nat)(hN:310<=N):Gam.pureD (callF tab ext N) 81 [.agg m.cells,strX name,strX r]=some (.agg (Fte.mk m.st 4 name [] r).cells):=by obtain ⟨M,rfl⟩:=pR_ N;have a:=Tq m hm name r M (by omega);obtain ⟨⟨e,p⟩,u,o,⟨f,h,j,l,n,q⟩⟩:=m;exact puA [(11,.p (.agg (Fte.mk ⟨e,p⟩ 4 name [] r).cells))] (pf1 a) (.agg (Fte.mk ⟨e,p⟩ 4 name [] r).cells)
def Zt (nm:qaX)(b:Val):Val:=.mk 9 0 0 ⟨#[]⟩ [] (if dw b then [] else [(nm,b)])
theorem QC (nm:qaX)(b:Val):(Zt nm b).size<=b.size+2:=by
 unfold Zt;split;·simp [Val.size,nZ,pJ]
 simp [Val.size,nZ,pJ]
theorem QD (nm:qaX)(b:Val)(hb:b.size<100000)(N:Nat)(hN:200400<=N):Gam.pureD (callF tab ext N) 61 [.sl false 7 [strX nm::b.cells]]=some (.agg (Zt nm b).cells):=by
 obtain ⟨M,rfl⟩:∃M,N=M+301:=⟨N-301,by omega⟩;have m:=QC nm b;have a:=jk (M+300) (Zt nm b) (by omega) (by omega);have j:=nD (M+299) b;unfold Zt at a ⊢;obtain ⟨k,i,s,t,l,f⟩:=b;cases h:dw (.mk k i s t l f) with
 |true=>rw [h] at a j;exact puA [(23,.p (boolX true)),(40,.p (.agg (Val.mk 9 0 0 ⟨#[]⟩ [] []).cells))] (pf3 j (Nat.le_refl 0) a) (.agg (Val.mk 9 0 0 ⟨#[]⟩ [] []).cells)
 |false=>rw [h] at a j;exact puA [(23,.p (boolX false)),(40,.p (.agg (Val.mk 9 0 0 ⟨#[]⟩ [] [(nm,.mk k i s t l f)]).cells))] (pf3 j (Nat.le_refl 1) a) (.agg (Val.mk 9 0 0 ⟨#[]⟩ [] [(nm,.mk k i s t l f)]).cells)
def zdo (b:Val):Val:=Zt ⟨#[98,111,100,121]⟩ b
theorem LD (b:Val)(hb:b.ok)(N:Nat)(hN:200410<=N):Gam.pureD (callF tab ext N) 43 [.agg b.cells]=some (.agg (zdo b).cells):=by obtain ⟨M,rfl⟩:=pR_ N;have w:=jk M b (by unfold Val.ok at hb;omega) (by unfold Val.ok at hb;omega);have h:=QD ⟨#[98,111,100,121]⟩ b (by unfold Val.ok at hb;omega) M (by omega);unfold zdo;generalize Zt ⟨#[98,111,100,121]⟩ b=r at h ⊢;obtain ⟨k,i,s,t,l,f⟩:=b;obtain ⟨m,j,q,u,n,a⟩:=r;exact puA [(4,.p (.agg (Val.mk k i s t l f).cells)),(7,.p (.agg (Val.mk m j q u n a).cells))] (pf2 w h) (.agg (Val.mk m j q u n a).cells)
open Go Go.Em
theorem Ky (s:Stt)(hs:s.small)(x:Slt)(i:Nat)(b:Bool)(hi:i<=s.slots.length)(hb:b=true->i<s.slots.length)(hf:∀N,190040<=N->Gam.pureD (callF tab ext N) 83 [.agg s.cells,.agg x.key.cells]=some (.tup [nat i,boolX b]))(N:Nat)(hN:190050<=N)(hcl:Gam.pureD (callF tab ext (N-1)) 84 [.agg x.cells]=some (.agg x.cells)):
  callF tab ext N (.fn 45) [.agg s.cells,.agg x.cells] []=some (.tup [.agg [num s.n,num s.t,.bs 0 0 (ak (qJ b i x s.slots)).length],num 0],[.row 10 (ak (qJ b i x s.slots))]):=by
 obtain ⟨M,rfl⟩:∃M,N=M+2:=⟨N-2,by omega⟩;have hf:=hf (M+1) (by omega);have h:=yF (M+1) s hs.ok (by omega);replace hcl:Gam.pureD (callF tab ext (M+1)) 84 [.agg x.cells]=some (.agg x.cells):=hcl;have hl:=hs.slots;have hn:=aN s.slots;obtain ⟨a,c,f⟩:=s;dsimp only at hi hb hf h hl hn ⊢;unfold qJ;cases b with
 |true=>
  rw [if_pos rfl];have V:=hb rfl;have Y:=aW V;have E:ak (f.set i x)=(ak f).set (0+i) x.cells:=by simp [ak,List.map_set]
  have W:i<(ak f).length:=by omega
  have S:(ak (f.set i x)).length=(ak f).length:=by simp [ak]
  rw [S,E];obtain ⟨⟨k,j,z,O,P,F⟩,J,L,H,Q⟩:=x;generalize pa:f[i]=o at Y;obtain ⟨⟨k',Z,z',y,A,l⟩,u,w,q,B⟩:=o;exact caA [(13,.p (.tup [nat i,boolX true])),(26,.o (.agg [num a,num c,.bs 0 0 (ak f).length]) [.row 10 (ak f)]),(32,.p (.agg (aJ k j z O (ah P) (aj F) J L (aA H) (ah Q)))),(33,.at),(1000033,.st (aJ k' Z z' y (ah A) (aj l) u w (aA q) (ah B)))] (pf5 hf h hcl W (show (ak f)[0+i]?=some (aJ k' Z z' y (ah A) (aj l) u w (aA q) (ah B)) by rw [Nat.zero_add];exact Y))
 |false=>
  rw [if_neg (by simp)];have E:ak (f.take i++[x]++f.drop i)=(ak f).take i++[x.cells]++(ak f).drop i:=by simp [ak,List.map_take,List.map_drop]
  have S:(ak (f.take i++[x]++f.drop i)).length=(ak f).length+1:=by rw [E];simp;omega
  rw [S,E];have U:decide (Int.ofNat (ak f).length>=1024)=false:=PY (by omega);have m:=Xt M (ak f) (ak f).length i x.cells rfl (by omega) (by omega);obtain ⟨⟨k,j,z,O,P,F⟩,J,L,H,Q⟩:=x;exact caA [(13,.p (.tup [nat i,boolX false])),(22,.b false),(26,.o (.agg [num a,num c,.bs 0 0 (ak f).length]) [.row 10 (ak f)]),(38,.p (.agg (aJ k j z O (ah P) (aj F) J L (aA H) (ah Q)))),(40,.r (.bs 1 0 ((ak f).length+1)) [.dead,.row 10 ((ak f).take i++[aJ k j z O (ah P) (aj F) J L (aA H) (ah Q)]++(ak f).drop i)])] (pf5 hf U h hcl m)
theorem Yk (N:Nat)(rows:qaW)(n i:Nat)(hn:n=rows.length)(hi:i+1<=n)(hl:n<=1000):
  callF tab ext (N+1) (.fn 88) [.bs 0 0 n,nat i,nat (i+1)] [.row 10 rows]=some (.bs 1 0 (n-1),[.dead,.row 10 (rows.eraseIdx i)]):=by
 have e:callF tab ext (N+1) (.fn 88) [.bs 0 0 n,nat i,nat (i+1)] [.row 10 rows]=TN 10 [.bs 0 0 n,nat i,nat (i+1)] [.row 10 rows]:=rfl;rw [e];show (if 10=10/\n=rows.length/\n<=1000/\0<=Int.ofNat i/\Int.ofNat i<Int.ofNat (i+1)/\(Int.ofNat (i+1)).toNat<=n then some (X.bs 1 0 (n-((Int.ofNat (i+1)).toNat-(Int.ofNat i).toNat)),[Bx.dead,Bx.row 10 (rows.take (Int.ofNat i).toNat++rows.drop (Int.ofNat (i+1)).toNat)]) else none)=_;rw [if_pos ⟨rfl,hn,hl,Int.natCast_nonneg i,by simp only [qaq];omega,hi⟩];show some (X.bs 1 0 (n-(i+1-i)),[Bx.dead,Bx.row 10 (rows.take i++rows.drop (i+1))])=_;rw [show n-(i+1-i)=n-1 by omega,List.eraseIdx_eq_take_drop_succ]
def wN (w:Int):Nat:=(max 1 w).toNat
theorem zeK (n:Nat)(w:Int):decide (Int.ofNat n>if true=true then if w>1 then w else 1 else if w<1 then w else 1)=decide (wN w<n):=by rw [if_pos rfl];apply decide_eq_decide.2;unfold wN;simp only [qaq];split<;>omega
section
variable (nd:Nod) (nn ti:Int)
def axS (e:Bool):List (Nat×X):=if e then [(29,boolX false)] else []
def acH (e:Bool)(rows:qaW)(n:Nat):St:=⟨(3,.ptr 0 0 0)::(4,.ptr 1 0 0)::(6,.ptr 2 0 0)::axS e,[.var nd.cells,.var [num nn,num ti,.bs 3 0 n],.var [num 0,num 0,.sl true 10 []],.row 10 rows]⟩
def acE (rows:qaW)(n:Nat):St:=⟨[(3,.ptr 0 0 0),(4,.ptr 1 0 0),(6,.ptr 2 0 0),(37,boolX false)],[.var nd.cells,.var [num nn,num ti,.bs 3 0 n],.var [num 0,num 0,.sl true 10 []],.row 10 rows]⟩
theorem zgW (e:Bool)(rows:qaW)(n:Nat)(h:¬wN nd.number<n)(M:Nat):run (callF tab ext M) 0 M (loopAt 39 0) (acH nd nn ti e rows n)=some (.exit 0,acE nd nn ti rows n):=by
 have j:=zeK n nd.number;rw [decide_eq_false h] at j;obtain ⟨l,y,A,B,w,E,F,m,⟨a,b,c,d⟩,N,el,f,L,u,q,J,H⟩:=nd;cases e;·exact ruA [(37,.b false)] (pf1 j)
 exact ruA [(37,.b false)] (pf1 j)
theorem YU (e:Bool)(l l':qaW)(z:Slt)(i:Nat)(M:Nat)(h1:decide (Int.ofNat l.length>if true=true then if nd.number>1 then nd.number else 1 else if nd.number<1 then nd.number else 1)=true)
  (hold:callF tab ext M (.fn 85) [.bs 0 0 l.length] [.row 10 l]=some (.agg z.cells,[.row 10 l])) (hix:Gam.pureD (callF tab ext M) 86 [.sl false 10 l,.fn 87 [.dp z.cells]]=some (nat i)) (hi1:IntKind.i64.wrap (Int.ofNat i+1)=Int.ofNat (i+1))
  (hdel:callF tab ext M (.fn 88) [.bs 0 0 l.length,nat i,nat (i+1)] [.row 10 l]=some (.bs 1 0 (l.length-1),[.dead,.row 10 l'])):
  run (callF tab ext M) 0 M (loopAt 39 0) (acH nd nn ti e l l.length)=some (.norm,⟨[(3,.ptr 0 0 0),(4,.ptr 1 0 0),(6,.ptr 2 0 0)],[.var nd.cells,.var [num nn,num ti,.bs 5 0 (l.length-1)],.var [num 0,num 0,.sl true 10 []],.dead,.dead,.row 10 l']⟩):=by
 have h:dataL [.var nd.cells,.var [num nn,num ti,.bs 3 0 l.length],.var [num 0,num 0,.sl true 10 []],.row 10 l,.dead] false [X.bs 3 0 l.length,.fn 87 [.dp z.cells]]=some [.sl false 10 l,.fn 87 [.dp z.cells]]:=by simp [dataL,X.data,rowOf]
 obtain ⟨⟨k,m,s,u,y,j⟩,n,t,q,A⟩:=z;obtain ⟨B,J,L,N,w,O,P,E,⟨a,b,c,d⟩,V,el,f,U,H,F,S,Q⟩:=nd;cases e;·exact ruA [(37,.b true),(40,.r (.agg (aJ k m s u (ah y) (aj j) n t (aA q) (ah A))) ([.row 10 l])),(44,.d ([.sl false 10 l,.fn 87 [.dp (aJ k m s u (ah y) (aj j) n t (aA q) (ah A))]]) (nat i)),(49,.i (Int.ofNat (i+1))),(50,.r (.bs 1 0 (l.length-1)) ([.dead,.row 10 l']))] (pf5 h1 hold (And.intro h hix) hi1 hdel)
 exact ruA [(37,.b true),(40,.r (.agg (aJ k m s u (ah y) (aj j) n t (aA q) (ah A))) ([.row 10 l])),(44,.d ([.sl false 10 l,.fn 87 [.dp (aJ k m s u (ah y) (aj j) n t (aA q) (ah A))]]) (nat i)),(49,.i (Int.ofNat (i+1))),(50,.r (.bs 1 0 (l.length-1)) ([.dead,.row 10 l']))] (pf5 h1 hold (And.intro h hix) hi1 hdel)
theorem Uo (l':qaW)(n:Nat):canon 0 ⟨[(3,.ptr 0 0 0),(4,.ptr 1 0 0),(6,.ptr 2 0 0)],[.var nd.cells,.var [num nn,num ti,.bs 5 0 n],.var [num 0,num 0,.sl true 10 []],.dead,.dead,.row 10 l']⟩=some (acH nd nn ti false l' n):=by kernel_rfl
theorem zeh (e:Bool)(x:Slt)(r:List Slt)(hl:(x::r).length<=1000)(h:wN nd.number<(x::r).length)(M:Nat)(hM:1100<=M):
  ∃υ,run (callF tab ext M) 0 M (loopAt 39 0) (acH nd nn ti e (ak (x::r)) (ak (x::r)).length)=some (.norm,υ)/\canon 0 υ=some (acH nd nn ti false (ak (bf (x::r))) (ak (bf (x::r))).length):=by
 have f:=aN (x::r);have w:=zeK (ak (x::r)).length nd.number;have u:wN nd.number<(ak (x::r)).length:=by omega
 rw [decide_eq_true u] at w;have B:=uh x r;have l:=Wx x r (by simp only [qat] at hl;omega) M (by simp only [qat] at hl;omega);have q:=Oa (x::r) (minS x r) ⟨_,Cj x r,rfl⟩ (by omega) M (by omega);have m:=ay (j:=aQ (minS x r).n (x::r)) (by omega);obtain ⟨K,rfl⟩:=pR_ M;have a:=Yk K (ak (x::r)) (ak (x::r)).length (aQ (minS x r).n (x::r)) rfl (by omega) (by omega);have y:ak (bf (x::r))=(ak (x::r)).eraseIdx (aQ (minS x r).n (x::r)):=by simp [bf,ak,List.eraseIdx_eq_take_drop_succ,List.map_take,List.map_drop]
 have A:(ak (bf (x::r))).length=(ak (x::r)).length-1:=by rw [aN,bT (by simp),f]
 rw [A,y];exact ⟨_,YU nd nn ti e _ _ (minS x r) _ (K+1) w l q m a,Uo ..⟩
end
theorem YT (nd:Nod)(nn ti:Int):∀(d:Nat) (e:Bool) (ss:List Slt) (τ:St),canon 0 τ=some (acH nd nn ti e (ak ss) (ak ss).length)->ss.length<=1000->ss.length<=d->∀M,1100<=M->run (callF tab ext M) 0 M (.loop (loopAt 39 0)) τ=some (.exit 0,acE nd nn ti (ak (trimS d (wN nd.number) ss)) (ak (trimS d (wN nd.number) ss)).length):=by
 intro d e ss τ F B y M q;refine loop_dec (α:=Bool×Nat×List Slt) (σ:=fun a=>acH nd nn ti a.1 (ak a.2.2) (ak a.2.2).length) (I:=fun a=>a.2.2.length<=1000/\a.2.2.length<=a.2.1/\trimS a.2.1 (wN nd.number) a.2.2=trimS d (wN nd.number) ss) (μ:=fun a=>a.2.2.length) (fun a u=>?_) (by simp) (a:=(e,d,ss)) ⟨B,y,rfl⟩ F (by dsimp only;omega);obtain ⟨e,l,f⟩:=a;obtain ⟨m,n,h⟩:=u;dsimp only at m n h ⊢;by_cases j:wN nd.number<f.length
 ·left;cases f with
  |nil=>simp at j
  |cons x r=>
   obtain ⟨υ,E,w⟩:=zeh nd nn ti e x r m j M q;obtain ⟨d'',rfl⟩:∃d'',l=d''+1:=⟨l-1,by simp only [qat] at n;omega⟩;have A:=bT (ss:=x::r) (by simp);refine ⟨υ,(false,d'',bf (x::r)),E,w,⟨by dsimp only;omega,by dsimp only;omega,?_⟩,by dsimp only;omega⟩;rw [<-h]
   conv=>rhs;unfold trimS
   rw [if_pos j]
 right;rw [pq j] at h;rw [<-h];have:=aN f;exact zgW nd nn ti e _ _ (by omega) M
theorem OU (nd:Nod)(key:Val)(a w c:Int)(sl pl tl:qaW)(M:Nat)(h13:decide (a>=1099511627776)=false)(h17:IntKind.i64.wrap (a+1)=w)
  (hput:callF tab ext M (.fn 45) [.agg [num w,num c,.sl false 10 sl],.agg (Slt.mk key w 0 [] []).cells] []=some (.tup [.agg [num w,num c,.bs 0 0 pl.length],num 0],[.row 10 pl]))
  (hloop:∀τ,canon 0 τ=some (acH nd w c true pl pl.length)->run (callF tab ext M) 0 M (.loop (loopAt 39 0)) τ=some (.exit 0,acE nd w c tl tl.length)):
  Gam.pureD (callF tab ext (M+1)) 39 [.agg nd.cells,.agg [num a,num c,.sl false 10 sl],.agg key.cells]=some (.tup [.agg [num w,num c,.sl false 10 tl],boolX true]):=by
 obtain ⟨k,V,W,Y,Z,Q⟩:=key;obtain ⟨h,A,B,E,O,F,H,j,⟨l,m,n,u⟩,P,el,f,N,y,q,L,J⟩:=nd;have hloop:=hloop ⟨[(3,.ptr 0 0 0),(4,.ptr 1 0 0),(6,.ptr 3 0 0),(29,boolX false)],[.var (Nod.mk h A B E O F H j (l,m,n,u) P el f N y q L J).cells,.var [num w,num c,.bs 4 0 pl.length],.var [num k,num V,num W,strX Y,.sl false 6 (ah Z),.sl false 7 (aj Q)],.var [num 0,num 0,.sl true 10 []],.row 10 pl]⟩ (by kernel_rfl);have S:rowOf [Bx.row 10 tl] 0 0 tl.length=some (10,tl):=Qu rfl rfl;have U:(X.tup [.agg [num w,num c,.bs 0 0 tl.length],boolX true]).data [Bx.row 10 tl] false=some (.tup [.agg [num w,num c,.sl false 10 tl],boolX true]):=by simp only [X.data,dataL,num,boolX,S,qao]
 exact pure_of [(13,.b false),(17,.i w),(25,.o (.tup [.agg [num w,num c,.bs 0 0 pl.length],num 0]) [.row 10 pl])] [(.exit 0,acE ⟨h,A,B,E,O,F,H,j,(l,m,n,u),P,el,f,N,y,q,L,J⟩ w c tl tl.length)] (pf4 h13 h17 hput hloop) (x:=.tup [.agg [num w,num c,.bs 0 0 tl.length],boolX true]) (bx:=[.row 10 tl]) (by kernel_rfl) U
theorem tN (nd:Nod)(s:Stt)(hs:s.small)(key:Val)(hn:s.n<1099511627776)(w:Int)(hw:IntKind.i64.wrap (s.n+1)=w)(i:Nat)(b:Bool)(hi:i<=s.slots.length)(hb:b=true->i<s.slots.length)
  (hf:∀N,190040<=N->Gam.pureD (callF tab ext N) 83 [.agg (Stt.mk w s.t s.slots).cells,.agg key.cells]=some (.tup [nat i,boolX b])) (B:Nat) (hcl:∀N,B<=N->Gam.pureD (callF tab ext N) 84 [.agg (Slt.mk key w 0 [] []).cells]=some (.agg (Slt.mk key w 0 [] []).cells)) (N:Nat) (hN:190060<=N) (hB:B+2<=N):
  Gam.pureD (callF tab ext N) 39 [.agg nd.cells,.agg s.cells,.agg key.cells]=some (.tup [.agg (Stt.mk w s.t (trimS (s.slots.length+1) (wN nd.number) (qJ b i ⟨key,w,0,[],[]⟩ s.slots))).cells,boolX true]):=by
 obtain ⟨M,rfl⟩:=pR_ N;obtain ⟨a,c,h⟩:=s;dsimp only at*;have j:=Ky ⟨w,c,h⟩ ⟨hs.slots,hs.slot⟩ ⟨key,w,0,[],[]⟩ i b hi hb hf M (by omega) (hcl _ (by omega));have m:(qJ b i ⟨key,w,0,[],[]⟩ h).length<=h.length+1:=by
  unfold qJ;split;·simp
  simp;omega
 have q:h.length<=100:=hs.slots;have f:=fun τ u=>YT nd w c (h.length+1) true (qJ b i ⟨key,w,0,[],[]⟩ h) τ u (by omega) m M (by omega);have l:decide (a>=1099511627776)=false:=decide_eq_false (by omega);exact OU nd key a w c (ak h) _ _ M l hw j f
namespace Ct
theorem ZJ (hd:D T h 11 c)(hn:nm.size<=1000000):D T h 12 (strX nm::c):=by
 obtain ⟨f,a,j,l⟩:=oN hd;obtain rfl:=qaa.1 j
 match c,l with
 |[_,_,_,_,_,_],⟨k1,k2,k3,k4,k5,k6,_⟩=>exact eX f (qaa.2 rfl) ⟨⟨Nat.zero_le _,hn⟩,k1,k2,k3,k4,k5,k6,trivial⟩
theorem zjL (hd:D T h 1 c)(hn:nm.size<=1000000):D T h 2 (strX nm::c):=by
 obtain ⟨f,a,j,l⟩:=oN hd;obtain rfl:=qaa.1 j
 match c,l with
 |[_,_,_,_,_,_],⟨k1,k2,k3,k4,k5,k6,_⟩=>exact eX f (qaa.2 rfl) ⟨⟨Nat.zero_le _,hn⟩,k1,k2,k3,k4,k5,k6,trivial⟩
theorem Aj {l:List Val}(h:e∈ah l):∃u,u∈l/\e=u.cells:=by
 rw [fA] at h
 grind
theorem rF {l:List (qaX×Val)}(h:e∈aj l):∃p,p∈l/\e=strX p.1::p.2.cells:=by obtain ⟨j,f,rfl⟩:=qaT h;have m:=aT l;have a:=eG (l:=l) (j:=j) (by omega)<;>grind
theorem zeL {k i s:Int}{l f:qaW}(h1:1<=h)(ht:t.size<=1000000)(hl:l.length<=1000000)(hf:f.length<=1000000)(dl:∀e,e∈l->D T (h-1) 1 e)(df:∀e,e∈f->D T (h-1) 2 e):D T h 1 [num k,num i,num s,strX t,.sl u 6 l,.sl v 7 f]:=
 eX h1 (qaa.2 rfl) ⟨⟨rfl,(fun a e=>by cases e),(fun a e=>by cases e)⟩,⟨rfl,(fun a e=>by cases e),(fun a e=>by cases e)⟩,⟨rfl,(fun a e=>by cases e),(fun a e=>by cases e)⟩,⟨Nat.zero_le _,ht⟩,⟨rfl,Nat.zero_le _,hl,dl⟩,⟨rfl,Nat.zero_le _,hf,df⟩,trivial⟩
theorem He {k i s:Int}{l f:qaW}(h1:1<=h)(ht:t.size<=1000000)(hl:l.length<=6)(hf:f.length<=6)(dl:∀e,e∈l->D T (h-1) 11 e)(df:∀e,e∈f->D T (h-1) 12 e):D T h 11 [num k,num i,num s,strX t,.sl u 6 l,.sl v 7 f]:=
 eX h1 (qaa.2 rfl) ⟨⟨rfl,(fun a e=>by cases e),(fun a e=>by cases e)⟩,⟨rfl,(fun a e=>by cases e),(fun a e=>by cases e)⟩,⟨rfl,(fun a e=>by cases e),(fun a e=>by cases e)⟩,⟨Nat.zero_le _,ht⟩,⟨rfl,Nat.zero_le _,hl,dl⟩,⟨rfl,Nat.zero_le _,hf,df⟩,trivial⟩
theorem wz:∀(n:Nat) (v:Val),D T ((n:Int)+1) 11 (aS n v).cells
 |0,.mk k i s t l f=>He (by decide) (by grind[iq]) (Nat.zero_le _) (Nat.zero_le _) (fun e he=>by cases he) (fun e he=>by cases he)
 |n+1,.mk k i s t l f=>by
  have h40:=iq 40 t;refine He (by omega) (by omega) ?_ ?_ (fun e he=>?_) (fun e he=>?_)
  ·grind[aK]
  ·grind[aT]
  ·obtain ⟨u,hu,rfl⟩:=Aj he;obtain ⟨w,_,rfl⟩:=qam.1 hu;rw [show ((n+1:Nat):Int)+1-1=(n:Int)+1 by omega];exact wz n w
  obtain ⟨p,hp,rfl⟩:=rF he;obtain ⟨q,_,rfl⟩:=qam.1 hp;rw [show ((n+1:Nat):Int)+1-1=(n:Int)+1 by omega];have:=iq 40 q.1;exact ZJ (wz n q.2) (by grind)
theorem BL:∀(n:Nat) (v:Val),D T ((n:Int)+1) 1 (aS n v).cells
 |0,.mk k i s t l f=>zeL (by decide) (by grind[iq]) (Nat.zero_le _) (Nat.zero_le _) (fun e he=>by cases he) (fun e he=>by cases he)
 |n+1,.mk k i s t l f=>by
  have h40:=iq 40 t;refine zeL (by omega) (by omega) ?_ ?_ (fun e he=>?_) (fun e he=>?_)
  ·grind[aK]
  ·grind[aT]
  ·obtain ⟨u,hu,rfl⟩:=Aj he;obtain ⟨w,_,rfl⟩:=qam.1 hu;rw [show ((n+1:Nat):Int)+1-1=(n:Int)+1 by omega];exact BL n w
  obtain ⟨p,hp,rfl⟩:=rF he;obtain ⟨q,_,rfl⟩:=qam.1 hp;rw [show ((n+1:Nat):Int)+1-1=(n:Int)+1 by omega];have:=iq 40 q.1;exact zjL (BL n q.2) (by grind)
theorem zjS (v:Val):D T 7 11 (zdo (aS 4 v)).cells:=by
 refine iF (h:=6) (by decide) ?_;unfold zdo Zt;refine He (by decide) (by decide) (Nat.zero_le _) ?_ (fun e a=>by cases a) (fun e a=>?_)
 ·grind[aT]
 obtain ⟨p,f,rfl⟩:=rF a;split at f
 ·grind
 obtain rfl:=qaa.1 f;exact ZJ (wz 4 v) (show 4<=1000000 by decide)
theorem HY (k:Int):∃g,∀N,1<=N->Gam.pureD (callF tab ext N) 214 [num k]=some (boolX g):=by
 cases a:decide (k>=1) with
 |true=>
  cases f:decide (k<=7) with
  |true=>exact ⟨true,fun N h=>by obtain ⟨M,rfl⟩:=pR_ N;exact puA [(4,.b true),(7,.b true)] (pf2 a f) (boolX true)⟩
  |false=>exact ⟨false,fun N h=>by obtain ⟨M,rfl⟩:=pR_ N;exact puA [(4,.b true),(7,.b false)] (pf2 a f) (boolX false)⟩
 |false=>exact ⟨false,fun N h=>by obtain ⟨M,rfl⟩:=pR_ N;exact puA [(4,.b false)] (pf1 a) (boolX false)⟩
theorem len2 {α:Type}(a b:α)(r:List α):(Int.ofNat (a::b::r).length==0)=false/\(Int.ofNat (a::b::r).length==1)=false:=by grind
theorem MJ (vs:qaW)(hv:∀v,v∈vs->∃w:Val,v=(aS 1 w).cells):∃c:Int,((c=0->1<=vs.length)/\0<=c/\c<=100)/\∃B,∀N,B<=N->Gam.pureD (callF tab ext N) 169 [.sl false 6 vs]=some (num c):=by
 match vs,hv with
 |[],_=>exact ⟨4,⟨(fun e=>by cases e),by decide,by decide⟩,1,fun N j=>by obtain ⟨M,rfl⟩:=pR_ N;exact puA [] pf0 (num 4)⟩
 |[v],hv=>
  obtain ⟨w,rfl⟩:=hv v (qaa.2 rfl);have h:=uV (n:=1) w (by decide);obtain ⟨c,F,m⟩:=zF (aS 1 w) h;generalize aS 1 w=u at m h;have H:u.size<=60000:=h;obtain ⟨k,i,s,t,l,f⟩:=u;obtain ⟨g,E⟩:=HY k;cases q:(c !=0) with
  |true=>exact ⟨c,⟨fun _=>Nat.le_refl _,F⟩,130000,fun N j=>by obtain ⟨M,rfl⟩:=pR_ N;exact puA [(13,.p (num c)),(15,.b true)] (pf2 (m M (by omega)) q) (num c)⟩
  |false=>
   cases g with
   |true=>exact ⟨0,⟨fun _=>Nat.le_refl _,by decide,by decide⟩,130000,fun N j=>by obtain ⟨M,rfl⟩:=pR_ N;exact puA [(13,.p (num c)),(15,.b false),(21,.p (boolX true))] (pf3 (m M (by omega)) q (E M (by omega))) (num 0)⟩
   |false=>exact ⟨18,⟨fun _=>Nat.le_refl _,by decide,by decide⟩,130000,fun N j=>by obtain ⟨M,rfl⟩:=pR_ N;exact puA [(13,.p (num c)),(15,.b false),(21,.p (boolX false))] (pf3 (m M (by omega)) q (E M (by omega))) (num 18)⟩
 |a::b::r,_=>obtain ⟨y,A⟩:=len2 a b r;generalize a::b::r=vs at y A;exact ⟨3,⟨(fun e=>by cases e),by decide,by decide⟩,1,fun N j=>by obtain ⟨M,rfl⟩:=pR_ N;exact puA [(7,.b false),(9,.b false)] (pf2 y A) (num 3)⟩
theorem FB:∀(h:Nat) (x:List X),sE h x->okE h x
 |0,_,hx=>hx.elim
 |h+1,x,⟨o,i,t,vs,es,e,h1,h2,h3,h4,h5⟩=>⟨o,i,t,false,vs,false,es,e,by omega,by omega,by omega,(fun v hv=>by obtain ⟨w,rfl⟩:=h3 v hv;exact iF (h:=2) (by decide) (BL 1 w)),fun _=>MJ vs h3,fun y hy=>FB h y (h5 y hy)⟩
def iG (e:Int):qaX:=if e==18 then ⟨#[116,121,112,101]⟩ else ⟨#[101,114,114,111,114,32]⟩++⟨(Lib.itoa e).toArray⟩
theorem dV (e:Int)(h:0<=e/\e<=100)(N:Nat)(hN:10<=N):Gam.pureD (callF tab ext N) 37 [num e]=some (strX (iG e)):=by
 obtain ⟨M,rfl⟩:∃M,N=M+2:=⟨N-2,by omega⟩;unfold iG;cases f:(e==18) with
 |true=>exact puA [(4,.b true)] (pf1 f) (strX ⟨#[116,121,112,101]⟩)
 |false=>
  have a:Gam.pureD (callF tab ext (M+1)) 82 [num e]=some (strX ⟨(Lib.itoa e).toArray⟩):=by have l:=CV e (by omega) (by omega);refine pureD_of (y:=strX ⟨(Lib.itoa e).toArray⟩) (x:=strX ⟨(Lib.itoa e).toArray⟩) (bx:=[]) ?_ rfl;show callF tab ext (M+1) (.fn 82) [num e] []=_;unfold callF;exact l
  have m:=Lib.itoa_length_le e (by omega) (by omega);have n:((⟨(Lib.itoa e).toArray⟩:qaX)).size<=100:=by rw [bsz];omega
  have j:(⟨#[101,114,114,111,114,32]⟩:qaX).size+(⟨(Lib.itoa e).toArray⟩:qaX).size<=9223372036854775807:=by show 6+_<=_;omega
  generalize (⟨(Lib.itoa e).toArray⟩:qaX)=d at a j;exact puA [(4,.b false),(6,.p (strX d)),(7,.at)] (pf3 f a j) (strX (⟨#[101,114,114,111,114,32]⟩++d))
end Ct
def zgl (t:Bool)(f:Fte):List X:=[num f.st.e,.sl false 1 (aC f.st.p),num f.kind,strX f.node,.sl t 2 [],strX f.text]
def fC (t:Bool)(s:Stt)(m:Msg)(name r:qaX):List X:=[num s.n,num s.t,.sl false 10 (ak s.slots),.sl false 11 [],.sl false 11 [],.sl false 6 [zgl t (Fte.mk m.st 4 name [] r)],.sl false 10 [m.cells]]
theorem BM (i:Inp):(fO i).m=dH i.m:=rfl
namespace Ct
def qx (nd:Nod)(j:Nat):List X:=nd.exprs.getD j (gu 0 0 ⟨#[]⟩ [] [])
theorem Jz (nd:Nod)(hs:nd.small)(j:Nat):∃o i t vs es,qx nd j=gu o i t vs es/\sE 4 (gu o i t vs es):=by
 unfold qx;by_cases h:j<nd.exprs.length;·rw [qav,qad h];have f:=hs.2.2.2.2.1 _ (qae h);obtain ⟨o,i,t,vs,es,e,a⟩:=f;exact ⟨o,i,t,vs,es,e,⟨o,i,t,vs,es,rfl,a⟩⟩
 rw [qav,List.getElem?_eq_none (by omega)];exact ⟨0,0,⟨#[]⟩,[],[],rfl,⟨0,0,⟨#[]⟩,[],[],rfl,by decide,by decide,(fun v m=>by grind),by decide,(fun e l=>by grind)⟩⟩
inductive Res where
 |rej (r:qaX)
 |pas (j:Nat)
def G6 (s:Stt)(m:Msg)(j:Nat):List X:=[num s.n,num s.t,.sl false 10 (ak s.slots),.sl false 11 [nat j::m.cells],.sl false 11 [],.sl false 6 [],.sl false 10 []]
end Ct
end Go.Proofs.YtcbeoccmflnejaaGreatDoor
