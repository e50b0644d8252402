/- expr.Eval comes to an end on the expressions of the laws and small environments. -/
import Derived.Test.YtjbndifenhihhaaGreatDoorP14
import Derived.Test.YtjbndifenhihhaaGreatDoorP17
import Derived.Test.YtjbndifenhihhaaGreatDoorP22
import Derived.Test.YtjbndifenhihhaaGreatDoorP30
namespace Go.Proofs.YtjbndifenhihhaaGreatDoor
open Go Go.Em Go.Ab
set_option maxRecDepth 100000
namespace Ct
theorem MK {h:Int}{x:List X}(h0:0≤h)(hx:IsL T h [int,int,int,.s,.slh 6 1,.slh 7 2] x):∃(a b c:Int) (s:ByteArray) (t:Bool) (l:List (List X)) (t':Bool) (f:List (List X)),D T (h+1) 1 [num a,num b,num c,strX s,.sl t 6 l,.sl t' 7 f]∧∃B,∀N,B≤N→Gam.pureD (callF tab ext N) 55 [.agg x]=some (.agg [num a,num b,num c,strX s,.sl t 6 l,.sl t' 7 f]):=by
 obtain ⟨ρ,hr,hs⟩:=zmi (f:=55) (l:=[int,int,int,.s,.slh 6 1,.slh 7 2]) (mu:=some (1,0)) (outs:=[(.ag [int,int,int,.s,.bs 0,.bs 1],[.SQ 6 1 1 12,.SQ 7 2 1 13])]) rfl h0 hx
 obtain ⟨o,ho,ρ',r,bx,hm,hF,g1,g2,B,hB⟩:=Ls _ (List.mem_cons_self ..) ρ _ _ hs
 obtain rfl:=List.mem_singleton.1 ho
 have z:ρ' 0=0:=hm.zero hs.pos hs.zero
 have k1:ρ' 1=h:=by rw [hm.same 1 (by decide)];exact hr
 obtain ⟨y,hy,gy⟩:=G.data (y:=.agg [.i .i64 ⟨8,0⟩,.i .i64 ⟨9,0⟩,.i .i64 ⟨10,0⟩,.s ⟨11,0⟩,.sl (some false) 6 1 ⟨1,0⟩ ⟨12,0⟩,.sl (some false) 7 2 ⟨1,0⟩ ⟨13,0⟩]) (raw:=false) hF g2 z g1 (by kernel_rfl)
 have bb:∀k,k=11∨k=12∨k=13→0≤Lin.v ⟨k,0⟩ ρ'∧Lin.v ⟨k,0⟩ ρ'≤1000000:=fun k hk=>fH (l:=⟨k,0⟩) (lo:=0) (hi:=1000000) z (fun f hf=>hF f (by
  rcases hk with rfl|rfl|rfl
  all_goals
   rcases List.mem_cons.1 hf with rfl|hf
   ·simp [CP,Sh.bld,lI,pO,bnd,dX]
   ·obtain rfl:=List.mem_singleton.1 hf
    simp [CP,Sh.bld,lI,pO,bnd,dX]))
 have b11:=bb 11 (.inl rfl)
 have b12:=bb 12 (.inr (.inl rfl))
 have b13:=bb 13 (.inr (.inr rfl))
 obtain ⟨cs,rfl,v0⟩:=Z5 gy
 obtain ⟨x1,r1,rfl,w1,v1⟩:=dH v0
 obtain ⟨x2,r2,rfl,w2,v2⟩:=dH v1
 obtain ⟨x3,r3,rfl,w3,v3⟩:=dH v2
 obtain ⟨x4,r4,rfl,w4,v4⟩:=dH v3
 obtain ⟨x5,r5,rfl,w5,v5⟩:=dH v4
 obtain ⟨x6,r6,rfl,w6,v6⟩:=dH v5
 obtain rfl:=zbs v6
 obtain ⟨a,rfl⟩:=g_i w1
 obtain ⟨b,rfl⟩:=g_i w2
 obtain ⟨c,rfl⟩:=g_i w3
 obtain ⟨s,rfl,e4⟩:=g_s w4
 obtain ⟨t,l,rfl,e5,q5⟩:=zi8 w5
 obtain ⟨t',f,rfl,e6,q6⟩:=zi8 w6
 refine ⟨a,b,c,s,t,l,t',f,dY (by omega) (List.mem_singleton.2 rfl) ?_,B,fun N hN=>bP (hB N hN) hy⟩
 rw [Int.add_sub_cancel]
 have v7:Lin.v ⟨1,0⟩ ρ'=h:=by unfold Lin.v;dsimp only;omega
 rw [v7] at q5 q6
 exact ⟨⟨rfl,(fun a e=>by cases e),(fun a e=>by cases e)⟩,⟨rfl,(fun a e=>by cases e),(fun a e=>by cases e)⟩,⟨rfl,(fun a e=>by cases e),(fun a e=>by cases e)⟩,⟨by omega,by omega⟩,⟨rfl,by omega,by omega,q5⟩,⟨rfl,by omega,by omega,q6⟩,trivial⟩
theorem zbF {x:X}(hx:val.Is T 0 x):∃(h' a b c:Int) (s:ByteArray) (t:Bool) (l:List (List X)) (t':Bool) (f:List (List X)),x=.agg [num a,num b,num c,strX s,.sl t 6 l,.sl t' 7 f]∧0≤h'∧IsL T h' [int,int,int,.s,.slh 6 1,.slh 7 2] [num a,num b,num c,strX s,.sl false 6 l,.sl false 7 f]:=by
 obtain ⟨h',xs,rfl,h0,hi⟩:∃h' xs,x=.agg xs∧0≤h'∧IsL T h' [int,int,int,.s,.slh 6 1,.slh 7 2] xs:=hx
 match xs,hi with
 |[_,_,_,_,_,_],⟨⟨a,rfl⟩,⟨b,rfl⟩,⟨c,rfl⟩,⟨s,rfl,k1⟩,⟨t,l,rfl,k2,k3⟩,⟨t',f,rfl,k4,k5⟩,_⟩=>exact ⟨h',a,b,c,s,t,l,t',f,rfl,h0,⟨a,rfl⟩,⟨b,rfl⟩,⟨c,rfl⟩,⟨s,rfl,k1⟩,⟨false,l,rfl,k2,k3⟩,⟨false,f,rfl,k4,k5⟩,trivial⟩
theorem Y9 {b:Bx}(hb:(BSh.lq 0 6 mZ).Is T b):∃(a b' c:Int) (s:ByteArray) (t:Bool) (l:List (List X)) (t':Bool) (f:List (List X)) (e:Int),b=.var [num a,num b',num c,strX s,.sl t 6 l,.sl t' 7 f,num e]∧0≤e∧e≤100:=by
 obtain ⟨h',xs,rfl,_,_,hi⟩:∃h' xs,b=.var xs∧0≤h'∧h'≤6∧IsL T h' mZ xs:=hb
 match xs,hi with
 |[_,_,_,_,_,_,_],⟨⟨a,rfl⟩,⟨b,rfl⟩,⟨c,rfl⟩,⟨s,rfl,_⟩,⟨t,l,rfl,_⟩,⟨t',f,rfl,_⟩,⟨e,rfl,er⟩,_⟩=>exact ⟨a,b,c,s,t,l,t',f,e,rfl,er⟩
theorem WO {h:Nat}(hh:h≤900){op n:Int}{s:ByteArray}{u v:Bool}{vs ar:List (List X)}(hx:okE h [num op,num n,strX s,.sl u 6 vs,.sl v 5 ar]){x0:List X}(hx0:D T 7 11 x0):∃y e,((∃H,D T H 1 y)∧0≤e∧e≤100)∧Back 43 [.agg [num op,num n,strX s,.sl u 6 vs,.sl v 5 ar],.agg x0] (.tup [.agg y,num e]):=by
 have hx':okE h [num op,num n,strX s,.sl false 6 vs,.sl false 5 ar]:=by
  cases h with
  |zero=>exact hx.elim
  |succ h=>
   obtain ⟨op',n',s',u',vs',v',ar',e,hr⟩:=hx
   simp only [num,strX,List.cons.injEq,X.v.injEq,Value.int.injEq,Value.string.injEq,X.sl.injEq,and_true,true_and] at e
   obtain ⟨rfl,rfl,rfl,⟨_,rfl⟩,⟨_,rfl⟩⟩:=e
   exact ⟨op,n,s,false,vs,false,ar,rfl,hr⟩
 have lift:∀{r:X} {B:Nat},(∀M,B≤M→callF tab ext (M+1) (.fn 43) [.agg [num op,num n,strX s,.sl u 6 vs,.sl v 5 ar],.agg x0] []=some (r,[]))→Back 43 [.agg [num op,num n,strX s,.sl u 6 vs,.sl v 5 ar],.agg x0] r:=fun {r B} h=>⟨B+1,fun N hN=>by
  obtain ⟨M,rfl⟩:∃M,N=M+1:=⟨N-1,by omega⟩
  exact h M (by omega)⟩
 have hz:D T 1 1 [num 0,num 0,num 0,noText,.sl true 6 [],.sl true 7 []]:=dY (by decide) (List.mem_singleton.2 rfl) ⟨⟨rfl,(fun a e=>by cases e),(fun a e=>by cases e)⟩,⟨rfl,(fun a e=>by cases e),(fun a e=>by cases e)⟩,⟨rfl,(fun a e=>by cases e),(fun a e=>by cases e)⟩,⟨by decide,by decide⟩,⟨rfl,by decide,by decide,fun e he=>by cases he⟩,⟨rfl,by decide,by decide,fun e he=>by cases he⟩,trivial⟩
 obtain ⟨c,⟨hc0,cr⟩,hc⟩:=RS hh hx'
 obtain ⟨B1,hc⟩:=iF hc rfl
 obtain ⟨_,a,b,d,s1,t,l,w,f,rfl,k1,k2,k3,k4,k5⟩:=d11 (h:=6) hx0
 cases h1:(c !=0) with
 |true=>exact ⟨_,c,⟨⟨1,hz⟩,cr⟩,lift (B:=B1) fun M hM=>aB [(10,.p (num c)),(12,.b true)] [] (pf2 (hc M hM) h1) (r:=some (.tup [.agg [num 0,num 0,num 0,noText,.sl true 6 [],.sl true 7 []],num c],[])) (by kernel_rfl)⟩
 |false=>
  cases h2:(a !=9) with
  |true=>exact ⟨_,11,⟨⟨1,hz⟩,by decide,by decide⟩,lift (B:=B1) fun M hM=>aB [(10,.p (num c)),(12,.b false),(17,.b true)] [] (pf3 (hc M hM) h1 h2) (r:=some (.tup [.agg [num 0,num 0,num 0,noText,.sl true 6 [],.sl true 7 []],num 11],[])) (by kernel_rfl)⟩
  |false=>
   have hd:=hc0 (by simpa using h1)
   obtain ⟨o,ho,r,bx,hi,hb,B2,he⟩:=gu (f:=97) (args:=[.p 0,.el 10]) (inb:=[.lq 0 6 mZ]) (mu:=some (1,0)) (outs:=[(val,[.lq 0 6 mZ])]) (zhL evA (List.mem_cons_self ..)) rfl rfl (xs:=[.ptr 0 0 0,.agg [num op,num n,strX s,.sl false 6 vs,.sl false 5 ar]])
    ⟨rfl,⟨_,9+(h:Int),rfl,by omega,hd⟩,trivial⟩ (bx:=[.var [num a,num b,num d,strX s1,.sl t 6 l,.sl w 7 f,num 0]]) ⟨⟨6,_,rfl,by decide,by decide,⟨a,rfl⟩,⟨b,rfl⟩,⟨d,rfl⟩,⟨s1,rfl,by unfold dX;omega⟩,⟨t,l,rfl,by omega,by omega,k4⟩,⟨w,f,rfl,by omega,by omega,k5⟩,⟨0,rfl,by decide,by decide⟩,trivial⟩,trivial⟩
   obtain rfl:=List.mem_singleton.1 ho
   match bx,hb with
   |[bb],⟨hb,_⟩=>
    obtain ⟨k0,k1,k2,s4,t2,ml,w2,mf,er,rfl,err⟩:=Y9 hb
    obtain ⟨h',a',b',d',s2,t',l',w',f',rfl,h0',hcl⟩:=zbF hi
    cases h3:(er !=0) with
    |true=>exact ⟨_,er,⟨⟨1,hz⟩,err⟩,lift (B:=max B1 B2) fun M hM=>aB [(10,.p (num c)),(12,.b false),(17,.b false),(24,.r (.agg [num a',num b',num d',strX s2,.sl t' 6 l',.sl w' 7 f']) [.var [num k0,num k1,num k2,strX s4,.sl t2 6 ml,.sl w2 7 mf,num er]]),(29,.b true)] [] (pf5 (hc M (by omega)) h1 h2 (he M (by omega)) h3) (r:=some (.tup [.agg [num 0,num 0,num 0,noText,.sl true 6 [],.sl true 7 []],num er],[])) (by kernel_rfl)⟩
    |false=>
     obtain ⟨a2,b2,d2,s3,t3,l2,w3,f2,hy,B3,hcl⟩:=MK h0' hcl
     exact ⟨_,0,⟨⟨_,hy⟩,by decide,by decide⟩,lift (B:=B1+B2+B3) fun M hM=>aB [(10,.p (num c)),(12,.b false),(17,.b false),(24,.r (.agg [num a',num b',num d',strX s2,.sl t' 6 l',.sl w' 7 f']) [.var [num k0,num k1,num k2,strX s4,.sl t2 6 ml,.sl w2 7 mf,num er]]),(29,.b false),(36,.p (.agg [num a2,num b2,num d2,strX s3,.sl t3 6 l2,.sl w3 7 f2]))] [] (pf6 (hc M (by omega)) h1 h2 (he M (by omega)) h3 (hcl M (by omega))) (r:=some (.tup [.agg [num a2,num b2,num d2,strX s3,.sl t3 6 l2,.sl w3 7 f2],num 0],[])) (by kernel_rfl)⟩
end Ct
end Go.Proofs.YtjbndifenhihhaaGreatDoor
namespace Go.Proofs.YtjbndifenhihhaaGreatDoor
open Go Go.Em Go.Ab
set_option maxRecDepth 100000
namespace Ct
theorem Vg {H:Int}{x:List X}(hd:D T (H+1) 1 x):∃g,∃B,∀N,B≤N→Gam.pureD (callF tab ext N) 27 [.agg x]=some (boolX g):=by
 obtain ⟨o,ho,r,bx,hi,hb,B,hB⟩:=gu (V6 _ (List.mem_singleton.2 rfl)) rfl rfl (xs:=[.agg x]) ⟨zbu hd,trivial⟩ (bx:=[]) trivial
 rcases List.mem_cons.1 ho with rfl|ho
 ·obtain rfl:=vO hb
  have hi:r=boolX true:=hi
  subst hi
  exact ⟨true,B,fun N hN=>bP (hB N hN) rfl⟩
 ·obtain rfl:=List.mem_singleton.1 ho
  obtain rfl:=vO hb
  have hi:r=boolX false:=hi
  subst hi
  exact ⟨false,B,fun N hN=>bP (hB N hN) rfl⟩
theorem zhT {H:Int}{x:List X}(hd:D T H 1 x):∃(a b c:Int) (s:ByteArray) (t:Bool) (l:List (List X)) (t':Bool) (f:List (List X)),x=[num a,num b,num c,strX s,.sl t 6 l,.sl t' 7 f]∧D T H 1 [num a,num b,num c,strX s,.sl false 6 l,.sl false 7 f]:=by
 obtain ⟨h1,alt,ha,hs⟩:=qG hd
 obtain rfl:=List.mem_singleton.1 ha
 match x,hs with
 |[_,_,_,_,_,_],⟨k1,k2,k3,k4,k5,k6,_⟩=>
  obtain ⟨a,rfl⟩:=lG k1
  obtain ⟨b,rfl⟩:=lG k2
  obtain ⟨c,rfl⟩:=lG k3
  obtain ⟨s,rfl,q1,q2⟩:=zf3 k4
  obtain ⟨t,l,rfl,q3,q4,q5⟩:=Bj k5
  obtain ⟨t',f,rfl,q6,q7,q8⟩:=Bj k6
  exact ⟨a,b,c,s,t,l,t',f,rfl,dY h1 (List.mem_singleton.2 rfl) ⟨⟨rfl,(fun a e=>by cases e),(fun a e=>by cases e)⟩,⟨rfl,(fun a e=>by cases e),(fun a e=>by cases e)⟩,⟨rfl,(fun a e=>by cases e),(fun a e=>by cases e)⟩,⟨q1,q2⟩,⟨rfl,q3,q4,q5⟩,⟨rfl,q6,q7,q8⟩,trivial⟩⟩
theorem Vd {h:Nat}{op n:Int}{s:ByteArray}{u v:Bool}{vs ar:List (List X)}(hx:okE h [num op,num n,strX s,.sl u 6 vs,.sl v 5 ar]):okE h [num op,num n,strX s,.sl false 6 vs,.sl false 5 ar]:=by
 cases h with
 |zero=>exact hx.elim
 |succ h=>
  obtain ⟨op',n',s',u',vs',v',ar',e,hr⟩:=hx
  simp only [num,strX,List.cons.injEq,X.v.injEq,Value.int.injEq,Value.string.injEq,X.sl.injEq,and_true,true_and] at e
  obtain ⟨rfl,rfl,rfl,⟨_,rfl⟩,⟨_,rfl⟩⟩:=e
  exact ⟨op,n,s,false,vs,false,ar,rfl,hr⟩
theorem W9 {h:Nat}(hh:h≤900){op n:Int}{s:ByteArray}{u v:Bool}{vs ar:List (List X)}(hx:okE h [num op,num n,strX s,.sl u 6 vs,.sl v 5 ar]){x0:List X}(hx0:D T 7 11 x0):∃(g:Bool) (e:Int),(0≤e∧e≤100)∧Back 178 [.agg [num op,num n,strX s,.sl u 6 vs,.sl v 5 ar],.agg x0] (.tup [boolX g,num e]):=by
 have lift:∀{r:X} {B:Nat},(∀M,B≤M→callF tab ext (M+1) (.fn 178) [.agg [num op,num n,strX s,.sl u 6 vs,.sl v 5 ar],.agg x0] []=some (r,[]))→Back 178 [.agg [num op,num n,strX s,.sl u 6 vs,.sl v 5 ar],.agg x0] r:=fun {r B} h=>⟨B+1,fun N hN=>by
  obtain ⟨M,rfl⟩:∃M,N=M+1:=⟨N-1,by omega⟩
  exact h M (by omega)⟩
 obtain ⟨_,a,b,d,s1,t,l,w,f,rfl,_⟩:=d11 (h:=6) hx0
 obtain ⟨y,e,⟨⟨H,hy⟩,er⟩,he⟩:=WO hh (Vd hx) (mV hx0)
 obtain ⟨a',b',d',s2,t',l',w',f',rfl,hy'⟩:=zhT hy
 obtain ⟨B1,he⟩:=iF he (y:=.tup [.agg [num a',num b',num d',strX s2,.sl false 6 l',.sl false 7 f'],num e]) rfl
 obtain ⟨g,B2,hn⟩:=Vg (H:=H-1) (by rw [Int.sub_add_cancel];exact hy')
 cases h1:(e !=0) with
 |true=>exact ⟨false,e,er,lift (B:=B1) fun M hM=>aB [(11,.p (.tup [.agg [num a',num b',num d',strX s2,.sl false 6 l',.sl false 7 f'],num e])),(16,.b true)] [] (pf2 (he M hM) h1) (r:=some (.tup [boolX false,num e],[])) (by kernel_rfl)⟩
 |false=>
  cases g with
  |true=>exact ⟨false,19,by decide,lift (B:=max B1 B2) fun M hM=>aB [(11,.p (.tup [.agg [num a',num b',num d',strX s2,.sl false 6 l',.sl false 7 f'],num e])),(16,.b false),(20,.p (boolX true)),(18,.b true)] [] (pf4 (he M (by omega)) h1 (hn M (by omega)) (show true=true from rfl)) (r:=some (.tup [boolX false,num 19],[])) (by kernel_rfl)⟩
  |false=>
   cases h3:(a' !=1) with
   |true=>exact ⟨false,18,by decide,lift (B:=max B1 B2) fun M hM=>aB [(11,.p (.tup [.agg [num a',num b',num d',strX s2,.sl false 6 l',.sl false 7 f'],num e])),(16,.b false),(20,.p (boolX false)),(18,.b false),(24,.b true)] [] (pf5 (he M (by omega)) h1 (hn M (by omega)) (show false=false from rfl) h3) (r:=some (.tup [boolX false,num 18],[])) (by kernel_rfl)⟩
   |false=>
    cases h4:(b'==1) with
    |true=>exact ⟨true,0,by decide,lift (B:=max B1 B2) fun M hM=>aB [(11,.p (.tup [.agg [num a',num b',num d',strX s2,.sl false 6 l',.sl false 7 f'],num e])),(16,.b false),(20,.p (boolX false)),(18,.b false),(24,.b false),(27,.b true)] [] (pf6 (he M (by omega)) h1 (hn M (by omega)) (show false=false from rfl) h3 h4) (r:=some (.tup [boolX true,num 0],[])) (by kernel_rfl)⟩
    |false=>exact ⟨false,0,by decide,lift (B:=max B1 B2) fun M hM=>aB [(11,.p (.tup [.agg [num a',num b',num d',strX s2,.sl false 6 l',.sl false 7 f'],num e])),(16,.b false),(20,.p (boolX false)),(18,.b false),(24,.b false),(27,.b false)] [] (pf6 (he M (by omega)) h1 (hn M (by omega)) (show false=false from rfl) h3 h4) (r:=some (.tup [boolX false,num 0],[])) (by kernel_rfl)⟩
end Ct
end Go.Proofs.YtjbndifenhihhaaGreatDoor
namespace Go.Proofs.YtjbndifenhihhaaGreatDoor
open Go.Em
set_option maxRecDepth 100000
theorem WJ (m:Msg)(hm:m.ok)(name r:ByteArray)(N:Nat)(hN:300≤N):Gam.pureD (callF tab ext N) 144 [.agg m.cells,strX name,num 4,.sl false 1 [[.fn 145 [.dp [strX r]]]]]=some (.agg (Fte.mk m.st 4 name [] r).cells):=by
 obtain ⟨M,rfl⟩:∃M,N=M+101:=⟨N-101,by omega⟩
 have h1:=Ak (M+98) m.st hm.st
 obtain ⟨⟨e,p⟩,ms,o,⟨a1,a2,a3,a4,a5,a6⟩⟩:=m
 exact pure_of [(14,.p (.agg (Stp.mk e p).cells))] [] (pf1 h1) (x:=.agg [num e,.sl false 1 (aF p),num 4,strX name,.sl true 2 [],strX r]) (bx:=[]) (by kernel_rfl) rfl
theorem Et (m:Msg)(hm:m.ok)(name r:ByteArray)(N:Nat)(hN:310≤N):Gam.pureD (callF tab ext N) 86 [.agg m.cells,strX name,strX r]=some (.agg (Fte.mk m.st 4 name [] r).cells):=by
 obtain ⟨M,rfl⟩:∃M,N=M+1:=⟨N-1,by omega⟩
 have h1:=WJ m hm name r M (by omega)
 obtain ⟨⟨e,p⟩,ms,o,⟨a1,a2,a3,a4,a5,a6⟩⟩:=m
 exact pure_of [(11,.p (.agg (Fte.mk ⟨e,p⟩ 4 name [] r).cells))] [] (pf1 h1) (x:=.agg (Fte.mk ⟨e,p⟩ 4 name [] r).cells) (bx:=[]) (by kernel_rfl) rfl
def zba (nm:ByteArray)(b:Val):Val:=.mk 9 0 0 ⟨#[]⟩ [] (if iw b then [] else [(nm,b)])
theorem UO (nm:ByteArray)(b:Val):(zba nm b).size≤b.size+2:=by
 unfold zba
 split
 ·simp [Val.size,wS,wU]
 ·simp [Val.size,wS,wU]
theorem UQ (nm:ByteArray)(b:Val)(hb:b.size<100000)(N:Nat)(hN:200400≤N):Gam.pureD (callF tab ext N) 66 [.sl false 7 [strX nm::b.cells]]=some (.agg (zba nm b).cells):=by
 obtain ⟨M,rfl⟩:∃M,N=M+301:=⟨N-301,by omega⟩
 have hs:=UO nm b
 have h1:=kJ (M+300) (zba nm b) (by omega) (by omega)
 have h2:=N7 (M+299) b
 unfold zba at h1 ⊢
 obtain ⟨k,i,s,t,l,f⟩:=b
 cases h:iw (.mk k i s t l f) with
 |true=>
  rw [h] at h1 h2
  exact pure_of [(23,.p (boolX true)),(40,.p (.agg (Val.mk 9 0 0 ⟨#[]⟩ [] []).cells))] [] (pf3 h2 (Nat.le_refl 0) h1) (x:=.agg (Val.mk 9 0 0 ⟨#[]⟩ [] []).cells) (bx:=[]) (by kernel_rfl) rfl
 |false=>
  rw [h] at h1 h2
  exact pure_of [(23,.p (boolX false)),(40,.p (.agg (Val.mk 9 0 0 ⟨#[]⟩ [] [(nm,.mk k i s t l f)]).cells))] [] (pf3 h2 (Nat.le_refl 1) h1) (x:=.agg (Val.mk 9 0 0 ⟨#[]⟩ [] [(nm,.mk k i s t l f)]).cells) (bx:=[]) (by kernel_rfl) rfl
def L8 (b:Val):Val:=zba ⟨#[98,111,100,121]⟩ b
theorem Fz (b:Val)(hb:b.ok)(N:Nat)(hN:200410≤N):Gam.pureD (callF tab ext N) 44 [.agg b.cells]=some (.agg (L8 b).cells):=by
 obtain ⟨M,rfl⟩:∃M,N=M+1:=⟨N-1,by omega⟩
 have h1:=kJ M b (by unfold Val.ok at hb;omega) (by unfold Val.ok at hb;omega)
 have h2:=UQ ⟨#[98,111,100,121]⟩ b (by unfold Val.ok at hb;omega) M (by omega)
 unfold L8
 generalize zba ⟨#[98,111,100,121]⟩ b=r at h2 ⊢
 obtain ⟨k,i,s,t,l,f⟩:=b
 obtain ⟨k',i',s',t',l',f'⟩:=r
 exact pure_of [(4,.p (.agg (Val.mk k i s t l f).cells)),(7,.p (.agg (Val.mk k' i' s' t' l' f').cells))] [] (pf2 h1 h2) (x:=.agg (Val.mk k' i' s' t' l' f').cells) (bx:=[]) (by kernel_rfl) rfl
end Go.Proofs.YtjbndifenhihhaaGreatDoor
namespace Go.Proofs.YtjbndifenhihhaaGreatDoor
open Go Go.Em Go.Ab
set_option maxRecDepth 100000
namespace Ct
theorem zbt {h:Int}{nm:ByteArray}{c:List X}(hd:D T h 11 c)(hn:nm.size≤1000000):D T h 12 (strX nm::c):=by
 obtain ⟨h1,alt,ha,hs⟩:=qG hd
 obtain rfl:=List.mem_singleton.1 ha
 match c,hs with
 |[_,_,_,_,_,_],⟨k1,k2,k3,k4,k5,k6,_⟩=>exact dY h1 (List.mem_singleton.2 rfl) ⟨⟨Nat.zero_le _,hn⟩,k1,k2,k3,k4,k5,k6,trivial⟩
theorem zll {h:Int}{nm:ByteArray}{c:List X}(hd:D T h 1 c)(hn:nm.size≤1000000):D T h 2 (strX nm::c):=by
 obtain ⟨h1,alt,ha,hs⟩:=qG hd
 obtain rfl:=List.mem_singleton.1 ha
 match c,hs with
 |[_,_,_,_,_,_],⟨k1,k2,k3,k4,k5,k6,_⟩=>exact dY h1 (List.mem_singleton.2 rfl) ⟨⟨Nat.zero_le _,hn⟩,k1,k2,k3,k4,k5,k6,trivial⟩
theorem CZ {l:List Val}{e:List X}(h:e∈aj l):∃u,u∈l∧e=u.cells:=by
 rw [kM] at h
 obtain ⟨u,hu,rfl⟩:=List.mem_map.1 h
 exact ⟨u,hu,rfl⟩
theorem uV {l:List (ByteArray×Val)}{e:List X}(h:e∈ay l):∃p,p∈l∧e=strX p.1::p.2.cells:=by
 obtain ⟨j,hj,rfl⟩:=List.getElem_of_mem h
 have hl:=aZ l
 have hg:=gY (l:=l) (j:=j) (by omega)
 rw [List.getElem?_eq_getElem hj] at hg
 exact ⟨l[j],List.getElem_mem _,Option.some.inj hg⟩
theorem zf8 {h:Int}{k i s:Int}{t:ByteArray}{u v:Bool}{l f:List (List X)}(h1:1≤h)(ht:t.size≤1000000)(hl:l.length≤1000000)(hf:f.length≤1000000)(dl:∀e,e∈l→D T (h-1) 1 e)(df:∀e,e∈f→D T (h-1) 2 e):D T h 1 [num k,num i,num s,strX t,.sl u 6 l,.sl v 7 f]:=
 dY h1 (List.mem_singleton.2 rfl) ⟨⟨rfl,(fun a e=>by cases e),(fun a e=>by cases e)⟩,⟨rfl,(fun a e=>by cases e),(fun a e=>by cases e)⟩,⟨rfl,(fun a e=>by cases e),(fun a e=>by cases e)⟩,⟨Nat.zero_le _,ht⟩,⟨rfl,Nat.zero_le _,hl,dl⟩,⟨rfl,Nat.zero_le _,hf,df⟩,trivial⟩
theorem JA {h:Int}{k i s:Int}{t:ByteArray}{u v:Bool}{l f:List (List X)}(h1:1≤h)(ht:t.size≤1000000)(hl:l.length≤6)(hf:f.length≤6)(dl:∀e,e∈l→D T (h-1) 11 e)(df:∀e,e∈f→D T (h-1) 12 e):D T h 11 [num k,num i,num s,strX t,.sl u 6 l,.sl v 7 f]:=
 dY h1 (List.mem_singleton.2 rfl) ⟨⟨rfl,(fun a e=>by cases e),(fun a e=>by cases e)⟩,⟨rfl,(fun a e=>by cases e),(fun a e=>by cases e)⟩,⟨rfl,(fun a e=>by cases e),(fun a e=>by cases e)⟩,⟨Nat.zero_le _,ht⟩,⟨rfl,Nat.zero_le _,hl,dl⟩,⟨rfl,Nat.zero_le _,hf,df⟩,trivial⟩
theorem yJ:∀(n:Nat) (v:Val),D T ((n:Int)+1) 11 (aU n v).cells
 |0,.mk k i s t l f=>JA (by decide) (by have:=iV 40 t;omega) (Nat.zero_le _) (Nat.zero_le _) (fun e he=>by cases he) (fun e he=>by cases he)
 |n+1,.mk k i s t l f=>by
  have h40:=iV 40 t
  refine JA (by omega) (by omega) ?_ ?_ (fun e he=>?_) (fun e he=>?_)
  ·rw [aO,List.length_map,List.length_take];omega
  ·rw [aZ,List.length_map,List.length_take];omega
  ·obtain ⟨u,hu,rfl⟩:=CZ he
   obtain ⟨w,_,rfl⟩:=List.mem_map.1 hu
   rw [show ((n+1:Nat):Int)+1-1=(n:Int)+1 by omega]
   exact yJ n w
  ·obtain ⟨p,hp,rfl⟩:=uV he
   obtain ⟨q,_,rfl⟩:=List.mem_map.1 hp
   rw [show ((n+1:Nat):Int)+1-1=(n:Int)+1 by omega]
   have:=iV 40 q.1
   exact zbt (yJ n q.2) (by dsimp only;omega)
theorem Ef:∀(n:Nat) (v:Val),D T ((n:Int)+1) 1 (aU n v).cells
 |0,.mk k i s t l f=>zf8 (by decide) (by have:=iV 40 t;omega) (Nat.zero_le _) (Nat.zero_le _) (fun e he=>by cases he) (fun e he=>by cases he)
 |n+1,.mk k i s t l f=>by
  have h40:=iV 40 t
  refine zf8 (by omega) (by omega) ?_ ?_ (fun e he=>?_) (fun e he=>?_)
  ·rw [aO,List.length_map,List.length_take];omega
  ·rw [aZ,List.length_map,List.length_take];omega
  ·obtain ⟨u,hu,rfl⟩:=CZ he
   obtain ⟨w,_,rfl⟩:=List.mem_map.1 hu
   rw [show ((n+1:Nat):Int)+1-1=(n:Int)+1 by omega]
   exact Ef n w
  ·obtain ⟨p,hp,rfl⟩:=uV he
   obtain ⟨q,_,rfl⟩:=List.mem_map.1 hp
   rw [show ((n+1:Nat):Int)+1-1=(n:Int)+1 by omega]
   have:=iV 40 q.1
   exact zll (Ef n q.2) (by dsimp only;omega)
theorem zlu (v:Val):D T 7 11 (L8 (aU 4 v)).cells:=by
 refine kQ (h:=6) (by decide) ?_
 unfold L8 zba
 refine JA (by decide) (by decide) (Nat.zero_le _) ?_ (fun e he=>by cases he) (fun e he=>?_)
 ·rw [aZ];split<;>simp
 ·obtain ⟨p,hp,rfl⟩:=uV he
  split at hp
  ·cases hp
  ·obtain rfl:=List.mem_singleton.1 hp
   exact zbt (yJ 4 v) (show 4≤1000000 by decide)
theorem JQ (k:Int):∃g,∀N,1≤N→Gam.pureD (callF tab ext N) 260 [num k]=some (boolX g):=by
 cases h1:decide (k≥1) with
 |true=>
  cases h2:decide (k≤7) with
  |true=>exact ⟨true,fun N hN=>by
    obtain ⟨M,rfl⟩:∃M,N=M+1:=⟨N-1,by omega⟩
    exact pure_of [(4,.b true),(7,.b true)] [] (pf2 h1 h2) (x:=boolX true) (bx:=[]) (by kernel_rfl) rfl⟩
  |false=>exact ⟨false,fun N hN=>by
    obtain ⟨M,rfl⟩:∃M,N=M+1:=⟨N-1,by omega⟩
    exact pure_of [(4,.b true),(7,.b false)] [] (pf2 h1 h2) (x:=boolX false) (bx:=[]) (by kernel_rfl) rfl⟩
 |false=>exact ⟨false,fun N hN=>by
   obtain ⟨M,rfl⟩:∃M,N=M+1:=⟨N-1,by omega⟩
   exact pure_of [(4,.b false)] [] (pf1 h1) (x:=boolX false) (bx:=[]) (by kernel_rfl) rfl⟩
theorem len2 {α:Type}(a b:α)(r:List α):(Int.ofNat (a::b::r).length==0)=false∧(Int.ofNat (a::b::r).length==1)=false:=by
 simp only [List.length_cons,Int.ofNat_eq_natCast,beq_eq_false_iff_ne]
 omega
theorem PI (vs:List (List X))(hv:∀v,v∈vs→∃w:Val,v=(aU 1 w).cells):∃c:Int,((c=0→1≤vs.length)∧0≤c∧c≤100)∧∃B,∀N,B≤N→Gam.pureD (callF tab ext N) 198 [.sl false 6 vs]=some (num c):=by
 match vs,hv with
 |[],_=>exact ⟨4,⟨(fun e=>by cases e),by decide,by decide⟩,1,fun N hN=>by
   obtain ⟨M,rfl⟩:∃M,N=M+1:=⟨N-1,by omega⟩
   exact pure_of [] [] pf0 (x:=num 4) (bx:=[]) (by kernel_rfl) rfl⟩
 |[v],hv=>
  obtain ⟨w,rfl⟩:=hv v (List.mem_singleton.2 rfl)
  have hok:=xR (n:=1) w (by decide)
  obtain ⟨c,cr,hc⟩:=PL (aU 1 w) hok
  generalize aU 1 w=u at hc hok
  have hsz:u.size≤60000:=hok
  obtain ⟨k,i,s,t,l,f⟩:=u
  obtain ⟨g,hg⟩:=JQ k
  cases h0:(c !=0) with
  |true=>exact ⟨c,⟨fun _=>Nat.le_refl _,cr⟩,130000,fun N hN=>by
    obtain ⟨M,rfl⟩:∃M,N=M+1:=⟨N-1,by omega⟩
    exact pure_of [(13,.p (num c)),(15,.b true)] [] (pf2 (hc M (by omega)) h0) (x:=num c) (bx:=[]) (by kernel_rfl) rfl⟩
  |false=>
   cases g with
   |true=>exact ⟨0,⟨fun _=>Nat.le_refl _,by decide,by decide⟩,130000,fun N hN=>by
     obtain ⟨M,rfl⟩:∃M,N=M+1:=⟨N-1,by omega⟩
     exact pure_of [(13,.p (num c)),(15,.b false),(21,.p (boolX true))] [] (pf3 (hc M (by omega)) h0 (hg M (by omega))) (x:=num 0) (bx:=[]) (by kernel_rfl) rfl⟩
   |false=>exact ⟨18,⟨fun _=>Nat.le_refl _,by decide,by decide⟩,130000,fun N hN=>by
     obtain ⟨M,rfl⟩:∃M,N=M+1:=⟨N-1,by omega⟩
     exact pure_of [(13,.p (num c)),(15,.b false),(21,.p (boolX false))] [] (pf3 (hc M (by omega)) h0 (hg M (by omega))) (x:=num 18) (bx:=[]) (by kernel_rfl) rfl⟩
 |a::b::r,_=>
  obtain ⟨e1,e2⟩:=len2 a b r
  generalize a::b::r=vs at e1 e2
  exact ⟨3,⟨(fun e=>by cases e),by decide,by decide⟩,1,fun N hN=>by
   obtain ⟨M,rfl⟩:∃M,N=M+1:=⟨N-1,by omega⟩
   exact pure_of [(7,.b false),(9,.b false)] [] (pf2 e1 e2) (x:=num 3) (bx:=[]) (by kernel_rfl) rfl⟩
theorem Ig:∀(h:Nat) (x:List X),sE h x→okE h x
 |0,_,hx=>hx.elim
 |h+1,x,⟨o,i,t,vs,es,e,h1,h2,h3,h4,h5⟩=>⟨o,i,t,false,vs,false,es,e,by omega,by omega,by omega,(fun v hv=>by
   obtain ⟨w,rfl⟩:=h3 v hv
   exact kQ (h:=2) (by decide) (Ef 1 w)),fun _=>PI vs h3,fun y hy=>Ig h y (h5 y hy)⟩
theorem Xa {h:Nat}(hh:h≤900){o i:Int}{t:ByteArray}{vs es:List (List X)}(hx:sE h (jE o i t vs es))(v:Val):∃(g:Bool) (e:Int),(0≤e∧e≤100)∧∃B,∀N,B≤N→Gam.pureD (callF tab ext N) 178 [.agg (jE o i t vs es),.agg (L8 (aU 4 v)).cells]=some (.tup [boolX g,num e]):=by
 obtain ⟨g,e,er,hb⟩:=W9 hh (Ig h _ hx) (zlu v)
 exact ⟨g,e,er,iF hb rfl⟩
def oM (e:Int):ByteArray:=if e==18 then ⟨#[116,121,112,101]⟩ else ⟨#[101,114,114,111,114,32]⟩++⟨(Lib.itoa e).toArray⟩
theorem nH (e:Int)(h:0≤e∧e≤100)(N:Nat)(hN:10≤N):Gam.pureD (callF tab ext N) 38 [num e]=some (strX (oM e)):=by
 obtain ⟨M,rfl⟩:∃M,N=M+2:=⟨N-2,by omega⟩
 unfold oM
 cases h1:(e==18) with
 |true=>exact pure_of [(4,.b true)] [] (pf1 h1) (x:=strX ⟨#[116,121,112,101]⟩) (bx:=[]) (by kernel_rfl) rfl
 |false=>
  have zm3:Gam.pureD (callF tab ext (M+1)) 87 [num e]=some (strX ⟨(Lib.itoa e).toArray⟩):=by
   have he:=EL e (by omega) (by omega)
   refine bP (y:=strX ⟨(Lib.itoa e).toArray⟩) (x:=strX ⟨(Lib.itoa e).toArray⟩) (bx:=[]) ?_ rfl
   show callF tab ext (M+1) (.fn 87) [num e] []=_
   unfold callF
   exact he
  have hl:=Lib.itoa_length_le e (by omega) (by omega)
  have hs:((⟨(Lib.itoa e).toArray⟩:ByteArray)).size≤100:=by rw [bsz];omega
  have hc:(⟨#[101,114,114,111,114,32]⟩:ByteArray).size+(⟨(Lib.itoa e).toArray⟩:ByteArray).size≤9223372036854775807:=by
   show 6+_≤_
   omega
  generalize (⟨(Lib.itoa e).toArray⟩:ByteArray)=d at zm3 hc
  exact pure_of [(4,.b false),(6,.p (strX d)),(7,.at)] [] (pf3 h1 zm3 hc) (x:=strX (⟨#[101,114,114,111,114,32]⟩++d)) (bx:=[]) (by kernel_rfl) rfl
end Ct
end Go.Proofs.YtjbndifenhihhaaGreatDoor
