/- Small values: what applies to them, where a part of a path leads, their copies; by the contracts. -/
import Derived.Test.YtjbndifenhihhaaGreatDoorP17
import Derived.Test.YtjbndifenhihhaaGreatDoorP18
import Derived.Test.YtjbndifenhihhaaGreatDoorP19
import Derived.Test.YtjbndifenhihhaaGreatDoorP20
import Derived.Test.YtjbndifenhihhaaGreatDoorP21
namespace Go.Proofs.YtjbndifenhihhaaGreatDoor
open Go Go.Em Go.Ab
set_option maxRecDepth 100000
namespace Ct
abbrev zf7:List Sh:=[int,int,int,.s,.FY 6 11 0 6,.FY 7 12 0 6]
theorem lG {P:Nat→List X→Prop}{x:X}(h:Nc P (.i .i64 none none) x):∃z,x=num z:=by
 match x,h with
 |.v (.int _ z),⟨rfl,_⟩=>exact ⟨z,rfl⟩
theorem zf3 {P:Nat→List X→Prop}{x:X}{lo hi:Nat}(h:Nc P (.s lo hi) x):∃s:ByteArray,x=strX s∧lo≤s.size∧s.size≤hi:=by
 match x,h with
 |.v (.string s),⟨h1,h2⟩=>exact ⟨s,rfl,h1,h2⟩
theorem Bj {P:Nat→List X→Prop}{x:X}{sz k lo hi:Nat}(h:Nc P (.sl sz k lo hi) x):∃t es,x=.sl t sz es∧lo≤es.length∧es.length≤hi∧∀e,e∈es→P k e:=by
 match x,h with
 |.sl t _ es,⟨rfl,h1,h2,h3⟩=>exact ⟨t,es,rfl,h1,h2,h3⟩
theorem d11 {h:Int}{x:List X}(hd:D T (h+1) 11 x):0≤h∧∃a b c s t l t' f,x=[num a,num b,num c,strX s,.sl t 6 l,.sl t' 7 f]∧s.size≤1000000∧l.length≤6∧f.length≤6∧(∀e,e∈l→D T h 11 e)∧∀e,e∈f→D T h 12 e:=by
 obtain ⟨h1,alt,ha,hs⟩:=qG hd
 rw [List.mem_singleton.1 ha,Int.add_sub_cancel] at hs
 match x,hs with
 |[_,_,_,_,_,_],⟨k1,k2,k3,k4,k5,k6,_⟩=>
  obtain ⟨a,rfl⟩:=lG k1
  obtain ⟨b,rfl⟩:=lG k2
  obtain ⟨c,rfl⟩:=lG k3
  obtain ⟨s,rfl,_,hs⟩:=zf3 k4
  obtain ⟨t,l,rfl,_,hl,hl2⟩:=Bj k5
  obtain ⟨t',f,rfl,_,hf,hf2⟩:=Bj k6
  exact ⟨by omega,a,b,c,s,t,l,t',f,rfl,hs,hl,hf,hl2,hf2⟩
theorem Me {h:Int}{x:List X}(hd:D T (h+1) 11 x):0≤h∧IsL T h zf7 x:=by
 obtain ⟨h0,a,b,c,s,t,l,t',f,rfl,h1,h2,h3,h4,h5⟩:=d11 hd
 exact ⟨h0,⟨a,rfl⟩,⟨b,rfl⟩,⟨c,rfl⟩,⟨s,rfl,by unfold dX;omega⟩,⟨t,l,rfl,by omega,by omega,h4⟩,⟨t',f,rfl,by omega,by omega,h5⟩,trivial⟩
theorem mV {h:Int}{a b c:X}{d:X}{u v:Bool}{l f:List (List X)}(hd:D T h 11 [a,b,c,d,.sl u 6 l,.sl v 7 f]):D T h 11 [a,b,c,d,.sl false 6 l,.sl false 7 f]:=by
 obtain ⟨h1,alt,ha,hs⟩:=qG hd
 obtain rfl:=List.mem_singleton.1 ha
 obtain ⟨k1,k2,k3,k4,k5,k6,k7⟩:=hs
 exact dY h1 (List.mem_singleton.2 rfl) ⟨k1,k2,k3,k4,k5,k6,k7⟩
theorem zde {h:Int}{x:List X}(h0:0≤h)(hx:IsL T h zf7 x):D T (h+1) 11 x:=by
 match x,hx with
 |[_,_,_,_,_,_],⟨⟨a,rfl⟩,⟨b,rfl⟩,⟨c,rfl⟩,⟨s,rfl,k1⟩,⟨t,l,rfl,k2,k3,k4⟩,⟨t',f,rfl,k5,k6,k7⟩,_⟩=>
  unfold dX at k1
  refine dY (by omega) (List.mem_singleton.2 rfl) ?_
  rw [Int.add_sub_cancel]
  exact ⟨⟨rfl,(fun a e=>by cases e),(fun a e=>by cases e)⟩,⟨rfl,(fun a e=>by cases e),(fun a e=>by cases e)⟩,⟨rfl,(fun a e=>by cases e),(fun a e=>by cases e)⟩,⟨by omega,by omega⟩,⟨rfl,by omega,by omega,k4⟩,⟨rfl,by omega,by omega,k7⟩,trivial⟩
theorem zmi {T:Tab}{f:FuncId}{l:List Sh}{mu:Option (Nat×Nat)}{outs:List (Sh×List BSh)}{xs:List X}{h':Int}(ho:CO l=true)(hh:0≤h')(ha:IsL T h' l xs):∃ρ,ρ 1=h'∧(mkC f [.rc l] [] mu outs).Sat T ρ [.agg xs] []:=by
 have m0:=bn (fun _=>(0:Int)) 1 h'
 obtain ⟨ρ1,m1,f1,g1⟩:=fA l (h:=⟨1,0⟩) (n:=2) (ρ:=nZ (fun _=>(0:Int)) 1 h') ho (by omega) (m0.zero (by omega) rfl) (by decide) (by rw [bV];exact ha)
 have z1:=m1.zero (by omega) (m0.zero (by omega) rfl)
 have hn1:0<(lI ⟨1,0⟩ 2 l).2.1:=Nat.lt_of_lt_of_le (by omega) m1.le
 have hlt:1<(lI ⟨1,0⟩ 2 l).2.1:=Nat.lt_of_lt_of_le (by omega) m1.le
 refine ⟨ρ1,?_,z1,hn1,?_,⟨[],List.mem_singleton.2 rfl,.nil⟩,?_,.nil⟩
 ·rw [m1.same 1 (by omega)];show nZ (fun _=>(0:Int)) 1 h' 1=h';unfold nZ;rw [if_pos rfl]
 ·refine aW.append ?_ .nil
  show aW (lI ⟨1,0⟩ 2 l).2.1 ρ1 ((ak (.k 0) ⟨1,0⟩::(lI ⟨1,0⟩ 2 l).2.2)++[])
  rw [List.append_nil]
  refine aW.cons (aC.2 ⟨hn1,hlt,?_⟩) f1
  rw [Lin.k_v z1,m1.lin (show (⟨1,0⟩:Lin).s<2 by decide),bV];exact hh
 ·exact .cons (.agg g1) .nil
theorem zon {T:Tab}{f:FuncId}{t1:Sh}{l:List Sh}{mu:Option (Nat×Nat)}{outs:List (Sh×List BSh)}{x1:X}{xs:List X}{h':Int}(h1:t1.own=true)(ho:CO l=true)(hx:t1.Is T 0 x1)(hh:0≤h')(ha:IsL T h' l xs):
  ∃ρ,ρ (t1.bld (.k 0) 1).2.1=h'∧(mkC f [t1,.rc l] [] mu outs).Sat T ρ [x1,.agg xs] []:=by
 obtain ⟨ρ0,ma,fa,ga⟩:=Sh.fwd t1 (h:=.k 0) (n:=1) (ρ:=fun _=>(0:Int)) h1 (by omega) rfl (by decide) hx
 have za:=ma.zero (by omega) rfl
 generalize hn:(t1.bld (.k 0) 1).2.1=n at ma fa ga
 have hn0:0<n:=Nat.lt_of_lt_of_le (by omega) ma.le
 have m0:=bn ρ0 n h'
 obtain ⟨ρ1,m1,f1,g1⟩:=fA l (h:=⟨n,0⟩) (n:=n+1) (ρ:=nZ ρ0 n h') ho (Nat.succ_pos _) (m0.zero hn0 za) (Nat.lt_succ_self _) (by rw [bV];exact ha)
 have z1:=m1.zero (Nat.succ_pos _) (m0.zero hn0 za)
 have hn1:0<(lI ⟨n,0⟩ (n+1) l).2.1:=Nat.lt_of_lt_of_le (Nat.succ_pos _) m1.le
 have hlt:n<(lI ⟨n,0⟩ (n+1) l).2.1:=Nat.lt_of_lt_of_le (Nat.lt_succ_self _) m1.le
 have em:(mkC f [t1,.rc l] [] mu outs).m=(lI ⟨n,0⟩ (n+1) l).2.1:=by rw [←hn];rfl
 have ep:(mkC f [t1,.rc l] [] mu outs).pre=((t1.bld (.k 0) 1).2.2++((ak (.k 0) ⟨n,0⟩::(lI ⟨n,0⟩ (n+1) l).2.2)++[]))++[]:=by rw [←hn];rfl
 have ea:(mkC f [t1,.rc l] [] mu outs).args=[(t1.bld (.k 0) 1).1,.agg (lI ⟨n,0⟩ (n+1) l).1]:=by rw [←hn];rfl
 refine ⟨ρ1,?_,z1,by rw [em];exact hn1,?_,⟨[],List.mem_singleton.2 rfl,.nil⟩,?_,.nil⟩
 ·rw [m1.same n (Nat.lt_succ_self _)];unfold nZ;rw [if_pos rfl]
 ·rw [em,ep]
  refine aW.append (aW.append ((m0.trans m1).facts fa) (aW.append (aW.cons (aC.2 ⟨hn1,hlt,?_⟩) f1) .nil)) .nil
  rw [Lin.k_v z1,m1.lin (show (⟨n,0⟩:Lin).s<n+1 from Nat.lt_succ_self _),bV];exact hh
 ·rw [em,ea]
  exact .cons (ga.more (m0.trans m1)) (.cons (.agg g1) .nil)
theorem zjA {T:Tab}{f:FuncId}{t1:Sh}{l:List Sh}{mu:Option (Nat×Nat)}{outs:List SL}{x1:X}{xs:List X}{h':Int}(h1:t1.own=true)(ho:CO l=true)(hx:t1.Is T 0 x1)(hh:0≤h')(ha:IsL T h' l xs):
  ∃ρ,ρ (t1.bld (.k 0) 1).2.1=h'∧(dN f [t1,.rc l] [] mu outs).Sat T ρ [x1,.agg xs] []:=by
 obtain ⟨ρ,hr,hs⟩:=zon (f:=f) (mu:=mu) (outs:=outs.map fun o=>(o.1,o.2.1)) h1 ho hx hh ha
 exact ⟨ρ,hr,hs.zero,hs.pos,hs.pre,hs.alts,hs.args,hs.inb⟩
theorem zmq {k i:Int}{nm:ByteArray}{h:Int}(h1:0≤i)(h2:i≤1000000)(h3:nm.size≤1000000):UY.Is T h (.agg [num k,num i,strX nm]):=⟨_,rfl,⟨k,rfl⟩,⟨i,rfl,h1,h2⟩,⟨nm,rfl,by unfold dX;omega⟩,trivial⟩
theorem wP {k i:Int}{nm:ByteArray}{h:Int}{x:List X}(h1:0≤i)(h2:i≤1000000)(h3:nm.size≤1000000)(hd:D T (h+1) 11 x):∃b,∃B,∀N,B≤N→Gam.pureD (callF tab ext N) 270 [.agg [num k,num i,strX nm],.agg x]=some (boolX b):=by
 obtain ⟨h0,hx⟩:=Me hd
 obtain ⟨o,ho,r,bx,hi,hb,B,hB⟩:=gu (zdN _ (List.mem_singleton.2 rfl)) rfl rfl (xs:=[.agg [num k,num i,strX nm],.agg x]) ⟨zmq h1 h2 h3,⟨h,x,rfl,h0,hx⟩,trivial⟩ (bx:=[]) trivial
 rcases List.mem_cons.1 ho with rfl|ho
 ·obtain rfl:=vO hb
  have hi:r=boolX true:=hi
  subst hi
  exact ⟨true,B,fun N hN=>bP (hB N hN) rfl⟩
 ·obtain rfl:=List.mem_singleton.1 ho
  obtain rfl:=vO hb
  have hi:r=boolX false:=hi
  subst hi
  exact ⟨false,B,fun N hN=>bP (hB N hN) rfl⟩
theorem Ip {k i:Int}{nm:ByteArray}{h:Int}{x:List X}(h1:0≤i)(h2:i≤1000000)(h3:nm.size≤1000000)(hd:D T (h+1) 11 x):∃ys,ys.length≤6∧(∀y,y∈ys→D T h 11 y)∧∃B,∀N,B≤N→Gam.pureD (callF tab ext N) 271 [.agg [num k,num i,strX nm],.agg x]=some (.sl false 6 ys):=by
 obtain ⟨h0,hx⟩:=Me hd
 obtain ⟨ρ,hr,hs⟩:=zjA (f:=271) (t1:=UY) (l:=zf7) (mu:=none) (outs:=[(.slr 6 11 0 6,[],[lt 11 0 4])]) rfl rfl (zmq h1 h2 h3) h0 hx
 obtain ⟨q,hq,n',ρ',r,bx',hm,z,hF,hg,hi,hb,B,hB⟩:=yV hs.zero hs.pos (zdM _ (List.mem_singleton.2 rfl) ρ _ _ hs)
 obtain rfl:=List.mem_singleton.1 hq
 obtain rfl:=vO hb
 obtain ⟨t,ys,h',rfl,_,_,hl,_⟩:=hi
 have k4:ρ' 4=ρ 4:=hm.same 4 (by decide)
 have hr:ρ 4=h:=hr
 have hge:=WM hF (List.mem_singleton.2 rfl)
 have hel:∀e,e∈ys→D T (ρ' 11) 11 e:=by
  cases hg with
  |sl _ _ _ _ w=>
   intro e he
   have:=w e he
   unfold Lin.v at this
   dsimp only at this
   rw [show ρ' 11=ρ' 11+0 by omega]
   exact this
 exact ⟨ys,by omega,fun y hy=>kQ (by omega) (hel y hy),B,fun N hN=>bP (hB N hN) rfl⟩
theorem Z5 {T:Tab}{n:Nat}{ρ:Rho}{cs:List AX}{x:X}(h:G T n ρ (.agg cs) x):∃xs,x=.agg xs∧GL T n ρ cs xs:=by
 cases h with
 |agg h=>exact ⟨_,rfl,h⟩
theorem dH {T:Tab}{n:Nat}{ρ:Rho}{a:AX}{l:List AX}{m:List X}(h:GL T n ρ (a::l) m):∃x r,m=x::r∧G T n ρ a x∧GL T n ρ l r:=by
 cases h with
 |cons h1 h2=>exact ⟨_,_,rfl,h1,h2⟩
theorem zbs {T:Tab}{n:Nat}{ρ:Rho}{m:List X}(h:GL T n ρ [] m):m=[]:=by
 cases h;rfl
theorem g_i {T:Tab}{n:Nat}{ρ:Rho}{k:IntKind}{l:Lin}{x:X}(h:G T n ρ (.i k l) x):∃z,x=.v (.int k z):=by
 cases h;exact ⟨_,rfl⟩
theorem g_s {T:Tab}{n:Nat}{ρ:Rho}{l:Lin}{x:X}(h:G T n ρ (.s l) x):∃s:ByteArray,x=strX s∧(s.size:Int)=l.v ρ:=by
 cases h with
 |s h1 h2=>exact ⟨_,rfl,h2⟩
theorem zi8 {T:Tab}{n:Nat}{ρ:Rho}{t:Option Bool}{sz k:Nat}{h l:Lin}{x:X}(hg:G T n ρ (.sl t sz k h l) x):∃tt es,x=.sl tt sz es∧(es.length:Int)=l.v ρ∧∀e,e∈es→D T (h.v ρ) k e:=by
 cases hg with
 |sl h1 h2 h3 h4 h5=>exact ⟨_,_,rfl,h4,h5⟩
theorem Dt {h:Int}{x:List X}(hd:D T (h+1) 11 x):∃(a b c:Int) (s:ByteArray) (t:Bool) (l:List (List X)) (t':Bool) (f:List (List X)),D T (h+1) 1 [num a,num b,num c,strX s,.sl t 6 l,.sl t' 7 f]∧∃B,∀N,B≤N→Gam.pureD (callF tab ext N) 55 [.agg x]=some (.agg [num a,num b,num c,strX s,.sl t 6 l,.sl t' 7 f]):=by
 obtain ⟨h0,hx⟩:=Me hd
 obtain ⟨ρ,hr,hs⟩:=zmi (f:=55) (l:=zf7) (mu:=some (1,0)) (outs:=[(.ag [int,int,int,.s,.bs 0,.bs 1],[.SQ 6 1 1 12,.SQ 7 2 1 13])]) rfl h0 hx
 obtain ⟨o,ho,ρ',r,bx,hm,hF,g1,g2,B,hB⟩:=Ls _ (List.mem_cons_of_mem _ (List.mem_singleton.2 rfl)) ρ _ _ hs
 obtain rfl:=List.mem_singleton.1 ho
 have z:ρ' 0=0:=hm.zero hs.pos hs.zero
 have k1:ρ' 1=h:=by rw [hm.same 1 (by decide)];exact hr
 obtain ⟨y,hy,gy⟩:=G.data (y:=.agg [.i .i64 ⟨8,0⟩,.i .i64 ⟨9,0⟩,.i .i64 ⟨10,0⟩,.s ⟨11,0⟩,.sl (some false) 6 1 ⟨1,0⟩ ⟨12,0⟩,.sl (some false) 7 2 ⟨1,0⟩ ⟨13,0⟩]) (raw:=false) hF g2 z g1 (by kernel_rfl)
 have b11:=fH (l:=⟨11,0⟩) (lo:=0) (hi:=1000000) z (fun f hf=>hF f (by
  rcases List.mem_cons.1 hf with rfl|hf
  ·simp [CP,Sh.bld,lI,pO,bnd,dX]
  ·obtain rfl:=List.mem_singleton.1 hf
   simp [CP,Sh.bld,lI,pO,bnd,dX]))
 have b12:=fH (l:=⟨12,0⟩) (lo:=0) (hi:=1000000) z (fun f hf=>hF f (by
  rcases List.mem_cons.1 hf with rfl|hf
  ·simp [CP,Sh.bld,lI,pO,bnd,dX]
  ·obtain rfl:=List.mem_singleton.1 hf
   simp [CP,Sh.bld,lI,pO,bnd,dX]))
 have b13:=fH (l:=⟨13,0⟩) (lo:=0) (hi:=1000000) z (fun f hf=>hF f (by
  rcases List.mem_cons.1 hf with rfl|hf
  ·simp [CP,Sh.bld,lI,pO,bnd,dX]
  ·obtain rfl:=List.mem_singleton.1 hf
   simp [CP,Sh.bld,lI,pO,bnd,dX]))
 obtain ⟨cs,rfl,v0⟩:=Z5 gy
 obtain ⟨x1,r1,rfl,w1,v1⟩:=dH v0
 obtain ⟨x2,r2,rfl,w2,v2⟩:=dH v1
 obtain ⟨x3,r3,rfl,w3,v3⟩:=dH v2
 obtain ⟨x4,r4,rfl,w4,v4⟩:=dH v3
 obtain ⟨x5,r5,rfl,w5,v5⟩:=dH v4
 obtain ⟨x6,r6,rfl,w6,v6⟩:=dH v5
 obtain rfl:=zbs v6
 obtain ⟨a,rfl⟩:=g_i w1
 obtain ⟨b,rfl⟩:=g_i w2
 obtain ⟨c,rfl⟩:=g_i w3
 obtain ⟨s,rfl,e4⟩:=g_s w4
 obtain ⟨t,l,rfl,e5,q5⟩:=zi8 w5
 obtain ⟨t',f,rfl,e6,q6⟩:=zi8 w6
 refine ⟨a,b,c,s,t,l,t',f,dY (by omega) (List.mem_singleton.2 rfl) ?_,B,fun N hN=>bP (hB N hN) hy⟩
 rw [Int.add_sub_cancel]
 have v7:Lin.v ⟨1,0⟩ ρ'=h:=by unfold Lin.v;dsimp only;omega
 rw [v7] at q5 q6
 exact ⟨⟨rfl,(fun a e=>by cases e),(fun a e=>by cases e)⟩,⟨rfl,(fun a e=>by cases e),(fun a e=>by cases e)⟩,⟨rfl,(fun a e=>by cases e),(fun a e=>by cases e)⟩,⟨by omega,by omega⟩,⟨rfl,by omega,by omega,q5⟩,⟨rfl,by omega,by omega,q6⟩,trivial⟩
end Ct
end Go.Proofs.YtjbndifenhihhaaGreatDoor
namespace Go.Proofs.YtjbndifenhihhaaGreatDoor
open Go Go.Em Go.Ab
set_option maxRecDepth 100000
namespace Ct
def okE:Nat→List X→Prop
 |0,_=>False
 |h+1,x=>∃(op n:Int) (s:ByteArray) (u:Bool) (vs:List (List X)) (v:Bool) (ar:List (List X)),x=[num op,num n,strX s,.sl u 6 vs,.sl v 5 ar]∧s.size≤1000000∧vs.length≤1000000∧ar.length≤1000000∧(∀e,e∈vs→D T 9 1 e)∧
  (op=1→∃c:Int,((c=0→1≤vs.length)∧0≤c∧c≤100)∧∃B,∀N,B≤N→Gam.pureD (callF tab ext N) 198 [.sl false 6 vs]=some (num c))∧∀e,e∈ar→okE h e
abbrev fnB:Bx:=.var [.fn 151 [.ptr 0 0 0,.ptr 1 0 0]]
def Vis (H:Int)(x:List X)(lev k:Int):Prop:=∃c k':Int,(0≤c∧c≤100)∧0≤k'∧k'≤256∧(c=0→D T H 10 x)∧∃B,∀N,B≤N→callF tab ext N (.fn 151) [.agg x,num lev,.ptr 0 0 0,.ptr 1 0 0] [.var [num k],fnB]=some (num c,[.var [num k'],fnB])
section
variable (lev:Int) (t:Bool) (ar:List (List X)) (m:Nat)
abbrev vsH (k:Int) (j:Nat):St:=⟨[(1,num lev),(3,.ptr 1 0 0),(23,.sl t 5 ar),(24,nat m),(25,nat j)],[.var [num k],fnB]⟩
end
theorem Jb {h:Int}{a b c:X}{u v u' v':Bool}{l f:List (List X)}(hd:D T h 10 [a,b,c,.sl u 6 l,.sl v 5 f]):D T h 10 [a,b,c,.sl u' 6 l,.sl v' 5 f]:=by
 obtain ⟨h1,alt,ha,hs⟩:=qG hd
 obtain ⟨q,hq,rfl⟩:=List.mem_map.1 (show alt∈List.map _ _ from ha)
 obtain ⟨k1,k2,k3,k4,k5,k6⟩:=hs
 exact dY h1 ha ⟨k1,k2,k3,k4,k5,k6⟩
theorem XM {H:Int}(lev:Int)(t:Bool)(ar:List (List X))(m:Nat)(hm:m=ar.length)(hlen:m≤1000000)(h0:0≤lev)(h1:lev≤1000)(hok:∀x,x∈ar→∃(op n:Int) (s:ByteArray) (u:Bool) (vs:List (List X)) (v:Bool) (ar2:List (List X)),x=[num op,num n,strX s,.sl u 6 vs,.sl v 5 ar2]∧∀k,0≤k→k≤256→Vis H [num op,num n,strX s,.sl false 6 vs,.sl false 5 ar2] (lev+1) k)
  {k0:Int} (hk0:0≤k0) (hk1:k0≤256) {τ:St} (hτ:canon 2 τ=some (vsH lev t ar m k0 0)):
  ∃e σ' B,((∃(c k:Int) (y:List X),(c≠0∧0≤c∧c≤100)∧0≤k∧k≤256∧e=.ret∧σ'=⟨[(6,num c)],[.var [num k],fnB,.var y]⟩)∨(∃k:Int,0≤k∧k≤256∧e=.exit 0∧σ'=⟨[(1,num lev),(3,.ptr 1 0 0),(23,.sl t 5 ar),(24,nat m),(25,nat m),(26,boolX false)],[.var [num k],fnB]⟩∧∀x,x∈ar→D T H 10 x))∧∀M,B≤M→run (callF tab ext M) 2 M (.loop (loopAt 151 0)) τ=some (e,σ'):=by
 refine lM (nIn:=2) (b:=loopAt 151 0) (H:=fun p:Int×Nat=>vsH lev t ar m p.1 p.2) (I:=fun p=>0≤p.1∧p.1≤256∧p.2≤m∧∀i (hi:i<ar.length),i<p.2→D T H 10 ar[i]) (μ:=fun p=>m-p.2)
  (Q:=fun e σ'=>(∃(c k:Int) (y:List X),(c≠0∧0≤c∧c≤100)∧0≤k∧k≤256∧e=.ret∧σ'=⟨[(6,num c)],[.var [num k],fnB,.var y]⟩)∨(∃k:Int,0≤k∧k≤256∧e=.exit 0∧σ'=⟨[(1,num lev),(3,.ptr 1 0 0),(23,.sl t 5 ar),(24,nat m),(25,nat m),(26,boolX false)],[.var [num k],fnB]⟩∧∀x,x∈ar→D T H 10 x))
  (fun p hp=>?_) (a:=(k0,0)) ⟨hk0,hk1,Nat.zero_le _,fun i hi hj=>absurd hj (Nat.not_lt_zero _)⟩ hτ
 obtain ⟨k,j⟩:=p
 obtain ⟨i1,i2,i3,i4⟩:=hp
 dsimp only at i1 i2 i3 i4 ⊢
 by_cases hj:j<m
 ·have hlt:=aI hj
  have hjl:j<ar.length:=by omega
  have hx:ar[j]?=some ar[j]:=List.getElem?_eq_getElem hjl
  have hmem:=List.getElem_mem hjl
  obtain ⟨op,n,s,u,vs,v,as',e,zfY⟩:=hok _ hmem
  obtain ⟨c,k',cr,c1,c2,c3,B,hc⟩:=zfY k i1 i2
  have hnx:IntKind.i64.wrap (lev+1)=lev+1:=by rw [IntKind.wrap_i64];omega
  rw [e] at hx
  by_cases h0:c=0
  ·subst h0
   refine .inl ⟨⟨[(1,num lev),(3,.ptr 1 0 0),(23,.sl t 5 ar),(24,nat m),(25,nat (j+1))],[.var [num k'],fnB,.var [num op,num n,strX s,.sl u 6 vs,.sl v 5 as']]⟩,(k',j+1),B,fun M hM=>?_,by kernel_rfl,⟨c1,c2,by dsimp only;omega,fun i hi hij=>?_⟩,by dsimp only;omega⟩
   ·exact run_of [(26,.b true),(27,.e [num op,num n,strX s,.sl u 6 vs,.sl v 5 as']),(32,.i (lev+1)),(33,.r (num 0) [.var [num k'],fnB]),(37,.i (Int.ofNat (j+1)))] [] (pf5 hlt hx hnx (hc M hM) (next_nat (j:=j) (by omega))) (lo':=[]) (by kernel_rfl)
   ·dsimp only at hij
    by_cases hi2:i<j
    ·exact i4 i hi hi2
    ·obtain rfl:i=j:=by omega
     rw [e]
     exact Jb (c3 rfl)
  ·have hb:(c !=0)=true:=by simpa using h0
   exact .inr ⟨_,_,B,(by intro e;cases e),.inl ⟨c,k',[num op,num n,strX s,.sl u 6 vs,.sl v 5 as'],⟨h0,cr⟩,c1,c2,rfl,rfl⟩,fun M hM=>run_of [(26,.b true),(27,.e [num op,num n,strX s,.sl u 6 vs,.sl v 5 as']),(32,.i (lev+1)),(33,.r (num c) [.var [num k'],fnB]),(35,.b true)] [] (pf5 hlt hx hnx (hc M hM) hb) (lo':=[]) (by kernel_rfl)⟩
 ·obtain rfl:j=m:=by omega
  refine .inr ⟨_,_,0,(by intro e;cases e),.inr ⟨k,i1,i2,rfl,rfl,fun x hx=>?_⟩,fun M _=>run_of [(26,.b false)] [] (pf1 (aJ (Nat.lt_irrefl j))) (lo':=[]) (by kernel_rfl)⟩
  obtain ⟨i,hi,rfl⟩:=List.getElem_of_mem hx
  exact i4 i hi (by omega)
end Ct
end Go.Proofs.YtjbndifenhihhaaGreatDoor
namespace Go.Proofs.YtjbndifenhihhaaGreatDoor
open Go Go.Em Go.Ab
set_option maxRecDepth 100000
namespace Ct
abbrev znv (o na:Int):Ctr:=(dN 152 [exp] [] none [(.k .i64 0,[],bd 2 o o++[ak (.k na) ⟨6,0⟩]),(.ir .i64 1 100,[],[])]).with [bd 2 o o]
theorem zg9 {o na H n:Int}{s:ByteArray}{u v:Bool}{vs ar:List (List X)}(hC:(znv o na).Holds T Gm)(h0:0≤H)(hs:s.size≤1000000)(hvl:vs.length≤1000000)(hal:ar.length≤1000000)(hv:∀e,e∈vs→D T H 1 e)(ha:∀e,e∈ar→D T H 8 e):
  ∃c:Int,((c=0→na≤ar.length)∧0≤c∧c≤100)∧∃B,∀N,B≤N→Gam.pureD (callF tab ext N) 152 [.agg [num o,num n,strX s,.sl u 6 vs,.sl v 5 ar]]=some (num c):=by
 obtain ⟨ρ,zhw⟩:=N9 (T:=T) (f:=152) (args:=[exp]) (inb:=[]) (mu:=none) (outs:=[(.k .i64 0,[],bd 2 o o++[ak (.k na) ⟨6,0⟩]),(.ir .i64 1 100,[],[])]) (xs:=[.agg [num o,num n,strX s,.sl u 6 vs,.sl v 5 ar]]) (bx:=[]) rfl rfl
  ⟨⟨H,_,rfl,h0,⟨o,rfl⟩,⟨n,rfl⟩,⟨s,rfl,by unfold dX;omega⟩,⟨u,vs,rfl,by unfold dX;omega,hv⟩,⟨v,ar,rfl,by unfold dX;omega,ha⟩,trivial⟩,trivial⟩ trivial
 have hg:GL T _ ρ [.agg [.i .i64 ⟨2,0⟩,.i .i64 ⟨3,0⟩,.s ⟨4,0⟩,.sl none 6 1 ⟨1,0⟩ ⟨5,0⟩,.sl none 5 8 ⟨1,0⟩ ⟨6,0⟩]] [.agg [num o,num n,strX s,.sl u 6 vs,.sl v 5 ar]]:=zhw.args
 obtain ⟨_,_,e,w,_⟩:=dH hg
 cases e
 obtain ⟨_,e,w⟩:=Z5 w
 cases e
 obtain ⟨_,_,e,v1,w⟩:=dH w
 cases e
 obtain ⟨_,_,e,v2,w⟩:=dH w
 cases e
 obtain ⟨_,_,e,v3,w⟩:=dH w
 cases e
 obtain ⟨_,_,e,v4,w⟩:=dH w
 cases e
 obtain ⟨_,_,e,v5,w⟩:=dH w
 cases e
 have e2:o=ρ 2:=sI v1
 have e6:(ar.length:Int)=ρ 6:=by
  cases v5 with
  |sl _ _ _ q _=>rw [q];unfold Lin.v;show ρ 6+0=_;omega
 have z:=zhw.zero
 have hp:aW (dN 152 [exp] [] none [(.k .i64 0,[],bd 2 o o++[ak (.k na) ⟨6,0⟩]),(.ir .i64 1 100,[],[])]).m ρ (bd 2 o o):=by
  refine .cons (aC.2 ⟨by show 0<7;decide,by show 2<7;decide,?_⟩) (.cons (aC.2 ⟨by show 2<7;decide,by show 0<7;decide,?_⟩) .nil)
  ·rw [Lin.k_v z];unfold Lin.v;dsimp only;omega
  ·rw [Lin.k_v z];unfold Lin.v;dsimp only;omega
 obtain ⟨q,hq,n',ρ',r,bx',hm,z',hF,hg',hi,hb,B,hB⟩:=yV zhw.zero zhw.pos (hC ρ _ _ (Ctr.Sat.with zhw hp))
 rcases List.mem_cons.1 hq with rfl|hq
 ·obtain rfl:=vO hb
  have hi:r=num 0:=hi
  subst hi
  have k6:ρ' 6=ρ 6:=hm.same 6 (by show 6<7;decide)
  have hf:=(aC.1 (hF (ak (.k na) ⟨6,0⟩) (List.mem_append_right _ (List.mem_singleton.2 rfl)))).2.2
  rw [Lin.k_v z'] at hf
  unfold Lin.v at hf
  dsimp only at hf
  exact ⟨0,⟨fun _=>by omega,by decide,by decide⟩,B,fun N hN=>bP (hB N hN) rfl⟩
 ·obtain rfl:=List.mem_singleton.1 hq
  obtain rfl:=vO hb
  obtain ⟨c,rfl,c1,c2⟩:=zhp hi
  exact ⟨c,⟨fun e=>by omega,by omega,c2⟩,B,fun N hN=>bP (hB N hN) rfl⟩
end Ct
end Go.Proofs.YtjbndifenhihhaaGreatDoor
namespace Go.Proofs.YtjbndifenhihhaaGreatDoor
open Go Go.Em Go.Ab
set_option maxRecDepth 100000
namespace Ct
abbrev NI:List (Int×Int×Nat×Nat):=[(1,1,1,0),(2,2,0,0),(3,3,0,1),(4,15,0,2),(16,16,0,1),(17,17,0,2),(18,20,0,1),(21,21,0,3),(22,22,0,0),(23,23,0,2),(24,24,0,3),(25,25,0,2),(26,26,0,0),(27,28,0,1)]
theorem zjC {H op n:Int}{s:ByteArray}{u v:Bool}{vs ar:List (List X)}{q:Int×Int×Nat×Nat}(hq:q∈NI)(h0:0≤H)(h1:q.1≤op)(h2:op≤q.2.1)(hs:s.size≤1000000)(hvl:vs.length≤1000000)(hal:ar.length≤1000000)(h3:q.2.2.1≤vs.length)(h4:q.2.2.2≤ar.length)(hv:∀e,e∈vs→D T H 1 e)(ha:∀e,e∈ar→D T H 10 e):D T (H+1) 10 [num op,num n,strX s,.sl u 6 vs,.sl v 5 ar]:=by
 refine dY (by omega) (List.mem_map.2 ⟨q,hq,rfl⟩) ?_
 rw [Int.add_sub_cancel]
 exact ⟨⟨rfl,(fun a e=>by cases e;exact h1),(fun a e=>by cases e;exact h2)⟩,⟨rfl,(fun a e=>by cases e),(fun a e=>by cases e)⟩,⟨Nat.zero_le _,hs⟩,⟨rfl,h3,hvl,hv⟩,⟨rfl,h4,hal,ha⟩,trivial⟩
theorem zbe:∀(h:Nat) {x:List X},okE h x→D T (9+(h:Int)) 8 x
 |0,_,hx=>hx.elim
 |h+1,x,hx=>by
  obtain ⟨op,n,s,u,vs,v,ar,rfl,h1,h2,h3,h4,_,h6⟩:=hx
  rw [show (9:Int)+((h+1:Nat):Int)=9+(h:Int)+1 by omega]
  refine dY (by omega) (List.mem_singleton.2 rfl) ?_
  rw [Int.add_sub_cancel]
  exact ⟨⟨rfl,(fun a e=>by cases e),(fun a e=>by cases e)⟩,⟨rfl,(fun a e=>by cases e),(fun a e=>by cases e)⟩,⟨Nat.zero_le _,h1⟩,⟨rfl,Nat.zero_le _,h2,fun e he=>kQ (by omega) (h4 e he)⟩,⟨rfl,Nat.zero_le _,h3,fun e he=>zbe h (h6 e he)⟩,trivial⟩
end Ct
end Go.Proofs.YtjbndifenhihhaaGreatDoor
namespace Go.Proofs.YtjbndifenhihhaaGreatDoor
open Go Go.Em Go.Ab
set_option maxRecDepth 100000
namespace Ct
theorem one_one {n:Int}{s:ByteArray}{vs ar:List (List X)}(zhD:∃c:Int,((c=0→1≤vs.length)∧0≤c∧c≤100)∧∃B,∀N,B≤N→Gam.pureD (callF tab ext N) 198 [.sl false 6 vs]=some (num c)):
  ∃c:Int,((c=0→1≤vs.length)∧0≤c∧c≤100)∧∃B,∀N,B≤N→Gam.pureD (callF tab ext N) 152 [.agg [num 1,num n,strX s,.sl false 6 vs,.sl false 5 ar]]=some (num c):=by
 obtain ⟨c,hc,B,zhD⟩:=zhD
 have lift:∀{c':Int} {B:Nat},(∀M,B≤M→Gam.pureD (callF tab ext (M+1)) 152 [.agg [num 1,num n,strX s,.sl false 6 vs,.sl false 5 ar]]=some (num c'))→∃B,∀N,B≤N→Gam.pureD (callF tab ext N) 152 [.agg [num 1,num n,strX s,.sl false 6 vs,.sl false 5 ar]]=some (num c'):=fun {c'} {B} h=>⟨B+1,fun N hN=>by
  obtain ⟨M,rfl⟩:∃M,N=M+1:=⟨N-1,by omega⟩
  exact h M (by omega)⟩
 have har:∀M,1≤M→Gam.pureD (callF tab ext M) 195 [num 1]=some (.tup [num 0,num 0]):=fun M hM=>by
  obtain ⟨M,rfl⟩:∃M',M=M'+1:=⟨M-1,by omega⟩
  exact bP (ar1 M) rfl
 have zi5:∀M,1≤M→Gam.pureD (callF tab ext M) 196 [num 1]=some (boolX false):=fun M hM=>by
  obtain ⟨M,rfl⟩:∃M',M=M'+1:=⟨M-1,by omega⟩
  exact pure_of [] [] pf0 (x:=boolX false) (bx:=[]) (by kernel_rfl) rfl
 have zkw:∀M,1≤M→Gam.pureD (callF tab ext M) 197 [num 1]=some (boolX false):=fun M hM=>by
  obtain ⟨M,rfl⟩:∃M',M=M'+1:=⟨M-1,by omega⟩
  exact pure_of [] [] pf0 (x:=boolX false) (bx:=[]) (by kernel_rfl) rfl
 cases h1:(!s.toList==(⟨#[]⟩:ByteArray).toList) with
 |true=>exact ⟨3,⟨(fun e=>by cases e),by decide,by decide⟩,lift (B:=1) fun M hM=>pure_of [(19,.p (.tup [num 0,num 0])),(35,.p (boolX false)),(40,.b true)] [] (pf3 (har M hM) (zi5 M hM) h1) (x:=num 3) (bx:=[]) (by kernel_rfl) rfl⟩
 |false=>
  cases h2:(n !=0) with
  |true=>exact ⟨3,⟨(fun e=>by cases e),by decide,by decide⟩,lift (B:=1) fun M hM=>pure_of [(19,.p (.tup [num 0,num 0])),(35,.p (boolX false)),(40,.b false),(46,.p (boolX false)),(51,.b true)] [] (pf5 (har M hM) (zi5 M hM) h1 (zkw M hM) h2) (x:=num 3) (bx:=[]) (by kernel_rfl) rfl⟩
  |false=>
   cases h3:decide (Int.ofNat ar.length>0) with
   |true=>exact ⟨3,⟨(fun e=>by cases e),by decide,by decide⟩,lift (B:=1) fun M hM=>pure_of [(19,.p (.tup [num 0,num 0])),(35,.p (boolX false)),(40,.b false),(46,.p (boolX false)),(51,.b false),(61,.b true)] [] (pf6 (har M hM) (zi5 M hM) h1 (zkw M hM) h2 h3) (x:=num 3) (bx:=[]) (by kernel_rfl) rfl⟩
   |false=>exact ⟨c,hc,lift (B:=B+1) fun M hM=>pure_of [(19,.p (.tup [num 0,num 0])),(35,.p (boolX false)),(40,.b false),(46,.p (boolX false)),(51,.b false),(61,.b false),(74,.b false),(86,.p (num c))] [] (pf8 (har M (by omega)) (zi5 M (by omega)) h1 (zkw M (by omega)) h2 h3 h3 (zhD M (by omega))) (x:=num c) (bx:=[]) (by kernel_rfl) rfl⟩
theorem Y0 {H op n:Int}{s:ByteArray}{vs ar:List (List X)}(h0:0≤H)(hs:s.size≤1000000)(hvl:vs.length≤1000000)(hal:ar.length≤1000000)(hv:∀e,e∈vs→D T H 1 e)(ha:∀e,e∈ar→D T H 8 e)(zhD:op=1→∃c:Int,((c=0→1≤vs.length)∧0≤c∧c≤100)∧∃B,∀N,B≤N→Gam.pureD (callF tab ext N) 198 [.sl false 6 vs]=some (num c)):
  ∃c:Int,((c=0→∃q,q∈NI∧q.1≤op∧op≤q.2.1∧q.2.2.1≤vs.length∧q.2.2.2≤ar.length)∧0≤c∧c≤100)∧∃B,∀N,B≤N→Gam.pureD (callF tab ext N) 152 [.agg [num op,num n,strX s,.sl false 6 vs,.sl false 5 ar]]=some (num c):=by
 by_cases hlo:op<1
 ·exact ⟨11,⟨(fun e=>by cases e),by decide,by decide⟩,1,fun N hN=>by
   obtain ⟨M,rfl⟩:∃M,N=M+1:=⟨N-1,by omega⟩
   exact pure_of [(10,.b true)] [] (pf1 (decide_eq_true hlo)) (x:=num 11) (bx:=[]) (by kernel_rfl) rfl⟩
 ·by_cases hhi:op>28
  ·exact ⟨11,⟨(fun e=>by cases e),by decide,by decide⟩,1,fun N hN=>by
    obtain ⟨M,rfl⟩:∃M,N=M+1:=⟨N-1,by omega⟩
    exact pure_of [(10,.b false),(14,.b true)] [] (pf2 (decide_eq_false hlo) (decide_eq_true hhi)) (x:=num 11) (bx:=[]) (by kernel_rfl) rfl⟩
  ·have go:∀{o na:Int} {q:Int×Int×Nat×Nat},op=o→q∈NI→q.1≤o→o≤q.2.1→q.2.2.1=0→(q.2.2.2:Int)=na→(znv o na).Holds T Gm→∃c:Int,((c=0→∃q,q∈NI∧q.1≤op∧op≤q.2.1∧q.2.2.1≤vs.length∧q.2.2.2≤ar.length)∧0≤c∧c≤100)∧∃B,∀N,B≤N→Gam.pureD (callF tab ext N) 152 [.agg [num op,num n,strX s,.sl false 6 vs,.sl false 5 ar]]=some (num c):=fun {o na q} ho hq k1 k2 k3 k4 hC=>by
    subst ho
    obtain ⟨c,hc,hB⟩:=zg9 (n:=n) (u:=false) (v:=false) hC h0 hs hvl hal hv ha
    exact ⟨c,⟨fun e=>⟨q,hq,k1,k2,by omega,by have:=hc.1 e;omega⟩,hc.2⟩,hB⟩
   rcases zg0 (op:=op) (by omega) (by omega) with h|h|h|h|h|h|h|h|h|h|h|h|h|h|h|h|h|h|h|h|h|h|h|h|h|h|h|h
   ·subst h
    obtain ⟨c,hc,hB⟩:=one_one (n:=n) (s:=s) (ar:=ar) (zhD rfl)
    exact ⟨c,⟨fun e=>⟨(1,1,1,0),by simp,by decide,by decide,hc.1 e,Nat.zero_le _⟩,hc.2⟩,hB⟩
   ·exact go (q:=(2,2,0,0)) h (by simp) (by decide) (by decide) rfl rfl (Ri _ (List.mem_singleton.2 rfl))
   ·exact go (q:=(3,3,0,1)) h (by simp) (by decide) (by decide) rfl rfl (Rh _ (List.mem_singleton.2 rfl))
   ·exact go (q:=(4,15,0,2)) h (by simp) (by decide) (by decide) rfl rfl (Rf _ (List.mem_singleton.2 rfl))
   ·exact go (q:=(4,15,0,2)) h (by simp) (by decide) (by decide) rfl rfl (Q9 _ (List.mem_singleton.2 rfl))
   ·exact go (q:=(4,15,0,2)) h (by simp) (by decide) (by decide) rfl rfl (Q8 _ (List.mem_singleton.2 rfl))
   ·exact go (q:=(4,15,0,2)) h (by simp) (by decide) (by decide) rfl rfl (Q7 _ (List.mem_singleton.2 rfl))
   ·exact go (q:=(4,15,0,2)) h (by simp) (by decide) (by decide) rfl rfl (Q5 _ (List.mem_singleton.2 rfl))
   ·exact go (q:=(4,15,0,2)) h (by simp) (by decide) (by decide) rfl rfl (QZ _ (List.mem_singleton.2 rfl))
   ·exact go (q:=(4,15,0,2)) h (by simp) (by decide) (by decide) rfl rfl (Le _ (List.mem_singleton.2 rfl))
   ·exact go (q:=(4,15,0,2)) h (by simp) (by decide) (by decide) rfl rfl (Ld _ (List.mem_singleton.2 rfl))
   ·exact go (q:=(4,15,0,2)) h (by simp) (by decide) (by decide) rfl rfl (Lc _ (List.mem_singleton.2 rfl))
   ·exact go (q:=(4,15,0,2)) h (by simp) (by decide) (by decide) rfl rfl (La _ (List.mem_singleton.2 rfl))
   ·exact go (q:=(4,15,0,2)) h (by simp) (by decide) (by decide) rfl rfl (KZ _ (List.mem_singleton.2 rfl))
   ·exact go (q:=(4,15,0,2)) h (by simp) (by decide) (by decide) rfl rfl (KY _ (List.mem_singleton.2 rfl))
   ·exact go (q:=(16,16,0,1)) h (by simp) (by decide) (by decide) rfl rfl (KX _ (List.mem_singleton.2 rfl))
   ·exact go (q:=(17,17,0,2)) h (by simp) (by decide) (by decide) rfl rfl (KW _ (List.mem_singleton.2 rfl))
   ·exact go (q:=(18,20,0,1)) h (by simp) (by decide) (by decide) rfl rfl (KU _ (List.mem_singleton.2 rfl))
   ·exact go (q:=(18,20,0,1)) h (by simp) (by decide) (by decide) rfl rfl (KT _ (List.mem_singleton.2 rfl))
   ·exact go (q:=(18,20,0,1)) h (by simp) (by decide) (by decide) rfl rfl (KR _ (List.mem_singleton.2 rfl))
   ·exact go (q:=(21,21,0,3)) h (by simp) (by decide) (by decide) rfl rfl (KQ _ (List.mem_singleton.2 rfl))
   ·exact go (q:=(22,22,0,0)) h (by simp) (by decide) (by decide) rfl rfl (KP _ (List.mem_singleton.2 rfl))
   ·exact go (q:=(23,23,0,2)) h (by simp) (by decide) (by decide) rfl rfl (KO _ (List.mem_singleton.2 rfl))
   ·exact go (q:=(24,24,0,3)) h (by simp) (by decide) (by decide) rfl rfl (KN _ (List.mem_singleton.2 rfl))
   ·exact go (q:=(25,25,0,2)) h (by simp) (by decide) (by decide) rfl rfl (KL _ (List.mem_singleton.2 rfl))
   ·exact go (q:=(26,26,0,0)) h (by simp) (by decide) (by decide) rfl rfl (KJ _ (List.mem_singleton.2 rfl))
   ·exact go (q:=(27,28,0,1)) h (by simp) (by decide) (by decide) rfl rfl (KI _ (List.mem_singleton.2 rfl))
   ·exact go (q:=(27,28,0,1)) h (by simp) (by decide) (by decide) rfl rfl (KH _ (List.mem_singleton.2 rfl))
end Ct
end Go.Proofs.YtjbndifenhihhaaGreatDoor
namespace Go.Proofs.YtjbndifenhihhaaGreatDoor
open Go Go.Em Go.Ab
set_option maxRecDepth 100000
namespace Ct
theorem Nk:∀(h:Nat) (op n:Int) (s:ByteArray) (u v:Bool) (vs ar:List (List X)),okE h [num op,num n,strX s,.sl u 6 vs,.sl v 5 ar]→∀lev k:Int,0≤lev→lev+h≤1000→0≤k→k≤256→Vis (9+(h:Int)) [num op,num n,strX s,.sl false 6 vs,.sl false 5 ar] lev k
 |0,_,_,_,_,_,_,_,hx=>hx.elim
 |h+1,op,n,s,u,v,vs,ar,hx=>fun lev k l0 l1 k0 k1=>by
  obtain ⟨op',n',s',u',vs',v',ar',e,a1,a2,a3,a4,a5,a6⟩:=hx
  simp only [num,strX,List.cons.injEq,X.v.injEq,Value.int.injEq,Value.string.injEq,X.sl.injEq,and_true,true_and] at e
  obtain ⟨rfl,rfl,rfl,⟨_,rfl⟩,⟨_,rfl⟩⟩:=e
  have lift:∀{c k':Int} {B:Nat},(∀M,B≤M→callF tab ext (M+1) (.fn 151) [.agg [num op,num n,strX s,.sl false 6 vs,.sl false 5 ar],num lev,.ptr 0 0 0,.ptr 1 0 0] [.var [num k],fnB]=some (num c,[.var [num k'],fnB]))→∃B,∀N,B≤N→callF tab ext N (.fn 151) [.agg [num op,num n,strX s,.sl false 6 vs,.sl false 5 ar],num lev,.ptr 0 0 0,.ptr 1 0 0] [.var [num k],fnB]=some (num c,[.var [num k'],fnB]):=fun {c k' B} h=>⟨B+1,fun N hN=>by
   obtain ⟨M,rfl⟩:∃M,N=M+1:=⟨N-1,by omega⟩
   exact h M (by omega)⟩
  have hD8:∀e,e∈ar→D T (9+(h:Int)) 8 e:=fun e he=>zbe h (a6 e he)
  have hv:∀e,e∈vs→D T (9+(h:Int)) 1 e:=fun e he=>kQ (by omega) (a4 e he)
  obtain ⟨c,hc,B1,zkz⟩:=Y0 (H:=9+(h:Int)) (op:=op) (n:=n) (by omega) a1 a2 a3 hv hD8 a5
  cases h1:(k==256) with
  |true=>exact ⟨9,k,by decide,k0,k1,(fun e=>by cases e),lift (B:=0) fun M _=>aB [(12,.b true)] [] (pf1 h1) (r:=some (num 9,[.var [num k],fnB])) (by kernel_rfl)⟩
  |false=>
   have kne:k≠256:=by simpa using h1
   have hk:IntKind.i64.wrap (k+1)=k+1:=by rw [IntKind.wrap_i64];omega
   cases h2:decide (lev>8) with
   |true=>exact ⟨23,k+1,by decide,by omega,by omega,(fun e=>by cases e),lift (B:=0) fun M _=>aB [(12,.b false),(14,.i (k+1)),(16,.b true)] [] (pf3 h1 hk h2) (r:=some (num 23,[.var [num (k+1)],fnB])) (by kernel_rfl)⟩
   |false=>
    by_cases c0:c=0
    ·subst c0
     obtain ⟨q,hq,q1,q2,q3,q4⟩:=hc.1 rfl
     obtain ⟨e,σ',B2,hr,hl⟩:=XM (H:=9+(h:Int)) lev false ar ar.length rfl a3 l0 (by omega) (fun x hx=>by
      cases h with
      |zero=>exact (a6 x hx).elim
      |succ h'=>
       obtain ⟨op2,n2,s2,u2,vs2,v2,ar2,e,_⟩:=a6 x hx
       exact ⟨op2,n2,s2,u2,vs2,v2,ar2,e,fun k' k2 k3=>Nk (h'+1) op2 n2 s2 u2 v2 vs2 ar2 (e▸a6 x hx) (lev+1) k' (by omega) (by omega) k2 k3⟩) (k0:=k+1) (by omega) (by omega)
      (τ:=⟨[(1,num lev),(3,.ptr 1 0 0),(23,.sl false 5 ar),(24,nat ar.length),(25,num 0)],[.var [num (k+1)],fnB,.var [num op,num n,strX s,.sl false 6 vs,.sl false 5 ar]]⟩) (by kernel_rfl)
     rcases hr with ⟨c,k',y,c1,c2,c3,rfl,rfl⟩|⟨k',c2,c3,rfl,rfl,hall⟩
     ·exact ⟨c,k',c1.2,c2,c3,fun e=>absurd e c1.1,lift (B:=max B1 B2) fun M hM=>aB [(12,.b false),(14,.i (k+1)),(16,.b false),(18,.p (num 0))] [(.ret,⟨[(6,num c)],[.var [num k'],fnB,.var y]⟩)] (pf5 h1 hk h2 (zkz M (by omega)) (hl M (by omega))) (r:=some (num c,[.var [num k'],fnB])) (by kernel_rfl)⟩
     ·refine ⟨0,k',by decide,c2,c3,fun _=>?_,lift (B:=max B1 B2) fun M hM=>?_⟩
      ·rw [show (9:Int)+((h+1:Nat):Int)=9+(h:Int)+1 by omega]
       exact zjC hq (by omega) q1 q2 a1 a2 a3 q3 q4 hv hall
      ·have hl:=hl M (by omega)
       generalize ar.length=m at hl
       exact aB [(12,.b false),(14,.i (k+1)),(16,.b false),(18,.p (num 0))] [(.exit 0,⟨[(1,num lev),(3,.ptr 1 0 0),(23,.sl false 5 ar),(24,nat m),(25,nat m),(26,boolX false)],[.var [num k'],fnB]⟩)] (pf5 h1 hk h2 (zkz M (by omega)) hl) (r:=some (num 0,[.var [num k'],fnB])) (by kernel_rfl)
    ·have hb:(c !=0)=true:=by simpa using c0
     exact ⟨c,k+1,hc.2,by omega,by omega,fun e=>absurd e c0,lift (B:=B1) fun M hM=>aB [(12,.b false),(14,.i (k+1)),(16,.b false),(18,.p (num c)),(20,.b true)] [] (pf5 h1 hk h2 (zkz M hM) hb) (r:=some (num c,[.var [num (k+1)],fnB])) (by kernel_rfl)⟩
theorem RS {h:Nat}(hh:h≤900){op n:Int}{s:ByteArray}{u v:Bool}{vs ar:List (List X)}(hx:okE h [num op,num n,strX s,.sl u 6 vs,.sl v 5 ar]):∃c:Int,((c=0→D T (9+(h:Int)) 10 [num op,num n,strX s,.sl u 6 vs,.sl v 5 ar])∧0≤c∧c≤100)∧Back 96 [.agg [num op,num n,strX s,.sl u 6 vs,.sl v 5 ar]] (num c):=by
 obtain ⟨c,k',cr,c1,c2,c3,B,hB⟩:=Nk h op n s u v vs ar hx 1 0 (by decide) (by omega) (by decide) (by decide)
 refine ⟨c,⟨fun e=>Jb (c3 e),cr⟩,B+1,fun N hN=>?_⟩
 obtain ⟨M,rfl⟩:∃M,N=M+1:=⟨N-1,by omega⟩
 exact aB [(8,.r (num c) [.var [num k'],fnB])] [] (pf1 (hB M (by omega))) (r:=some (num c,[])) (by kernel_rfl)
end Ct
end Go.Proofs.YtjbndifenhihhaaGreatDoor
namespace Go.Proofs.YtjbndifenhihhaaGreatDoor
open Go Go.Em Go.Ab
set_option maxRecDepth 100000
namespace Ct
def zkE:List Ctr:=[mkC 317 [.ir .i64 0 12] [] none [(.ir .i64 1 1000000000000,[])]]
theorem zgj (n:Nat)(h:n≤12):∃z:Int,1≤z∧z≤1000000000000∧∀N,callF tab ext (N+20) (.fn 317) [.v (.int .i64 n)] []=some (.v (.int .i64 z),[]):=by
 have:n=0∨n=1∨n=2∨n=3∨n=4∨n=5∨n=6∨n=7∨n=8∨n=9∨n=10∨n=11∨n=12:=by omega
 rcases this with rfl|rfl|rfl|rfl|rfl|rfl|rfl|rfl|rfl|rfl|rfl|rfl|rfl
 ·exact ⟨1,by omega,by omega,fun N=>aB [] [] pf0 (r:=some (.v (.int .i64 1),[])) (by kernel_rfl)⟩
 ·exact ⟨10,by omega,by omega,fun N=>aB [] [] pf0 (r:=some (.v (.int .i64 10),[])) (by kernel_rfl)⟩
 ·exact ⟨100,by omega,by omega,fun N=>aB [] [] pf0 (r:=some (.v (.int .i64 100),[])) (by kernel_rfl)⟩
 ·exact ⟨1000,by omega,by omega,fun N=>aB [] [] pf0 (r:=some (.v (.int .i64 1000),[])) (by kernel_rfl)⟩
 ·exact ⟨10000,by omega,by omega,fun N=>aB [] [] pf0 (r:=some (.v (.int .i64 10000),[])) (by kernel_rfl)⟩
 ·exact ⟨100000,by omega,by omega,fun N=>aB [] [] pf0 (r:=some (.v (.int .i64 100000),[])) (by kernel_rfl)⟩
 ·exact ⟨1000000,by omega,by omega,fun N=>aB [] [] pf0 (r:=some (.v (.int .i64 1000000),[])) (by kernel_rfl)⟩
 ·exact ⟨10000000,by omega,by omega,fun N=>aB [] [] pf0 (r:=some (.v (.int .i64 10000000),[])) (by kernel_rfl)⟩
 ·exact ⟨100000000,by omega,by omega,fun N=>aB [] [] pf0 (r:=some (.v (.int .i64 100000000),[])) (by kernel_rfl)⟩
 ·exact ⟨1000000000,by omega,by omega,fun N=>aB [] [] pf0 (r:=some (.v (.int .i64 1000000000),[])) (by kernel_rfl)⟩
 ·exact ⟨10000000000,by omega,by omega,fun N=>aB [] [] pf0 (r:=some (.v (.int .i64 10000000000),[])) (by kernel_rfl)⟩
 ·exact ⟨100000000000,by omega,by omega,fun N=>aB [] [] pf0 (r:=some (.v (.int .i64 100000000000),[])) (by kernel_rfl)⟩
 ·exact ⟨1000000000000,by omega,by omega,fun N=>aB [] [] pf0 (r:=some (.v (.int .i64 1000000000000),[])) (by kernel_rfl)⟩
theorem V9:ah T Gm zkE:=.one (dA (fun o ho=>by rw [List.mem_singleton.1 ho];exact ⟨rfl,rfl⟩) fun xs bx ha hb=>by
 match xs,bx,ha,hb with
 |[_],[],⟨⟨z,rfl,h1,h2⟩,_⟩,_=>
  obtain ⟨n,rfl⟩:∃n:Nat,z=n:=⟨z.toNat,by omega⟩
  obtain ⟨y,h3,h4,hy⟩:=zgj n (by omega)
  refine ⟨_,List.mem_singleton.2 rfl,.v (.int .i64 y),[],⟨y,rfl,h3,h4⟩,trivial,20,fun N hN=>?_⟩
  obtain ⟨M,rfl⟩:∃M,N=M+20:=⟨N-20,by omega⟩
  exact hy M)
end Ct
end Go.Proofs.YtjbndifenhihhaaGreatDoor
namespace Go.Proofs.YtjbndifenhihhaaGreatDoor
open Go Go.Em Go.Ab
set_option maxRecDepth 100000
set_option linter.all false
namespace Ct
def zdy:List Ctr:=[mkC 275 [.ir .i64 (-999999999999999) (-1)] [] none [(.ir .i64 1 999999999999999,[])],mkC 275 [.ir .i64 0 0] [] none [(.ir .i64 0 0,[])],mkC 275 [.ir .i64 1 999999999999999] [] none [(.ir .i64 1 999999999999999,[])],dN 275 [int] [] none [(int,[],[lt 1 0 2])]]
theorem vk:ah T Gm zdy:=aA (L:=[]) (K:=K) (orc:=(aT [])) .nil (by kernel_rfl) (by kernel_rfl)
def zkp:List Ctr:=[dN 283 [pJ] [] none [(.k .i64 0,[],bd 1 (-999999999999999) 999999999999999++bd 2 0 12),(.ir .i64 1 100,[],[])]]
theorem Lh:ah T Gm zkp:=aA (L:=zdy) (K:=K) (orc:=(aT [])) vk (by kernel_rfl) (by kernel_rfl)
def zdA:List Ctr:=[mkC 262 [.sl 2 9] [] none [(err,[])]]
theorem vw:ah T Gm zdA:=aA (L:=zkp) (K:=K) (orc:=(aT [⟨[6,7,8],fun e n=>(n+1,[ak (.k 0) ⟨n+0,0⟩,ak ⟨n+0,0⟩ (e 1)],[(6,.sl none 2 9 (e 0) (e 1)),(7,.i .i64 (e 1)),(8,.i .i64 ⟨n+0,0⟩)],[],(e 1,⟨n+0,0⟩))⟩])) Lh (by kernel_rfl) (by kernel_rfl)
def zkr:List Ctr:=[mkC 263 [NZ] [] none [(.tu [int,int],[])]]
theorem VQ:ah T Gm zkr:=aA (L:=zkE) (K:=K) (orc:=(aT [])) V9 (by kernel_rfl) (by kernel_rfl)
def zm2:List Ctr:=[mkC 100 [int] [] none [((.kb true),[]),((.kb false),[])]]
theorem zd6:ah T Gm zm2:=aA (L:=[]) (K:=K) (orc:=(aT [])) .nil (by kernel_rfl) (by kernel_rfl)
def zi7:List Ctr:=[mkC 54 [int,int] [] none [((int),[])]]
theorem Lu:ah T Gm zi7:=aA (L:=zm2) (K:=K) (orc:=(aT [])) zd6 (by kernel_rfl) (by kernel_rfl)
def zkD:List Ctr:=[mkC 71 [.sl 1 3] [] none [((int),[])]]
theorem V5:ah T Gm zkD:=aA (L:=[]) (K:=K) (orc:=(aT [⟨[3,6,7,8],fun e n=>(n+1,[ak (.k 0) ⟨n+0,0⟩,ak ⟨n+0,0⟩ (e 2)],[(3,.i .i64 (.k 0)),(6,.sl none 1 3 (e 1) (e 2)),(7,.i .i64 (e 2)),(8,.i .i64 ⟨n+0,0⟩)],[],(e 2,⟨n+0,0⟩))⟩])) .nil (by kernel_rfl) (by kernel_rfl)
def zoF:List Ctr:=[mkC 206 [NZ,NZ] [] none [(.tu [int,err],[])]]
theorem zdL:ah T Gm zoF:=aA (L:=(zdA++(zkr++(zi7++zkD)))) (K:=K) (orc:=(aT [])) (ah.append vw (ah.append VQ (ah.append Lu V5))) (by kernel_rfl) (by kernel_rfl)
def zi3:List Ctr:=[mkC 276 [int,int] [] none [(((.tu [pJ,err])),[])]]
theorem Lj:ah T Gm zi3:=aA (L:=zdy) (K:=K) (orc:=(aT [])) vk (by kernel_rfl) (by kernel_rfl)
def zkq:List Ctr:=[mkC 273 [.sl 2 9,.ir .i64 0 12] [] none [(.tu [pJ,err],[])]]
theorem VP:ah T Gm zkq:=aA (L:=(zkE++(zkr++(zdy++zi3)))) (K:=K) (orc:=(aT [⟨[1,4,6,7,8,14,15,16],fun e n=>(n+3,[ak (.k 0) ⟨n+2,0⟩,ak ⟨n+2,0⟩ (e 6)],[(1,.i .i64 (e 0)),(4,.ptr 0 (.k 0) 0),(6,.i .i64 (e 2)),(7,.i .i64 ⟨n+0,0⟩),(8,.i .i64 ⟨n+1,0⟩),(14,.sl none 2 9 (e 5) (e 6)),(15,.i .i64 (e 6)),(16,.i .i64 ⟨n+2,0⟩)],[.var [.i .i64 (.k 0),.i .i64 (.k 0)]],(e 6,⟨n+2,0⟩))⟩])) (ah.append V9 (ah.append VQ (ah.append vk Lj))) (by kernel_rfl) (by kernel_rfl)
def zoE:List Ctr:=[mkC 212 [.sl 2 9] [] none [(.tu [pJ,err],[])]]
theorem zdJ:ah T Gm zoE:=aA (L:=(zdA++zkq)) (K:=K) (orc:=(aT [⟨[0,2,5,18,19,20],fun e n=>(n+2,[ak (.k 0) ⟨n+0,0⟩,ak (.k 0) ⟨n+1,0⟩,ak ⟨n+1,0⟩ (e 1),ak ⟨n+0,0⟩ (.k 12)],[(0,.sl none 2 9 (e 0) (e 1)),(2,.ptr 0 (.k 0) 0),(5,.i .i64 ⟨n+0,0⟩),(18,.sl none 2 9 (e 0) (e 1)),(19,.i .i64 (e 1)),(20,.i .i64 ⟨n+1,0⟩)],[.var [.i .i64 (.k 0),.i .i64 (.k 0)]],(e 1,⟨n+1,0⟩))⟩])) (ah.append vw VP) (by kernel_rfl) (by kernel_rfl)
def zmM:List Ctr:=[mkC 214 [NZ,NZ] [] none [(.tu [pJ,err],[])]]
theorem VR:ah T Gm zmM:=aA (L:=(zdA++zkq)) (K:=K) (orc:=(aT [])) (ah.append vw VP) (by kernel_rfl) (by kernel_rfl)
def zoD:List Ctr:=[mkC 215 [NZ,NZ] [] none [(.tu [pJ,err],[])]]
theorem zdI:ah T Gm zoD:=aA (L:=(zdA++zmM)) (K:=K) (orc:=(aT [])) (ah.append vw VR) (by kernel_rfl) (by kernel_rfl)
def zoC:List Ctr:=[mkC 216 [NZ,.ag [.ir .i64 (-999999999999999) (-1),.ir .i64 0 12]] [] none [(.tu [pJ,err],[])],mkC 216 [NZ,.ag [.ir .i64 0 0,.ir .i64 0 12]] [] none [(.tu [pJ,err],[])],mkC 216 [NZ,.ag [.ir .i64 1 999999999999999,.ir .i64 0 12]] [] none [(.tu [pJ,err],[])]]
theorem Lp:ah T Gm zoC:=aA (L:=(zdA++(zdy++zi3))) (K:=K) (orc:=(aT [])) (ah.append vw (ah.append vk Lj)) (by kernel_rfl) (by kernel_rfl)
def zmD:List Ctr:=[mkC 277 [.ir .i64 (-999999999999999) 999999999999999,.ir .i64 (-999999999999999) (-1),.ir .i64 (-24) 24] [] none [(int,[])],mkC 277 [.ir .i64 (-999999999999999) 999999999999999,.ir .i64 1 999999999999999,.ir .i64 (-24) 24] [] none [(int,[])]]
theorem zdx:ah T Gm zmD:=aA (L:=zdy) (K:=K) (orc:=(aT [⟨[0,1,2],fun e n=>(n+2,[ak (.k 0) ⟨n+0,-1⟩,ak ⟨n+1,0⟩ (.k 24),ak (e 2) ⟨n+1,0⟩,ak ⟨n+0,0⟩ (.k 39999999999999960)],[(0,.i .i64 (e 0)),(1,.i .i64 ⟨n+0,0⟩),(2,.i .i64 ⟨n+1,0⟩)],[],(e 1,⟨n+1,0⟩))⟩,⟨[1,2,7,8],fun e n=>(n+3,[ak (.k 0) ⟨n+0,0⟩,ak ⟨n+0,0⟩ (e 1),ak ⟨n+1,0⟩ (.k 9223372036854775807),ak (.k 0) ⟨n+1,9223372036854775808⟩,ak (.k 0) ⟨n+2,39999999999999959⟩,ak ⟨n+2,0⟩ ((e 0).up (-1))],[(1,.i .i64 (e 0)),(2,.i .i64 ⟨n+0,0⟩),(7,.i .i64 ⟨n+1,0⟩),(8,.i .i64 ⟨n+2,0⟩)],[],(⟨n+0,0⟩,.k 0))⟩,⟨[0,1,2],fun e n=>(n+2,[ak (.k 0) ⟨n+0,-1⟩,ak ⟨n+1,0⟩ (.k 24),ak (e 2) ⟨n+1,0⟩,ak ⟨n+0,0⟩ (.k 39999999999999960)],[(0,.i .i64 (e 0)),(1,.i .i64 ⟨n+0,0⟩),(2,.i .i64 ⟨n+1,0⟩)],[],(e 1,⟨n+1,0⟩))⟩,⟨[1,2,7,8],fun e n=>(n+3,[ak (.k 0) ⟨n+0,0⟩,ak ⟨n+0,0⟩ (e 1),ak ⟨n+1,0⟩ (.k 9223372036854775807),ak (.k 0) ⟨n+1,9223372036854775808⟩,ak (.k 0) ⟨n+2,39999999999999959⟩,ak ⟨n+2,0⟩ ((e 0).up (-1))],[(1,.i .i64 (e 0)),(2,.i .i64 ⟨n+0,0⟩),(7,.i .i64 ⟨n+1,0⟩),(8,.i .i64 ⟨n+2,0⟩)],[],(⟨n+0,0⟩,.k 0))⟩])) vk (by kernel_rfl) (by kernel_rfl)
def zoB:List Ctr:=[mkC 217 [NZ,.ag [.ir .i64 (-999999999999999) (-1),.ir .i64 0 12],int] [] none [(.tu [pJ,err],[])],mkC 217 [NZ,.ag [.ir .i64 0 0,.ir .i64 0 12],int] [] none [(.tu [pJ,err],[])],mkC 217 [NZ,.ag [.ir .i64 1 999999999999999,.ir .i64 0 12],int] [] none [(.tu [pJ,err],[])]]
theorem Lm:ah T Gm zoB:=aA (L:=(zdA++(zmD++zi3))) (K:=K) (orc:=(aT [])) (ah.append vw (ah.append zdx Lj)) (by kernel_rfl) (by kernel_rfl)
def zmL:List Ctr:=[mkC 221 [pJ] [] none [(((.tu [pJ,err])),[])]]
theorem zdH:ah T Gm zmL:=aA (L:=zkp) (K:=K) (orc:=(aT [])) Lh (by kernel_rfl) (by kernel_rfl)
end Ct
end Go.Proofs.YtjbndifenhihhaaGreatDoor
namespace Go.Proofs.YtjbndifenhihhaaGreatDoor
open Go Go.Em Go.Ab
set_option maxRecDepth 100000
namespace Ct
def okN (a s:Int):Prop:=-999999999999999≤a∧a≤999999999999999∧0≤s∧s≤12
theorem zbx (a s:Int):∃e:Int,((e=0→okN a s)∧0≤e∧e≤100)∧∃B,∀N,B≤N→callF tab ext N (.fn 283) [.agg [num a,num s]] []=some (num e,[]):=by
 have h:=Lh _ (List.mem_singleton.2 rfl)
 obtain ⟨o,ho,ρ',r,bx,m1,f1,g1,g2,B,hB⟩:=h (fun n=>match n with|1=>a|2=>s|_=>0) [.agg [num a,num s]] [] ⟨rfl,by decide,(fun f hf=>by cases hf),⟨[],List.mem_singleton.2 rfl,(fun f hf=>by cases hf)⟩,
  .cons (.agg (.cons (.i (by decide) (by show _=_+(0:Int);rw [Int.add_zero];rfl)) (.cons (.i (by decide) (by show _=_+(0:Int);rw [Int.add_zero];rfl)) .nil))) .nil,.nil⟩
 have z:ρ' 0=0:=m1.same 0 (by decide)
 have e1:ρ' 1=a:=m1.same 1 (by decide)
 have e2:ρ' 2=s:=m1.same 2 (by decide)
 rcases List.mem_cons.1 ho with rfl|ho
 ·have g1:G T _ ρ' (.i .i64 (.k 0)) r:=g1
  have g2:GBs T _ ρ' [] bx:=g2
  cases g2
  cases g1 with
  |i q1 q2=>
   rw [Lin.k_v z] at q2
   subst q2
   refine ⟨0,⟨fun _=>?_,by decide,by decide⟩,B,hB⟩
   have k1:=aC.1 (f1 (ak (.k (-999999999999999)) ⟨1,0⟩) (by simp [dN,mkC,CP,bd]))
   have k2:=aC.1 (f1 (ak ⟨1,0⟩ (.k 999999999999999)) (by simp [dN,mkC,CP,bd]))
   have k3:=aC.1 (f1 (ak (.k 0) ⟨2,0⟩) (by simp [dN,mkC,CP,bd]))
   have k4:=aC.1 (f1 (ak ⟨2,0⟩ (.k 12)) (by simp [dN,mkC,CP,bd]))
   simp only [Lin.k_v z] at k1 k2 k3 k4
   unfold Lin.v at k1 k2 k3 k4
   dsimp only at k1 k2 k3 k4
   rw [e1] at k1 k2
   rw [e2] at k3 k4
   unfold okN
   omega
 ·rcases List.mem_cons.1 ho with rfl|ho
  ·have g1:G T _ ρ' (.i .i64 ⟨3,0⟩) r:=g1
   have g2:GBs T _ ρ' [] bx:=g2
   cases g2
   cases g1 with
   |i q1 q2=>
    rename_i z1
    have k1:=aC.1 (f1 (ak (.k 1) ⟨3,0⟩) (by simp [dN,mkC,CP,bd,bnd,Sh.bld,lI,pO]))
    have k2:=aC.1 (f1 (ak ⟨3,0⟩ (.k 100)) (by simp [dN,mkC,CP,bd,bnd,Sh.bld,lI,pO]))
    rw [Lin.k_v z,←q2] at k1 k2
    exact ⟨z1,⟨fun e=>by omega,by omega,by omega⟩,B,hB⟩
  ·cases ho
def nc (p:Int×Int):List X:=[num p.1,num p.2]
theorem Dv (t:Bool)(l:List (Int×Int))(hl:l.length≤2000000):∃e:Int,((e=0→∀p,p∈l→okN p.1 p.2)∧0≤e∧e≤100)∧Back 262 [.sl t 2 (l.map nc)] (num e):=by
 obtain ⟨E,B,hE⟩:=Jh l (R:=fun p (e:Int)=>(e=0→okN p.1 p.2)∧0≤e∧e≤100) (Q:=fun p e N=>Gam.pureD (callF tab ext N) 283 [.agg [num p.1,num p.2]]=some (num e)) (fun p _=>by
  obtain ⟨e,h1,h2⟩:=zbx p.1 p.2
  exact ⟨e,h1,iF h2 rfl⟩)
 have hlen:(l.map nc).length=l.length:=List.length_map ..
 have key:=zch (nIn:=0) (b:=loopAt 262 0) (H:=fun j=>⟨[(6,.sl t 2 (l.map nc)),(7,nat (l.map nc).length),(8,nat j)],[]⟩) (P:=fun j=>E (l.getD j (0,0))!=0) (r:=fun j=>⟨[(2,num (E (l.getD j (0,0))))],[.var (nc (l.getD j (0,0)))]⟩)
  (υ:=fun j=>⟨[(6,.sl t 2 (l.map nc)),(7,nat (l.map nc).length),(8,nat (j+1))],[.var (nc (l.getD j (0,0)))]⟩) (τ:=⟨[(6,.sl t 2 (l.map nc)),(7,nat (l.map nc).length),(8,nat 0)],[]⟩) (n:=l.length) (B:=B) (e:=.exit 0)
  (fin:=⟨[(6,.sl t 2 (l.map nc)),(7,nat (l.map nc).length),(8,nat l.length),(9,boolX false)],[]⟩) (by kernel_rfl)
  (fun j hj hP M hM=>by
   have hg:(l.map nc)[j]?=some (nc (l.getD j (0,0))):=by rw [List.getElem?_map,List.getD_eq_getElem?_getD,List.getElem?_eq_getElem hj];rfl
   have hm:l.getD j (0,0)∈l:=by rw [List.getD_eq_getElem?_getD,List.getElem?_eq_getElem hj];exact List.getElem_mem hj
   have hc:=(hE _ hm).2 M hM
   generalize l.getD j (0,0)=p at hg hc hP ⊢
   generalize E p=e at hc hP ⊢
   obtain ⟨a,s⟩:=p
   exact run_of [(9,.b true),(10,.e ([num a,num s])),(13,.p (num e)),(15,.b true)] [] (pf4 (aI (j:=j) (k:=(l.map nc).length) (by omega)) hg hc hP) (lo':=[]) (by kernel_rfl))
  (fun j hj hP=>⟨by kernel_rfl,fun M hM=>by
   have hg:(l.map nc)[j]?=some (nc (l.getD j (0,0))):=by rw [List.getElem?_map,List.getD_eq_getElem?_getD,List.getElem?_eq_getElem hj];rfl
   have hm:l.getD j (0,0)∈l:=by rw [List.getD_eq_getElem?_getD,List.getElem?_eq_getElem hj];exact List.getElem_mem hj
   have hc:=(hE _ hm).2 M hM
   generalize l.getD j (0,0)=p at hg hc hP ⊢
   generalize E p=e at hc hP ⊢
   obtain ⟨a,s⟩:=p
   exact run_of [(9,.b true),(10,.e ([num a,num s])),(13,.p (num e)),(15,.b false),(17,.i (Int.ofNat (j+1)))] [] (pf5 (aI (j:=j) (k:=(l.map nc).length) (by omega)) hg hc hP (next_nat (j:=j) (by omega))) (lo':=[]) (by kernel_rfl)⟩)
  (fun M _=>run_of [(9,.b false)] [] (pf1 (aJ (j:=l.length) (k:=(l.map nc).length) (by omega))) (lo':=[]) (by kernel_rfl)) (by simp)
 rcases key with ⟨j,hj,hP,_,h⟩|⟨ha,h⟩
 ·have hm:l.getD j (0,0)∈l:=by rw [List.getD_eq_getElem?_getD,List.getElem?_eq_getElem hj];exact List.getElem_mem hj
  have hr:=(hE _ hm).1.2
  generalize l.getD j (0,0)=p at hP h hr
  obtain ⟨a,s⟩:=p
  generalize E (a,s)=e at hP h hr
  refine ⟨e,⟨fun e0=>by subst e0;simp at hP,hr⟩,B+l.length+2,fun N hN=>?_⟩
  obtain ⟨M,rfl⟩:∃M,N=M+1:=⟨N-1,by omega⟩
  exact aB [] [(.ret,⟨[(2,num e)],[.var (nc (a,s))]⟩)] (pf1 (h M (by omega) (by omega))) (r:=some (num e,[])) (by kernel_rfl)
 ·refine ⟨0,⟨fun _ p hp=>?_,by decide,by decide⟩,B+l.length+2,fun N hN=>?_⟩
  ·obtain ⟨j,hj,rfl⟩:=List.getElem_of_mem hp
   have:=ha j hj
   rw [List.getD_eq_getElem?_getD,List.getElem?_eq_getElem hj] at this
   exact (hE _ hp).1.1 (by simpa using this)
  ·obtain ⟨M,rfl⟩:∃M,N=M+1:=⟨N-1,by omega⟩
   exact aB [] [(.exit 0,⟨[(6,.sl t 2 (l.map nc)),(7,nat (l.map nc).length),(8,nat l.length),(9,boolX false)],[]⟩)] (pf1 (h M (by omega) (by omega))) (r:=some (num 0,[])) (by kernel_rfl)
end Ct
end Go.Proofs.YtjbndifenhihhaaGreatDoor
namespace Go.Proofs.YtjbndifenhihhaaGreatDoor
open Go Go.Em Go.Ab
set_option maxRecDepth 100000
namespace Ct
theorem isN {T:Tab}{h:Int}{x:X}(hx:pJ.Is T h x):∃a s,x=.agg [num a,num s]:=by
 match x,hx with
 |_,⟨xs,rfl,hx⟩=>
  match xs,hx with
  |[_,_],⟨⟨a,rfl⟩,⟨s,rfl⟩,_⟩=>exact ⟨a,s,rfl⟩
theorem Df {T:Tab}{h:Int}(a s:Int):pJ.Is T h (.agg [num a,num s]):=⟨_,rfl,⟨a,rfl⟩,⟨s,rfl⟩,trivial⟩
theorem SY {T:Tab}{h:Int}{a s:Int}(hk:okN a s):NZ.Is T h (.agg [num a,num s]):=⟨_,rfl,⟨a,rfl,hk.1,hk.2.1⟩,⟨s,rfl,hk.2.2.1,hk.2.2.2⟩,trivial⟩
theorem qO {f:FuncId}{args:List X}{outs:List (Sh×List BSh)}{o:Sh}{x:X}(ho:(o,[])∈outs)(hx:o.Is T 0 x){B:Nat}(h:∀M,B≤M→callF tab ext (M+1) (.fn f) args []=some (x,[])):Says T Gm f args [] outs:=
 ⟨_,ho,x,[],hx,trivial,B+1,fun N hN=>by
  obtain ⟨M,rfl⟩:∃M,N=M+1:=⟨N-1,by omega⟩
  exact h M (by omega)⟩
theorem Jj (t:Bool)(a s b u:Int):(okN a s∧okN b u)∨∃e:Int,((e !=0)=true∧0≤e∧e≤100)∧∃B,∀N,B≤N→Gam.pureD (callF tab ext N) 262 [.sl t 2 [[num a,num s],[num b,num u]]]=some (num e):=by
 obtain ⟨e,⟨h1,hr⟩,h2⟩:=Dv t [(a,s),(b,u)] (by simp)
 by_cases he:e=0
 ·exact .inl ⟨h1 he (a,s) (by simp),h1 he (b,u) (by simp)⟩
 ·exact .inr ⟨e,⟨by simpa using he,hr⟩,iF h2 rfl⟩
def zkH:List Ctr:=[mkC 206 [pJ,pJ] [] none [(.tu [int,err],[])]]
theorem Wj:ah T Gm zkH:=.one (dA (fun o ho=>by rw [List.mem_singleton.1 ho];exact ⟨rfl,rfl⟩) fun xs bx ha hb=>by
 match xs,bx,ha,hb with
 |[_,_],[],⟨h1,h2,_⟩,_=>
  obtain ⟨a,s,rfl⟩:=isN h1
  obtain ⟨b,u,rfl⟩:=isN h2
  rcases Jj false a s b u with ⟨v1,v2⟩|⟨e,⟨he,er⟩,B,hB⟩
  ·exact gu (zdL _ (List.mem_singleton.2 rfl)) rfl rfl ⟨SY v1,SY v2,trivial⟩ trivial
  ·exact qO (x:=.tup [num 0,num e]) (List.mem_singleton.2 rfl) ⟨_,rfl,⟨0,rfl⟩,⟨e,rfl,er⟩,trivial⟩ (B:=B) fun M hM=>aB [(14,.p (num e)),(16,.b true)] [] (pf2 (hB M hM) he) (r:=some (.tup [num 0,num e],[])) (by kernel_rfl))
def zkG:List Ctr:=[mkC 214 [pJ,pJ] [] none [(.tu [pJ,err],[])]]
theorem Wi:ah T Gm zkG:=.one (dA (fun o ho=>by rw [List.mem_singleton.1 ho];exact ⟨rfl,rfl⟩) fun xs bx ha hb=>by
 match xs,bx,ha,hb with
 |[_,_],[],⟨h1,h2,_⟩,_=>
  obtain ⟨a,s,rfl⟩:=isN h1
  obtain ⟨b,u,rfl⟩:=isN h2
  rcases Jj false a s b u with ⟨v1,v2⟩|⟨e,⟨he,er⟩,B,hB⟩
  ·exact gu (VR _ (List.mem_singleton.2 rfl)) rfl rfl ⟨SY v1,SY v2,trivial⟩ trivial
  ·exact qO (x:=.tup [.agg [num 0,num 0],num e]) (List.mem_singleton.2 rfl) ⟨_,rfl,Df 0 0,⟨e,rfl,er⟩,trivial⟩ (B:=B) fun M hM=>aB [(10,.p (num e)),(12,.b true)] [] (pf2 (hB M hM) he) (r:=some (.tup [.agg [num 0,num 0],num e],[])) (by kernel_rfl))
def znf:List Ctr:=[mkC 215 [pJ,pJ] [] none [(.tu [pJ,err],[])]]
theorem zeg:ah T Gm znf:=.one (dA (fun o ho=>by rw [List.mem_singleton.1 ho];exact ⟨rfl,rfl⟩) fun xs bx ha hb=>by
 match xs,bx,ha,hb with
 |[_,_],[],⟨h1,h2,_⟩,_=>
  obtain ⟨a,s,rfl⟩:=isN h1
  obtain ⟨b,u,rfl⟩:=isN h2
  rcases Jj false a s b u with ⟨v1,v2⟩|⟨e,⟨he,er⟩,B,hB⟩
  ·exact gu (zdI _ (List.mem_singleton.2 rfl)) rfl rfl ⟨SY v1,SY v2,trivial⟩ trivial
  ·exact qO (x:=.tup [.agg [num 0,num 0],num e]) (List.mem_singleton.2 rfl) ⟨_,rfl,Df 0 0,⟨e,rfl,er⟩,trivial⟩ (B:=B) fun M hM=>aB [(10,.p (num e)),(12,.b true)] [] (pf2 (hB M hM) he) (r:=some (.tup [.agg [num 0,num 0],num e],[])) (by kernel_rfl))
def zne:List Ctr:=[mkC 216 [pJ,pJ] [] none [(.tu [pJ,err],[])]]
theorem zef:ah T Gm zne:=.one (dA (fun o ho=>by rw [List.mem_singleton.1 ho];exact ⟨rfl,rfl⟩) fun xs bx ha hb=>by
 match xs,bx,ha,hb with
 |[_,_],[],⟨h1,h2,_⟩,_=>
  obtain ⟨a,s,rfl⟩:=isN h1
  obtain ⟨b,u,rfl⟩:=isN h2
  rcases Jj false a s b u with ⟨v1,v2⟩|⟨e,⟨he,er⟩,B,hB⟩
  ·have hb:∀lo hi:Int,lo≤b→b≤hi→(Sh.ag [.ir .i64 lo hi,.ir .i64 0 12]).Is T 0 (.agg [num b,num u]):=fun lo hi k1 k2=>⟨_,rfl,⟨b,rfl,k1,k2⟩,⟨u,rfl,v2.2.2.1,v2.2.2.2⟩,trivial⟩
   have w1:=v2.1
   have w2:=v2.2.1
   by_cases k1:b≤-1
   ·exact gu (Lp _ (List.mem_cons_self ..)) rfl rfl ⟨SY v1,hb _ _ (by omega) (by omega),trivial⟩ trivial
   ·by_cases k2:b=0
    ·exact gu (Lp _ (List.mem_cons_of_mem _ (List.mem_cons_self ..))) rfl rfl ⟨SY v1,hb _ _ (by omega) (by omega),trivial⟩ trivial
    ·exact gu (Lp _ (List.mem_cons_of_mem _ (List.mem_cons_of_mem _ (List.mem_cons_self ..)))) rfl rfl ⟨SY v1,hb _ _ (by omega) (by omega),trivial⟩ trivial
  ·exact qO (x:=.tup [.agg [num 0,num 0],num e]) (List.mem_singleton.2 rfl) ⟨_,rfl,Df 0 0,⟨e,rfl,er⟩,trivial⟩ (B:=B) fun M hM=>aB [(11,.p (num e)),(13,.b true)] [] (pf2 (hB M hM) he) (r:=some (.tup [.agg [num 0,num 0],num e],[])) (by kernel_rfl))
def znd:List Ctr:=[mkC 217 [pJ,pJ,int] [] none [(.tu [pJ,err],[])]]
theorem zee:ah T Gm znd:=.one (dA (fun o ho=>by rw [List.mem_singleton.1 ho];exact ⟨rfl,rfl⟩) fun xs bx ha hb=>by
 match xs,bx,ha,hb with
 |[_,_,_],[],⟨h1,h2,⟨w,hw⟩,_⟩,_=>
  obtain ⟨a,s,rfl⟩:=isN h1
  obtain ⟨b,u,rfl⟩:=isN h2
  subst hw
  rcases Jj false a s b u with ⟨v1,v2⟩|⟨e,⟨he,er⟩,B,hB⟩
  ·have hb:∀lo hi:Int,lo≤b→b≤hi→(Sh.ag [.ir .i64 lo hi,.ir .i64 0 12]).Is T 0 (.agg [num b,num u]):=fun lo hi k1 k2=>⟨_,rfl,⟨b,rfl,k1,k2⟩,⟨u,rfl,v2.2.2.1,v2.2.2.2⟩,trivial⟩
   have w1:=v2.1
   have w2:=v2.2.1
   by_cases k1:b≤-1
   ·exact gu (Lm _ (List.mem_cons_self ..)) rfl rfl ⟨SY v1,hb _ _ (by omega) (by omega),⟨w,rfl⟩,trivial⟩ trivial
   ·by_cases k2:b=0
    ·exact gu (Lm _ (List.mem_cons_of_mem _ (List.mem_cons_self ..))) rfl rfl ⟨SY v1,hb _ _ (by omega) (by omega),⟨w,rfl⟩,trivial⟩ trivial
    ·exact gu (Lm _ (List.mem_cons_of_mem _ (List.mem_cons_of_mem _ (List.mem_cons_self ..)))) rfl rfl ⟨SY v1,hb _ _ (by omega) (by omega),⟨w,rfl⟩,trivial⟩ trivial
  ·exact qO (x:=.tup [.agg [num 0,num 0],num e]) (List.mem_singleton.2 rfl) ⟨_,rfl,Df 0 0,⟨e,rfl,er⟩,trivial⟩ (B:=B) fun M hM=>aB [(13,.p (num e)),(15,.b true)] [] (pf2 (hB M hM) he) (r:=some (.tup [.agg [num 0,num 0],num e],[])) (by kernel_rfl))
theorem Vf:∀{es:List (List X)} {h:Int},(∀e,e∈es→D T h 6 e)→∃l:List (Int×Int),es=l.map nc
 |[],_,_=>⟨[],rfl⟩
 |e::r,h,hd=>by
  obtain ⟨l,hl⟩:=Vf (es:=r) fun x hx=>hd x (List.mem_cons_of_mem _ hx)
  obtain ⟨_,alt,ha,hs⟩:=qG (hd e (List.mem_cons_self ..))
  rw [List.mem_singleton.1 ha] at hs
  match e,hs with
  |[x,y],⟨hx,hy,_⟩=>
   match x,y,hx,hy with
   |.v (.int _ a),.v (.int _ b),⟨rfl,_⟩,⟨rfl,_⟩=>exact ⟨(a,b)::l,by rw [hl];rfl⟩
def zng:List Ctr:=[mkC 212 [.sl 2 6] [] none [(.tu [pJ,err],[])]]
theorem zeh:ah T Gm zng:=.one (dA (fun o ho=>by rw [List.mem_singleton.1 ho];exact ⟨rfl,rfl⟩) fun xs bx ha hb=>by
 match xs,bx,ha,hb with
 |[_],[],⟨⟨t,es,h',rfl,hh,hl,hd⟩,_⟩,_=>
  obtain ⟨l,rfl⟩:=Vf hd
  have hlen:(l.map nc).length=l.length:=List.length_map ..
  have hl2:l.length≤2000000:=by unfold dX at hl;omega
  obtain ⟨e,⟨h1,er⟩,h2⟩:=Dv false l hl2
  obtain ⟨B,hB⟩:=iF h2 rfl
  by_cases he:e=0
  ·refine gu (zdJ _ (List.mem_singleton.2 rfl)) rfl rfl ⟨⟨t,l.map nc,1,rfl,by omega,hl,fun x hx=>?_⟩,trivial⟩ trivial
   obtain ⟨p,hp,rfl⟩:=List.mem_map.1 hx
   obtain ⟨k1,k2,k3,k4⟩:=h1 he p hp
   exact dY (by omega) (List.mem_singleton.2 rfl) ⟨⟨rfl,fun a e=>by cases e;exact k1,fun a e=>by cases e;exact k2⟩,⟨rfl,fun a e=>by cases e;exact k3,fun a e=>by cases e;exact k4⟩,trivial⟩
  ·have he':(e !=0)=true:=by simpa using he
   cases hb:decide (Int.ofNat (l.map nc).length>256) with
   |true=>exact qO (x:=.tup [.agg [num 0,num 0],num 9]) (List.mem_singleton.2 rfl) ⟨_,rfl,Df 0 0,⟨9,rfl,by decide,by decide⟩,trivial⟩ (B:=B) fun M hM=>aB [(10,.b true)] [] (pf1 hb) (r:=some (.tup [.agg [num 0,num 0],num 9],[])) (by kernel_rfl)
   |false=>exact qO (x:=.tup [.agg [num 0,num 0],num e]) (List.mem_singleton.2 rfl) ⟨_,rfl,Df 0 0,⟨e,rfl,er⟩,trivial⟩ (B:=B) fun M hM=>aB [(10,.b false),(13,.p (num e)),(15,.b true)] [] (pf3 hb (hB M hM) he') (r:=some (.tup [.agg [num 0,num 0],num e],[])) (by kernel_rfl))
end Ct
end Go.Proofs.YtjbndifenhihhaaGreatDoor
namespace Go.Proofs.YtjbndifenhihhaaGreatDoor
open Go Go.Em Go.Ab
set_option maxRecDepth 100000
namespace Ct
abbrev F5 (bx:List Bx):St:=⟨[(4,.sl true 6 []),(5,num 22)],bx⟩
section
variable (t2:Bool) (ps es:List (List X)) (np j n:Nat) (k i:Int) (nm:ByteArray)
abbrev inS (ns:List (List X)) (q m:Nat):St:=⟨[(1,.sl t2 3 ps),(9,.ptr 0 0 0),(10,.bs 1 0 q),(23,.sl t2 3 ps),(24,nat np),(25,nat j),(29,.sl true 6 es),(30,nat n),(31,nat m)],[.var [num k,num i,strX nm],.row 6 ns]⟩
abbrev inR (ns:List (List X)) (q m:Nat):St:=⟨[(1,.sl t2 3 ps),(9,.ptr 0 0 0),(10,.bs 1 0 q),(23,.sl t2 3 ps),(24,nat np),(25,nat j),(29,.bs 2 0 n),(30,nat n),(31,nat m)],[.var [num k,num i,strX nm],.row 6 ns,.row 6 es]⟩
abbrev eiS (ns:List (List X)) (q m:Nat):St:=⟨[(1,.sl t2 3 ps),(9,.ptr 0 0 0),(10,.bs 1 0 q),(23,.sl t2 3 ps),(24,nat np),(25,nat j),(29,.sl true 6 es),(30,nat n),(31,nat m),(32,boolX false)],[.var [num k,num i,strX nm],.row 6 ns]⟩
abbrev eiR (ns:List (List X)) (q m:Nat):St:=⟨[(1,.sl t2 3 ps),(9,.ptr 0 0 0),(10,.bs 1 0 q),(23,.sl t2 3 ps),(24,nat np),(25,nat j),(29,.bs 2 0 n),(30,nat n),(31,nat m),(32,boolX false)],[.var [num k,num i,strX nm],.row 6 ns,.row 6 es]⟩
end
def zf6 (bx:List Bx):Prop:=(∃a ns b,bx=[.var a,.row 6 ns,.var b])∨(∃a ns es b,bx=[.var a,.row 6 ns,.row 6 es,.var b])
theorem hz {es:List (List X)}{m:Nat}{x:List X}(h:es[m]?=some x):es[0+m]?=some x:=by rw [Nat.zero_add];exact h
theorem innerS (t2:Bool)(ps es:List (List X))(np j n:Nat){k i:Int}{nm:ByteArray}{h:Int}(p1:0≤i)(p2:i≤1000000)(p3:nm.size≤1000000)(hn:n=es.length)(hes:∀e,e∈es→D T (h+1) 11 e)(hl:es.length≤50000){τ:St}(hτ:canon 0 τ=some (inS t2 ps es np j n k i nm [] 0 0)):
  ∃e σ' B,((e=.ret∧∃bx,σ'=F5 bx∧zf6 bx)∨(∃ns:List (List X),e=.exit 2∧σ'=eiS t2 ps es np j n k i nm ns ns.length n∧ns.length≤6*n∧∀y,y∈ns→D T h 11 y))∧∀M,B≤M→run (callF tab ext M) 0 M (.loop (loopAt 210 1)) τ=some (e,σ'):=by
 refine lM (nIn:=0) (b:=loopAt 210 1) (H:=fun p:List (List X)×Nat×Nat=>inS t2 ps es np j n k i nm p.1 p.2.1 p.2.2) (I:=fun p=>p.2.1=p.1.length∧p.2.2≤n∧p.1.length≤6*p.2.2∧∀y,y∈p.1→D T h 11 y) (μ:=fun p=>n-p.2.2)
  (Q:=fun e σ'=>(e=.ret∧∃bx,σ'=F5 bx∧zf6 bx)∨(∃ns:List (List X),e=.exit 2∧σ'=eiS t2 ps es np j n k i nm ns ns.length n∧ns.length≤6*n∧∀y,y∈ns→D T h 11 y))
  (fun p hp=>?_) (a:=([],0,0)) ⟨rfl,Nat.zero_le _,Nat.zero_le _,fun y hy=>by cases hy⟩ hτ
 obtain ⟨ns,q,m⟩:=p
 obtain ⟨i1,i2,i3,i4⟩:=hp
 dsimp only at i1 i2 i3 i4 ⊢
 by_cases hm:m<n
 ·have h1:=aI hm
  have hmem:m<es.length:=by omega
  obtain ⟨x,hx⟩:∃x,es[m]?=some x:=⟨_,List.getElem?_eq_getElem hmem⟩
  have hd:=hes x (List.mem_of_getElem? hx)
  obtain ⟨h0,a,b,c,s,u,l,v,f,rfl,_⟩:=d11 hd
  have hd:=mV hd
  obtain ⟨g,B1,ha⟩:=wP (k:=k) p1 p2 p3 hd
  obtain ⟨ys,y1,y2,B2,hl2⟩:=Ip (k:=k) p1 p2 p3 hd
  cases g with
  |false=>exact .inr ⟨.ret,F5 [.var [num k,num i,strX nm],.row 6 ns,.var [num a,num b,num c,strX s,.sl u 6 l,.sl v 7 f]],B1,(by intro e;cases e),.inl ⟨rfl,_,rfl,.inl ⟨_,_,_,rfl⟩⟩,fun M hM=>run_of [(32,.b true),(33,.e [num a,num b,num c,strX s,.sl u 6 l,.sl v 7 f]),(37,.p (boolX false)),(38,.b true)] [] (pf4 h1 hx (ha M (by omega)) (show (!false)=true from rfl)) (lo':=[]) (by kernel_rfl)⟩
  |true=>
   have hroom:0+q=ns.length∧dD (q+ys.length) (87+1)=true∧ou 1 (X.sl false 6 ys).rows=false:=⟨by omega,jW (by omega) (by omega),rfl⟩
   refine .inl ⟨⟨[(1,.sl t2 3 ps),(9,.ptr 0 0 0),(10,.bs 3 0 (q+ys.length)),(23,.sl t2 3 ps),(24,nat np),(25,nat j),(29,.sl true 6 es),(30,nat n),(31,nat (m+1))],[.var [num k,num i,strX nm],.dead,.var [num a,num b,num c,strX s,.sl u 6 l,.sl v 7 f],.row 6 (ns++ys)]⟩,(ns++ys,q+ys.length,m+1),max B1 B2,fun M hM=>?_,by kernel_rfl,⟨by simp [i1],by dsimp only;omega,by simp only [List.length_append];omega,fun y hy=>?_⟩,by dsimp only;omega⟩
   ·exact run_of [(32,.b true),(33,.e [num a,num b,num c,strX s,.sl u 6 l,.sl v 7 f]),(37,.p (boolX true)),(38,.b false),(42,.p (.sl false 6 ys)),(43,.app),(44,.i (Int.ofNat (m+1)))] [] (pf7 h1 hx (ha M (by omega)) (show (!true)=false from rfl) (hl2 M (by omega)) hroom (next_nat (j:=m) (by omega))) (lo':=[]) (by kernel_rfl)
   ·rcases List.mem_append.1 hy with hy|hy
    ·exact i4 y hy
    ·exact y2 y hy
 ·have hmn:m=n:=by omega
  subst hmn
  subst i1
  exact .inr ⟨_,_,0,(by intro e;cases e),.inr ⟨ns,rfl,rfl,i3,i4⟩,fun M _=>run_of [(32,.b false)] [] (pf1 (aJ (Nat.lt_irrefl m))) (lo':=[]) (by kernel_rfl)⟩
theorem zhr (t2:Bool)(ps es:List (List X))(np j n:Nat){k i:Int}{nm:ByteArray}{h:Int}(p1:0≤i)(p2:i≤1000000)(p3:nm.size≤1000000)(hn:n=es.length)(hes:∀e,e∈es→D T (h+1) 11 e)(hl:es.length≤50000){τ:St}(hτ:canon 0 τ=some (inR t2 ps es np j n k i nm [] 0 0)):
  ∃e σ' B,((e=.ret∧∃bx,σ'=F5 bx∧zf6 bx)∨(∃ns:List (List X),e=.exit 2∧σ'=eiR t2 ps es np j n k i nm ns ns.length n∧ns.length≤6*n∧∀y,y∈ns→D T h 11 y))∧∀M,B≤M→run (callF tab ext M) 0 M (.loop (loopAt 210 1)) τ=some (e,σ'):=by
 refine lM (nIn:=0) (b:=loopAt 210 1) (H:=fun p:List (List X)×Nat×Nat=>inR t2 ps es np j n k i nm p.1 p.2.1 p.2.2) (I:=fun p=>p.2.1=p.1.length∧p.2.2≤n∧p.1.length≤6*p.2.2∧∀y,y∈p.1→D T h 11 y) (μ:=fun p=>n-p.2.2)
  (Q:=fun e σ'=>(e=.ret∧∃bx,σ'=F5 bx∧zf6 bx)∨(∃ns:List (List X),e=.exit 2∧σ'=eiR t2 ps es np j n k i nm ns ns.length n∧ns.length≤6*n∧∀y,y∈ns→D T h 11 y))
  (fun p hp=>?_) (a:=([],0,0)) ⟨rfl,Nat.zero_le _,Nat.zero_le _,fun y hy=>by cases hy⟩ hτ
 obtain ⟨ns,q,m⟩:=p
 obtain ⟨i1,i2,i3,i4⟩:=hp
 dsimp only at i1 i2 i3 i4 ⊢
 by_cases hm:m<n
 ·have h1:=aI hm
  have hmem:m<es.length:=by omega
  obtain ⟨x,hx⟩:∃x,es[m]?=some x:=⟨_,List.getElem?_eq_getElem hmem⟩
  have hd:=hes x (List.mem_of_getElem? hx)
  obtain ⟨h0,a,b,c,s,u,l,v,f,rfl,_⟩:=d11 hd
  have hd:=mV hd
  obtain ⟨g,B1,ha⟩:=wP (k:=k) p1 p2 p3 hd
  obtain ⟨ys,y1,y2,B2,hl2⟩:=Ip (k:=k) p1 p2 p3 hd
  cases g with
  |false=>exact .inr ⟨.ret,F5 [.var [num k,num i,strX nm],.row 6 ns,.row 6 es,.var [num a,num b,num c,strX s,.sl u 6 l,.sl v 7 f]],B1,(by intro e;cases e),.inl ⟨rfl,_,rfl,.inr ⟨_,_,_,_,rfl⟩⟩,fun M hM=>run_of [(32,.b true),(33,.at),(34,.ld [num a,num b,num c,strX s,.sl u 6 l,.sl v 7 f]),(37,.p (boolX false)),(38,.b true)] [] (pf5 h1 hm (hz hx) (ha M (by omega)) (show (!false)=true from rfl)) (lo':=[]) (by kernel_rfl)⟩
  |true=>
   have hroom:0+q=ns.length∧dD (q+ys.length) (87+1)=true∧ou 1 (X.sl false 6 ys).rows=false:=⟨by omega,jW (by omega) (by omega),rfl⟩
   refine .inl ⟨⟨[(1,.sl t2 3 ps),(9,.ptr 0 0 0),(10,.bs 4 0 (q+ys.length)),(23,.sl t2 3 ps),(24,nat np),(25,nat j),(29,.bs 2 0 n),(30,nat n),(31,nat (m+1))],[.var [num k,num i,strX nm],.dead,.row 6 es,.var [num a,num b,num c,strX s,.sl u 6 l,.sl v 7 f],.row 6 (ns++ys)]⟩,(ns++ys,q+ys.length,m+1),max B1 B2,fun M hM=>?_,by kernel_rfl,⟨by simp [i1],by dsimp only;omega,by simp only [List.length_append];omega,fun y hy=>?_⟩,by dsimp only;omega⟩
   ·exact run_of [(32,.b true),(33,.at),(34,.ld [num a,num b,num c,strX s,.sl u 6 l,.sl v 7 f]),(37,.p (boolX true)),(38,.b false),(42,.p (.sl false 6 ys)),(43,.app),(44,.i (Int.ofNat (m+1)))] [] (pf8 h1 hm (hz hx) (ha M (by omega)) (show (!true)=false from rfl) (hl2 M (by omega)) hroom (next_nat (j:=m) (by omega))) (lo':=[]) (by kernel_rfl)
   ·rcases List.mem_append.1 hy with hy|hy
    ·exact i4 y hy
    ·exact y2 y hy
 ·have hmn:m=n:=by omega
  subst hmn
  subst i1
  exact .inr ⟨_,_,0,(by intro e;cases e),.inr ⟨ns,rfl,rfl,i3,i4⟩,fun M _=>run_of [(32,.b false)] [] (pf1 (aJ (Nat.lt_irrefl m))) (lo':=[]) (by kernel_rfl)⟩
end Ct
end Go.Proofs.YtjbndifenhihhaaGreatDoor
namespace Go.Proofs.YtjbndifenhihhaaGreatDoor
open Go Go.Em Go.Ab
set_option maxRecDepth 100000
namespace Ct
theorem d7 {h:Int}{x:List X}(hd:D T h 7 x):∃(k i:Int) (nm:ByteArray),x=[num k,num i,strX nm]∧0≤i∧i≤1000000∧nm.size≤1000000:=by
 obtain ⟨h1,alt,ha,hs⟩:=qG hd
 obtain rfl:=List.mem_singleton.1 ha
 match x,hs with
 |[_,y,_],⟨k1,k2,k3,_⟩=>
  obtain ⟨k,rfl⟩:=lG k1
  obtain ⟨nm,rfl,_,h3⟩:=zf3 k3
  match y,k2 with
  |.v (.int _ i),⟨rfl,q1,q2⟩=>exact ⟨k,i,nm,rfl,q1 0 rfl,q2 1000000 rfl,h3⟩
section
variable (t2:Bool) (ps:List (List X)) (np:Nat)
abbrev ouH (p:Bool×List (List X)×Nat×Nat):St:=match p.1 with
 |true=>⟨[(1,.sl t2 3 ps),(7,.sl true 6 p.2.1),(23,.sl t2 3 ps),(24,nat np),(25,nat p.2.2.2)],[]⟩
 |false=>⟨[(1,.sl t2 3 ps),(7,.bs 0 0 p.2.2.1),(23,.sl t2 3 ps),(24,nat np),(25,nat p.2.2.2)],[.row 6 p.2.1]⟩
abbrev ouE (p:Bool×List (List X)×Nat×Nat):St:=match p.1 with
 |true=>⟨[(1,.sl t2 3 ps),(7,.sl true 6 p.2.1),(23,.sl t2 3 ps),(24,nat np),(25,nat p.2.2.2),(26,boolX false)],[]⟩
 |false=>⟨[(1,.sl t2 3 ps),(7,.bs 0 0 p.2.2.1),(23,.sl t2 3 ps),(24,nat np),(25,nat p.2.2.2),(26,boolX false)],[.row 6 p.2.1]⟩
end
def OuI (np:Nat)(p:Bool×List (List X)×Nat×Nat):Prop:=p.2.2.1=p.2.1.length∧p.2.2.2≤np∧(∀e,e∈p.2.1→D T (7-(p.2.2.2:Int)) 11 e)∧(p.2.2.2≤6→p.2.1.length≤6^p.2.2.2)
theorem zgZ {np:Nat}{p:Bool×List (List X)×Nat×Nat}(h:OuI np p):p.2.1.length≤50000:=by
 obtain ⟨h1,h2,h3,h4⟩:=h
 by_cases hj:p.2.2.2≤6
 ·have:=h4 hj
  have:6^p.2.2.2≤6^6:=Nat.pow_le_pow_right (by decide) hj
  have:6^6=46656:=rfl
  omega
 ·cases he:p.2.1 with
  |nil=>simp
  |cons x r=>
   have:=(qG (h3 x (by rw [he];exact List.mem_cons_self ..))).1
   omega
theorem outer (t2:Bool)(ps:List (List X)){hp:Int}(hps:∀e,e∈ps→D T hp 7 e)(hlen:ps.length≤1000000){x0:List X}(hx0:D T 7 11 x0){τ:St}(hτ:canon 0 τ=some (ouH t2 ps ps.length (true,[x0],1,0))):
  ∃e σ' B,((e=.ret∧∃bx,σ'=F5 bx∧zf6 bx)∨(∃p,e=.exit 0∧σ'=ouE t2 ps ps.length p∧p.2.2.1=p.2.1.length∧(∀y,y∈p.2.1→D T 7 11 y)∧p.2.1.length≤50000))∧∀M,B≤M→run (callF tab ext M) 0 M (.loop (loopAt 210 0)) τ=some (e,σ'):=by
 refine lM (nIn:=0) (b:=loopAt 210 0) (H:=ouH t2 ps ps.length) (I:=OuI ps.length) (μ:=fun p=>ps.length-p.2.2.2)
  (Q:=fun e σ'=>(e=.ret∧∃bx,σ'=F5 bx∧zf6 bx)∨(∃p,e=.exit 0∧σ'=ouE t2 ps ps.length p∧p.2.2.1=p.2.1.length∧(∀y,y∈p.2.1→D T 7 11 y)∧p.2.1.length≤50000))
  (fun p hp'=>?_) (a:=(true,[x0],1,0)) ⟨rfl,Nat.zero_le _,(fun e he=>by rw [List.mem_singleton.1 he];exact hx0),fun _=>Nat.le_refl _⟩ hτ
 have hl:=zgZ hp'
 obtain ⟨w,es,n,j⟩:=p
 obtain ⟨i1,i2,i3,i4⟩:=hp'
 dsimp only at i1 i2 i3 i4 hl ⊢
 by_cases hj:j<ps.length
 ·have h1:=aI hj
  obtain ⟨x,hx⟩:∃x,ps[j]?=some x:=⟨_,List.getElem?_eq_getElem hj⟩
  obtain ⟨k,i,nm,rfl,p1,p2,p3⟩:=d7 (hps x (List.mem_of_getElem? hx))
  have hes:∀e,e∈es→D T ((6-(j:Int))+1) 11 e:=fun e he=>by
   rw [show (6-(j:Int))+1=7-(j:Int) by omega];exact i3 e he
  generalize hnp:ps.length=np at*
  have next:∀{ns:List (List X)},ns.length≤6*n→(∀y,y∈ns→D T (6-(j:Int)) 11 y)→OuI np (false,ns,ns.length,j+1):=fun {ns} q1 q2=>by
   refine ⟨rfl,by dsimp only;omega,fun y hy=>?_,fun hj6=>?_⟩
   ·have:=q2 y hy
    rw [show (7:Int)-((j+1:Nat):Int)=6-(j:Int) by omega];exact this
   ·dsimp only at hj6 ⊢
    have:=i4 (by omega)
    rw [Nat.pow_succ]
    omega
  cases w with
  |true=>
   obtain ⟨e,σ',B,hr,hl2⟩:=innerS t2 ps es np j n (k:=k) (h:=6-(j:Int)) p1 p2 p3 i1 hes hl (τ:=⟨[(1,.sl t2 3 ps),(9,.ptr 0 0 0),(10,.bs 1 0 0),(23,.sl t2 3 ps),(24,nat np),(25,nat j),(29,.sl true 6 es),(30,nat n),(31,num 0)],[.var [num k,num i,strX nm],.row 6 []]⟩) (by kernel_rfl)
   subst i1
   rcases hr with ⟨rfl,bx,rfl,hbx⟩|⟨ns,rfl,rfl,q1,q2⟩
   ·rcases hbx with ⟨a,ns,b,rfl⟩|⟨a,ns,es',b,rfl⟩
    ·exact .inr ⟨.ret,F5 [.var a,.row 6 ns,.var b],B,(by intro e;cases e),.inl ⟨rfl,_,rfl,.inl ⟨_,_,_,rfl⟩⟩,fun M hM=>run_of [(26,.b true),(27,.e [num k,num i,strX nm])] [(.ret,F5 [.var a,.row 6 ns,.var b])] (pf3 h1 hx (hl2 M hM)) (lo':=[]) (by kernel_rfl)⟩
    ·exact .inr ⟨.ret,F5 [.var a,.row 6 ns,.row 6 es',.var b],B,(by intro e;cases e),.inl ⟨rfl,_,rfl,.inr ⟨_,_,_,_,rfl⟩⟩,fun M hM=>run_of [(26,.b true),(27,.e [num k,num i,strX nm])] [(.ret,F5 [.var a,.row 6 ns,.row 6 es',.var b])] (pf3 h1 hx (hl2 M hM)) (lo':=[]) (by kernel_rfl)⟩
   ·have hN:=next q1 q2
    generalize ns.length=q at hl2 hN
    refine .inl ⟨⟨[(1,.sl t2 3 ps),(7,.bs 1 0 q),(23,.sl t2 3 ps),(24,nat np),(25,nat (j+1))],[.var [num k,num i,strX nm],.row 6 ns]⟩,(false,ns,q,j+1),B,fun M hM=>?_,by kernel_rfl,hN,by dsimp only;omega⟩
    exact run_of [(26,.b true),(27,.e [num k,num i,strX nm]),(46,.i (Int.ofNat (j+1)))] [(.exit 2,eiS t2 ps es np j es.length k i nm ns q es.length)] (pf4 h1 hx (hl2 M hM) (next_nat (j:=j) (by omega))) (lo':=[]) (by kernel_rfl)
  |false=>
   obtain ⟨e,σ',B,hr,hl2⟩:=zhr t2 ps es np j n (k:=k) (h:=6-(j:Int)) p1 p2 p3 i1 hes hl (τ:=⟨[(1,.sl t2 3 ps),(9,.ptr 1 0 0),(10,.bs 2 0 0),(23,.sl t2 3 ps),(24,nat np),(25,nat j),(29,.bs 0 0 n),(30,nat n),(31,num 0)],[.row 6 es,.var [num k,num i,strX nm],.row 6 []]⟩) (by kernel_rfl)
   rcases hr with ⟨rfl,bx,rfl,hbx⟩|⟨ns,rfl,rfl,q1,q2⟩
   ·rcases hbx with ⟨a,ns,b,rfl⟩|⟨a,ns,es',b,rfl⟩
    ·exact .inr ⟨.ret,F5 [.var a,.row 6 ns,.var b],B,(by intro e;cases e),.inl ⟨rfl,_,rfl,.inl ⟨_,_,_,rfl⟩⟩,fun M hM=>run_of [(26,.b true),(27,.e [num k,num i,strX nm])] [(.ret,F5 [.var a,.row 6 ns,.var b])] (pf3 h1 hx (hl2 M hM)) (lo':=[]) (by kernel_rfl)⟩
    ·exact .inr ⟨.ret,F5 [.var a,.row 6 ns,.row 6 es',.var b],B,(by intro e;cases e),.inl ⟨rfl,_,rfl,.inr ⟨_,_,_,_,rfl⟩⟩,fun M hM=>run_of [(26,.b true),(27,.e [num k,num i,strX nm])] [(.ret,F5 [.var a,.row 6 ns,.row 6 es',.var b])] (pf3 h1 hx (hl2 M hM)) (lo':=[]) (by kernel_rfl)⟩
   ·have hN:=next q1 q2
    generalize ns.length=q at hl2 hN
    refine .inl ⟨⟨[(1,.sl t2 3 ps),(7,.bs 1 0 q),(23,.sl t2 3 ps),(24,nat np),(25,nat (j+1))],[.var [num k,num i,strX nm],.row 6 ns,.row 6 es]⟩,(false,ns,q,j+1),B,fun M hM=>?_,by kernel_rfl,hN,by dsimp only;omega⟩
    exact run_of [(26,.b true),(27,.e [num k,num i,strX nm]),(46,.i (Int.ofNat (j+1)))] [(.exit 2,eiR t2 ps es np j n k i nm ns q n)] (pf4 h1 hx (hl2 M hM) (next_nat (j:=j) (by omega))) (lo':=[]) (by kernel_rfl)
 ·have hjn:j=ps.length:=by omega
  have hd:∀y,y∈es→D T 7 11 y:=fun y hy=>kQ (by omega) (i3 y hy)
  generalize hnp:ps.length=np at*
  cases w with
  |true=>exact .inr ⟨_,_,0,(by intro e;cases e),.inr ⟨(true,es,n,j),rfl,rfl,i1,hd,hl⟩,fun M _=>run_of [(26,.b false)] [] (pf1 (aJ (j:=j) (k:=np) (by omega))) (lo':=[]) (by kernel_rfl)⟩
  |false=>exact .inr ⟨_,_,0,(by intro e;cases e),.inr ⟨(false,es,n,j),rfl,rfl,i1,hd,hl⟩,fun M _=>run_of [(26,.b false)] [] (pf1 (aJ (j:=j) (k:=np) (by omega))) (lo':=[]) (by kernel_rfl)⟩
section
variable (es:List (List X)) (n:Nat)
abbrev coS (ns:List (List X)) (q m:Nat):St:=⟨[(13,.bs 0 0 q),(55,.sl true 6 es),(56,nat n),(57,nat m)],[.row 6 ns]⟩
abbrev coR (ns:List (List X)) (q m:Nat):St:=⟨[(13,.bs 0 0 q),(55,.bs 1 0 n),(56,nat n),(57,nat m)],[.row 6 ns,.row 6 es]⟩
abbrev ceS (ns:List (List X)) (q m:Nat):St:=⟨[(13,.bs 0 0 q),(55,.sl true 6 es),(56,nat n),(57,nat m),(58,boolX false)],[.row 6 ns]⟩
abbrev ceR (ns:List (List X)) (q m:Nat):St:=⟨[(13,.bs 0 0 q),(55,.bs 1 0 n),(56,nat n),(57,nat m),(58,boolX false)],[.row 6 ns,.row 6 es]⟩
end
theorem copyS (es:List (List X))(n:Nat)(hn:n=es.length)(hes:∀e,e∈es→D T 7 11 e)(hl:es.length≤50000){τ:St}(hτ:canon 0 τ=some (coS es n [] 0 0)):
  ∃e σ' B,(∃ns:List (List X),e=.exit 4∧σ'=ceS es n ns ns.length n∧ns.length=n∧∀y,y∈ns→D T 7 1 y)∧∀M,B≤M→run (callF tab ext M) 0 M (.loop (loopAt 210 2)) τ=some (e,σ'):=by
 refine lM (nIn:=0) (b:=loopAt 210 2) (H:=fun p:List (List X)×Nat×Nat=>coS es n p.1 p.2.1 p.2.2) (I:=fun p=>p.2.1=p.1.length∧p.2.2≤n∧p.1.length=p.2.2∧∀y,y∈p.1→D T 7 1 y) (μ:=fun p=>n-p.2.2)
  (Q:=fun e σ'=>∃ns:List (List X),e=.exit 4∧σ'=ceS es n ns ns.length n∧ns.length=n∧∀y,y∈ns→D T 7 1 y)
  (fun p hp=>?_) (a:=([],0,0)) ⟨rfl,Nat.zero_le _,rfl,fun y hy=>by cases hy⟩ hτ
 obtain ⟨ns,q,m⟩:=p
 obtain ⟨i1,i2,i3,i4⟩:=hp
 dsimp only at i1 i2 i3 i4 ⊢
 by_cases hm:m<n
 ·have h1:=aI hm
  have hmem:m<es.length:=by omega
  obtain ⟨x,hx⟩:∃x,es[m]?=some x:=⟨_,List.getElem?_eq_getElem hmem⟩
  have hd:=hes x (List.mem_of_getElem? hx)
  obtain ⟨h0,a,b,c,s,u,l,v,f,rfl,_⟩:=d11 (h:=6) hd
  obtain ⟨a',b',c',s',t,l',t',f',y1,B1,hc⟩:=Dt (h:=6) (mV hd)
  have hroom:0+q=ns.length∧dD (q+[[num a',num b',num c',strX s',X.sl t 6 l',X.sl t' 7 f']].length) (87+1)=true∧ou 0 (X.sl true 6 [[num a',num b',num c',strX s',X.sl t 6 l',X.sl t' 7 f']]).rows=false:=⟨by omega,jW (by simp only [List.length_cons,List.length_nil];omega) (by simp only [List.length_cons,List.length_nil];omega),rfl⟩
  refine .inl ⟨⟨[(13,.bs 2 0 (q+1)),(55,.sl true 6 es),(56,nat n),(57,nat (m+1))],[.dead,.var [num a,num b,num c,strX s,.sl u 6 l,.sl v 7 f],.row 6 (ns++[[num a',num b',num c',strX s',.sl t 6 l',.sl t' 7 f']])]⟩,(ns++[[num a',num b',num c',strX s',.sl t 6 l',.sl t' 7 f']],q+1,m+1),B1,fun M hM=>?_,by kernel_rfl,⟨by simp [i1],by dsimp only;omega,by simp [i3],fun y hy=>?_⟩,by dsimp only;omega⟩
  ·exact run_of [(58,.b true),(59,.e [num a,num b,num c,strX s,.sl u 6 l,.sl v 7 f]),(63,.p (.agg [num a',num b',num c',strX s',.sl t 6 l',.sl t' 7 f'])),(65,.app),(66,.i (Int.ofNat (m+1)))] [] (pf5 h1 hx (hc M hM) hroom (next_nat (j:=m) (by omega))) (lo':=[]) (by kernel_rfl)
  ·rcases List.mem_append.1 hy with hy|hy
   ·exact i4 y hy
   ·rw [List.mem_singleton.1 hy];exact y1
 ·have hmn:m=n:=by omega
  subst hmn
  subst i1
  exact .inr ⟨_,_,0,(by intro e;cases e),⟨ns,rfl,rfl,i3,i4⟩,fun M _=>run_of [(58,.b false)] [] (pf1 (aJ (Nat.lt_irrefl m))) (lo':=[]) (by kernel_rfl)⟩
theorem zlw (es:List (List X))(n:Nat)(hn:n=es.length)(hes:∀e,e∈es→D T 7 11 e)(hl:es.length≤50000){τ:St}(hτ:canon 0 τ=some (coR es n [] 0 0)):
  ∃e σ' B,(∃ns:List (List X),e=.exit 4∧σ'=ceR es n ns ns.length n∧ns.length=n∧∀y,y∈ns→D T 7 1 y)∧∀M,B≤M→run (callF tab ext M) 0 M (.loop (loopAt 210 2)) τ=some (e,σ'):=by
 refine lM (nIn:=0) (b:=loopAt 210 2) (H:=fun p:List (List X)×Nat×Nat=>coR es n p.1 p.2.1 p.2.2) (I:=fun p=>p.2.1=p.1.length∧p.2.2≤n∧p.1.length=p.2.2∧∀y,y∈p.1→D T 7 1 y) (μ:=fun p=>n-p.2.2)
  (Q:=fun e σ'=>∃ns:List (List X),e=.exit 4∧σ'=ceR es n ns ns.length n∧ns.length=n∧∀y,y∈ns→D T 7 1 y)
  (fun p hp=>?_) (a:=([],0,0)) ⟨rfl,Nat.zero_le _,rfl,fun y hy=>by cases hy⟩ hτ
 obtain ⟨ns,q,m⟩:=p
 obtain ⟨i1,i2,i3,i4⟩:=hp
 dsimp only at i1 i2 i3 i4 ⊢
 by_cases hm:m<n
 ·have h1:=aI hm
  have hmem:m<es.length:=by omega
  obtain ⟨x,hx⟩:∃x,es[m]?=some x:=⟨_,List.getElem?_eq_getElem hmem⟩
  have hd:=hes x (List.mem_of_getElem? hx)
  obtain ⟨h0,a,b,c,s,u,l,v,f,rfl,_⟩:=d11 (h:=6) hd
  obtain ⟨a',b',c',s',t,l',t',f',y1,B1,hc⟩:=Dt (h:=6) (mV hd)
  have hroom:0+q=ns.length∧dD (q+[[num a',num b',num c',strX s',X.sl t 6 l',X.sl t' 7 f']].length) (87+1)=true∧ou 0 (X.sl true 6 [[num a',num b',num c',strX s',X.sl t 6 l',X.sl t' 7 f']]).rows=false:=⟨by omega,jW (by simp only [List.length_cons,List.length_nil];omega) (by simp only [List.length_cons,List.length_nil];omega),rfl⟩
  refine .inl ⟨⟨[(13,.bs 3 0 (q+1)),(55,.bs 1 0 n),(56,nat n),(57,nat (m+1))],[.dead,.row 6 es,.var [num a,num b,num c,strX s,.sl u 6 l,.sl v 7 f],.row 6 (ns++[[num a',num b',num c',strX s',.sl t 6 l',.sl t' 7 f']])]⟩,(ns++[[num a',num b',num c',strX s',.sl t 6 l',.sl t' 7 f']],q+1,m+1),B1,fun M hM=>?_,by kernel_rfl,⟨by simp [i1],by dsimp only;omega,by simp [i3],fun y hy=>?_⟩,by dsimp only;omega⟩
  ·exact run_of [(58,.b true),(59,.at),(60,.ld [num a,num b,num c,strX s,.sl u 6 l,.sl v 7 f]),(63,.p (.agg [num a',num b',num c',strX s',.sl t 6 l',.sl t' 7 f'])),(65,.app),(66,.i (Int.ofNat (m+1)))] [] (pf6 h1 hm (hz hx) (hc M hM) hroom (next_nat (j:=m) (by omega))) (lo':=[]) (by kernel_rfl)
  ·rcases List.mem_append.1 hy with hy|hy
   ·exact i4 y hy
   ·rw [List.mem_singleton.1 hy];exact y1
 ·have hmn:m=n:=by omega
  subst hmn
  subst i1
  exact .inr ⟨_,_,0,(by intro e;cases e),⟨ns,rfl,rfl,i3,i4⟩,fun M _=>run_of [(58,.b false)] [] (pf1 (aJ (Nat.lt_irrefl m))) (lo':=[]) (by kernel_rfl)⟩
end Ct
end Go.Proofs.YtjbndifenhihhaaGreatDoor
namespace Go.Proofs.YtjbndifenhihhaaGreatDoor
open Go Go.Em Go.Ab
set_option maxRecDepth 100000
namespace Ct
theorem Rq (t2:Bool)(ps:List (List X)){hp:Int}(h0:0≤hp)(hps:∀e,e∈ps→D T hp 7 e)(hlen:ps.length≤1000000):∃g,∃B,∀N,B≤N→Gam.pureD (callF tab ext N) 211 [.sl t2 3 ps]=some (boolX g):=by
 obtain ⟨o,ho,r,bx,hi,hb,B,hB⟩:=gu (zd2 _ (List.mem_singleton.2 rfl)) rfl rfl (xs:=[.sl t2 3 ps]) ⟨⟨t2,ps,hp,rfl,h0,by unfold dX;omega,hps⟩,trivial⟩ (bx:=[]) trivial
 rcases List.mem_cons.1 ho with rfl|ho
 ·obtain rfl:=vO hb
  have hi:r=boolX true:=hi
  subst hi
  exact ⟨true,B,fun N hN=>bP (hB N hN) rfl⟩
 ·obtain rfl:=List.mem_singleton.1 ho
  obtain rfl:=vO hb
  have hi:r=boolX false:=hi
  subst hi
  exact ⟨false,B,fun N hN=>bP (hB N hN) rfl⟩
theorem J6 (t2:Bool)(ps:List (List X)){hp:Int}(h0:0≤hp)(hps:∀e,e∈ps→D T hp 7 e)(hlen:ps.length≤1000000):∃e:Int,(0≤e∧e≤100)∧∃B,∀N,B≤N→Gam.pureD (callF tab ext N) 269 [.sl t2 3 ps]=some (num e):=by
 obtain ⟨o,ho,r,bx,hi,hb,B,hB⟩:=gu (zdO _ (List.mem_singleton.2 rfl)) rfl rfl (xs:=[.sl t2 3 ps]) ⟨⟨t2,ps,hp,rfl,h0,by unfold dX;omega,hps⟩,trivial⟩ (bx:=[]) trivial
 obtain rfl:=List.mem_singleton.1 ho
 obtain rfl:=vO hb
 obtain ⟨e,rfl,er⟩:∃e,r=num e∧0≤e∧e≤100:=hi
 exact ⟨e,er,B,fun N hN=>bP (hB N hN) rfl⟩
def Xw (xs:List X)(r:X)(bx:List Bx):Prop:=∃B,∀N,B≤N→callF tab ext N (.fn 210) xs []=some (r,bx)
theorem nI {xs:List X}{B:Nat}{r:X}{bx:List Bx}(h:∀M,B≤M→callF tab ext (M+1) (.fn 210) xs []=some (r,bx)):Xw xs r bx:=⟨B+1,fun N hN=>by
 obtain ⟨M,rfl⟩:∃M,N=M+1:=⟨N-1,by omega⟩
 exact h M (by omega)⟩
theorem IZ (t2:Bool)(ps:List (List X)){hp:Int}(h0:0≤hp)(hps:∀e,e∈ps→D T hp 7 e)(hlen:ps.length≤1000000){x0:List X}(hx0:D T 7 11 x0):
  ∃g,(∃B,∀N,B≤N→Gam.pureD (callF tab ext N) 211 [.sl false 3 ps]=some (boolX g))∧((∃e:Int,((e !=0)=true∧0≤e∧e≤100)∧Xw [.agg x0,.sl t2 3 ps] (.tup [.sl true 6 [],num e]) [])∨∃ns:List (List X),(∀y,y∈ns→D T 7 1 y)∧ns.length≤50000∧(g=false→ns≠[])∧Xw [.agg x0,.sl t2 3 ps] (.tup [.bs 0 0 ns.length,num 0]) [.row 6 ns]):=by
 obtain ⟨g,B1,hev⟩:=Rq false ps h0 hps hlen
 refine ⟨g,⟨B1,hev⟩,?_⟩
 obtain ⟨e,er,B2,he⟩:=J6 false ps h0 hps hlen
 obtain ⟨_,a,b,c,s,u,l,v,f,rfl,_⟩:=d11 (h:=6) hx0
 cases h1:(e !=0) with
 |true=>exact .inl ⟨e,⟨h1,er⟩,nI (B:=B2) fun M hM=>aB [(17,.p (num e)),(19,.b true)] [] (pf2 (he M hM) h1) (r:=some (.tup [.sl true 6 [],num e],[])) (by kernel_rfl)⟩
 |false=>
  have e0:e=0:=by simpa using h1
  subst e0
  obtain ⟨e,σ',B3,hr,hl⟩:=outer t2 ps hps hlen hx0 (τ:=⟨[(1,.sl t2 3 ps),(7,.sl true 6 [[num a,num b,num c,strX s,.sl u 6 l,.sl v 7 f]]),(23,.sl t2 3 ps),(24,nat ps.length),(25,num 0)],[.var [num a,num b,num c,strX s,.sl u 6 l,.sl v 7 f]]⟩) (by kernel_rfl)
  rcases hr with ⟨rfl,bx,rfl,hbx⟩|⟨p,rfl,rfl,q1,q2,q3⟩
  ·rcases hbx with ⟨a',ns,b',rfl⟩|⟨a',ns,es',b',rfl⟩
   ·exact .inl ⟨22,⟨rfl,by decide,by decide⟩,nI (B:=max B2 B3) fun M hM=>aB [(17,.p (num 0))] [(.ret,F5 [.var a',.row 6 ns,.var b'])] (pf2 (he M (by omega)) (hl M (by omega))) (r:=some (.tup [.sl true 6 [],num 22],[])) (by kernel_rfl)⟩
   ·exact .inl ⟨22,⟨rfl,by decide,by decide⟩,nI (B:=max B2 B3) fun M hM=>aB [(17,.p (num 0))] [(.ret,F5 [.var a',.row 6 ns,.row 6 es',.var b'])] (pf2 (he M (by omega)) (hl M (by omega))) (r:=some (.tup [.sl true 6 [],num 22],[])) (by kernel_rfl)⟩
  ·obtain ⟨w,es,n,j⟩:=p
   dsimp only at q1 q2 q3 hl
   generalize ps.length=np at hl
   cases w with
   |true=>
    subst q1
    obtain ⟨e,σ',B4,⟨ns,rfl,rfl,r1,r2⟩,hl2⟩:=copyS es es.length rfl q2 q3 (τ:=⟨[(13,.bs 0 0 0),(55,.sl true 6 es),(56,nat es.length),(57,num 0)],[.row 6 []]⟩) (by kernel_rfl)
    cases hz:(Int.ofNat es.length==0) with
    |true=>
     cases g with
     |false=>exact .inl ⟨19,⟨rfl,by decide,by decide⟩,nI (B:=B1+B2+B3) fun M hM=>aB [(17,.p (num 0)),(49,.b true),(52,.p (boolX false)),(53,.b true)] [(.exit 0,ouE t2 ps np (true,es,es.length,j))] (pf5 (he M (by omega)) (hl M (by omega)) hz (hev M (by omega)) (show (!false)=true from rfl)) (r:=some (.tup [.sl true 6 [],num 19],[])) (by kernel_rfl)⟩
     |true=>
      refine .inr ⟨ns,r2,by omega,(fun e=>by cases e),nI (B:=B1+B2+B3+B4) fun M hM=>?_⟩
      generalize ns.length=q at hl2
      exact aB [(17,.p (num 0)),(49,.b true),(52,.p (boolX true)),(53,.b false)] [(.exit 0,ouE t2 ps np (true,es,es.length,j)),(.exit 4,ceS es es.length ns q es.length)] (pf6 (he M (by omega)) (hl M (by omega)) hz (hev M (by omega)) (show (!true)=false from rfl) (hl2 M (by omega))) (r:=some (.tup [.bs 0 0 q,num 0],[.row 6 ns])) (by kernel_rfl)
    |false=>
     have hne:ns≠[]:=fun e=>by
      subst e
      rw [←r1] at hz
      simp at hz
     refine .inr ⟨ns,r2,by omega,fun _=>hne,nI (B:=B1+B2+B3+B4) fun M hM=>?_⟩
     generalize ns.length=q at hl2
     exact aB [(17,.p (num 0)),(49,.b false)] [(.exit 0,ouE t2 ps np (true,es,es.length,j)),(.exit 4,ceS es es.length ns q es.length)] (pf4 (he M (by omega)) (hl M (by omega)) hz (hl2 M (by omega))) (r:=some (.tup [.bs 0 0 q,num 0],[.row 6 ns])) (by kernel_rfl)
   |false=>
    obtain ⟨e,σ',B4,⟨ns,rfl,rfl,r1,r2⟩,hl2⟩:=zlw es n q1 q2 q3 (τ:=⟨[(13,.bs 1 0 0),(55,.bs 0 0 n),(56,nat n),(57,num 0)],[.row 6 es,.row 6 []]⟩) (by kernel_rfl)
    cases hz:(Int.ofNat n==0) with
    |true=>
     cases g with
     |false=>exact .inl ⟨19,⟨rfl,by decide,by decide⟩,nI (B:=B1+B2+B3) fun M hM=>aB [(17,.p (num 0)),(49,.b true),(52,.p (boolX false)),(53,.b true)] [(.exit 0,ouE t2 ps np (false,es,n,j))] (pf5 (he M (by omega)) (hl M (by omega)) hz (hev M (by omega)) (show (!false)=true from rfl)) (r:=some (.tup [.sl true 6 [],num 19],[])) (by kernel_rfl)⟩
     |true=>
      refine .inr ⟨ns,r2,by omega,(fun e=>by cases e),nI (B:=B1+B2+B3+B4) fun M hM=>?_⟩
      generalize ns.length=q at hl2
      exact aB [(17,.p (num 0)),(49,.b true),(52,.p (boolX true)),(53,.b false)] [(.exit 0,ouE t2 ps np (false,es,n,j)),(.exit 4,ceR es n ns q n)] (pf6 (he M (by omega)) (hl M (by omega)) hz (hev M (by omega)) (show (!true)=false from rfl) (hl2 M (by omega))) (r:=some (.tup [.bs 0 0 q,num 0],[.row 6 ns])) (by kernel_rfl)
    |false=>
     have hne:ns≠[]:=fun e=>by
      subst e
      rw [←r1] at hz
      simp at hz
     refine .inr ⟨ns,r2,by omega,fun _=>hne,nI (B:=B1+B2+B3+B4) fun M hM=>?_⟩
     generalize ns.length=q at hl2
     exact aB [(17,.p (num 0)),(49,.b false)] [(.exit 0,ouE t2 ps np (false,es,n,j)),(.exit 4,ceR es n ns q n)] (pf4 (he M (by omega)) (hl M (by omega)) hz (hl2 M (by omega))) (r:=some (.tup [.bs 0 0 q,num 0],[.row 6 ns])) (by kernel_rfl)
theorem za4 {x:X}(hx:zjk.Is T 0 x):∃x0,x=.agg x0∧D T 7 11 x0:=by
 obtain ⟨h',xs,rfl,h1,h2,h3⟩:∃h' xs,x=.agg xs∧0≤h'∧h'≤6∧IsL T h' zf7 xs:=hx
 exact ⟨xs,rfl,kQ (by omega) (zde h1 h3)⟩
theorem zmp {T:Tab}{h:Int}{sz k:Nat}{x:X}(hx:(Sh.sl sz k).Is T h x):∃t es h',x=.sl t sz es∧0≤h'∧(es.length:Int)≤1000000∧∀e,e∈es→D T h' k e:=hx
def znk:List Ctr:=[dN 210 [zjk,.sl 3 7] [] none [(.tu [.x (.sl true 6 []),err],[],[]),(.tu [.bs 0,err],[.row 6 1],[lt 10 0 13,lt 13 0 10])]]
theorem zel:ah T Gm znk:=.one fun ρ xs bx hs=>by
 obtain ⟨ha,hb⟩:=uO hs
 obtain ⟨x,y,rfl,hx,hy⟩:=zfX ha
 obtain rfl:=vO hb
 obtain ⟨x0,rfl,hd⟩:=za4 hx
 obtain ⟨t2,ps,hp,rfl,p1,p2,p3⟩:=zmp hy
 obtain ⟨g,_,⟨e,⟨_,er⟩,h⟩|⟨ns,h1,h2,_,h⟩⟩:=IZ t2 ps p1 p3 (by omega) hd
 ·exact lZ (q:=(.tu [.x (.sl true 6 []),err],[],[])) (List.mem_cons_self ..) hs.zero hs.pos rfl rfl (r:=.tup [.sl true 6 [],num e]) ⟨_,rfl,⟨rfl,rfl⟩,⟨e,rfl,er⟩,trivial⟩ (fun _ _ _ _ _ _=>.nil) h
 ·refine Cb (q:=(.tu [.bs 0,err],[.row 6 1],[lt 10 0 13,lt 13 0 10])) (List.mem_cons_of_mem _ (List.mem_singleton.2 rfl)) hs.zero hs.pos rfl rfl (r:=.tup [.bs 0 0 ns.length,num 0]) (bx':=[.row 6 ns]) ⟨_,rfl,⟨ns.length,rfl,by unfold dX;omega⟩,⟨0,rfl,by decide,by decide⟩,trivial⟩ ⟨⟨ns,7,rfl,by omega,by unfold dX;omega,h1⟩,trivial⟩ (fun n' ρ' hm z g gb hn=>?_) h
  subst hn
  have e2:(ns.length:Int)=ρ' 10:=by
   cases g with
   |tup g=>cases g with
    |cons g _=>cases g with
     |bs _ _ _ q=>rw [q];unfold Lin.v;show ρ' 10+0=_;omega
  have e5:(ns.length:Int)=ρ' 13:=by
   cases gb with
   |cons g _=>cases g with
    |row _ _ q _=>rw [q];unfold Lin.v;show ρ' 13+0=_;omega
  exact .cons (pI (by decide) (by decide) (by omega)) (.cons (pI (by decide) (by decide) (by omega)) .nil)
theorem Yk (ns:List (List X)):X.data [.row 6 ns] false (.tup [.bs 0 0 ns.length,num 0])=some (.tup [.sl false 6 ns,num 0]):=by
 simp only [X.data,fG,Hg (bx:=[.row 6 ns]) (i:=0) (sz:=6) (es:=ns) rfl rfl,Option.map_some,num]
theorem Kv {xs:List X}{B:Nat}{r:X}(h:∀M,B≤M→callF tab ext (M+1) (.fn 158) xs []=some (r,[])):Back 158 xs r:=⟨B+1,fun N hN=>by
 obtain ⟨M,rfl⟩:∃M,N=M+1:=⟨N-1,by omega⟩
 exact h M (by omega)⟩
theorem Z4 (t2:Bool)(ps:List (List X)){hp:Int}(h0:0≤hp)(hps:∀e,e∈ps→D T hp 7 e)(hlen:ps.length≤1000000){x0:List X}(hx0:D T 7 11 x0):
  ∃y e,(D T 8 1 y∧0≤e∧e≤100)∧Back 158 [.agg x0,.sl t2 3 ps] (.tup [.agg y,num e]):=by
 obtain ⟨_,a,b,c,s,u,l,v,f,rfl,_⟩:=d11 (h:=6) hx0
 have hz:D T 8 1 [num 0,num 0,num 0,noText,.sl true 6 [],.sl true 7 []]:=dY (by decide) (List.mem_singleton.2 rfl) ⟨⟨rfl,(fun a e=>by cases e),(fun a e=>by cases e)⟩,⟨rfl,(fun a e=>by cases e),(fun a e=>by cases e)⟩,⟨rfl,(fun a e=>by cases e),(fun a e=>by cases e)⟩,⟨by decide,by decide⟩,⟨rfl,by decide,by decide,fun e he=>by cases he⟩,⟨rfl,by decide,by decide,fun e he=>by cases he⟩,trivial⟩
 obtain ⟨g,⟨B1,hev⟩,hr⟩:=IZ false ps h0 hps hlen (mV hx0)
 rcases hr with ⟨e,⟨h1,er⟩,B2,hf⟩|⟨ns,n1,n2,n3,B2,hf⟩
 ·have hf:=fun N hN=>bP (hf N hN) (y:=.tup [.sl false 6 [],num e]) rfl
  exact ⟨_,e,⟨hz,er⟩,Kv (B:=B2) fun M hM=>aB [(11,.p (.tup [.sl false 6 [],num e])),(16,.b true)] [] (pf2 (hf M hM) h1) (r:=some (.tup [.agg [num 0,num 0,num 0,noText,.sl true 6 [],.sl true 7 []],num e],[])) (by kernel_rfl)⟩
 ·have hf:=fun N hN=>bP (hf N hN) (Yk ns)
  cases g with
  |true=>
   refine ⟨[num 8,num 0,num 0,noText,.sl false 6 ns,.sl true 7 []],0,⟨dY (by decide) (List.mem_singleton.2 rfl) ⟨⟨rfl,(fun a e=>by cases e),(fun a e=>by cases e)⟩,⟨rfl,(fun a e=>by cases e),(fun a e=>by cases e)⟩,⟨rfl,(fun a e=>by cases e),(fun a e=>by cases e)⟩,⟨by decide,by decide⟩,⟨rfl,Nat.zero_le _,by omega,n1⟩,⟨rfl,by decide,by decide,fun e he=>by cases he⟩,trivial⟩,by decide,by decide⟩,Kv (B:=B1+B2) fun M hM=>?_⟩
   exact aB [(11,.p (.tup [.sl false 6 ns,num 0])),(21,.p (boolX true)),(19,.b true)] [] (pf3 (hf M (by omega)) (hev M (by omega)) (show true=true from rfl)) (r:=some (.tup [.agg [num 8,num 0,num 0,noText,.sl false 6 ns,.sl true 7 []],num 0],[])) (by kernel_rfl)
  |false=>
   match ns,n3 rfl,n1,hf with
   |x::r,_,n1,hf=>
    have hx:=n1 x (List.mem_cons_self ..)
    obtain ⟨k1,alt,ha,hs⟩:=qG hx
    obtain rfl:=List.mem_singleton.1 ha
    match x,hs,hx,hf with
    |[_,_,_,_,_,_],⟨w1,w2,w3,w4,w5,w6,_⟩,hx,hf=>
     obtain ⟨a',rfl⟩:=lG w1
     obtain ⟨b',rfl⟩:=lG w2
     obtain ⟨c',rfl⟩:=lG w3
     obtain ⟨s',rfl,_,_⟩:=zf3 w4
     obtain ⟨t',l',rfl,_,_,_⟩:=Bj w5
     obtain ⟨v',f',rfl,_,_,_⟩:=Bj w6
     exact ⟨_,0,⟨kQ (by decide) hx,by decide,by decide⟩,Kv (B:=B1+B2) fun M hM=>aB [(11,.p (.tup [.sl false 6 ([num a',num b',num c',strX s',.sl t' 6 l',.sl v' 7 f']::r),num 0])),(21,.p (boolX false)),(19,.b false)] [] (pf3 (hf M (by omega)) (hev M (by omega)) (show false=false from rfl)) (r:=some (.tup [.agg [num a',num b',num c',strX s',.sl t' 6 l',.sl v' 7 f'],num 0],[])) (by kernel_rfl)⟩
theorem zbu {h:Int}{x:List X}(hd:D T (h+1) 1 x):val.Is T 0 (.agg x):=by
 obtain ⟨h1,alt,ha,hs⟩:=qG hd
 rw [List.mem_singleton.1 ha,Int.add_sub_cancel] at hs
 match x,hs with
 |[_,_,_,_,_,_],⟨w1,w2,w3,w4,w5,w6,_⟩=>
  obtain ⟨a',rfl⟩:=lG w1
  obtain ⟨b',rfl⟩:=lG w2
  obtain ⟨c',rfl⟩:=lG w3
  obtain ⟨s',rfl,_,k4⟩:=zf3 w4
  obtain ⟨t',l',rfl,_,k5,q5⟩:=Bj w5
  obtain ⟨v',f',rfl,_,k6,q6⟩:=Bj w6
  exact ⟨h,_,rfl,by omega,⟨a',rfl⟩,⟨b',rfl⟩,⟨c',rfl⟩,⟨s',rfl,by unfold dX;omega⟩,⟨t',l',rfl,by unfold dX;omega,q5⟩,⟨v',f',rfl,by unfold dX;omega,q6⟩,trivial⟩
def znl:List Ctr:=[mkC 158 [zjk,.sl 3 7] [] none [(.tu [val,err],[])]]
theorem zem:ah T Gm znl:=.one (dA (fun o ho=>by rw [List.mem_singleton.1 ho];exact ⟨rfl,rfl⟩) fun xs bx ha hb=>by
 obtain ⟨x,y,rfl,hx,hy⟩:=zfX ha
 obtain rfl:=vO hb
 obtain ⟨x0,rfl,hd⟩:=za4 hx
 obtain ⟨t2,ps,hp,rfl,p1,p2,p3⟩:=zmp hy
 obtain ⟨y,e,⟨h1,er⟩,h⟩:=Z4 t2 ps p1 p3 (by omega) hd
 exact ⟨_,List.mem_singleton.2 rfl,.tup [.agg y,num e],[],⟨_,rfl,zbu (h:=7) h1,⟨e,rfl,er⟩,trivial⟩,trivial,h⟩)
end Ct
end Go.Proofs.YtjbndifenhihhaaGreatDoor
