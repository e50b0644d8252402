/-.-/
import Derived.Test.YtcbeoccmflnejaaGreatDoorU14
set_option linter.all false
namespace Go.Proofs.YtcbeoccmflnejaaGreatDoor
open Go.Em
set_option maxRecDepth 100000
variable {b:C}{e:Ex}{nIn:Nat}{H:Nat->St}{fin τ:St}
def Visit (v:Val)(lev n:Nat):Prop:=
 (∃(c:Int) (m:Nat),(0<=c/\c<=100)/\∀N,60020+v.size<=N->callF tab ext N (.fn 119) [.agg v.cells,nat lev,.yl 0] (goC n)=some (boolX false,TF c m))\/
 (∃m:Nat,(n<=m/\m<=4097)/\∀N,60020+v.size<=N->callF tab ext N (.fn 119) [.agg v.cells,nat lev,.yl 0] (goC n)=some (boolX true,goC m))
section
variable (ps:qaW) (lev len j n m:Nat) (c:Int) (u:List X)
noncomputable def viH:St:=⟨[(1,nat lev),(2,.yl 0),(15,.sl false 6 ps),(16,nat len),(17,nat j)],goC n⟩
noncomputable def zhn:St:=⟨[(1,nat lev),(2,.yl 0),(15,.sl false 6 ps),(16,nat len),(17,nat j)],goC n++[.var u]⟩
noncomputable def viE:St:=⟨[(1,nat lev),(2,.yl 0),(15,.sl false 6 ps),(16,nat len),(17,nat j),(18,boolX false)],goC n⟩
theorem mX:canon 4 (viH ps lev len j n)=some (viH ps lev len j n):=by kernel_rfl
theorem oU:canon 4 (zhn ps lev len j n u)=some (viH ps lev len j n):=by kernel_rfl
end
theorem zD {B:Nat}(ps:List Val)(lev:Nat)(zk0:lev<=100000)(hl:ps.length<=2000000)(hv:∀u,u∈ps->60020+u.size<=B/\∀n,n<=4097->lev<=n->Visit u (lev+1) n):∀d j n,j+d=ps.length->n<=4097->lev<=n->
  (∃(c:Int) (m:Nat) (u:List X),(0<=c/\c<=100)/\∀M F,B<=M->d<F->iter 4 (run (callF tab ext M) 4 M (loopAt 119 0)) F (viH (ah ps) lev (ah ps).length j n)=some (.ret,⟨[(6,boolX false)],TF c m++[.var u]⟩))\/
  (∃m:Nat,(n<=m/\m<=4097)/\∀M F,B<=M->d<F->iter 4 (run (callF tab ext M) 4 M (loopAt 119 0)) F (viH (ah ps) lev (ah ps).length j n)=some (.exit 0,viE (ah ps) lev (ah ps).length (ah ps).length m))
 |0,j,n,hj,hn,hln=>by
  have hc:=aK ps;have hj':j=(ah ps).length:=by omega
  subst hj';right;refine ⟨n,⟨Nat.le_refl _,hn⟩,fun M F _ hF=>?_⟩;obtain ⟨F',rfl⟩:∃F',F=F'+1:=⟨F-1,by omega⟩;exact iter_end (mX ..) (ruA [(18,.b false)] (pf1 (aG (qan (ah ps).length)))) (by simp)
 |d+1,j,n,hj,hn,hln=>by
  have hc:=aK ps;have hj':j<ps.length:=by omega
  have hg:=dN hj';obtain ⟨hB,hu⟩:=hv _ (qae hj');have hu:=hu n hn hln;generalize ps[j]=u at hg hB hu;obtain ⟨u1,u2,u3,u4,u5,u6⟩:=u;have hlt:=aI (j:=j) (k:=(ah ps).length) (by omega);have hnx:=ay (j:=lev) (by omega);rcases hu with ⟨c,m,cr,h⟩|⟨m,⟨hnm,hm⟩,h⟩;·left;refine ⟨c,m,(Val.mk u1 u2 u3 u4 u5 u6).cells,cr,fun M F hM hF=>?_⟩;obtain ⟨F',rfl⟩:∃F',F=F'+1:=⟨F-1,by omega⟩;exact iter_end (mX ..) (ruA [(18,.b true),(19,.e (Val.mk u1 u2 u3 u4 u5 u6).cells),(23,.i (Int.ofNat (lev+1))),(25,.r (boolX false) (TF c m))] (pf4 hlt hg hnx (h M (by omega)))) (by simp)
  have hs:∀M,B<=M->run (callF tab ext M) 4 M (loopAt 119 0) (viH (ah ps) lev (ah ps).length j n)=some (.norm,zhn (ah ps) lev (ah ps).length (j+1) m (Val.mk u1 u2 u3 u4 u5 u6).cells):=fun M hM=>ruA [(18,.b true),(19,.e (Val.mk u1 u2 u3 u4 u5 u6).cells),(23,.i (Int.ofNat (lev+1))),(25,.r (boolX true) (goC m)),(27,.i (Int.ofNat (j+1)))] (pf5 hlt hg hnx (h M (by omega)) (ay (j:=j) (by omega)));rcases zD ps lev zk0 hl hv d (j+1) m (by omega) hm (by omega) with ⟨c,m',x,cr,h'⟩|⟨m',hm',h'⟩;·left;refine ⟨c,m',x,cr,fun M F hM hF=>?_⟩;obtain ⟨F',rfl⟩:∃F',F=F'+1:=⟨F-1,by omega⟩<;>simp_all[iter_step,mX,gY,oU]
  right;refine ⟨m',⟨by omega,hm'.2⟩,fun M F hM hF=>?_⟩;obtain ⟨F',rfl⟩:∃F',F=F'+1:=⟨F-1,by omega⟩<;>simp_all[iter_step,mX,gY,oU]
theorem Ib (v:Val):∀u,u∈kC v->u.size<v.size:=by
 obtain ⟨k,i,s,t,l,f⟩:=v;intro u a;simp only [kC] at a;simp only [Val.size];split at a;·have:=jU a;omega
 split at a;·obtain ⟨p,h,rfl⟩:=qam.1 a;have:=jV h;omega
 grind
theorem BU (v:Val):(kC v).length<v.size:=by obtain ⟨k,i,s,t,l,f⟩:=v<;>grind[kC,Val.size,dU,dK]
theorem NK (v:Val)(hv:v.wide):(kC v).length<=2000000/\∀u,u∈kC v->u.wide:=by
 obtain ⟨k,i,s,t,l,f⟩:=v;simp only [Val.wide] at hv;obtain ⟨⟨h,j⟩,m,n⟩:=hv;simp only [kC];split
 ·grind[oP]
 split
 ·refine ⟨by grind,fun u a=>?_⟩;obtain ⟨p,q,rfl⟩:=qam.1 a
  grind[oQ]
 grind
theorem vU:∀(sz:Nat) (v:Val),v.size<=sz->v.wide->∀(lev n:Nat),lev<=n+1->n<=4097->Visit v lev n
 |0,.mk ..,h,_,_,_,_,_=>by grind[Val.size]
 |sz+1,v,h,hv,lev,n,zk0,hn=>by
  have hr:=H7 v (Int.ofNat lev) n (by omega);have hp:∀M,60019+v.size<=M->Gam.pureD (callF tab ext M) 159 [.agg v.cells]=some (.sl false 6 (ah (kC v))):=fun M hM=>NJ M v (Jw hv) (by omega);have hlen:=BU v;have hfew:=NK v hv;have hloop:∀n,n<=4097->lev<=n->_:=fun n hn hln=>zD (B:=60019+v.size) (kC v) lev (by omega) hfew.1 (fun u hu=>by have:=Ib v u hu;exact ⟨by omega,fun n hn hln=>vU sz u (by omega) (hfew.2 u hu) (lev+1) n (by omega) hn⟩) (kC v).length 0 n (by omega) hn hln;generalize kC v=ps at hp hlen hloop;obtain ⟨k,i,s,t,l,f⟩:=v;rcases hr with ⟨c,cr,h⟩|⟨hn',h⟩;·refine .inl ⟨c,n+1,cr,fun N hN=>?_⟩;obtain ⟨M,rfl⟩:=pR_ N;exact caA [(12,.r (boolX false) (TF c (n+1)))] (pf1 (h M (by omega)))
  rcases hloop (n+1) (by omega) (by omega) with ⟨c,m,u,cr,h'⟩|⟨m,hm,h'⟩
  ·refine .inl ⟨c,m,cr,fun N hN=>?_⟩;obtain ⟨M,rfl⟩:=pR_ N;have hl:run (callF tab ext M) 4 M (.loop (loopAt 119 0)) (zhn (ah ps) lev (ah ps).length 0 (n+1) (Val.mk k i s t l f).cells)=some (.ret,⟨[(6,boolX false)],TF c m++[.var u]⟩):=by simp only [run];rw [gY (oU ..) (mX ..)];exact h' M M (by omega) (by omega)
   exact caB [(12,.r (boolX true) (goC (n+1))),(15,.p (.sl false 6 (ah ps)))] [(.ret,⟨[(6,boolX false)],TF c m++[.var u]⟩)] (pf3 (h M (by omega)) (hp M (by omega)) hl)
  refine .inr ⟨m,⟨by omega,hm.2⟩,fun N hN=>?_⟩;obtain ⟨M,rfl⟩:=pR_ N;have hl:run (callF tab ext M) 4 M (.loop (loopAt 119 0)) (zhn (ah ps) lev (ah ps).length 0 (n+1) (Val.mk k i s t l f).cells)=some (.exit 0,viE (ah ps) lev (ah ps).length (ah ps).length m):=by simp only [run];rw [gY (oU ..) (mX ..)];exact h' M M (by omega) (by omega)
  exact caB [(12,.r (boolX true) (goC (n+1))),(15,.p (.sl false 6 (ah ps)))] [(.exit 0,viE (ah ps) lev (ah ps).length (ah ps).length m)] (pf3 (h M (by omega)) (hp M (by omega)) hl)
noncomputable def ziq (v:List X):St:=⟨[(2,.ptr 1 0 0),(3,.ptr 2 0 0),(4,.ptr 3 0 0),(10,.fn 118 [.dp v])],[.var v,.var [num 0],.var nR,.var [num 0]]⟩
noncomputable def VW (v:List X)(c:Int)(m:Nat):St:=⟨(ziq v).tm,[.var v,.var [num c],.var nR,.var [nat m],.dead]⟩
theorem ML (v:Val)(hv:v.wide):iM (60025+v.size) 25 [.agg v.cells]:=by
 have a:=vU v.size v (Nat.le_refl _) hv 1 0 (by omega) (by omega);obtain ⟨k,i,s,t,l,f⟩:=v;generalize B:(Val.mk k i s t l f).size=sz at a;have j:∀N,3<=N->Gam.pureD (callF tab ext N) 64 [.agg (Val.mk k i s t l f).cells]=some (.fn 118 [.dp (Val.mk k i s t l f).cells]):=fun N A=>by obtain ⟨M,rfl⟩:=pR_ N;exact puA [] pf0 (.fn 118 [.dp (Val.mk k i s t l f).cells])
 have u:∀N,3<=N->Gam.pureD (callF tab ext N) 63 []=some (.agg nR):=fun N A=>by obtain ⟨M,rfl⟩:=pR_ N;exact puA [] pf0 (.agg nR)
 unfold Visit at a;rw [B] at a;rcases a with ⟨c,m,E,h⟩|⟨m,_,h⟩
 ·refine ⟨c,E,fun N A=>?_⟩;obtain ⟨M,rfl⟩:∃M,N=M+2:=⟨N-2,by omega⟩;have w:callF tab ext (M+1) (.fn 118) [.yl 0,.dp (Val.mk k i s t l f).cells] (goC 0)=some (.tup [],TF c m):=
   caA [(5,.r (boolX false) (TF c m))] (pf1 (h M (by omega)))
  have n:run (callF tab ext (M+1)) 0 (M+1) (.rf (.t 10) [11,12] [2,3,4] (zeu 25).1 (zeu 25).2) (ziq (Val.mk k i s t l f).cells)=some (.ret,VW (Val.mk k i s t l f).cells c m):=
   rf_of (g:=118) (caps:=[.dp (Val.mk k i s t l f).cells]) (y:=.tup []) (outb:=TF c m)
    (q:=(.tup [],[.var (Val.mk k i s t l f).cells,.var [num c],.var nR,.var [nat m],recC .done (some .ret)],[4,1,2,3])) w (by kernel_rfl) (by kernel_rfl) (by kernel_rfl)
  exact puB [(8,.p (.agg nR)),(10,.p (.fn 118 [.dp (Val.mk k i s t l f).cells]))] [(.ret,VW (Val.mk k i s t l f).cells c m)] (pf3 (u (M+1) (by omega)) (j (M+1) (by omega)) n) (num c)
 refine ⟨0,by decide,fun N A=>?_⟩;obtain ⟨M,rfl⟩:∃M,N=M+2:=⟨N-2,by omega⟩;have w:callF tab ext (M+1) (.fn 118) [.yl 0,.dp (Val.mk k i s t l f).cells] (goC 0)=some (.tup [],goC m):=
  caA [(5,.r (boolX true) (goC m))] (pf1 (h M (by omega)))
 have n:run (callF tab ext (M+1)) 0 (M+1) (.rf (.t 10) [11,12] [2,3,4] (zeu 25).1 (zeu 25).2) (ziq (Val.mk k i s t l f).cells)=some (.norm,VW (Val.mk k i s t l f).cells 0 m):=
  rf_of (g:=118) (caps:=[.dp (Val.mk k i s t l f).cells]) (y:=.tup []) (outb:=goC m)
   (q:=(.tup [],[.var (Val.mk k i s t l f).cells,.var [num 0],.var nR,.var [nat m],recC .ready none],[4,1,2,3])) w (by kernel_rfl) (by kernel_rfl) (by kernel_rfl)
 exact puB [(8,.p (.agg nR)),(10,.p (.fn 118 [.dp (Val.mk k i s t l f).cells]))] [(.norm,VW (Val.mk k i s t l f).cells 0 m)] (pf3 (u (M+1) (by omega)) (j (M+1) (by omega)) n) (num 0)
theorem zF (v:Val)(hv:v.ok):iM (60025+v.size) 25 [.agg v.cells]:=ML v (qL hv)
theorem oW (v:Val)(hv:v.ok):Comes (60025+v.size) 25 [.agg v.cells]:=by obtain ⟨c,_,h⟩:=zF v hv;exact ⟨c,h⟩
theorem Comes.mono {B B':Nat}{f:FuncId}{args:List X}(h:Comes B f args)(hB:B<=B'):Comes B' f args:=by obtain ⟨c,h⟩:=h;exact ⟨c,fun N a=>h N (by omega)⟩
theorem OO (v:Val)(hv:v.ok):Comes 120030 124 [.agg v.cells]:=by
 have h:=hv;unfold Val.ok at h;obtain ⟨c,m⟩:=(oW v hv).mono (show 60025+v.size<=120029 by omega);have hz:∀N,120029<=N->Gam.pureD (callF tab ext N) 26 [.agg v.cells]=some (boolX (dw v)):=fun N a=>gQ v N (by omega);generalize dw v=z at hz;obtain ⟨k,i,s,t,l,f⟩:=v;apply tH;cases z with
 |true=>exact ⟨0,fun N a=>puA [(5,.p (boolX true))] (pf1 (hz N a)) (num (0))⟩
 |false=>
  cases j:(!(k==9)) with
  |true=>exact ⟨18,fun N a=>puA [(5,.p (boolX false)),(9,.b true)] (pf2 (hz N a) j) (num (18))⟩
  |false=>exact ⟨c,fun N a=>puA [(5,.p (boolX false)),(9,.b false),(11,.p (num c))] (pf3 (hz N a) j (m N a)) (num (c))⟩
section
variable (m:List X) (o:qaW) (n j:Nat)
def mcH:St:=⟨[(1,.ptr 0 0 0),(27,.sl false 1 o),(28,nat n),(29,nat j)],[.var m]⟩
def mcE:St:=⟨[(1,.ptr 0 0 0),(27,.sl false 1 o),(28,nat n),(29,nat j),(30,boolX false)],[.var m]⟩
end
theorem NR (e y8:Int)(p:List Int)(o:List Int)(k i s:Int)(t:qaX)(l:List Val)(f:List (qaX×Val))(j:Nat)(hl:o.length<=60000)(hj:j<o.length):
  (∃r,(∃c:Int,r=⟨[(2,num c)],[.var (Msg.mk ⟨e,p⟩ y8 o (Val.mk k i s t l f)).cells]⟩)/\∀M,2<=M->run (callF tab ext M) 0 M (loopAt 71 0) (mcH (Msg.mk ⟨e,p⟩ y8 o (Val.mk k i s t l f)).cells (aC o) (aC o).length j)=some (.ret,r))\/
  (∃υ,canon 0 υ=some (mcH (Msg.mk ⟨e,p⟩ y8 o (Val.mk k i s t l f)).cells (aC o) (aC o).length (j+1))/\∀M,2<=M->run (callF tab ext M) 0 M (loopAt 71 0) (mcH (Msg.mk ⟨e,p⟩ y8 o (Val.mk k i s t l f)).cells (aC o) (aC o).length j)=some (.norm,υ)):=by
 have A:=aX o;have m:=eY hj;generalize o[j]=x at m;obtain ⟨b,n⟩:=JA x;have a:=aI (j:=j) (k:=(aC o).length) (by omega);cases b with
 |false=>exact .inl ⟨_,⟨2,rfl⟩,fun M h=>ruA [(30,.b true),(32,.e [num x]),(36,.p (boolX false))] (pf3 a m (n M h))⟩
 |true=>
  cases j with
  |zero=>exact .inr ⟨mcH (Msg.mk ⟨e,p⟩ y8 o (Val.mk k i s t l f)).cells (aC o) (aC o).length (0+1),by kernel_rfl,fun M h=>ruA [(30,.b true),(32,.e [num x]),(36,.p (boolX true)),(40,.b false),(51,.i (Int.ofNat (0+1)))] (pf5 a m (n M h) fK (ay (j:=0) (by omega)))⟩
  |succ j=>
   have q:j<o.length:=by omega
   have u:=eY q;generalize o[j]=y at u;cases w:decide (x<=y) with
   |true=>exact .inl ⟨_,⟨24,rfl⟩,fun M h=>ruA [(30,.b true),(32,.e [num x]),(36,.p (boolX true)),(40,.b true),(46,.i (Int.ofNat j)),(47,.e [num y]),(49,.b true)] (pf7 a m (n M h) (dM (j:=j)) (bZ (j:=j) (by omega)) u w)⟩
   |false=>exact .inr ⟨mcH (Msg.mk ⟨e,p⟩ y8 o (Val.mk k i s t l f)).cells (aC o) (aC o).length ((j+1)+1),by kernel_rfl,fun M h=>ruA [(30,.b true),(32,.e [num x]),(36,.p (boolX true)),(40,.b true),(46,.i (Int.ofNat j)),(47,.e [num y]),(49,.b false),(51,.i (Int.ofNat ((j+1)+1)))] (pf8 a m (n M h) (dM (j:=j)) (bZ (j:=j) (by omega)) u w (ay (j:=(j+1)) (by omega)))⟩
theorem FH (m:Msg)(hm:m.ok):Comes 120040 71 [.agg m.cells]:=by
 obtain ⟨q,a⟩:=Ho m.st hm.st;obtain ⟨b,w⟩:=IB m.y8;obtain ⟨F,A⟩:=OO m.body hm.body;have L:=hm.orig;obtain ⟨⟨e,p⟩,y8,o,k,i,s,t,l,f⟩:=m;dsimp only at a w A L;have P:=aX o;have:=scan (B:=2) (b:=loopAt 71 0) (H:=fun j=>mcH (Msg.mk ⟨e,p⟩ y8 o (Val.mk k i s t l f)).cells (aC o) (aC o).length j) (τ:=mcH (Msg.mk ⟨e,p⟩ y8 o (Val.mk k i s t l f)).cells (aC o) (aC o).length 0) (n:=(aC o).length) (e:=.exit 1) (fin:=mcE (Msg.mk ⟨e,p⟩ y8 o (Val.mk k i s t l f)).cells (aC o) (aC o).length (aC o).length)
  (fun r=>∃c:Int,r=⟨[(2,num c)],[.var (Msg.mk ⟨e,p⟩ y8 o (Val.mk k i s t l f)).cells]⟩) (by kernel_rfl) (fun j O=>NR e y8 p o k i s t l f j L (by omega))
  (fun M _=>ruA [(30,.b false)] (pf1 (aG (qan (aC o).length)))) (by simp)
 apply tH;cases u:(!(q==0)) with
 |true=>exact ⟨q,fun N y=>puA [(8,.p (num q)),(10,.b true)] (pf2 (a N (by omega)) u) (num (q))⟩
 |false=>
  cases b with
  |true=>exact ⟨38,fun N y=>puA [(8,.p (num q)),(10,.b false),(15,.p (boolX true))] (pf3 (a N (by omega)) u (w N (by omega))) (num (38))⟩
  |false=>
   cases E:(Int.ofNat (aC o).length==0) with
   |true=>exact ⟨4,fun N y=>puA [(8,.p (num q)),(10,.b false),(15,.p (boolX false)),(20,.b true)] (pf4 (a N (by omega)) u (w N (by omega)) E) (num (4))⟩
   |false=>
    cases J:decide (4096<Int.ofNat (aC o).length) with
    |true=>exact ⟨9,fun N y=>puA [(8,.p (num q)),(10,.b false),(15,.p (boolX false)),(20,.b false),(25,.b true)] (pf5 (a N (by omega)) u (w N (by omega)) E J) (num (9))⟩
    |false=>
     rcases this with ⟨r,⟨c,rfl⟩,h⟩|h;·exact ⟨c,fun N y=>puB [(8,.p (num q)),(10,.b false),(15,.p (boolX false)),(20,.b false),(25,.b false)] [(.ret,⟨[(2,num c)],[.var (Msg.mk ⟨e,p⟩ y8 o (Val.mk k i s t l f)).cells]⟩)] (pf6 (a N (by omega)) u (w N (by omega)) E J (h N (by omega) (by omega))) (num c)⟩
     exact ⟨F,fun N y=>puB [(8,.p (num q)),(10,.b false),(15,.p (boolX false)),(20,.b false),(25,.b false),(54,.p (num F))] [(.exit 1,mcE (Msg.mk ⟨e,p⟩ y8 o (Val.mk k i s t l f)).cells (aC o) (aC o).length (aC o).length)] (pf7 (a N (by omega)) u (w N (by omega)) E J (h N (by omega) (by omega)) (A N (by omega))) (num F)⟩
def imH (l:qaW)(g:X)(n j:Nat):St:=⟨[(0,.sl false 10 l),(1,g),(7,nat n),(8,nat j)],[]⟩
theorem zfk {n B:Nat}(good:St->Prop)(h0:canon nIn τ=some (H 0))
  (hstep:∀j,j<n->(∃r,good r/\∀M,B<=M->run (callF tab ext M) nIn M b (H j)=some (.ret,r))\/(∃υ,canon nIn υ=some (H (j+1))/\∀M,B<=M->run (callF tab ext M) nIn M b (H j)=some (.norm,υ)))
  (hend:∀M,B<=M->run (callF tab ext M) nIn M b (H n)=some (e,fin)) (hne:e≠.norm):
  (∃r,good r/\∀M,B<=M->n<M->run (callF tab ext M) nIn M (.loop b) τ=some (.ret,r))\/(∀M,B<=M->n<M->run (callF tab ext M) nIn M (.loop b) τ=some (e,fin)):=by
 have y:∀d j,j+d=n->(∃r,good r/\∀M F υ,B<=M->d<F->canon nIn υ=some (H j)->iter nIn (run (callF tab ext M) nIn M b) F υ=some (.ret,r))\/(∀M F υ,B<=M->d<F->canon nIn υ=some (H j)->iter nIn (run (callF tab ext M) nIn M b) F υ=some (e,fin)):=by
  intro d;induction d with
  |zero=>
   intro j E;have u:j=n:=by omega
   subst u;right;intro M F υ a q f;obtain ⟨F',rfl⟩:∃F',F=F'+1:=⟨F-1,by omega⟩;exact iter_end f (hend M a) hne
  |succ d ih=>
   intro j E;rcases hstep j (by omega) with ⟨r,l,h⟩|⟨ω,A,h⟩;·left;refine ⟨r,l,fun M F υ a q f=>?_⟩;obtain ⟨F',rfl⟩:∃F',F=F'+1:=⟨F-1,by omega⟩;exact iter_end f (h M a) (by simp)
   rcases ih (j+1) (by omega) with ⟨r,l,m⟩|m;·left;refine ⟨r,l,fun M F υ a q f=>?_⟩;obtain ⟨F',rfl⟩:∃F',F=F'+1:=⟨F-1,by omega⟩;exact iter_step f (h M a) (m M F' ω a (by omega) A)
   right;intro M F υ a q f;obtain ⟨F',rfl⟩:∃F',F=F'+1:=⟨F-1,by omega⟩;exact iter_step f (h M a) (m M F' ω a (by omega) A)
 simp only [run];rcases y n 0 (by omega) with ⟨r,l,h⟩|h;·exact .inl ⟨r,l,fun M a w=>h M M τ a w h0⟩
 exact .inr fun M a w=>h M M τ a w h0
def ckB (f:Bool)(k v:Nat)(acc:qaW)(s:List X):List Bx:=
 if f then [.var [.bs 3 0 k,nat v],.dead,.var s,.row 10 acc] else [.var [.bs 1 0 k,nat v],.row 10 acc,.var s]
def ckH (f:Bool)(items:qaW)(n j k v:Nat)(acc:qaW)(s:List X):St:=
 ⟨[(0,.ptr 0 0 0),(3,.ptr 2 0 0),(21,.sl false 10 items),(22,nat n),(23,nat j)],ckB f k v acc s⟩
inductive uQ:St->Prop
 |a (c:Int) (k v:Nat) (acc:qaW) (x y:Bx) (h:c≠0):uQ ⟨[(4,num c)],[.var [.bs 1 0 k,nat v],.row 10 acc,x,y]⟩
 |b (c:Int) (k v:Nat) (acc:qaW) (x y:Bx) (h:c≠0):uQ ⟨[(4,num c)],[.var [.bs 3 0 k,nat v],.dead,x,.row 10 acc,y]⟩
 |c (c:Int) (k v:Nat) (acc:qaW) (x:Bx) (h:c≠0):uQ ⟨[(4,num c)],[.var [.bs 1 0 k,nat v],.row 10 acc,x]⟩
 |d (c:Int) (k v:Nat) (acc:qaW) (x:Bx) (h:c≠0):uQ ⟨[(4,num c)],[.var [.bs 2 0 k,nat v],.dead,.row 10 acc,x]⟩
theorem vH (acc:List Msg)(k i:Nat)(g:X)(bx:List Bx)(hb:bx[i]?=some (.row 10 (aA acc)))(hk:k=acc.length)(hg:g.data bx false=some g):dataL bx false [.bs i 0 k,g]=some [.sl false 10 (aA acc),g]:=by subst hk;have a:=bF acc;simp only [dataL,X.data,rowOf,hb,Nat.zero_add,a,Nat.le_refl,if_true,qao,List.drop_zero,hg];rw [List.take_of_length_le (by omega)]
theorem zgM (k0 i0 s0:Int)(t0:qaX)(l0 f0:qaW)(n0 d0:Int)(items vals:qaW)(n k v:Nat)(acc:qaW)(f:Bool)(M:Nat):
  run (callF tab ext M) 2 M (loopAt 28 0) (ckH f items n n k v acc (aJ k0 i0 s0 t0 l0 f0 n0 d0 items vals))=some (.exit 0,⟨[(0,.ptr 0 0 0),(3,.ptr 2 0 0),(21,.sl false 10 items),(22,nat n),(23,nat n),(24,boolX false)],ckB f k v acc (aJ k0 i0 s0 t0 l0 f0 n0 d0 items vals)⟩):=by
 cases f with
 |true=>exact ruA [(24,.b false)] (pf1 (aG (qan n)))
 |false=>exact ruA [(24,.b false)] (pf1 (aG (qan n)))
def cvB (f:Bool)(k v:Nat)(acc:qaW):List Bx:=if f then [.var [.bs 2 0 k,nat v],.dead,.row 10 acc] else [.var [.bs 1 0 k,nat v],.row 10 acc]
def Yn (f:Bool)(vals:qaW)(n j k v:Nat)(acc:qaW):St:=⟨[(0,.ptr 0 0 0),(56,.sl false 6 vals),(57,nat n),(58,nat j)],cvB f k v acc⟩
def Yo (f:Bool)(vals:qaW)(n j k v:Nat)(acc:qaW):St:=⟨[(0,.ptr 0 0 0),(56,.sl false 6 vals),(57,nat n),(58,nat j),(59,boolX false)],cvB f k v acc⟩
def Zr (st slots:qaW)(n j k v:Nat)(acc:qaW)(a b:Int):St:=
 ⟨[(1,.ptr 0 0 0),(4,.ptr 1 0 0),(22,.sl false 10 slots),(23,nat n),(24,nat j)],[.var [num a,num b,.sl false 10 st],.var [.bs 2 0 k,nat v],.row 10 acc]⟩
structure Stt.small (s:Stt):Prop where
 slots:s.slots.length<=100
 slot:∀x,x∈s.slots->x.ok/\x.items.length<=100/\x.vals.length<=100
theorem Stt.small.ok {s:Stt}(h:s.small):s.ok:=⟨by have:=h.slots;omega,fun x a=>(h.slot x a).1⟩
def dB (l:List Slt):List Msg:=l.flatMap (·.items)
def valsOf:List Slt->Nat
 |[]=>0
 |x::r=>(ah x.vals).length+valsOf r
theorem oV:∀(l:List Slt) (x:Slt),valsOf (l++[x])=valsOf l+(ah x.vals).length
 |[],x=>by simp [valsOf]
 |y::l,x=>by simp only [List.cons_append,valsOf,oV l x];omega
theorem GX (l:List Slt)(x:Slt):dB (l++[x])=dB l++x.items:=by simp [dB]
theorem uG:∀(l:List Slt),(∀x,x∈l->x.items.length<=100)->(dB l).length<=100*l.length
 |[],_=>by simp [dB]
 |y::l,h=>by
  have h1:=h y (by simp);have h2:=uG l fun x hx=>h x (by simp [hx]);have h3:(dB (y::l)).length=y.items.length+(dB l).length:=by simp [dB]
  rw [h3,qat];omega
theorem Ew:∀(l:List Slt),(∀x,x∈l->x.vals.length<=100)->valsOf l<=100*l.length
 |[],_=>by simp [valsOf]
 |y::l,h=>by have h1:=h y (by simp);have h2:=Ew l fun x hx=>h x (by simp [hx]);simp only [valsOf,qat,aK];omega
theorem VP {n B:Nat}(P:Nat->Bool)(r υ:Nat->St)(h0:canon nIn τ=some (H 0))
  (hT:∀j,j<n->P j=true->∀M,B<=M->run (callF tab ext M) nIn M b (H j)=some (.ret,r j)) (hF:∀j,j<n->P j=false->canon nIn (υ j)=some (H (j+1))/\∀M,B<=M->run (callF tab ext M) nIn M b (H j)=some (.norm,υ j))
  (hend:∀M,B<=M->run (callF tab ext M) nIn M b (H n)=some (e,fin)) (hne:e≠.norm):
  (∃j,j<n/\P j=true/\(∀i,i<j->P i=false)/\∀M,B<=M->n<M->run (callF tab ext M) nIn M (.loop b) τ=some (.ret,r j))\/((∀j,j<n->P j=false)/\∀M,B<=M->n<M->run (callF tab ext M) nIn M (.loop b) τ=some (e,fin)):=by
 have L:∀d j,j+d=n->(∀i,i<j->P i=false)->(∃k,k<n/\P k=true/\(∀i,i<k->P i=false)/\∀M F ω,B<=M->d<F->canon nIn ω=some (H j)->iter nIn (run (callF tab ext M) nIn M b) F ω=some (.ret,r k))\/((∀j,j<n->P j=false)/\∀M F ω,B<=M->d<F->canon nIn ω=some (H j)->iter nIn (run (callF tab ext M) nIn M b) F ω=some (e,fin)):=by
  intro d;induction d with
  |zero=>
   intro j W a;have A:j=n:=by omega
   subst A;refine .inr ⟨a,fun M F ω f l m=>?_⟩;obtain ⟨F',rfl⟩:∃F',F=F'+1:=⟨F-1,by omega⟩;exact iter_end m (hend M f) hne
  |succ d ih=>
   intro j W a;cases q:P j with
   |true=>refine .inl ⟨j,by omega,q,a,fun M F ω f l m=>?_⟩;obtain ⟨F',rfl⟩:∃F',F=F'+1:=⟨F-1,by omega⟩;exact iter_end m (hT j (by omega) q M f) (by simp)
   |false=>
    obtain ⟨O,N⟩:=hF j (by omega) q;rcases ih (j+1) (by omega) (fun i V=>by
     rcases Nat.lt_or_ge i j with h|h;·exact a i h
     rw [show i=j by omega];exact q) with ⟨k,Y,w,E,u⟩|⟨y,u⟩
    ·refine .inl ⟨k,Y,w,E,fun M F ω f l m=>?_⟩;obtain ⟨F',rfl⟩:∃F',F=F'+1:=⟨F-1,by omega⟩;exact iter_step m (N M f) (u M F' _ f (by omega) O)
    refine .inr ⟨y,fun M F ω f l m=>?_⟩;obtain ⟨F',rfl⟩:∃F',F=F'+1:=⟨F-1,by omega⟩;exact iter_step m (N M f) (u M F' _ f (by omega) O)
 simp only [run];rcases L n 0 (by omega) (fun i V=>by omega) with ⟨k,Q,S,U,h⟩|⟨y,h⟩;·exact .inl ⟨k,Q,S,U,fun M f J=>h M M τ f J h0⟩
 exact .inr ⟨y,fun M f J=>h M M τ f J h0⟩
theorem F8 {P:Nat->Prop}:∀n:Nat,(∀j,j<n->P j)\/∃j,j<n/\¬P j/\∀i,i<j->P i
 |0=>.inl fun j hj=>by omega
 |n+1=>by
  rcases F8 (P:=P) n with h|⟨j,hj,h1,h2⟩
  ·by_cases hn:P n
   ·exact .inl fun j hj=>by
     rcases Nat.lt_or_eq_of_le (Nat.le_of_lt_succ hj) with h'|h';·exact h j h'
     rw [h'];exact hn
   exact .inr ⟨n,by omega,hn,h⟩
  exact .inr ⟨j,by omega,h1,h2⟩
theorem VO {n B:Nat}{P:Nat->Prop}(good:St->Prop)(h0:canon nIn τ=some (H 0))
  (hstep:∀j,j<n->(¬P j/\∃r,good r/\∀M,B<=M->run (callF tab ext M) nIn M b (H j)=some (.ret,r))\/(P j/\∃υ,canon nIn υ=some (H (j+1))/\∀M,B<=M->run (callF tab ext M) nIn M b (H j)=some (.norm,υ)))
  (hend:∀M,B<=M->run (callF tab ext M) nIn M b (H n)=some (e,fin)) (hne:e≠.norm):
  (¬(∀j,j<n->P j)/\∃r,good r/\∀M,B<=M->n<M->run (callF tab ext M) nIn M (.loop b) τ=some (.ret,r))\/((∀j,j<n->P j)/\∀M,B<=M->n<M->run (callF tab ext M) nIn M (.loop b) τ=some (e,fin)):=by
 have norm:∀j,j<n->P j->∃υ,canon nIn υ=some (H (j+1))/\∀M,B<=M->run (callF tab ext M) nIn M b (H j)=some (.norm,υ):=fun j a q=>by
  rcases hstep j a with ⟨h,_⟩|⟨_,h⟩;·exact absurd q h
  exact h
 rcases F8 (P:=P) n with h|⟨j,a,u,w⟩
 ·right;refine ⟨h,?_⟩;rcases zfk (fun _=>False) h0 (fun j a=>.inr (norm j a (h j a))) hend hne with ⟨_,m,_⟩|l;·exact m.elim
  exact l
 left;refine ⟨fun h=>u (h j a),?_⟩;rcases hstep j a with ⟨_,r,E,f⟩|⟨q,_⟩
 ·refine ⟨r,E,fun M y F=>?_⟩;rcases zfk (fun _=>False) h0 (fun i A=>.inr (norm i (by omega) (w i A))) f (by simp) with ⟨_,m,_⟩|l;·exact m.elim
  exact l M y (by omega)
 exact absurd q u
noncomputable def Gz (m:Msg):Int:=open Classical in if h:m.ok then Classical.choose (FH m h) else 0
theorem Ub {m:Msg}(hm:m.ok):∀N,120040<=N->Gam.pureD (callF tab ext N) 71 [.agg m.cells]=some (num (Gz m)):=by have:=Classical.choose_spec (FH m hm);unfold Gz;rw [dif_pos hm];exact this
noncomputable def zo (v:Val):Int:=open Classical in if h:v.ok then Classical.choose (oW v h) else 0
theorem JG {v:Val}(hv:v.ok):∀N,60025+v.size<=N->Gam.pureD (callF tab ext N) 25 [.agg v.cells]=some (num (zo v)):=by have:=Classical.choose_spec (oW v hv);unfold zo;rw [dif_pos hv];exact this
def Yw (x y:Int):Int:=if decide (x< -999999999999999) then 2 else if decide (999999999999999<x) then 2 else if decide (y<0) then 2 else if decide (17592186044416<y) then 2 else 0
theorem Ua (x y:Int):∀N,2<=N->Gam.pureD (callF tab ext N) 24 [num x,num y]=some (num (Yw x y)):=fun N l=>by
 obtain ⟨M,rfl⟩:=pR_ N;unfold Yw;cases a:decide (x< -999999999999999) with
 |true=>exact puA [(6,.b true)] (pf1 a) (num (2))
 |false=>
  cases f:decide (999999999999999<x) with
  |true=>exact puA [(6,.b false),(9,.b true)] (pf2 a f) (num (2))
  |false=>
   cases h:decide (y<0) with
   |true=>exact puA [(6,.b false),(9,.b false),(13,.b true)] (pf3 a f h) (num (2))
   |false=>
    cases j:decide (17592186044416<y) with
    |true=>exact puA [(6,.b false),(9,.b false),(13,.b false),(17,.b true)] (pf4 a f h j) (num (2))
    |false=>exact puA [(6,.b false),(9,.b false),(13,.b false),(17,.b false)] (pf4 a f h j) (num (0))
def Pck (k:Nat)(c:Int)(b:Bool):Bool:=if Int.ofNat k==256 then false else if !(c==0) then false else !b
def Pcv (v:Nat)(c:Int):Bool:=if Int.ofNat v==4096 then false else if !(c==0) then false else true
def kE (l:List Msg)(m:Msg):Bool:=l.any fun o=>D6 o.st m.st==0
theorem BO (m:Msg)(o:Msg)(ho:o.ok):∀N,60015<=N->Gam.pureD (callF tab ext N) 73 [.agg o.cells,.dp m.cells]=some (boolX (D6 o.st m.st==0)):=fun N U=>by obtain ⟨M,rfl⟩:=pR_ N;have h:Gam.pureD (callF tab ext M) 74 [.agg o.st.cells,.agg m.st.cells]=some (boolX (D6 o.st m.st==0)):=Lu M o.st m.st (by have:=ho.st.p;omega) (by have:=ho.st.p;omega);generalize (D6 o.st m.st==0)=b at h;obtain ⟨⟨f,j⟩,l,n,q,u,w,y,A,a⟩:=o;obtain ⟨⟨E,F⟩,H,J,L,O,P,Q,S,B⟩:=m;exact puA [(8,.p (boolX b))] (pf1 h) (boolX b)
theorem yt (m:Msg)(l:List Msg)(hl:l.length<=60000)(hok:∀o,o∈l->o.ok):∀N,60018<=N->Gam.pureD (callF tab ext N) 72 [.sl false 10 (aA l),.fn 73 [.dp m.cells]]=some (boolX (kE l m)):=by
 have hn:=bF l;have hs:=VO (nIn:=0) (P:=fun j=>∀h:j<l.length,¬(D6 l[j].st m.st==0)=true) (B:=60015) (b:=loopAt 125 0) (H:=fun j=>imH (aA l) (.fn 73 [.dp m.cells]) (aA l).length j) (τ:=imH (aA l) (.fn 73 [.dp m.cells]) (aA l).length 0) (n:=(aA l).length) (e:=.exit 0)
  (fin:=⟨[(0,.sl false 10 (aA l)),(1,.fn 73 [.dp m.cells]),(7,nat (aA l).length),(8,nat (aA l).length),(9,boolX false)],[]⟩) (fun r=>∃k:Nat,r=⟨[(4,nat k)],[]⟩) (by cases m;kernel_rfl) (fun j hj=>by
   have a:j<l.length:=by omega
   have Y:=kD a;have O:=BO m l[j] (hok _ (qae a));have W:(∀h:j<l.length,¬(D6 l[j].st m.st==0)=true)↔¬(D6 l[j].st m.st==0)=true:=⟨fun h=>h a,fun h _=>h⟩;rw [W];generalize (D6 l[j].st m.st==0)=b at O ⊢;generalize l[j]=o at Y O;obtain ⟨⟨a1,a2⟩,a3,a4,a5,a6,a7,a8,a9,a0⟩:=o;obtain ⟨⟨q,u⟩,w,y,A,E,F,J,L,f⟩:=m;cases b with
   |true=>exact .inl ⟨by simp,⟨[(4,nat j)],[]⟩,⟨j,rfl⟩,fun M U=>ruA [(9,.b true),(14,.e (Msg.mk ⟨a1,a2⟩ a3 a4 (Val.mk a5 a6 a7 a8 a9 a0)).cells),(16,.p (boolX true))] (pf3 (aI (j:=j) (k:=(aA l).length) (by omega)) Y (O M U))⟩
   |false=>exact .inr ⟨by simp,imH (aA l) (.fn 73 [.dp (Msg.mk ⟨q,u⟩ w y (Val.mk A E F J L f)).cells]) (aA l).length (j+1),by kernel_rfl,fun M U=>ruA [(9,.b true),(14,.e (Msg.mk ⟨a1,a2⟩ a3 a4 (Val.mk a5 a6 a7 a8 a9 a0)).cells),(16,.p (boolX false)),(18,.i (Int.ofNat (j+1)))] (pf4 (aI (j:=j) (k:=(aA l).length) (by omega)) Y (O M U) (ay (j:=j) (by omega)))⟩)
  (fun M _=>ruA [(9,.b false)] (pf1 (aG (qan (aA l).length)))) (by simp)
 have hi:∀N,60017<=N->∃c:Int,decide (0<=c)=kE l m/\Gam.pureD (callF tab ext N) 125 [.sl false 10 (aA l),.fn 73 [.dp m.cells]]=some (num c):=fun N hN=>by
  obtain ⟨M,rfl⟩:=pR_ N;rcases hs with ⟨V,r,⟨k,rfl⟩,h⟩|⟨V,h⟩
  ·refine ⟨Int.ofNat k,?_,?_⟩
   ·have Q:kE l m=true:=by refine Classical.byContradiction fun Z=>V fun j _ h' S=>Z ?_;exact List.any_eq_true.2 ⟨_,qae h',S⟩
    rw [Q];exact decide_eq_true (Int.natCast_nonneg k)
   obtain ⟨⟨q,u⟩,w,y,A,E,F,J,L,f⟩:=m;exact puB [] [(.ret,⟨[(4,nat k)],[]⟩)] (pf1 (h M (by omega) (by omega))) (nat k)
  refine ⟨-1,?_,?_⟩
  ·have Q:kE l m=false:=by refine Bool.eq_false_iff.2 fun Z=>?_;obtain ⟨o,ho,h1⟩:=List.any_eq_true.1 Z;obtain ⟨j,hj,rfl⟩:=List.mem_iff_getElem.1 ho;exact V j (by omega) hj h1
   rw [Q];rfl
  obtain ⟨⟨q,u⟩,w,y,A,E,F,J,L,f⟩:=m;exact puB [] [(.exit 0,⟨[(0,.sl false 10 (aA l)),(1,.fn 73 [.dp (Msg.mk ⟨q,u⟩ w y (Val.mk A E F J L f)).cells]),(7,nat (aA l).length),(8,nat (aA l).length),(9,boolX false)],[]⟩)] (pf1 (h M (by omega) (by omega))) (num (-1))
 intro N hN;obtain ⟨M,rfl⟩:=pR_ N;obtain ⟨c,hc,h⟩:=hi M (by omega);rw [<-hc];obtain ⟨⟨q,u⟩,w,y,A,E,F,J,L,f⟩:=m;exact puA [(7,.p (num c))] (pf1 h) (boolX (decide (0<=c)))
set_option linter.unusedSimpArgs false
theorem yX (k0 i0 s0:Int)(t0:qaX)(l0 f0:qaW)(n0 d0:Int)(items vals:qaW)(n j k v:Nat)(acc:List Msg)(m:Msg)(hm:m.ok)(hacc:∀o,o∈acc->o.ok)(hk:k=acc.length)(hkl:acc.length<=60000)(hj:j<n)(hn:n<=60000)(hg:items[j]?=some m.cells):
  (¬Pck k (Gz m) (kE acc m)=true/\∃r,uQ r/\∀M,120040<=M->run (callF tab ext M) 2 M (loopAt 28 0) (ckH false items n j k v (aA acc) (aJ k0 i0 s0 t0 l0 f0 n0 d0 items vals))=some (.ret,r))\/
  (Pck k (Gz m) (kE acc m)=true/\∃υ,canon 2 υ=some (ckH true items n (j+1) (k+1) v (aA acc++[m.cells]) (aJ k0 i0 s0 t0 l0 f0 n0 d0 items vals))/\∀M,120040<=M->run (callF tab ext M) 2 M (loopAt 28 0) (ckH false items n j k v (aA acc) (aJ k0 i0 s0 t0 l0 f0 n0 d0 items vals))=some (.norm,υ)):=by
 have L:=Ub hm;generalize Gz m=c at L ⊢;have O:=yt m acc hkl hacc;generalize kE acc m=b at O ⊢;have J:=aI hj;have Q:=bF acc;obtain ⟨⟨l,q⟩,u,w,y,A,B,E,F,h⟩:=m;cases f:(Int.ofNat k==256) with
 |true=>exact .inl ⟨(by first|simp only [Pck,f,H,if_true,if_false,qai,Bool.not_true,Bool.not_false,reduceCtorEq,not_false_eq_true,not_true_eq_false]|simp only [Pck,f,if_true,if_false,qai,Bool.not_true,Bool.not_false,reduceCtorEq,not_false_eq_true,not_true_eq_false]|simp only [Pck,if_true,if_false,qai,Bool.not_true,Bool.not_false,reduceCtorEq,not_false_eq_true,not_true_eq_false]),⟨[(4,num 9)],[.var [.bs 1 0 k,nat v],.row 10 (aA acc),.var (aJ k0 i0 s0 t0 l0 f0 n0 d0 items vals),.var (Msg.mk ⟨l,q⟩ u w (Val.mk y A B E F h)).cells]⟩,.a _ _ _ _ _ _ (by decide),fun M N=>ruA [(24,.b true),(25,.e (Msg.mk ⟨l,q⟩ u w (Val.mk y A B E F h)).cells),(32,.b true)] (pf3 J hg f)⟩
 |false=>
  cases H:(!(c==0)) with
  |true=>exact .inl ⟨(by first|simp only [Pck,f,H,if_true,if_false,qai,Bool.not_true,Bool.not_false,reduceCtorEq,not_false_eq_true,not_true_eq_false]|simp only [Pck,f,if_true,if_false,qai,Bool.not_true,Bool.not_false,reduceCtorEq,not_false_eq_true,not_true_eq_false]|simp only [Pck,if_true,if_false,qai,Bool.not_true,Bool.not_false,reduceCtorEq,not_false_eq_true,not_true_eq_false]),⟨[(4,num c)],[.var [.bs 1 0 k,nat v],.row 10 (aA acc),.var (aJ k0 i0 s0 t0 l0 f0 n0 d0 items vals),.var (Msg.mk ⟨l,q⟩ u w (Val.mk y A B E F h)).cells]⟩,.a _ _ _ _ _ _ (by intro P;rw [P] at H;cases H),fun M N=>ruA [(24,.b true),(25,.e (Msg.mk ⟨l,q⟩ u w (Val.mk y A B E F h)).cells),(32,.b false),(34,.p (num c)),(36,.b true)] (pf5 J hg f (L M (by omega)) H)⟩
  |false=>
   cases b with
   |true=>exact .inl ⟨(by first|simp only [Pck,f,H,if_true,if_false,qai,Bool.not_true,Bool.not_false,reduceCtorEq,not_false_eq_true,not_true_eq_false]|simp only [Pck,f,if_true,if_false,qai,Bool.not_true,Bool.not_false,reduceCtorEq,not_false_eq_true,not_true_eq_false]|simp only [Pck,if_true,if_false,qai,Bool.not_true,Bool.not_false,reduceCtorEq,not_false_eq_true,not_true_eq_false]),⟨[(4,num 7)],[.var [.bs 1 0 k,nat v],.row 10 (aA acc),.var (aJ k0 i0 s0 t0 l0 f0 n0 d0 items vals),.dead]⟩,.a _ _ _ _ _ _ (by decide),fun M N=>ruA [(24,.b true),(25,.e (Msg.mk ⟨l,q⟩ u w (Val.mk y A B E F h)).cells),(32,.b false),(34,.p (num c)),(36,.b false),(43,.d [.sl false 10 (aA acc),.fn 73 [.dp (Msg.mk ⟨l,q⟩ u w (Val.mk y A B E F h)).cells]] (boolX true))] (pf6 J hg f (L M (by omega)) H (⟨(vH acc k 1 (.fn 73 [.dp (Msg.mk ⟨l,q⟩ u w (Val.mk y A B E F h)).cells]) [.var [.bs 1 0 k,nat v],.row 10 (aA acc),.var (aJ k0 i0 s0 t0 l0 f0 n0 d0 items vals),.dead] rfl hk (by kernel_rfl)),O M (by omega)⟩:_/\_))⟩
   |false=>exact .inr ⟨(by first|simp only [Pck,f,H,if_true,if_false,qai,Bool.not_true,Bool.not_false,reduceCtorEq,not_false_eq_true,not_true_eq_false]|simp only [Pck,f,if_true,if_false,qai,Bool.not_true,Bool.not_false,reduceCtorEq,not_false_eq_true,not_true_eq_false]|simp only [Pck,if_true,if_false,qai,Bool.not_true,Bool.not_false,reduceCtorEq,not_false_eq_true,not_true_eq_false]),⟨[(0,.ptr 0 0 0),(3,.ptr 2 0 0),(21,.sl false 10 items),(22,nat n),(23,nat (j+1))],[.var [.bs 4 0 (k+1),nat v],.dead,.var (aJ k0 i0 s0 t0 l0 f0 n0 d0 items vals),.dead,.row 10 (aA acc++[(Msg.mk ⟨l,q⟩ u w (Val.mk y A B E F h)).cells])]⟩,by kernel_rfl,fun M N=>ruA [(24,.b true),(25,.e (Msg.mk ⟨l,q⟩ u w (Val.mk y A B E F h)).cells),(32,.b false),(34,.p (num c)),(36,.b false),(43,.d [.sl false 10 (aA acc),.fn 73 [.dp (Msg.mk ⟨l,q⟩ u w (Val.mk y A B E F h)).cells]] (boolX false)),(51,.app),(54,.i (Int.ofNat (j+1)))] (pf8 J hg f (L M (by omega)) H (⟨(vH acc k 1 (.fn 73 [.dp (Msg.mk ⟨l,q⟩ u w (Val.mk y A B E F h)).cells]) [.var [.bs 1 0 k,nat v],.row 10 (aA acc),.var (aJ k0 i0 s0 t0 l0 f0 n0 d0 items vals),.dead] rfl hk (by kernel_rfl)),O M (by omega)⟩:_/\_) (aU (acc:=aA acc) k 1 152 (by omega) (by omega) (by omega)) (ay (j:=j) (by omega)))⟩
theorem Bd (k0 i0 s0:Int)(t0:qaX)(l0 f0:qaW)(n0 d0:Int)(items vals:qaW)(n j k v:Nat)(acc:List Msg)(m:Msg)(hm:m.ok)(hacc:∀o,o∈acc->o.ok)(hk:k=acc.length)(hkl:acc.length<=60000)(hj:j<n)(hn:n<=60000)(hg:items[j]?=some m.cells):
  (¬Pck k (Gz m) (kE acc m)=true/\∃r,uQ r/\∀M,120040<=M->run (callF tab ext M) 2 M (loopAt 28 0) (ckH true items n j k v (aA acc) (aJ k0 i0 s0 t0 l0 f0 n0 d0 items vals))=some (.ret,r))\/
  (Pck k (Gz m) (kE acc m)=true/\∃υ,canon 2 υ=some (ckH true items n (j+1) (k+1) v (aA acc++[m.cells]) (aJ k0 i0 s0 t0 l0 f0 n0 d0 items vals))/\∀M,120040<=M->run (callF tab ext M) 2 M (loopAt 28 0) (ckH true items n j k v (aA acc) (aJ k0 i0 s0 t0 l0 f0 n0 d0 items vals))=some (.norm,υ)):=by
 have J:=Ub hm;generalize Gz m=c at J ⊢;have N:=yt m acc hkl hacc;generalize kE acc m=b at N ⊢;have H:=aI hj;have P:=bF acc;obtain ⟨⟨h,l⟩,q,u,w,y,A,B,E,f⟩:=m;cases a:(Int.ofNat k==256) with
 |true=>exact .inl ⟨(by first|simp only [Pck,a,F,if_true,if_false,qai,Bool.not_true,Bool.not_false,reduceCtorEq,not_false_eq_true,not_true_eq_false]|simp only [Pck,a,if_true,if_false,qai,Bool.not_true,Bool.not_false,reduceCtorEq,not_false_eq_true,not_true_eq_false]|simp only [Pck,if_true,if_false,qai,Bool.not_true,Bool.not_false,reduceCtorEq,not_false_eq_true,not_true_eq_false]),⟨[(4,num 9)],[.var [.bs 3 0 k,nat v],.dead,.var (aJ k0 i0 s0 t0 l0 f0 n0 d0 items vals),.row 10 (aA acc),.var (Msg.mk ⟨h,l⟩ q u (Val.mk w y A B E f)).cells]⟩,.b _ _ _ _ _ _ (by decide),fun M L=>ruA [(24,.b true),(25,.e (Msg.mk ⟨h,l⟩ q u (Val.mk w y A B E f)).cells),(32,.b true)] (pf3 H hg a)⟩
 |false=>
  cases F:(!(c==0)) with
  |true=>exact .inl ⟨(by first|simp only [Pck,a,F,if_true,if_false,qai,Bool.not_true,Bool.not_false,reduceCtorEq,not_false_eq_true,not_true_eq_false]|simp only [Pck,a,if_true,if_false,qai,Bool.not_true,Bool.not_false,reduceCtorEq,not_false_eq_true,not_true_eq_false]|simp only [Pck,if_true,if_false,qai,Bool.not_true,Bool.not_false,reduceCtorEq,not_false_eq_true,not_true_eq_false]),⟨[(4,num c)],[.var [.bs 3 0 k,nat v],.dead,.var (aJ k0 i0 s0 t0 l0 f0 n0 d0 items vals),.row 10 (aA acc),.var (Msg.mk ⟨h,l⟩ q u (Val.mk w y A B E f)).cells]⟩,.b _ _ _ _ _ _ (by intro O;rw [O] at F;cases F),fun M L=>ruA [(24,.b true),(25,.e (Msg.mk ⟨h,l⟩ q u (Val.mk w y A B E f)).cells),(32,.b false),(34,.p (num c)),(36,.b true)] (pf5 H hg a (J M (by omega)) F)⟩
  |false=>
   cases b with
   |true=>exact .inl ⟨(by first|simp only [Pck,a,F,if_true,if_false,qai,Bool.not_true,Bool.not_false,reduceCtorEq,not_false_eq_true,not_true_eq_false]|simp only [Pck,a,if_true,if_false,qai,Bool.not_true,Bool.not_false,reduceCtorEq,not_false_eq_true,not_true_eq_false]|simp only [Pck,if_true,if_false,qai,Bool.not_true,Bool.not_false,reduceCtorEq,not_false_eq_true,not_true_eq_false]),⟨[(4,num 7)],[.var [.bs 3 0 k,nat v],.dead,.var (aJ k0 i0 s0 t0 l0 f0 n0 d0 items vals),.row 10 (aA acc),.dead]⟩,.b _ _ _ _ _ _ (by decide),fun M L=>ruA [(24,.b true),(25,.e (Msg.mk ⟨h,l⟩ q u (Val.mk w y A B E f)).cells),(32,.b false),(34,.p (num c)),(36,.b false),(43,.d [.sl false 10 (aA acc),.fn 73 [.dp (Msg.mk ⟨h,l⟩ q u (Val.mk w y A B E f)).cells]] (boolX true))] (pf6 H hg a (J M (by omega)) F (⟨(vH acc k 3 (.fn 73 [.dp (Msg.mk ⟨h,l⟩ q u (Val.mk w y A B E f)).cells]) [.var [.bs 3 0 k,nat v],.dead,.var (aJ k0 i0 s0 t0 l0 f0 n0 d0 items vals),.row 10 (aA acc),.dead] rfl hk (by kernel_rfl)),N M (by omega)⟩:_/\_))⟩
   |false=>exact .inr ⟨(by first|simp only [Pck,a,F,if_true,if_false,qai,Bool.not_true,Bool.not_false,reduceCtorEq,not_false_eq_true,not_true_eq_false]|simp only [Pck,a,if_true,if_false,qai,Bool.not_true,Bool.not_false,reduceCtorEq,not_false_eq_true,not_true_eq_false]|simp only [Pck,if_true,if_false,qai,Bool.not_true,Bool.not_false,reduceCtorEq,not_false_eq_true,not_true_eq_false]),⟨[(0,.ptr 0 0 0),(3,.ptr 2 0 0),(21,.sl false 10 items),(22,nat n),(23,nat (j+1))],[.var [.bs 5 0 (k+1),nat v],.dead,.var (aJ k0 i0 s0 t0 l0 f0 n0 d0 items vals),.dead,.dead,.row 10 (aA acc++[(Msg.mk ⟨h,l⟩ q u (Val.mk w y A B E f)).cells])]⟩,by kernel_rfl,fun M L=>ruA [(24,.b true),(25,.e (Msg.mk ⟨h,l⟩ q u (Val.mk w y A B E f)).cells),(32,.b false),(34,.p (num c)),(36,.b false),(43,.d [.sl false 10 (aA acc),.fn 73 [.dp (Msg.mk ⟨h,l⟩ q u (Val.mk w y A B E f)).cells]] (boolX false)),(51,.app),(54,.i (Int.ofNat (j+1)))] (pf8 H hg a (J M (by omega)) F (⟨(vH acc k 3 (.fn 73 [.dp (Msg.mk ⟨h,l⟩ q u (Val.mk w y A B E f)).cells]) [.var [.bs 3 0 k,nat v],.dead,.var (aJ k0 i0 s0 t0 l0 f0 n0 d0 items vals),.row 10 (aA acc),.dead] rfl hk (by kernel_rfl)),N M (by omega)⟩:_/\_) (aU (acc:=aA acc) k 3 152 (by omega) (by omega) (by omega)) (ay (j:=j) (by omega)))⟩
theorem UO (k0 i0 s0:Int)(t0:qaX)(l0 f0:qaW)(n0 d0:Int)(items:List Msg)(vals:qaW)(k v:Nat)(acc:List Msg)(hit:∀m,m∈items->m.ok)(hacc:∀o,o∈acc->o.ok)(hk:k=acc.length)(hl:acc.length+items.length<=60000):
  (¬(∀j (h:j<items.length),Pck (k+j) (Gz items[j]) (kE (acc++items.take j) items[j])=true)/\∃r,uQ r/\∀M,120040<=M->run (callF tab ext M) 2 M (.loop (loopAt 28 0)) (ckH false (aA items) (aA items).length 0 k v (aA acc) (aJ k0 i0 s0 t0 l0 f0 n0 d0 (aA items) vals))=some (.ret,r))\/
  ((∀j (h:j<items.length),Pck (k+j) (Gz items[j]) (kE (acc++items.take j) items[j])=true)/\∀M,120040<=M->run (callF tab ext M) 2 M (.loop (loopAt 28 0)) (ckH false (aA items) (aA items).length 0 k v (aA acc) (aJ k0 i0 s0 t0 l0 f0 n0 d0 (aA items) vals))=some (.exit 0,⟨[(0,.ptr 0 0 0),(3,.ptr 2 0 0),(21,.sl false 10 (aA items)),(22,nat (aA items).length),(23,nat (aA items).length),(24,boolX false)],ckB (decide (0<items.length)) (k+items.length) v (aA (acc++items)) (aJ k0 i0 s0 t0 l0 f0 n0 d0 (aA items) vals)⟩)):=by
 have L:=bF items;have y:∀j (h:j<items.length),aA (acc++items.take j)++[items[j].cells]=aA (acc++items.take (j+1)):=fun j h=>by rw [qaV h,<-qaL];simp only [aA,List.map_append,qaR,List.map_nil]
 have:=VO (P:=fun j=>∀h:j<items.length,Pck (k+j) (Gz items[j]) (kE (acc++items.take j) items[j])=true) (nIn:=2) (B:=120040) (b:=loopAt 28 0) (H:=fun j=>ckH (decide (0<j)) (aA items) (aA items).length j (k+j) v (aA (acc++items.take j)) (aJ k0 i0 s0 t0 l0 f0 n0 d0 (aA items) vals))
  (τ:=ckH false (aA items) (aA items).length 0 k v (aA acc) (aJ k0 i0 s0 t0 l0 f0 n0 d0 (aA items) vals)) (n:=items.length) (e:=.exit 0) (fin:=⟨[(0,.ptr 0 0 0),(3,.ptr 2 0 0),(21,.sl false 10 (aA items)),(22,nat (aA items).length),(23,nat (aA items).length),(24,boolX false)],ckB (decide (0<items.length)) (k+items.length) v (aA (acc++items)) (aJ k0 i0 s0 t0 l0 f0 n0 d0 (aA items) vals)⟩) uQ (by rw [List.take_zero,List.append_nil];kernel_rfl) (fun j f=>by
   have A:=kD f;have E:=hit _ (qae f);have a:∀o,o∈acc++items.take j->o.ok:=fun o N=>by
    rcases qaO.1 N with h|h;·exact hacc o h
    exact hit o (List.mem_of_mem_take h)
   have l:k+j=(acc++items.take j).length:=by rw [qau,qag];omega
   have F:decide (0<j+1)=true:=by simp
   have w:(∀h:j<items.length,Pck (k+j) (Gz items[j]) (kE (acc++items.take j) items[j])=true)↔Pck (k+j) (Gz items[j]) (kE (acc++items.take j) items[j])=true:=⟨fun h=>h f,fun h _=>h⟩;rw [w,<-y j f,F,show k+(j+1)=k+j+1 from rfl];cases j with
   |zero=>exact yX _ _ _ _ _ _ _ _ _ _ _ _ _ _ _ _ E a l (by omega) (by omega) (by omega) A
   |succ j=>exact Bd _ _ _ _ _ _ _ _ _ _ _ _ _ _ _ _ E a l (by omega) (by omega) (by omega) A)
  (fun M _=>by have:=zgM k0 i0 s0 t0 l0 f0 n0 d0 (aA items) vals items.length (k+items.length) v (aA (acc++items)) (decide (0<items.length)) M;rw [List.take_length,L];exact this) (by simp)
 rcases this with ⟨u,r,O,h⟩|⟨u,h⟩;·exact .inl ⟨fun J=>u fun j f=>J j,r,O,fun M q=>h M q (by omega)⟩
 exact .inr ⟨fun j f=>u j f f,fun M q=>h M q (by omega)⟩
theorem yV (vals:qaW)(n j k v:Nat)(acc:qaW)(x:Val)(hx:x.ok)(hj:j<n)(hn:n<=60000)(hv:v<=1000000)(hg:vals[j]?=some x.cells):
  (¬Pcv v (zo x)=true/\∃r,uQ r/\∀M,120040<=M->run (callF tab ext M) 2 M (loopAt 28 1) (Yn false vals n j k v acc)=some (.ret,r))\/
  (Pcv v (zo x)=true/\∃υ,canon 2 υ=some (Yn false vals n (j+1) k (v+1) acc)/\∀M,120040<=M->run (callF tab ext M) 2 M (loopAt 28 1) (Yn false vals n j k v acc)=some (.norm,υ)):=by
 have E:=hx;unfold Val.ok at E;have B:∀M,120040<=M->_:=fun M A=>JG hx M (by omega);generalize zo x=c at B ⊢;have h:=aI hj;obtain ⟨l,m,q,u,w,y⟩:=x;cases a:(Int.ofNat v==4096) with
 |true=>exact .inl ⟨(by first|simp only [Pcv,a,f,if_true,if_false,qai,Bool.not_true,Bool.not_false,reduceCtorEq,not_false_eq_true,not_true_eq_false]|simp only [Pcv,a,if_true,qai,not_false_eq_true]|simp only [Pcv,if_true,if_false,qai,Bool.not_true,Bool.not_false,reduceCtorEq,not_false_eq_true,not_true_eq_false]),⟨[(4,num 9)],[.var [.bs 1 0 k,nat v],.row 10 acc,.var (Val.mk l m q u w y).cells]⟩,.c _ _ _ _ _ (by decide),fun M A=>ruA [(59,.b true),(60,.e (Val.mk l m q u w y).cells),(66,.b true)] (pf3 h hg a)⟩
 |false=>
  cases f:(!(c==0)) with
  |true=>exact .inl ⟨(by first|simp only [Pcv,a,f,if_true,if_false,qai,not_false_eq_true]|simp only [Pcv,a,if_true,if_false,qai,Bool.not_true,Bool.not_false,reduceCtorEq,not_false_eq_true,not_true_eq_false]|simp only [Pcv,if_true,if_false,qai,Bool.not_true,Bool.not_false,reduceCtorEq,not_false_eq_true,not_true_eq_false]),⟨[(4,num c)],[.var [.bs 1 0 k,nat v],.row 10 acc,.var (Val.mk l m q u w y).cells]⟩,.c _ _ _ _ _ (by intro F;rw [F] at f;cases f),fun M A=>ruA [(59,.b true),(60,.e (Val.mk l m q u w y).cells),(66,.b false),(68,.p (num c)),(70,.b true)] (pf5 h hg a (B M A) f)⟩
  |false=>exact .inr ⟨(by first|simp only [Pcv,a,f,if_false,qai,not_true_eq_false]|simp only [Pcv,a,if_true,if_false,qai,Bool.not_true,Bool.not_false,reduceCtorEq,not_false_eq_true,not_true_eq_false]|simp only [Pcv,if_true,if_false,qai,Bool.not_true,Bool.not_false,reduceCtorEq,not_false_eq_true,not_true_eq_false]),⟨[(0,.ptr 0 0 0),(56,.sl false 6 vals),(57,nat n),(58,nat (j+1))],[.var [.bs 1 0 k,nat (v+1)],.row 10 acc,.var (Val.mk l m q u w y).cells]⟩,by kernel_rfl,fun M A=>ruA [(59,.b true),(60,.e (Val.mk l m q u w y).cells),(66,.b false),(68,.p (num c)),(70,.b false),(76,.i (Int.ofNat (v+1))),(79,.i (Int.ofNat (j+1)))] (pf7 h hg a (B M A) f (ay (j:=v) (by omega)) (ay (j:=j) (by omega)))⟩
theorem Bc (vals:qaW)(n j k v:Nat)(acc:qaW)(x:Val)(hx:x.ok)(hj:j<n)(hn:n<=60000)(hv:v<=1000000)(hg:vals[j]?=some x.cells):
  (¬Pcv v (zo x)=true/\∃r,uQ r/\∀M,120040<=M->run (callF tab ext M) 2 M (loopAt 28 1) (Yn true vals n j k v acc)=some (.ret,r))\/
  (Pcv v (zo x)=true/\∃υ,canon 2 υ=some (Yn true vals n (j+1) k (v+1) acc)/\∀M,120040<=M->run (callF tab ext M) 2 M (loopAt 28 1) (Yn true vals n j k v acc)=some (.norm,υ)):=by
 have E:=hx;unfold Val.ok at E;have B:∀M,120040<=M->_:=fun M A=>JG hx M (by omega);generalize zo x=c at B ⊢;have h:=aI hj;obtain ⟨l,m,q,u,w,y⟩:=x;cases a:(Int.ofNat v==4096) with
 |true=>exact .inl ⟨(by first|simp only [Pcv,a,f,if_true,if_false,qai,Bool.not_true,Bool.not_false,reduceCtorEq,not_false_eq_true,not_true_eq_false]|simp only [Pcv,a,if_true,qai,not_false_eq_true]|simp only [Pcv,if_true,if_false,qai,Bool.not_true,Bool.not_false,reduceCtorEq,not_false_eq_true,not_true_eq_false]),⟨[(4,num 9)],[.var [.bs 2 0 k,nat v],.dead,.row 10 acc,.var (Val.mk l m q u w y).cells]⟩,.d _ _ _ _ _ (by decide),fun M A=>ruA [(59,.b true),(60,.e (Val.mk l m q u w y).cells),(66,.b true)] (pf3 h hg a)⟩
 |false=>
  cases f:(!(c==0)) with
  |true=>exact .inl ⟨(by first|simp only [Pcv,a,f,if_true,if_false,qai,not_false_eq_true]|simp only [Pcv,a,if_true,if_false,qai,Bool.not_true,Bool.not_false,reduceCtorEq,not_false_eq_true,not_true_eq_false]|simp only [Pcv,if_true,if_false,qai,Bool.not_true,Bool.not_false,reduceCtorEq,not_false_eq_true,not_true_eq_false]),⟨[(4,num c)],[.var [.bs 2 0 k,nat v],.dead,.row 10 acc,.var (Val.mk l m q u w y).cells]⟩,.d _ _ _ _ _ (by intro F;rw [F] at f;cases f),fun M A=>ruA [(59,.b true),(60,.e (Val.mk l m q u w y).cells),(66,.b false),(68,.p (num c)),(70,.b true)] (pf5 h hg a (B M A) f)⟩
  |false=>exact .inr ⟨(by first|simp only [Pcv,a,f,if_false,qai,not_true_eq_false]|simp only [Pcv,a,if_true,if_false,qai,Bool.not_true,Bool.not_false,reduceCtorEq,not_false_eq_true,not_true_eq_false]|simp only [Pcv,if_true,if_false,qai,Bool.not_true,Bool.not_false,reduceCtorEq,not_false_eq_true,not_true_eq_false]),⟨[(0,.ptr 0 0 0),(56,.sl false 6 vals),(57,nat n),(58,nat (j+1))],[.var [.bs 2 0 k,nat (v+1)],.dead,.row 10 acc,.var (Val.mk l m q u w y).cells]⟩,by kernel_rfl,fun M A=>ruA [(59,.b true),(60,.e (Val.mk l m q u w y).cells),(66,.b false),(68,.p (num c)),(70,.b false),(76,.i (Int.ofNat (v+1))),(79,.i (Int.ofNat (j+1)))] (pf7 h hg a (B M A) f (ay (j:=v) (by omega)) (ay (j:=j) (by omega)))⟩
theorem ZY (vs:List Val)(k v:Nat)(acc:qaW)(f:Bool)(hok:∀x,x∈vs->x.ok)(hl:vs.length<=60000)(hv:v<=900000)(hτ:canon 2 τ=some (Yn f (ah vs) (ah vs).length 0 k v acc)):
  (¬(∀j (h:j<vs.length),Pcv (v+j) (zo vs[j])=true)/\∃r,uQ r/\∀M,120040<=M->run (callF tab ext M) 2 M (.loop (loopAt 28 1)) τ=some (.ret,r))\/
  ((∀j (h:j<vs.length),Pcv (v+j) (zo vs[j])=true)/\∀M,120040<=M->run (callF tab ext M) 2 M (.loop (loopAt 28 1)) τ=some (.exit 2,Yo f (ah vs) (ah vs).length (ah vs).length k (v+(ah vs).length) acc)):=by
 have F:=aK vs;have:=VO (P:=fun j=>∀h:j<vs.length,Pcv (v+j) (zo vs[j])=true) (nIn:=2) (B:=120040) (b:=loopAt 28 1) (H:=fun j=>Yn f (ah vs) (ah vs).length j k (v+j) acc) (τ:=τ) (n:=(ah vs).length) (e:=.exit 2) (fin:=Yo f (ah vs) (ah vs).length (ah vs).length k (v+(ah vs).length) acc) uQ hτ (fun j l=>by
   have a:j<vs.length:=by omega
   have w:=dN a;have y:=hok _ (qae a);have u:(∀h:j<vs.length,Pcv (v+j) (zo vs[j])=true)↔Pcv (v+j) (zo vs[j])=true:=⟨fun h=>h a,fun h _=>h⟩;rw [u,show v+(j+1)=v+j+1 from rfl];cases f with
   |false=>exact yV _ _ _ _ _ _ _ y l (by omega) (by omega) w
   |true=>exact Bc _ _ _ _ _ _ _ y l (by omega) (by omega) w)
  (fun M _=>by
   cases f with
   |false=>exact ruA [(59,.b false)] (pf1 (aG (qan (ah vs).length)))
   |true=>exact ruA [(59,.b false)] (pf1 (aG (qan (ah vs).length)))) (by simp)
 rcases this with ⟨q,r,E,h⟩|⟨q,h⟩;·exact .inl ⟨fun A=>q fun j l=>A j,r,E,fun M m=>h M m (by omega)⟩
 exact .inr ⟨fun j l=>q j (by omega) l,fun M m=>h M m (by omega)⟩
def SlP (acc:List Msg)(k v:Nat)(s:Slt):Prop:=
 Yw s.n s.t=0/\(∀j (h:j<s.items.length),Pck (k+j) (Gz s.items[j]) (kE (acc++s.items.take j) s.items[j])=true)/\(∀j (h:j<s.vals.length),Pcv (v+j) (zo s.vals[j])=true)
theorem zaI (s:Slt)(hs:s.ok)(acc:List Msg)(k v:Nat)(hacc:∀o,o∈acc->o.ok)(hk:k=acc.length)(hl:acc.length+s.items.length<=60000)(hv:v<=900000):
  (¬SlP acc k v s/\∃(c:Int) (f:Bool) (k1 v1:Nat) (bG:qaW),c≠0/\∀N,120050<=N->callF tab ext N (.fn 28) [.ptr 0 0 0,.agg s.cells] [.var [.bs 1 0 k,nat v],.row 10 (aA acc)]=some (num c,cvB f k1 v1 bG))\/
  (SlP acc k v s/\∀N,120050<=N->callF tab ext N (.fn 28) [.ptr 0 0 0,.agg s.cells] [.var [.bs 1 0 k,nat v],.row 10 (aA acc)]=some (num 0,cvB (decide (0<s.items.length)) (k+s.items.length) (v+(ah s.vals).length) (aA (acc++s.items)))):=by
 have l:=Ua s.n s.t;have hit:=hs.item;have U:=hs.val;have V:=hs.vals;obtain ⟨⟨L,J,P,Q,O,H⟩,F,A,j,vals⟩:=s;unfold SlP;dsimp only at l hit U V hl ⊢;generalize Yw F A=c0 at l ⊢;have hn:=bF j;cases m:(!(c0==0)) with
 |true=>left;refine ⟨(fun h=>by rw [h.1] at m;cases m),c0,false,k,v,aA acc,(by intro h;rw [h] at m;cases m),fun N S=>?_⟩;obtain ⟨M,rfl⟩:=pR_ N;exact caA [(16,.p (num c0)),(18,.b true)] (pf2 (l M (by omega)) m)
 |false=>
  have Y:c0=0:=by simpa using m
  have q:=UO L J P Q (ah O) (aj H) F A j (ah vals) k v acc hit hacc hk hl;have Z:∀f,canon 2 ⟨[(0,.ptr 0 0 0),(56,.sl false 6 (ah vals)),(57,nat (ah vals).length),(58,nat 0)],ckB f (k+j.length) v (aA (acc++j)) (aJ L J P Q (ah O) (aj H) F A (aA j) (ah vals))⟩=some (Yn f (ah vals) (ah vals).length 0 (k+j.length) v (aA (acc++j))):=fun f=>by
   cases f<;>kernel_rfl
  have w:=ZY vals (k+j.length) v (aA (acc++j)) (decide (0<j.length)) U V hv (Z _);generalize decide (0<j.length)=f at q w;rcases q with ⟨B,r,W,q⟩|⟨B,q⟩
  ·cases W with
   |a c k1 v1 bG x y h=>refine .inl ⟨fun u=>B u.2.1,c,false,k1,v1,bG,h,fun N S=>?_⟩;obtain ⟨M,rfl⟩:=pR_ N;exact caB [(16,.p (num c0)),(18,.b false)] [(.ret,⟨[(4,num c)],[.var [.bs 1 0 k1,nat v1],.row 10 bG,x,y]⟩)] (pf3 (l M (by omega)) m (q M (by omega)))
   |b c k1 v1 bG x y h=>refine .inl ⟨fun u=>B u.2.1,c,true,k1,v1,bG,h,fun N S=>?_⟩;obtain ⟨M,rfl⟩:=pR_ N;exact caB [(16,.p (num c0)),(18,.b false)] [(.ret,⟨[(4,num c)],[.var [.bs 3 0 k1,nat v1],.dead,x,.row 10 bG,y]⟩)] (pf3 (l M (by omega)) m (q M (by omega)))
   |c c k1 v1 bG x h=>refine .inl ⟨fun u=>B u.2.1,c,false,k1,v1,bG,h,fun N S=>?_⟩;obtain ⟨M,rfl⟩:=pR_ N;exact caB [(16,.p (num c0)),(18,.b false)] [(.ret,⟨[(4,num c)],[.var [.bs 1 0 k1,nat v1],.row 10 bG,x]⟩)] (pf3 (l M (by omega)) m (q M (by omega)))
   |d c k1 v1 bG x h=>refine .inl ⟨fun u=>B u.2.1,c,true,k1,v1,bG,h,fun N S=>?_⟩;obtain ⟨M,rfl⟩:=pR_ N;exact caB [(16,.p (num c0)),(18,.b false)] [(.ret,⟨[(4,num c)],[.var [.bs 2 0 k1,nat v1],.dead,.row 10 bG,x]⟩)] (pf3 (l M (by omega)) m (q M (by omega)))
  rcases w with ⟨E,r,W,w⟩|⟨E,w⟩
  ·cases W with
   |a c k1 v1 bG x y h=>
    refine .inl ⟨fun u=>E u.2.2,c,false,k1,v1,bG,h,fun N S=>?_⟩;obtain ⟨M,rfl⟩:=pR_ N;cases f with
    |false=>exact caB [(16,.p (num c0)),(18,.b false)] [(.exit 0,⟨[(0,.ptr 0 0 0),(3,.ptr 2 0 0),(21,.sl false 10 (aA j)),(22,nat (aA j).length),(23,nat (aA j).length),(24,boolX false)],ckB false (k+j.length) v (aA (acc++j)) (aJ L J P Q (ah O) (aj H) F A (aA j) (ah vals))⟩),(.ret,⟨[(4,num c)],[.var [.bs 1 0 k1,nat v1],.row 10 bG,x,y]⟩)] (pf4 (l M (by omega)) m (q M (by omega)) (w M (by omega)))
    |true=>exact caB [(16,.p (num c0)),(18,.b false)] [(.exit 0,⟨[(0,.ptr 0 0 0),(3,.ptr 2 0 0),(21,.sl false 10 (aA j)),(22,nat (aA j).length),(23,nat (aA j).length),(24,boolX false)],ckB true (k+j.length) v (aA (acc++j)) (aJ L J P Q (ah O) (aj H) F A (aA j) (ah vals))⟩),(.ret,⟨[(4,num c)],[.var [.bs 1 0 k1,nat v1],.row 10 bG,x,y]⟩)] (pf4 (l M (by omega)) m (q M (by omega)) (w M (by omega)))
   |b c k1 v1 bG x y h=>
    refine .inl ⟨fun u=>E u.2.2,c,true,k1,v1,bG,h,fun N S=>?_⟩;obtain ⟨M,rfl⟩:=pR_ N;cases f with
    |false=>exact caB [(16,.p (num c0)),(18,.b false)] [(.exit 0,⟨[(0,.ptr 0 0 0),(3,.ptr 2 0 0),(21,.sl false 10 (aA j)),(22,nat (aA j).length),(23,nat (aA j).length),(24,boolX false)],ckB false (k+j.length) v (aA (acc++j)) (aJ L J P Q (ah O) (aj H) F A (aA j) (ah vals))⟩),(.ret,⟨[(4,num c)],[.var [.bs 3 0 k1,nat v1],.dead,x,.row 10 bG,y]⟩)] (pf4 (l M (by omega)) m (q M (by omega)) (w M (by omega)))
    |true=>exact caB [(16,.p (num c0)),(18,.b false)] [(.exit 0,⟨[(0,.ptr 0 0 0),(3,.ptr 2 0 0),(21,.sl false 10 (aA j)),(22,nat (aA j).length),(23,nat (aA j).length),(24,boolX false)],ckB true (k+j.length) v (aA (acc++j)) (aJ L J P Q (ah O) (aj H) F A (aA j) (ah vals))⟩),(.ret,⟨[(4,num c)],[.var [.bs 3 0 k1,nat v1],.dead,x,.row 10 bG,y]⟩)] (pf4 (l M (by omega)) m (q M (by omega)) (w M (by omega)))
   |c c k1 v1 bG x h=>
    refine .inl ⟨fun u=>E u.2.2,c,false,k1,v1,bG,h,fun N S=>?_⟩;obtain ⟨M,rfl⟩:=pR_ N;cases f with
    |false=>exact caB [(16,.p (num c0)),(18,.b false)] [(.exit 0,⟨[(0,.ptr 0 0 0),(3,.ptr 2 0 0),(21,.sl false 10 (aA j)),(22,nat (aA j).length),(23,nat (aA j).length),(24,boolX false)],ckB false (k+j.length) v (aA (acc++j)) (aJ L J P Q (ah O) (aj H) F A (aA j) (ah vals))⟩),(.ret,⟨[(4,num c)],[.var [.bs 1 0 k1,nat v1],.row 10 bG,x]⟩)] (pf4 (l M (by omega)) m (q M (by omega)) (w M (by omega)))
    |true=>exact caB [(16,.p (num c0)),(18,.b false)] [(.exit 0,⟨[(0,.ptr 0 0 0),(3,.ptr 2 0 0),(21,.sl false 10 (aA j)),(22,nat (aA j).length),(23,nat (aA j).length),(24,boolX false)],ckB true (k+j.length) v (aA (acc++j)) (aJ L J P Q (ah O) (aj H) F A (aA j) (ah vals))⟩),(.ret,⟨[(4,num c)],[.var [.bs 1 0 k1,nat v1],.row 10 bG,x]⟩)] (pf4 (l M (by omega)) m (q M (by omega)) (w M (by omega)))
   |d c k1 v1 bG x h=>
    refine .inl ⟨fun u=>E u.2.2,c,true,k1,v1,bG,h,fun N S=>?_⟩;obtain ⟨M,rfl⟩:=pR_ N;cases f with
    |false=>exact caB [(16,.p (num c0)),(18,.b false)] [(.exit 0,⟨[(0,.ptr 0 0 0),(3,.ptr 2 0 0),(21,.sl false 10 (aA j)),(22,nat (aA j).length),(23,nat (aA j).length),(24,boolX false)],ckB false (k+j.length) v (aA (acc++j)) (aJ L J P Q (ah O) (aj H) F A (aA j) (ah vals))⟩),(.ret,⟨[(4,num c)],[.var [.bs 2 0 k1,nat v1],.dead,.row 10 bG,x]⟩)] (pf4 (l M (by omega)) m (q M (by omega)) (w M (by omega)))
    |true=>exact caB [(16,.p (num c0)),(18,.b false)] [(.exit 0,⟨[(0,.ptr 0 0 0),(3,.ptr 2 0 0),(21,.sl false 10 (aA j)),(22,nat (aA j).length),(23,nat (aA j).length),(24,boolX false)],ckB true (k+j.length) v (aA (acc++j)) (aJ L J P Q (ah O) (aj H) F A (aA j) (ah vals))⟩),(.ret,⟨[(4,num c)],[.var [.bs 2 0 k1,nat v1],.dead,.row 10 bG,x]⟩)] (pf4 (l M (by omega)) m (q M (by omega)) (w M (by omega)))
  refine .inr ⟨⟨Y,B,E⟩,?_⟩;intro N S;obtain ⟨M,rfl⟩:=pR_ N;cases f with
  |false=>exact caB [(16,.p (num c0)),(18,.b false)] [(.exit 0,⟨[(0,.ptr 0 0 0),(3,.ptr 2 0 0),(21,.sl false 10 (aA j)),(22,nat (aA j).length),(23,nat (aA j).length),(24,boolX false)],ckB false (k+j.length) v (aA (acc++j)) (aJ L J P Q (ah O) (aj H) F A (aA j) (ah vals))⟩),(.exit 2,Yo false (ah vals) (ah vals).length (ah vals).length (k+j.length) (v+(ah vals).length) (aA (acc++j)))] (pf4 (l M (by omega)) m (q M (by omega)) (w M (by omega)))
  |true=>exact caB [(16,.p (num c0)),(18,.b false)] [(.exit 0,⟨[(0,.ptr 0 0 0),(3,.ptr 2 0 0),(21,.sl false 10 (aA j)),(22,nat (aA j).length),(23,nat (aA j).length),(24,boolX false)],ckB true (k+j.length) v (aA (acc++j)) (aJ L J P Q (ah O) (aj H) F A (aA j) (ah vals))⟩),(.exit 2,Yo true (ah vals) (ah vals).length (ah vals).length (k+j.length) (v+(ah vals).length) (aA (acc++j)))] (pf4 (l M (by omega)) m (q M (by omega)) (w M (by omega)))
def ZR (ce:Int)(z:Bool)(cc:Int)(sp:Prop):Prop:=
 (if !(ce==0) then z else true)=true/\(if cc==0 then false else if cc==-1 then false else true)=true/\sp
def RdP (acc:List Msg)(k v:Nat)(x:Slt)(cc:Int):Prop:=ZR (zo x.key) (dw x.key) cc (SlP acc k v x)
theorem X1a:((1:Int)==0)=false:=by decide
theorem X1b:((1:Int)==-1)=false:=by decide
section
variable {ce cc:Int} {z:Bool} {sp:Prop}
theorem nS (h:¬sp):¬ZR ce z cc sp:=fun a=>h a.2.2
theorem nK (h:(!(ce==0))=true):¬ZR ce false cc sp:=fun a=>by have:=a.1;rw [h] at this;cases this
theorem nE (h:(cc==0)=true):¬ZR ce z cc sp:=fun a=>by have:=a.2.1;rw [h] at this;cases this
theorem nL (h:(cc==-1)=true):¬ZR ce z cc sp:=fun a=>by have:=a.2.1;rw [h] at this;split at this<;>cases this
theorem yA (h:(!(ce==0))=true)(h2:(cc==0)=false)(h3:(cc==-1)=false)(hs:sp):ZR ce true cc sp:=⟨by rw [h];rfl,by rw [h2,h3];rfl,hs⟩
theorem yB (h:(!(ce==0))=false)(h2:(cc==0)=false)(h3:(cc==-1)=false)(hs:sp):ZR ce z cc sp:=⟨by rw [h];rfl,by rw [h2,h3];rfl,hs⟩
end
def Ur (P:Prop)(slots:qaW)(n j k v:Nat)(acc acc':qaW)(a b:Int)(k' v':Nat):Prop:=
 (¬P/\∃r,(∃(c:Int) (bx:List Bx),c≠0/\r=⟨[(2,num c)],bx⟩)/\∀M,190050<=M->run (callF tab ext M) 0 M (loopAt 8 0) (Zr slots slots n j k v acc a b)=some (.ret,r))\/
 (P/\∃υ,canon 0 υ=some (Zr slots slots n (j+1) k' v' acc' a b)/\∀M,190050<=M->run (callF tab ext M) 0 M (loopAt 8 0) (Zr slots slots n j k v acc a b)=some (.norm,υ))
theorem UR (slots:qaW)(n j k v:Nat)(acc:List Msg)(a b:Int)(x:Slt)(hx:x.ok)(hacc:∀o,o∈acc->o.ok)(hk:k=acc.length)(hl:acc.length+x.items.length<=60000)(hv:v<=900000)(hj:j<n)(hn:n<=60000)(hg:slots[j]?=some x.cells)
  (cc0:Int) (zmR:j=0->cc0=1) (ziT:∀i,j=i+1->∃p:Slt,p.ok/\slots[i]?=some p.cells/\cc0=cu x.key p.key):
  Ur (RdP acc k v x cc0) slots n j k v (aA acc) (aA (acc++x.items)) a b (k+x.items.length) (v+(ah x.vals).length):=by
 have q:∀M,120040<=M->_:=fun M L=>JG hx.key M (by have:=hx.key;unfold Val.ok at this;omega);have hz:∀N,120040<=N->Gam.pureD (callF tab ext N) 26 [.agg x.key.cells]=some (boolX (dw x.key)):=fun N hN=>gQ x.key N (by omega);have pb:∀(p:Slt) N,190050<=N->Gam.pureD (callF tab ext N) 27 [.agg x.key.cells,.agg p.key.cells]=some (num (cu x.key p.key)):=fun p N hN=>yw x.key.size N x.key p.key (Nat.le_refl _) (by have:=hx.key;unfold Val.ok at this;omega) (by have:=hx.key;unfold Val.ok at this;omega);have O:=zaI x hx acc k v hacc hk hl hv;have w:=aI hj;unfold RdP;generalize zo x.key=ce at q ⊢;generalize SlP acc k v x=sp at O ⊢;generalize dw x.key=z at hz ⊢;obtain ⟨⟨A,y,E,F,B,u⟩,J,H,h,vals⟩:=x;dsimp only at q hz pb O hl ⊢;unfold Ur;cases j with
 |zero=>
  have pa:=zmR rfl;subst pa;cases m:(!(ce==0)) with
  |true=>
   cases z with
   |true=>
    rcases O with ⟨l,c,f,k1,v1,bG,Z,O⟩|⟨l,O⟩
    ·have Y:=lU Z;cases f with
     |false=>exact .inl ⟨(by first|exact nS l|exact nK m|exact nE P|exact nE Q|exact nL U|exact nL V),⟨[(2,num c)],[.var [num a,num b,.sl false 10 slots],.var [.bs 2 0 k1,nat v1],.row 10 bG,.var (aJ A y E F (ah B) (aj u) J H (aA h) (ah vals))]⟩,⟨_,_,(by first|exact Z|decide|(intro S;rw [S] at m;cases m)),rfl⟩,fun M L=>ruA [(25,.b true),(27,.e (aJ A y E F (ah B) (aj u) J H (aA h) (ah vals))),(31,.p (num ce)),(33,.b true),(37,.p (boolX true)),(42,.b false),(58,.r (num c) (cvB false k1 v1 bG)),(60,.b true)] (pf8 w hg (q M (by omega)) m (hz M (by omega)) fK (O M (by omega)) Y)⟩
     |true=>exact .inl ⟨(by first|exact nS l|exact nK m|exact nE P|exact nE Q|exact nL U|exact nL V),⟨[(2,num c)],[.var [num a,num b,.sl false 10 slots],.var [.bs 4 0 k1,nat v1],.dead,.var (aJ A y E F (ah B) (aj u) J H (aA h) (ah vals)),.row 10 bG]⟩,⟨_,_,(by first|exact Z|decide|(intro S;rw [S] at m;cases m)),rfl⟩,fun M L=>ruA [(25,.b true),(27,.e (aJ A y E F (ah B) (aj u) J H (aA h) (ah vals))),(31,.p (num ce)),(33,.b true),(37,.p (boolX true)),(42,.b false),(58,.r (num c) (cvB true k1 v1 bG)),(60,.b true)] (pf8 w hg (q M (by omega)) m (hz M (by omega)) fK (O M (by omega)) Y)⟩
    generalize hf:decide (0<h.length)=f at O;cases f with
    |false=>exact .inr ⟨(by first|exact yA m P U l|exact yB m Q V l|exact yA m X1a X1b l|exact yB m X1a X1b l),⟨[(1,.ptr 0 0 0),(4,.ptr 1 0 0),(22,.sl false 10 slots),(23,nat n),(24,nat (0+1))],[.var [num a,num b,.sl false 10 slots],.var [.bs 2 0 (k+h.length),nat (v+(ah vals).length)],.row 10 (aA (acc++h)),.var (aJ A y E F (ah B) (aj u) J H (aA h) (ah vals))]⟩,by kernel_rfl,fun M L=>ruA [(25,.b true),(27,.e (aJ A y E F (ah B) (aj u) J H (aA h) (ah vals))),(31,.p (num ce)),(33,.b true),(37,.p (boolX true)),(42,.b false),(58,.r (num 0) (cvB false (k+h.length) (v+(ah vals).length) (aA (acc++h)))),(62,.i (Int.ofNat (0+1)))] (pf8 w hg (q M (by omega)) m (hz M (by omega)) fK (O M (by omega)) (ay (j:=0) (by omega)))⟩
    |true=>exact .inr ⟨(by first|exact yA m P U l|exact yB m Q V l|exact yA m X1a X1b l|exact yB m X1a X1b l),⟨[(1,.ptr 0 0 0),(4,.ptr 1 0 0),(22,.sl false 10 slots),(23,nat n),(24,nat (0+1))],[.var [num a,num b,.sl false 10 slots],.var [.bs 4 0 (k+h.length),nat (v+(ah vals).length)],.dead,.var (aJ A y E F (ah B) (aj u) J H (aA h) (ah vals)),.row 10 (aA (acc++h))]⟩,by kernel_rfl,fun M L=>ruA [(25,.b true),(27,.e (aJ A y E F (ah B) (aj u) J H (aA h) (ah vals))),(31,.p (num ce)),(33,.b true),(37,.p (boolX true)),(42,.b false),(58,.r (num 0) (cvB true (k+h.length) (v+(ah vals).length) (aA (acc++h)))),(62,.i (Int.ofNat (0+1)))] (pf8 w hg (q M (by omega)) m (hz M (by omega)) fK (O M (by omega)) (ay (j:=0) (by omega)))⟩
   |false=>exact .inl ⟨(by first|exact nS l|exact nK m|exact nE P|exact nE Q|exact nL U|exact nL V),⟨[(2,num ce)],[.var [num a,num b,.sl false 10 slots],.var [.bs 2 0 k,nat v],.row 10 (aA acc),.var (aJ A y E F (ah B) (aj u) J H (aA h) (ah vals))]⟩,⟨_,_,(by first|exact Z|decide|(intro S;rw [S] at m;cases m)),rfl⟩,fun M L=>ruA [(25,.b true),(27,.e (aJ A y E F (ah B) (aj u) J H (aA h) (ah vals))),(31,.p (num ce)),(33,.b true),(37,.p (boolX false))] (pf5 w hg (q M (by omega)) m (hz M (by omega)))⟩
  |false=>
   rcases O with ⟨l,c,f,k1,v1,bG,Z,O⟩|⟨l,O⟩
   ·have Y:=lU Z;cases f with
    |false=>exact .inl ⟨(by first|exact nS l|exact nK m|exact nE P|exact nE Q|exact nL U|exact nL V),⟨[(2,num c)],[.var [num a,num b,.sl false 10 slots],.var [.bs 2 0 k1,nat v1],.row 10 bG,.var (aJ A y E F (ah B) (aj u) J H (aA h) (ah vals))]⟩,⟨_,_,(by first|exact Z|decide|(intro S;rw [S] at m;cases m)),rfl⟩,fun M L=>ruA [(25,.b true),(27,.e (aJ A y E F (ah B) (aj u) J H (aA h) (ah vals))),(31,.p (num ce)),(33,.b false),(42,.b false),(58,.r (num c) (cvB false k1 v1 bG)),(60,.b true)] (pf7 w hg (q M (by omega)) m fK (O M (by omega)) Y)⟩
    |true=>exact .inl ⟨(by first|exact nS l|exact nK m|exact nE P|exact nE Q|exact nL U|exact nL V),⟨[(2,num c)],[.var [num a,num b,.sl false 10 slots],.var [.bs 4 0 k1,nat v1],.dead,.var (aJ A y E F (ah B) (aj u) J H (aA h) (ah vals)),.row 10 bG]⟩,⟨_,_,(by first|exact Z|decide|(intro S;rw [S] at m;cases m)),rfl⟩,fun M L=>ruA [(25,.b true),(27,.e (aJ A y E F (ah B) (aj u) J H (aA h) (ah vals))),(31,.p (num ce)),(33,.b false),(42,.b false),(58,.r (num c) (cvB true k1 v1 bG)),(60,.b true)] (pf7 w hg (q M (by omega)) m fK (O M (by omega)) Y)⟩
   generalize hf:decide (0<h.length)=f at O;cases f with
   |false=>exact .inr ⟨(by first|exact yA m P U l|exact yB m Q V l|exact yA m X1a X1b l|exact yB m X1a X1b l),⟨[(1,.ptr 0 0 0),(4,.ptr 1 0 0),(22,.sl false 10 slots),(23,nat n),(24,nat (0+1))],[.var [num a,num b,.sl false 10 slots],.var [.bs 2 0 (k+h.length),nat (v+(ah vals).length)],.row 10 (aA (acc++h)),.var (aJ A y E F (ah B) (aj u) J H (aA h) (ah vals))]⟩,by kernel_rfl,fun M L=>ruA [(25,.b true),(27,.e (aJ A y E F (ah B) (aj u) J H (aA h) (ah vals))),(31,.p (num ce)),(33,.b false),(42,.b false),(58,.r (num 0) (cvB false (k+h.length) (v+(ah vals).length) (aA (acc++h)))),(62,.i (Int.ofNat (0+1)))] (pf7 w hg (q M (by omega)) m fK (O M (by omega)) (ay (j:=0) (by omega)))⟩
   |true=>exact .inr ⟨(by first|exact yA m P U l|exact yB m Q V l|exact yA m X1a X1b l|exact yB m X1a X1b l),⟨[(1,.ptr 0 0 0),(4,.ptr 1 0 0),(22,.sl false 10 slots),(23,nat n),(24,nat (0+1))],[.var [num a,num b,.sl false 10 slots],.var [.bs 4 0 (k+h.length),nat (v+(ah vals).length)],.dead,.var (aJ A y E F (ah B) (aj u) J H (aA h) (ah vals)),.row 10 (aA (acc++h))]⟩,by kernel_rfl,fun M L=>ruA [(25,.b true),(27,.e (aJ A y E F (ah B) (aj u) J H (aA h) (ah vals))),(31,.p (num ce)),(33,.b false),(42,.b false),(58,.r (num 0) (cvB true (k+h.length) (v+(ah vals).length) (aA (acc++h)))),(62,.i (Int.ofNat (0+1)))] (pf7 w hg (q M (by omega)) m fK (O M (by omega)) (ay (j:=0) (by omega)))⟩
 |succ j=>
  obtain ⟨p,pc,hp,pa⟩:=ziT j rfl;have pa:=pa.symm;have W:=pb p;generalize cu (Val.mk A y E F B u) p.key=cc at W pa;subst pa;obtain ⟨⟨p0,p1,p2,p3,p4,p5⟩,p6,p7,p8,p9⟩:=p;cases m:(!(ce==0)) with
  |true=>
   cases z with
   |true=>
    cases P:(cc==0) with
    |true=>exact .inl ⟨(by first|exact nS l|exact nK m|exact nE P|exact nE Q|exact nL U|exact nL V),⟨[(2,num 7)],[.var [num a,num b,.sl false 10 slots],.var [.bs 2 0 k,nat v],.row 10 (aA acc),.var (aJ A y E F (ah B) (aj u) J H (aA h) (ah vals))]⟩,⟨_,_,(by first|exact Z|decide|(intro S;rw [S] at m;cases m)),rfl⟩,fun M L=>ruA [(25,.b true),(27,.e (aJ A y E F (ah B) (aj u) J H (aA h) (ah vals))),(31,.p (num ce)),(33,.b true),(37,.p (boolX true)),(42,.b true),(48,.i (Int.ofNat j)),(49,.e (aJ p0 p1 p2 p3 (ah p4) (aj p5) p6 p7 (aA p8) (ah p9))),(52,.p (num cc)),(54,.b true)] (pf10 w hg (q M (by omega)) m (hz M (by omega)) (dM (j:=j)) (bZ (j:=j) (by omega)) hp (W M L) P)⟩
    |false=>
     cases U:(cc==-1) with
     |true=>exact .inl ⟨(by first|exact nS l|exact nK m|exact nE P|exact nE Q|exact nL U|exact nL V),⟨[(2,num 24)],[.var [num a,num b,.sl false 10 slots],.var [.bs 2 0 k,nat v],.row 10 (aA acc),.var (aJ A y E F (ah B) (aj u) J H (aA h) (ah vals))]⟩,⟨_,_,(by first|exact Z|decide|(intro S;rw [S] at m;cases m)),rfl⟩,fun M L=>ruA [(25,.b true),(27,.e (aJ A y E F (ah B) (aj u) J H (aA h) (ah vals))),(31,.p (num ce)),(33,.b true),(37,.p (boolX true)),(42,.b true),(48,.i (Int.ofNat j)),(49,.e (aJ p0 p1 p2 p3 (ah p4) (aj p5) p6 p7 (aA p8) (ah p9))),(52,.p (num cc)),(54,.b false),(56,.b true)] (pf11 w hg (q M (by omega)) m (hz M (by omega)) (dM (j:=j)) (bZ (j:=j) (by omega)) hp (W M L) P U)⟩
     |false=>
      rcases O with ⟨l,c,f,k1,v1,bG,Z,O⟩|⟨l,O⟩
      ·have Y:=lU Z;cases f with
       |false=>exact .inl ⟨(by first|exact nS l|exact nK m|exact nE P|exact nE Q|exact nL U|exact nL V),⟨[(2,num c)],[.var [num a,num b,.sl false 10 slots],.var [.bs 2 0 k1,nat v1],.row 10 bG,.var (aJ A y E F (ah B) (aj u) J H (aA h) (ah vals))]⟩,⟨_,_,(by first|exact Z|decide|(intro S;rw [S] at m;cases m)),rfl⟩,fun M L=>ruA [(25,.b true),(27,.e (aJ A y E F (ah B) (aj u) J H (aA h) (ah vals))),(31,.p (num ce)),(33,.b true),(37,.p (boolX true)),(42,.b true),(48,.i (Int.ofNat j)),(49,.e (aJ p0 p1 p2 p3 (ah p4) (aj p5) p6 p7 (aA p8) (ah p9))),(52,.p (num cc)),(54,.b false),(56,.b false),(58,.r (num c) (cvB false k1 v1 bG)),(60,.b true)] (pf13 w hg (q M (by omega)) m (hz M (by omega)) (dM (j:=j)) (bZ (j:=j) (by omega)) hp (W M L) P U (O M (by omega)) Y)⟩
       |true=>exact .inl ⟨(by first|exact nS l|exact nK m|exact nE P|exact nE Q|exact nL U|exact nL V),⟨[(2,num c)],[.var [num a,num b,.sl false 10 slots],.var [.bs 4 0 k1,nat v1],.dead,.var (aJ A y E F (ah B) (aj u) J H (aA h) (ah vals)),.row 10 bG]⟩,⟨_,_,(by first|exact Z|decide|(intro S;rw [S] at m;cases m)),rfl⟩,fun M L=>ruA [(25,.b true),(27,.e (aJ A y E F (ah B) (aj u) J H (aA h) (ah vals))),(31,.p (num ce)),(33,.b true),(37,.p (boolX true)),(42,.b true),(48,.i (Int.ofNat j)),(49,.e (aJ p0 p1 p2 p3 (ah p4) (aj p5) p6 p7 (aA p8) (ah p9))),(52,.p (num cc)),(54,.b false),(56,.b false),(58,.r (num c) (cvB true k1 v1 bG)),(60,.b true)] (pf13 w hg (q M (by omega)) m (hz M (by omega)) (dM (j:=j)) (bZ (j:=j) (by omega)) hp (W M L) P U (O M (by omega)) Y)⟩
      generalize hf:decide (0<h.length)=f at O;cases f with
      |false=>exact .inr ⟨(by first|exact yA m P U l|exact yB m Q V l|exact yA m X1a X1b l|exact yB m X1a X1b l),⟨[(1,.ptr 0 0 0),(4,.ptr 1 0 0),(22,.sl false 10 slots),(23,nat n),(24,nat ((j+1)+1))],[.var [num a,num b,.sl false 10 slots],.var [.bs 2 0 (k+h.length),nat (v+(ah vals).length)],.row 10 (aA (acc++h)),.var (aJ A y E F (ah B) (aj u) J H (aA h) (ah vals))]⟩,by kernel_rfl,fun M L=>ruA [(25,.b true),(27,.e (aJ A y E F (ah B) (aj u) J H (aA h) (ah vals))),(31,.p (num ce)),(33,.b true),(37,.p (boolX true)),(42,.b true),(48,.i (Int.ofNat j)),(49,.e (aJ p0 p1 p2 p3 (ah p4) (aj p5) p6 p7 (aA p8) (ah p9))),(52,.p (num cc)),(54,.b false),(56,.b false),(58,.r (num 0) (cvB false (k+h.length) (v+(ah vals).length) (aA (acc++h)))),(62,.i (Int.ofNat ((j+1)+1)))] (pf13 w hg (q M (by omega)) m (hz M (by omega)) (dM (j:=j)) (bZ (j:=j) (by omega)) hp (W M L) P U (O M (by omega)) (ay (j:=(j+1)) (by omega)))⟩
      |true=>exact .inr ⟨(by first|exact yA m P U l|exact yB m Q V l|exact yA m X1a X1b l|exact yB m X1a X1b l),⟨[(1,.ptr 0 0 0),(4,.ptr 1 0 0),(22,.sl false 10 slots),(23,nat n),(24,nat ((j+1)+1))],[.var [num a,num b,.sl false 10 slots],.var [.bs 4 0 (k+h.length),nat (v+(ah vals).length)],.dead,.var (aJ A y E F (ah B) (aj u) J H (aA h) (ah vals)),.row 10 (aA (acc++h))]⟩,by kernel_rfl,fun M L=>ruA [(25,.b true),(27,.e (aJ A y E F (ah B) (aj u) J H (aA h) (ah vals))),(31,.p (num ce)),(33,.b true),(37,.p (boolX true)),(42,.b true),(48,.i (Int.ofNat j)),(49,.e (aJ p0 p1 p2 p3 (ah p4) (aj p5) p6 p7 (aA p8) (ah p9))),(52,.p (num cc)),(54,.b false),(56,.b false),(58,.r (num 0) (cvB true (k+h.length) (v+(ah vals).length) (aA (acc++h)))),(62,.i (Int.ofNat ((j+1)+1)))] (pf13 w hg (q M (by omega)) m (hz M (by omega)) (dM (j:=j)) (bZ (j:=j) (by omega)) hp (W M L) P U (O M (by omega)) (ay (j:=(j+1)) (by omega)))⟩
   |false=>exact .inl ⟨(by first|exact nS l|exact nK m|exact nE P|exact nE Q|exact nL U|exact nL V),⟨[(2,num ce)],[.var [num a,num b,.sl false 10 slots],.var [.bs 2 0 k,nat v],.row 10 (aA acc),.var (aJ A y E F (ah B) (aj u) J H (aA h) (ah vals))]⟩,⟨_,_,(by first|exact Z|decide|(intro S;rw [S] at m;cases m)),rfl⟩,fun M L=>ruA [(25,.b true),(27,.e (aJ A y E F (ah B) (aj u) J H (aA h) (ah vals))),(31,.p (num ce)),(33,.b true),(37,.p (boolX false))] (pf5 w hg (q M (by omega)) m (hz M (by omega)))⟩
  |false=>
   cases Q:(cc==0) with
   |true=>exact .inl ⟨(by first|exact nS l|exact nK m|exact nE P|exact nE Q|exact nL U|exact nL V),⟨[(2,num 7)],[.var [num a,num b,.sl false 10 slots],.var [.bs 2 0 k,nat v],.row 10 (aA acc),.var (aJ A y E F (ah B) (aj u) J H (aA h) (ah vals))]⟩,⟨_,_,(by first|exact Z|decide|(intro S;rw [S] at m;cases m)),rfl⟩,fun M L=>ruA [(25,.b true),(27,.e (aJ A y E F (ah B) (aj u) J H (aA h) (ah vals))),(31,.p (num ce)),(33,.b false),(42,.b true),(48,.i (Int.ofNat j)),(49,.e (aJ p0 p1 p2 p3 (ah p4) (aj p5) p6 p7 (aA p8) (ah p9))),(52,.p (num cc)),(54,.b true)] (pf9 w hg (q M (by omega)) m (dM (j:=j)) (bZ (j:=j) (by omega)) hp (W M L) Q)⟩
   |false=>
    cases V:(cc==-1) with
    |true=>exact .inl ⟨(by first|exact nS l|exact nK m|exact nE P|exact nE Q|exact nL U|exact nL V),⟨[(2,num 24)],[.var [num a,num b,.sl false 10 slots],.var [.bs 2 0 k,nat v],.row 10 (aA acc),.var (aJ A y E F (ah B) (aj u) J H (aA h) (ah vals))]⟩,⟨_,_,(by first|exact Z|decide|(intro S;rw [S] at m;cases m)),rfl⟩,fun M L=>ruA [(25,.b true),(27,.e (aJ A y E F (ah B) (aj u) J H (aA h) (ah vals))),(31,.p (num ce)),(33,.b false),(42,.b true),(48,.i (Int.ofNat j)),(49,.e (aJ p0 p1 p2 p3 (ah p4) (aj p5) p6 p7 (aA p8) (ah p9))),(52,.p (num cc)),(54,.b false),(56,.b true)] (pf10 w hg (q M (by omega)) m (dM (j:=j)) (bZ (j:=j) (by omega)) hp (W M L) Q V)⟩
    |false=>
     rcases O with ⟨l,c,f,k1,v1,bG,Z,O⟩|⟨l,O⟩
     ·have Y:=lU Z;cases f with
      |false=>exact .inl ⟨(by first|exact nS l|exact nK m|exact nE P|exact nE Q|exact nL U|exact nL V),⟨[(2,num c)],[.var [num a,num b,.sl false 10 slots],.var [.bs 2 0 k1,nat v1],.row 10 bG,.var (aJ A y E F (ah B) (aj u) J H (aA h) (ah vals))]⟩,⟨_,_,(by first|exact Z|decide|(intro S;rw [S] at m;cases m)),rfl⟩,fun M L=>ruA [(25,.b true),(27,.e (aJ A y E F (ah B) (aj u) J H (aA h) (ah vals))),(31,.p (num ce)),(33,.b false),(42,.b true),(48,.i (Int.ofNat j)),(49,.e (aJ p0 p1 p2 p3 (ah p4) (aj p5) p6 p7 (aA p8) (ah p9))),(52,.p (num cc)),(54,.b false),(56,.b false),(58,.r (num c) (cvB false k1 v1 bG)),(60,.b true)] (pf12 w hg (q M (by omega)) m (dM (j:=j)) (bZ (j:=j) (by omega)) hp (W M L) Q V (O M (by omega)) Y)⟩
      |true=>exact .inl ⟨(by first|exact nS l|exact nK m|exact nE P|exact nE Q|exact nL U|exact nL V),⟨[(2,num c)],[.var [num a,num b,.sl false 10 slots],.var [.bs 4 0 k1,nat v1],.dead,.var (aJ A y E F (ah B) (aj u) J H (aA h) (ah vals)),.row 10 bG]⟩,⟨_,_,(by first|exact Z|decide|(intro S;rw [S] at m;cases m)),rfl⟩,fun M L=>ruA [(25,.b true),(27,.e (aJ A y E F (ah B) (aj u) J H (aA h) (ah vals))),(31,.p (num ce)),(33,.b false),(42,.b true),(48,.i (Int.ofNat j)),(49,.e (aJ p0 p1 p2 p3 (ah p4) (aj p5) p6 p7 (aA p8) (ah p9))),(52,.p (num cc)),(54,.b false),(56,.b false),(58,.r (num c) (cvB true k1 v1 bG)),(60,.b true)] (pf12 w hg (q M (by omega)) m (dM (j:=j)) (bZ (j:=j) (by omega)) hp (W M L) Q V (O M (by omega)) Y)⟩
     generalize hf:decide (0<h.length)=f at O;cases f with
     |false=>exact .inr ⟨(by first|exact yA m P U l|exact yB m Q V l|exact yA m X1a X1b l|exact yB m X1a X1b l),⟨[(1,.ptr 0 0 0),(4,.ptr 1 0 0),(22,.sl false 10 slots),(23,nat n),(24,nat ((j+1)+1))],[.var [num a,num b,.sl false 10 slots],.var [.bs 2 0 (k+h.length),nat (v+(ah vals).length)],.row 10 (aA (acc++h)),.var (aJ A y E F (ah B) (aj u) J H (aA h) (ah vals))]⟩,by kernel_rfl,fun M L=>ruA [(25,.b true),(27,.e (aJ A y E F (ah B) (aj u) J H (aA h) (ah vals))),(31,.p (num ce)),(33,.b false),(42,.b true),(48,.i (Int.ofNat j)),(49,.e (aJ p0 p1 p2 p3 (ah p4) (aj p5) p6 p7 (aA p8) (ah p9))),(52,.p (num cc)),(54,.b false),(56,.b false),(58,.r (num 0) (cvB false (k+h.length) (v+(ah vals).length) (aA (acc++h)))),(62,.i (Int.ofNat ((j+1)+1)))] (pf12 w hg (q M (by omega)) m (dM (j:=j)) (bZ (j:=j) (by omega)) hp (W M L) Q V (O M (by omega)) (ay (j:=(j+1)) (by omega)))⟩
     |true=>exact .inr ⟨(by first|exact yA m P U l|exact yB m Q V l|exact yA m X1a X1b l|exact yB m X1a X1b l),⟨[(1,.ptr 0 0 0),(4,.ptr 1 0 0),(22,.sl false 10 slots),(23,nat n),(24,nat ((j+1)+1))],[.var [num a,num b,.sl false 10 slots],.var [.bs 4 0 (k+h.length),nat (v+(ah vals).length)],.dead,.var (aJ A y E F (ah B) (aj u) J H (aA h) (ah vals)),.row 10 (aA (acc++h))]⟩,by kernel_rfl,fun M L=>ruA [(25,.b true),(27,.e (aJ A y E F (ah B) (aj u) J H (aA h) (ah vals))),(31,.p (num ce)),(33,.b false),(42,.b true),(48,.i (Int.ofNat j)),(49,.e (aJ p0 p1 p2 p3 (ah p4) (aj p5) p6 p7 (aA p8) (ah p9))),(52,.p (num cc)),(54,.b false),(56,.b false),(58,.r (num 0) (cvB true (k+h.length) (v+(ah vals).length) (aA (acc++h)))),(62,.i (Int.ofNat ((j+1)+1)))] (pf12 w hg (q M (by omega)) m (dM (j:=j)) (bZ (j:=j) (by omega)) hp (W M L) Q V (O M (by omega)) (ay (j:=(j+1)) (by omega)))⟩
def YF (ss:List Slt)(j:Nat):Int:=if j=0 then 1 else match ss[j]?,ss[j-1]? with
 |some x,some p=>cu x.key p.key
 |_,_=>1
def StP (s:Stt):Prop:=Yw s.n s.t=0/\∀j (h:j<s.slots.length),RdP (dB (s.slots.take j)) (dB (s.slots.take j)).length (valsOf (s.slots.take j)) s.slots[j] (YF s.slots j)
theorem J8 (s:Stt)(hs:s.small):∃c:Int,(c=0↔StP s)/\∀N,190060<=N->Gam.pureD (callF tab ext N) 8 [.agg s.cells]=some (num c):=by
 have f:=Ua s.n s.t;have W:=hs.slots;have w:=hs.slot;obtain ⟨a,b,ss⟩:=s;unfold StP;dsimp only at f W w ⊢;generalize Yw a b=c0 at f ⊢;have hn:=aN ss;have q:=VO (nIn:=0) (P:=fun j=>∀h:j<ss.length,RdP (dB (ss.take j)) (dB (ss.take j)).length (valsOf (ss.take j)) ss[j] (YF ss j)) (B:=190050) (b:=loopAt 8 0) (H:=fun j=>Zr (ak ss) (ak ss) (ak ss).length j (dB (ss.take j)).length (valsOf (ss.take j)) (aA (dB (ss.take j))) a b)
  (τ:=⟨[(1,.ptr 0 0 0),(4,.ptr 1 0 0),(22,.sl false 10 (ak ss)),(23,nat (ak ss).length),(24,nat 0)],[.var [num a,num b,.sl false 10 (ak ss)],.var [.bs 2 0 0,nat 0],.row 10 []]⟩) (n:=ss.length) (e:=.exit 0)
  (fin:=⟨(Zr (ak ss) (ak ss) (ak ss).length (ak ss).length (dB ss).length (valsOf ss) (aA (dB ss)) a b).tm++[(25,boolX false)],(Zr (ak ss) (ak ss) (ak ss).length (ak ss).length (dB ss).length (valsOf ss) (aA (dB ss)) a b).bx⟩)
  (fun r=>∃(c:Int) (bx:List Bx),c≠0/\r=⟨[(2,num c)],bx⟩) (by kernel_rfl) (fun j m=>by
   have U:=aW m;have J:=w _ (qae m);have y:∀o,o∈dB (ss.take j)->o.ok:=fun o F=>by obtain ⟨x,l,F⟩:=List.mem_flatMap.1 F;exact (w x (List.mem_of_mem_take l)).1.item o F
   have Y:=uG (ss.take j) fun x l=>(w x (List.mem_of_mem_take l)).2.1;have pa:=Ew (ss.take j) fun x l=>(w x (List.mem_of_mem_take l)).2.2;have Z:(ss.take j).length<=100:=by rw [qag];omega
   have E:(∀h:j<ss.length,RdP (dB (ss.take j)) (dB (ss.take j)).length (valsOf (ss.take j)) ss[j] (YF ss j))↔RdP (dB (ss.take j)) (dB (ss.take j)).length (valsOf (ss.take j)) ss[j] (YF ss j):=⟨fun h=>h m,fun h _=>h⟩;rw [E];have:=UR (ak ss) (ak ss).length j (dB (ss.take j)).length (valsOf (ss.take j)) (dB (ss.take j)) a b ss[j] J.1 y rfl (by omega) (by omega) (by omega) (by omega) U
    (YF ss j) (fun h=>by unfold YF;rw [if_pos h]) (fun i V=>⟨ss[i]'(by omega),(w _ (qae (by omega))).1,aW (by omega),by subst V;unfold YF;rw [if_neg (by omega),qad m,show i+1-1=i from rfl,qad (show i<ss.length by omega)]⟩)
   have Q:ss.take (j+1)=ss.take j++[ss[j]]:=qaV m;rw [Q,GX,oV,qau];exact this)
  (fun M _=>by rw [List.take_length,<-hn];exact ruA [(25,.b false)] (pf1 (aG (qan (ak ss).length)))) (by simp)
 cases u:(!(c0==0)) with
 |true=>refine ⟨c0,⟨(fun h=>by rw [h] at u;cases u),fun h=>h.1⟩,fun N O=>?_⟩;obtain ⟨M,rfl⟩:=pR_ N;exact puA [(13,.p (num c0)),(15,.b true)] (pf2 (f M (by omega)) u) (num c0)
 |false=>
  have hz:c0=0:=by simpa using u
  have L:decide (1024<Int.ofNat (ak ss).length)=false:=decide_eq_false (by simp only [qaq];omega);rcases q with ⟨A,r,⟨c,bx,S,rfl⟩,h⟩|⟨A,h⟩;·refine ⟨c,⟨fun h=>absurd h S,fun h=>absurd (fun j _=>h.2 j) A⟩,fun N O=>?_⟩;obtain ⟨M,rfl⟩:=pR_ N;exact puB [(13,.p (num c0)),(15,.b false),(20,.b false)] [(.ret,⟨[(2,num c)],bx⟩)] (pf4 (f M (by omega)) u L (h M (by omega) (by omega))) (num c)
  refine ⟨0,⟨fun _=>⟨hz,fun j m=>A j m m⟩,fun _=>rfl⟩,fun N O=>?_⟩;obtain ⟨M,rfl⟩:=pR_ N;exact puB [(13,.p (num c0)),(15,.b false),(20,.b false)] [(.exit 0,⟨(Zr (ak ss) (ak ss) (ak ss).length (ak ss).length (dB ss).length (valsOf ss) (aA (dB ss)) a b).tm++[(25,boolX false)],(Zr (ak ss) (ak ss) (ak ss).length (ak ss).length (dB ss).length (valsOf ss) (aA (dB ss)) a b).bx⟩)] (pf4 (f M (by omega)) u L (h M (by omega) (by omega))) (num 0)
end Go.Proofs.YtcbeoccmflnejaaGreatDoor
