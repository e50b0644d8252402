/-.-/
import Derived.Test.YtkeefpkcepodeaaGreatDoorU45
set_option linter.all false
namespace Go.Proofs.YtkeefpkcepodeaaGreatDoor
open Go Go.Em Go.Ab
set_option maxRecDepth 100000
def ohE (c:List X)(n:Nat):St:=⟨[(2,.ptr 0 0 0),(3,.ptr 1 0 0),(5,nat n),(25,boolX false)],[.var c,.var c]⟩
theorem N8 (M:Nat)(hM:190018<=M)(s:Stt)(hs:s.ok)(l:List Otp)(hi:l.length<=60000)(ho:∀x,x∈l->Gam.pureD (callF tab ext (M+1)) 53 [.agg x.m.cells,.agg x.m.cells]=some (boolX true))(f:Fte)(hf:f.ok):
  Gam.pureD (callF tab ext (M+2)) 24 [.agg (Ocm.mk s l [f] []).cells,.agg (Ocm.mk s l [f] []).cells]=some (boolX true):=by
 have S:=DC (M+1) s hs (by omega);have U:=zgN M [f] (fun a u=>by obtain rfl:=qaa.1 u;exact UJ M _ hf (by omega)) (by simp) (by simp;omega);have V:=zgM M [] (fun a u=>by cases u) (by simp) (by simp;omega);have y:=NG (M-2);rw [show M-2+3=M+1 by omega] at y;have Y:=jT l;have h:run (callF tab ext (M+1)) 0 (M+1) (.loop (loopAt 24 0)) (ohH (Ocm.mk s l [f] []).cells 0)=some (.exit 0,ohE (Ocm.mk s l [f] []).cells (iH l).length):=by
  refine aQ (σ:=fun j=>ohH (Ocm.mk s l [f] []).cells j) (k:=(iH l).length) (by kernel_rfl) (fun j W=>?_) ?_ (by simp) (by omega)
  ·have q:j<l.length:=by omega
   have n:=yN q;have A:=ho l[j] (qaf q);generalize l[j]=a at n A;obtain ⟨w,⟨E,F⟩,H,J,L,N,O,P,Q,B⟩:=a;exact dQ ((fun x=>[(25,.b true),(31,.e x),(37,.e x),(40,.b false),(45,.e x),(51,.e x),(54,.p (boolX true)),(27,.i (Int.ofNat (j+1)))]) (Otp.mk w (Msg.mk ⟨E,F⟩ H J (Val.mk L N O P Q B))).cells)
     (pf8 (aH (j:=j) (k:=(iH l).length) (by omega)) n n (ne_self (x:=w)) n n A (ay (j:=j) (by omega))) (by kernel_rfl)
  exact ruA [(25,.b false)] (pf1 (aG (qas (iH l).length)))
 exact puB [(10,.p (boolX true)),(19,.b false),(61,.p (boolX true)),(67,.p (boolX true)),(74,.p (boolX true))] [(.exit 0,ohE (Ocm.mk s l [f] []).cells (iH l).length)] (pf6 S (nN (k:=(iH l).length)) h y U V) (boolX true)
theorem zdG (s:Stt)(hs:s.ok)(m:Msg)(hm:m.ok)(hp:m.st.p.length<50000)(name:qaW)(q:Ct.SL)(hq:q.okB):∃B,∀N,B<=N->Gam.pureD (callF tab ext N) 24 [.agg (Ct.spO s m name q).cells,.agg (Ct.spO s m name q).cells]=some (boolX true):=by
 cases q with
 |bad r=>have H:(Fte.mk m.st 4 name [] r).ok:=⟨hm.st,by simp,by simp⟩;exact ⟨190020,fun N u=>zen N _ (by constructor<;>simp_all [Ct.spO]) u⟩
 |good l=>
  obtain ⟨J,L,F⟩:=hq;refine ⟨190020+3*iZ l,fun N u=>?_⟩;obtain ⟨M,rfl⟩:∃M,N=M+2:=⟨N-2,by omega⟩;have f:=Ct.DT m hm hp l l.length;have a:=Ct.lg m l l.length;refine N8 M (by omega) s hs _ (by simp [a];omega) (fun x E=>?_) _ ⟨hm.st,?_,fun y h=>?_⟩;·obtain ⟨y,h,rfl⟩:=qah.1 E;have n:=f y h;obtain ⟨j,A,rfl⟩:=qah.1 h;have w:l.getD j zhe∈l:=MP (List.mem_range.1 A);have hz:=fD w;exact zaq (M+1) _ ⟨n,hm.orig,F _ w⟩ (by show 190001+3*(l.getD j zhe).size<=M+1;omega)
  ·rw [Ct.zZ,a];omega
  obtain ⟨z,hz,rfl⟩:=qah.1 h;exact f z hz
section
variable (nd:Nod) (o:Ocm) (m:Msg) (s:Stt) (P:qaV)
def whH (acc:qaV)(j:Nat):St:=⟨[(3,.ptr 0 0 0),(7,.ptr 1 0 0),(8,.ptr 2 0 0),(9,.ptr 3 0 0),(12,.sl false 10 P),(13,nat j)],[.var nd.cells,.var o.cells,.var [num s.n,num s.t,.sl false 10 (aW s.slots),.bs 4 0 j,.sl true 11 [],.sl true 6 [],.sl true 10 []],.var m.cells,.row 11 acc]⟩
def whE (acc:qaV)(j:Nat):St:=⟨(whH nd o m s P acc j).1++[(58,boolX false)],(whH nd o m s P acc j).2⟩
def wh0 (i:Inp):St:=⟨[(3,.ptr 0 0 0),(7,.ptr 3 0 0),(8,.ptr 4 0 0),(9,.ptr 5 0 0),(12,.sl false 10 P),(13,num 0)],[.var nd.cells,.var [num s.n,num s.t,.sl false 10 (aW s.slots)],.var i.cells,.var o.cells,.var [num s.n,num s.t,.sl false 10 (aW s.slots),.bs 6 0 0,.sl true 11 [],.sl true 6 [],.sl true 10 []],.var m.cells,.row 11 []]⟩
end
theorem zhv (nd:Nod)(o:Ocm)(m:Msg)(i:Inp)(s:Stt)(l:List Msg)(hl:l.length<3000)(N:Nat)(hN:l.length<N):
  run (callF tab ext N) 0 N (.loop (loopAt 7 0)) (wh0 nd o m s (aI l) i)=some (.exit 0,whE nd o m s (aI l) (Ct.zrC (aI l) l.length) l.length):=by
 have w:=dG l;obtain ⟨⟨a,b⟩,c,d,⟨e,f,g,h,p,q⟩⟩:=m;refine aQ (σ:=fun j=>whH nd o ⟨⟨a,b⟩,c,d,⟨e,f,g,h,p,q⟩⟩ s (aI l) (Ct.zrC (aI l) j) j) (k:=l.length) ?_ (fun j u=>?_) (ruA [(58,.b false)] (pf1 (aG (j:=l.length) (k:=(aI l).length) (by omega)))) (by simp) hN;·obtain ⟨_,_,⟨_,_⟩,⟨⟨_,_⟩,_,_,⟨_,_,_,_,_,_⟩⟩,_,_,_,⟨_,_,_,_,_,_⟩⟩:=i;kernel_rfl
 have n:=jU u;have hz:=(Ct.uD (aI l) j).symm;rw [Ct.S9 _ n];generalize l[j]=x at n;generalize Ct.zrC (aI l) j=acc at*;obtain ⟨⟨J,M⟩,O,L,⟨y,A,B,E,F,H⟩⟩:=x;exact dQ [(58,.b true),(65,.e (Msg.mk ⟨J,M⟩ O L (.mk y A B E F H)).cells),(69,.app),(60,.i (Int.ofNat (j+1)))] (pf4 (aH (j:=j) (k:=(aI l).length) (by omega)) n (dX j 4 160 hz (by omega) (by omega)) (ay (j:=j) (by omega))) (by kernel_rfl)
theorem wh_data (o:Ocm)(s:Stt)(acc:qaV)(f:Fte)(bx:List Bx)(hg:bx[4]?=some (.row 11 acc)):dH bx false [.agg o.cells,.agg [num s.n,num s.t,.sl false 10 (aW s.slots),.bs 4 0 acc.length,.sl true 11 [],.sl true 6 [f.cells],.sl true 10 []]]=some [.agg o.cells,.agg (ocC s.n s.t (aW s.slots) acc [f.cells] [])]:=by simp [X.data,dH,num,Ocm.cells,ocC,fG (i:=4) (n:=acc.length) hg rfl]
section
variable {nd nd':Nod} {s s':Stt} {i i':Inp} {o:Ocm} {N:Nat}
 (h66:Gam.pureD (callF tab ext N) 8 [.agg nd.cells,.agg i.cells]=some (.tup [.agg nd'.cells,.agg i'.cells])) (h42:Gam.pureD (callF tab ext N) 18 [.agg s.cells]=some (.agg s'.cells)) (h68:Gam.pureD (callF tab ext N) 10 []=some (boolX true))
 (h67:Gam.pureD (callF tab ext N) 9 [.agg nd'.cells,.agg s'.cells,.agg i'.cells]=some (.agg o.cells))
include h66 h42 h68 h67
theorem PX (hk:(i'.kind==1)=false)(h48:Gam.pureD (callF tab ext N) 24 [.agg o.cells,.agg (ocC s'.n s'.t (aW s'.slots) [] [] [])]=some (boolX true)):
  callF tab ext (N+1) (.fn 7) [.agg nd.cells,.agg s.cells,.agg i.cells] []=some (.v (.bool true),[]):=by
 obtain ⟨_,_,⟨_,_⟩,⟨⟨_,_⟩,_,_,⟨_,_,_,_,_,_⟩⟩,_,_,_,⟨_,_,_,_,_,_⟩⟩:=i;obtain ⟨a,m,⟨j,l⟩,⟨⟨w,S⟩,f,h,⟨J,L,M,O,P,Q⟩⟩,U,q,u,⟨y,A,B,E,F,H⟩⟩:=i';dsimp only at hk;exact caA [(17,.p (.tup [.agg nd'.cells,.agg (Inp.mk a m ⟨j,l⟩ ⟨⟨w,S⟩,f,h,⟨J,L,M,O,P,Q⟩⟩ U q u ⟨y,A,B,E,F,H⟩).cells])),(21,.p (.agg s'.cells)),(25,.p (.agg o.cells)),(30,.b false),(79,.p (boolX true)),(83,.p (boolX true))] (pf6 h66 h42 h67 hk h68 h48)
variable (hk:(i'.kind==1)=true)
include hk
theorem VK (r:qaW)(hr:(!(r.toList==(⟨#[]⟩:qaW).toList))=true)(h81:Gam.pureD (callF tab ext N) 16 [.agg nd'.cells,.agg i'.m.body.cells]=some (.tup [.sl false 6 [],strX r]))(f:Fte)(h83:Gam.pureD (callF tab ext N) 20 [.agg i'.m.cells,strX nd'.name,strX r]=some (.agg f.cells))
  (h48:Gam.pureD (callF tab ext N) 24 [.agg o.cells,.agg (ocC s'.n s'.t (aW s'.slots) [] [f.cells] [i'.m.cells])]=some (boolX true)):
  callF tab ext (N+1) (.fn 7) [.agg nd.cells,.agg s.cells,.agg i.cells] []=some (.v (.bool true),[]):=by
 obtain ⟨_,_,⟨_,_⟩,⟨⟨_,_⟩,_,_,⟨_,_,_,_,_,_⟩⟩,_,_,_,⟨_,_,_,_,_,_⟩⟩:=i;obtain ⟨a,u,⟨l,q⟩,⟨⟨A,V⟩,h,j,⟨M,O,P,Q,S,U⟩⟩,W,w,y,⟨B,E,F,H,J,L⟩⟩:=i';dsimp only at hk;exact caA [(17,.p (.tup [.agg nd'.cells,.agg (Inp.mk a u ⟨l,q⟩ ⟨⟨A,V⟩,h,j,⟨M,O,P,Q,S,U⟩⟩ W w y ⟨B,E,F,H,J,L⟩).cells])),(21,.p (.agg s'.cells)),(25,.p (.agg o.cells)),(30,.b true),(37,.p (.tup [.sl false 6 [],strX r])),(41,.b true),(46,.p (.agg f.cells)),(79,.p (boolX true)),(83,.p (boolX true))] (pf9 h66 h42 h67 hk h81 hr h83 h68 h48)
theorem PY {L:qaV}{l:List Msg}(h1:l.length<3000)(h2:l.length<N){S:List Stp}{f:Fte}(h81:Gam.pureD (callF tab ext N) 16 [.agg nd'.cells,.agg i'.m.body.cells]=some (.tup [.sl false 6 L,strX ⟨#[]⟩]))(h84:Gam.pureD (callF tab ext N) 21 [.agg i'.m.cells,.sl false 6 L]=some (.sl false 10 (aI l)))
  (h86:Gam.pureD (callF tab ext N) 23 [.sl false 10 (aI l)]=some (.sl false 2 (bQ S))) (h85:Gam.pureD (callF tab ext N) 22 [.agg i'.m.cells,strX nd'.name,.sl false 2 (bQ S)]=some (.agg f.cells))
  (h48:Gam.pureD (callF tab ext N) 24 [.agg o.cells,.agg (ocC s'.n s'.t (aW s'.slots) (Ct.zrC (aI l) l.length) [f.cells] [])]=some (boolX true)):
  callF tab ext (N+1) (.fn 7) [.agg nd.cells,.agg s.cells,.agg i.cells] []=some (.v (.bool true),[]):=by
 have E:=zhv nd' o i'.m i' s' l h1 N h2;have ha:=Ct.uD (aI l) l.length;generalize Ct.zrC (aI l) l.length=acc at*;rw [<-ha] at E;obtain ⟨_,_,⟨_,_⟩,⟨⟨_,_⟩,_,_,⟨_,_,_,_,_,_⟩⟩,_,_,_,⟨_,_,_,_,_,_⟩⟩:=i;obtain ⟨F,O,⟨J,M⟩,⟨⟨j,H⟩,a,h,⟨q,u,w,y,A,B⟩⟩,x',P,Q,⟨U,V,W,Y,Z,f6⟩⟩:=i';dsimp only at hk h84 h85 E;have hd:=wh_data o s' acc f [.var nd'.cells,.var o.cells,.var [num s'.n,num s'.t,.sl false 10 (aW s'.slots),.bs 4 0 acc.length,.sl true 11 [],.sl true 6 [f.cells],.sl true 10 []],.var (Msg.mk ⟨j,H⟩ a h (.mk q u w y A B)).cells,.row 11 acc] rfl;exact caB [(17,.p (.tup [.agg nd'.cells,.agg (Inp.mk F O ⟨J,M⟩ ⟨⟨j,H⟩,a,h,⟨q,u,w,y,A,B⟩⟩ x' P Q ⟨U,V,W,Y,Z,f6⟩).cells])),(21,.p (.agg s'.cells)),(25,.p (.agg o.cells)),(30,.b true),(37,.p (.tup [.sl false 6 L,strX ⟨#[]⟩])),(54,.p (.sl false 10 (aI l))),(75,.p (.sl false 2 (bQ S))),(76,.p (.agg f.cells)),(79,.p (boolX true)),(83,.d [.agg o.cells,.agg (ocC s'.n s'.t (aW s'.slots) acc [f.cells] [])] (boolX true))] [(.exit 0,whE nd' o (Msg.mk ⟨j,H⟩ a h (.mk q u w y A B)) s' (aI l) acc acc.length)] (zp4 h66 h42 h67 hk h81 h84 E h86 h85 h68 (⟨hd,h48⟩:_/\_))
end
theorem ssteps_all (cn:List X)(hcn:isNode cn)(s:Stt)(i:Inp):∃n,callF tab ext n (.fn 7) [.agg cn,.agg s.cells,.agg i.cells] []=some (.v (.bool true),[]):=by
 obtain ⟨M,a,rfl,L,H⟩:=AP hcn;obtain ⟨v,V⟩:=rX i;have F:=(BL s).ok;have h:(aJ i).m.ok:=by rw [yE];exact rW i.m
 have J:=uJ i;cases u:((aJ i).kind==1) with
 |false=>exact ⟨190401,PX (rY M a H i _ (by omega)) (lK s _ (by omega)) (gY _ (by omega)) (Ct.TB a (shortS s) F (aJ i) u 190400 (by omega)) u (zen 190400 (zgW (shortS s)) (zi7 F) (by omega))⟩
 |true=>
  obtain ⟨_,q,_,E,B,A⟩:=Ct.Na a L v;rw [<-V] at A;obtain ⟨O,f⟩:=Ct.PZ a (shortS s) F (aJ i) h J q E B (fun N S=>(A N S).2.1);rw [Oi _ u] at f;obtain ⟨P,j⟩:=zdG (shortS s) F (aJ i).m h J a.name q E;cases q with
  |bad r=>exact ⟨B+O+P+200401,VK (rY M a H i _ (by omega)) (lK s _ (by omega)) (gY _ (by omega)) (f _ (by omega)) u r E (A _ (by omega)).2.2 _ (yJ (aJ i).m h a.name r _ (by omega)) (j _ (by omega))⟩
  |good l=>
   obtain ⟨Y,k2,Z⟩:=E;have Q:=Ct.lg (aJ i).m l l.length;have w:=Ct.DT (aJ i).m h J l l.length;have U:=Ct.zZ (bg (aJ i).m l l.length);refine ⟨B+O+P+iZ l+200901,PY (rY M a H i _ (by omega)) (lK s _ (by omega)) (gY _ (by omega)) (f _ (by omega)) u (by omega) (by omega) (A _ (by omega)).2.2
    (Ct.Fg (aJ i).m h l Z Y (by omega) _ (by omega)) (Eu _ _ w (by omega) (by omega) (by omega)) (yI _ (aJ i).m h.st a.name _ (fun y W=>?_) (by omega) (by omega)) (by rw [Ct.Yu];exact j _ (by omega))⟩
   obtain ⟨z,hz,rfl⟩:=qah.1 W;exact w z hz
end Go.Proofs.YtkeefpkcepodeaaGreatDoor
