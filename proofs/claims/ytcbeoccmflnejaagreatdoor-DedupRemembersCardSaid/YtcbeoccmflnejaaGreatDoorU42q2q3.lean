/-.-/
import Derived.Test.YtcbeoccmflnejaaGreatDoorU16q2q3
import Derived.Test.YtcbeoccmflnejaaGreatDoorU40
import Derived.Test.YtcbeoccmflnejaaGreatDoorU42
set_option linter.all false
namespace Go.Proofs.YtcbeoccmflnejaaGreatDoor
open Go Go.Em Go.Ab
set_option maxRecDepth 100000
variable {ss:List Slt}{B:Nat}{x:Slt}
theorem rX {n:Int}:∀{l:List Slt} (h:aQ n l<l.length),(∃x,x∈l/\x.n=n)->(l[aQ n l]).n=n
 |[],h,_=>absurd h (by simp)
 |y::r,h,⟨x,hx,e⟩=>by
  by_cases hy:y.n=n
  ·have:aQ n (y::r)=0:=by unfold aQ;rw [if_pos hy]
   simp only [this,List.getElem_cons_zero,hy]
  have e1:aQ n (y::r)=aQ n r+1:=by conv=>lhs;unfold aQ;rw [if_neg hy]
  have hx':x∈r:=by
   rcases qal.1 hx with rfl|h;·exact absurd e hy
   exact h
  simp only [e1,List.getElem_cons_succ];exact rX (qo ⟨x,hx',e⟩) ⟨x,hx',e⟩
theorem Hq {T:List Slt}(ho:JV T)(hx:x∈T){i:Nat}(hi:i<=T.length)(hs:zep T x.key i)(hne:∀h:i<T.length,¬cu T[i].key x.key=0):False:=by
 have m:∀(i:Nat) (h:i<T.length),T.getD i uw=T[i]:=fun i h=>by rw [qav,qad h];rfl
 have f:=List.pairwise_iff_getElem.1 ho;obtain ⟨p,l,rfl⟩:=List.mem_iff_getElem.1 hx;have w:=kG T[p].key;rcases Nat.lt_trichotomy p i with h|h|h
 ·have n:i-1<T.length:=by omega
  have j:=hs.before (by omega);rw [m _ n] at j;by_cases u:p=i-1;·subst u;omega
  have:=f p (i-1) l n (by omega);omega
 ·subst h;exact hne l w
 have a:i<T.length:=by omega
 have j:=hs.behind a;rw [m _ a] at j;have q:=f i p a l h;rcases DX T[i].key T[p].key with h2|h2|h2;·omega
 ·exact hne a h2
 have y:=DY q h2;omega
abbrev Hl (nd:Nod) (s:Stt) (i:Inp) (q:List X):Prop:=∃B,∀N,B<=N->Gam.pureD (callF tab ext N) 10 [.agg nd.cells,.agg s.cells,.agg ({i with kind:=1}:Inp).cells]=some (.agg q)
open Go.Em
def oAt (ss:List Slt)(j:Nat):Bool:=(ss[j]?.map Ae).getD false
theorem wU {j:Nat}(h:j<ss.length):nAt ss j=ss[j].n:=by simp [nAt,h]
theorem Ig {j:Nat}(h:j<ss.length):oAt ss j=Ae ss[j]:=by simp [oAt,h]
def zeB (a:Int)(ss:List Slt)(j:Nat):Int:=if badR a ss j then 2 else 7
theorem qp (z:Int):∀(l:List Int) (i:Nat),(z∈l->∃k,mapFind (.int .i64 z) (ents l) i=some (some (k,boolX true)))/\(z∉l->mapFind (.int .i64 z) (ents l) i=some none)
 |[],i=>⟨fun h=>(by cases h),fun _=>rfl⟩
 |a::l,i=>by
  have ih:=qp z l (i+1);have e:mapFind (.int .i64 z) (ents (a::l)) i=if (z==a) then some (some (i,boolX true)) else mapFind (.int .i64 z) (ents l) (i+1):=by simp only [ents,qaR,mapFind,keySame,if_true];cases h:(z==a)<;>rfl
  rw [e];cases h:(z==a) with
  |true=>refine ⟨fun _=>⟨i,rfl⟩,fun hn=>?_⟩;exact absurd (by rw [eq_of_beq h];simp) hn
  |false=>
   have hne:z≠a:=ne_of_beq_false h;refine ⟨fun hm=>?_,fun hn=>?_⟩
   ·rcases qal.1 hm with h1|h1;·exact absurd h1 hne
    exact ih.1 h1
   exact ih.2 fun h1=>hn (qaD _ h1)
theorem Lj (z:Int)(l:List Int)(d:Bool)(hd:d=decide (z∈l)):mapGet false (boolX false) (.int .i64 z) (ents l)=some (boolX d):=by
 subst hd;unfold mapGet;by_cases h:z∈l;·obtain ⟨k,a⟩:=(qp z l 0).1 h;rw [a,decide_eq_true h];rfl
 rw [(qp z l 0).2 h,decide_eq_false h];rfl
theorem Wh (z:Int)(l:List Int)(h:z∉l):mapPut (.int .i64 z) (boolX true) (ents l)=some (ents (l++[z])):=by unfold mapPut;rw [(qp z l 0).2 h];simp [ents]
def lD (ss:List Slt)(j:Nat):List Int:=(List.range j).map (nAt ss)
theorem NS (ss:List Slt)(j:Nat):lD ss (j+1)=lD ss j++[nAt ss j]:=by simp [lD,List.range_succ]
theorem JC (ss:List Slt)(j:Nat):zgA ss j=decide (nAt ss j∈lD ss j):=by
 unfold zgA lD;by_cases h:nAt ss j∈(List.range j).map (nAt ss);·rw [decide_eq_true h];obtain ⟨k,a,e⟩:=qam.1 h;exact List.any_eq_true.2 ⟨k,a,by rw [e];exact BEq.rfl⟩
 rw [decide_eq_false h];refine Bool.eq_false_iff.2 fun f=>h ?_;obtain ⟨k,a,e⟩:=List.any_eq_true.1 f;exact qam.2 ⟨k,a,eq_of_beq e⟩
section
variable (cs:qaW) (a b:Int) (n j:Nat) (m:List (Value×X))
def cH:St:=⟨[(3,.ptr 0 0 0),(7,.mp 1),(43,.sl false 10 cs),(44,nat n),(45,nat j)],[.var [num a,num b,.sl false 10 cs],.map m]⟩
def iH:St:=⟨[(0,.sl false 10 cs),(1,.fn 47 []),(7,nat n),(8,nat j)],[]⟩
end
def cAt (ss:List Slt)(j:Nat):List X:=(ss[j]?.map Slt.cells).getD []
theorem Ue {j:Nat}(h:j<ss.length):cAt ss j=ss[j].cells:=by grind[cAt]
theorem YJ (cs:qaW)(a b:Int)(n j:Nat)(m:List (Value×X))(x:List X):canon 0 ⟨[(3,.ptr 0 0 0),(7,.mp 1),(43,.sl false 10 cs),(44,nat n),(45,nat (j+1))],[.var [num a,num b,.sl false 10 cs],.map m,.var x]⟩=some (cH cs a b n (j+1) m):=by kernel_rfl
theorem YK (ss:List Slt)(a b:Int)(hl:ss.length<=1000)(nc:List X):
  (∃j,j<(ak ss).length/\YP a ss j=true/\(∀i,i<j->YP a ss i=false)/\∀M,1<=M->(ak ss).length<M->run (callF tab ext M) 0 M (.loop (loopAt 13 0)) ⟨[(3,.ptr 1 0 0),(7,.mp 2),(43,.sl false 10 (ak ss)),(44,nat (ak ss).length),(45,num 0)],[.var nc,.var (sc ss a b),.map []]⟩=some (.ret,⟨[(4,num (zeB a ss j))],[.var (sc ss a b),.map (ents (lD ss j)),.var (cAt ss j)]⟩))\/
  ((∀j,j<(ak ss).length->YP a ss j=false)/\∀M,1<=M->(ak ss).length<M->run (callF tab ext M) 0 M (.loop (loopAt 13 0)) ⟨[(3,.ptr 1 0 0),(7,.mp 2),(43,.sl false 10 (ak ss)),(44,nat (ak ss).length),(45,num 0)],[.var nc,.var (sc ss a b),.map []]⟩=some (.exit 1,⟨[(3,.ptr 0 0 0),(7,.mp 1),(43,.sl false 10 (ak ss)),(44,nat (ak ss).length),(45,nat (ak ss).length),(46,boolX false)],[.var (sc ss a b),.map (ents (lD ss (ak ss).length))]⟩)):=by
 have hn:=aN ss;refine VP (H:=fun j=>cH (ak ss) a b (ak ss).length j (ents (lD ss j))) (P:=YP a ss) (r:=fun j=>⟨[(4,num (zeB a ss j))],[.var (sc ss a b),.map (ents (lD ss j)),.var (cAt ss j)]⟩)
  (υ:=fun j=>⟨[(3,.ptr 0 0 0),(7,.mp 1),(43,.sl false 10 (ak ss)),(44,nat (ak ss).length),(45,nat (j+1))],[.var (sc ss a b),.map (ents (lD ss (j+1))),.var (cAt ss j)]⟩) (by kernel_rfl) (fun j B u M Z=>?_) (fun j B u=>⟨YJ ..,fun M Z=>?_⟩) (fun M Z=>?_) (by simp)
 ·have f:j<ss.length:=by omega
  have y:=aW f;have A:=wU f;have q:=Lj (nAt ss j) (lD ss j) _ (JC ss j);unfold YP at u;generalize zgA ss j=d at u q;rw [Ue f];unfold zeB;generalize h:badR a ss j=bb at u;unfold badR at h;generalize ents (lD ss j)=m at q ⊢;generalize nAt ss j=z at A h q;generalize ss[j]=x at y A;obtain ⟨⟨L,N,O,Q,S,U⟩,n,t,F,J⟩:=x;subst A;cases l:decide (z<1) with
  |true=>rw [l] at h;subst h;exact ruA [(46,.b true),(47,.e (Slt.mk ⟨L,N,O,Q,S,U⟩ z t F J).cells),(52,.b true)] (pf3 (aI B) y l)
  |false=>
   cases w:decide (z>a) with
   |true=>rw [l,w] at h;subst h;exact ruA [(46,.b true),(47,.e (Slt.mk ⟨L,N,O,Q,S,U⟩ z t F J).cells),(52,.b false),(58,.b true)] (pf4 (aI B) y l w)
   |false=>
    rw [l,w] at h;subst h;have V:d=true:=by simpa using u
    subst V;exact ruA [(46,.b true),(47,.e (Slt.mk ⟨L,N,O,Q,S,U⟩ z t F J).cells),(52,.b false),(58,.b false),(64,.g (boolX true))] (pf5 (aI B) y l w q)
 ·have f:j<ss.length:=by omega
  have y:=aW f;have A:=wU f;have q:=Lj (nAt ss j) (lD ss j) _ (JC ss j);have Y:=ay (j:=j) (by omega);unfold YP at u;rw [Bool.or_eq_false_iff] at u;obtain ⟨h,W⟩:=u;rw [W] at q;have E:=Wh (nAt ss j) (lD ss j) (by grind[JC]);rw [<-NS] at E;unfold badR at h;rw [Bool.or_eq_false_iff] at h;obtain ⟨l,w⟩:=h;rw [Ue f];generalize ents (lD ss (j+1))=m' at E ⊢;generalize ents (lD ss j)=m at q E ⊢;generalize nAt ss j=z at A l w q E;generalize ss[j]=x at y A;obtain ⟨⟨L,N,O,Q,S,U⟩,n,t,F,J⟩:=x;subst A;exact ruA [(46,.b true),(47,.e (Slt.mk ⟨L,N,O,Q,S,U⟩ z t F J).cells),(52,.b false),(58,.b false),(64,.g (boolX false)),(1000065,.pm m'),(68,.i (Int.ofNat (j+1)))] (pf7 (aI B) y l w q E Y)
 exact ruA [(46,.b false)] (pf1 (aG (qan (ak ss).length)))
theorem Ad (N:Nat)(x:Slt)(h:x.ok):Gam.pureD (callF tab ext (N+1)) 47 [.agg x.cells]=some (boolX (Ae x)):=by
 have u:=h.items;have w:=h.vals;have j:=bF x.items;have l:(ah x.vals).length=x.vals.length:=by rw [fA,qaB]
 have a:decide (IntKind.i64.wrap (Int.ofNat (aA x.items).length+Int.ofNat (ah x.vals).length)>0)=decide (0<x.items.length+x.vals.length):=by
  have:IntKind.i64.wrap (Int.ofNat (aA x.items).length+Int.ofNat (ah x.vals).length)=Int.ofNat (x.items.length+x.vals.length):=by rw [IntKind.wrap_i64,j,l];simp only [qaq];omega
  rw [this];simp only [qaq,gt_iff_lt]
  congr 1
  exact propext (by omega)
 unfold Ae;obtain ⟨⟨y,A,B,E,F,H⟩,n,t,m,q⟩:=x;dsimp only at a ⊢;generalize decide (0<m.length+q.length)=d at a ⊢;cases f:(!(t==0)) with
 |true=>exact puA [(5,.b true)] (pf1 f) (boolX true)
 |false=>exact puA [(5,.b false),(14,.b d)] (pf2 f a) (boolX d)
theorem RD (ss:List Slt)(hs:∀x,x∈ss->x.ok)(hl:ss.length<=1000):
  (∃j,j<(ak ss).length/\oAt ss j=true/\(∀i,i<j->oAt ss i=false)/\∀M,1<=M->(ak ss).length<M->run (callF tab ext M) 0 M (.loop (loopAt 86 0)) ⟨[(0,.sl false 10 (ak ss)),(1,.fn 47 []),(7,nat (ak ss).length),(8,num 0)],[]⟩=some (.ret,⟨[(4,nat j)],[]⟩))\/
  ((∀j,j<(ak ss).length->oAt ss j=false)/\∀M,1<=M->(ak ss).length<M->run (callF tab ext M) 0 M (.loop (loopAt 86 0)) ⟨[(0,.sl false 10 (ak ss)),(1,.fn 47 []),(7,nat (ak ss).length),(8,num 0)],[]⟩=some (.exit 0,⟨[(0,.sl false 10 (ak ss)),(1,.fn 47 []),(7,nat (ak ss).length),(8,nat (ak ss).length),(9,boolX false)],[]⟩)):=by
 have N:=aN ss;refine VP (H:=fun j=>iH (ak ss) (ak ss).length j) (P:=oAt ss) (r:=fun j=>⟨[(4,nat j)],[]⟩)
  (υ:=fun j=>iH (ak ss) (ak ss).length (j+1)) (by kernel_rfl) (fun j m l M L=>?_) (fun j m l=>⟨by kernel_rfl,fun M L=>?_⟩) (fun M L=>?_) (by simp)
 ·have a:j<ss.length:=by omega
  have h:=aW a;obtain ⟨K,rfl⟩:=pR_ M;have f:=Ad K ss[j] (hs _ (qae a));rw [<-Ig a,l] at f;generalize ss[j]=x at h f;obtain ⟨⟨y,A,B,E,F,J⟩,n,t,u,w⟩:=x;exact ruA [(9,.b true),(14,.e (Slt.mk ⟨y,A,B,E,F,J⟩ n t u w).cells),(16,.p (boolX true))] (pf3 (aI m) h f)
 ·have a:j<ss.length:=by omega
  have h:=aW a;obtain ⟨K,rfl⟩:=pR_ M;have f:=Ad K ss[j] (hs _ (qae a));have q:=ay (j:=j) (by omega);rw [<-Ig a,l] at f;generalize ss[j]=x at h f;obtain ⟨⟨y,A,B,E,F,J⟩,n,t,u,w⟩:=x;exact ruA [(9,.b true),(14,.e (Slt.mk ⟨y,A,B,E,F,J⟩ n t u w).cells),(16,.p (boolX false)),(18,.i (Int.ofNat (j+1)))] (pf4 (aI m) h f q)
 exact ruA [(9,.b false)] (pf1 (aG (qan (ak ss).length)))
theorem qC (ss:List Slt)(hs:∀x,x∈ss->x.ok)(hl:ss.length<=1000)(N:Nat)(hN:1010<=N):
  ((∃j,j<(ak ss).length/\oAt ss j=true)/\Gam.pureD (callF tab ext N) 48 [.sl false 10 (ak ss),.fn 47 []]=some (boolX true))\/((∀j,j<(ak ss).length->oAt ss j=false)/\Gam.pureD (callF tab ext N) 48 [.sl false 10 (ak ss),.fn 47 []]=some (boolX false)):=by
 obtain ⟨M,rfl⟩:∃M,N=M+2:=⟨N-2,by omega⟩;have q:=aN ss;rcases RD ss hs hl with ⟨j,n,m,_,h⟩|⟨a,h⟩
 ·have h:=h M (by omega) (by omega);have f:Gam.pureD (callF tab ext (M+1)) 86 [.sl false 10 (ak ss),.fn 47 []]=some (nat j):=
   puB [] [(.ret,⟨[(4,nat j)],[]⟩)] (pf1 h) (nat j)
  have l:decide (Int.ofNat j>=0)=true:=decide_eq_true (Int.natCast_nonneg j);exact .inl ⟨⟨j,n,m⟩,puA [(7,.p (nat j)),(8,.b true)] (pf2 f l) (boolX true)⟩
 have h:=h M (by omega) (by omega);have f:Gam.pureD (callF tab ext (M+1)) 86 [.sl false 10 (ak ss),.fn 47 []]=some (num (-1)):=
  puB [] [(.exit 0,⟨[(0,.sl false 10 (ak ss)),(1,.fn 47 []),(7,nat (ak ss).length),(8,nat (ak ss).length),(9,boolX false)],[]⟩)] (pf1 h) (num (-1))
 exact .inr ⟨a,puA [(7,.p (num (-1)))] (pf1 f) (boolX false)⟩
theorem AU (n:Nod)(s:Stt)(hs:s.small):∃c:Int,(c=0->zhk n s)/\∀N,190080<=N->Gam.pureD (callF tab ext N) 13 [.agg n.cells,.agg s.cells]=some (num c):=by
 obtain ⟨f,V,u⟩:=J8 s hs;have S:=hs.slots;have U:=hs.ok.slot;obtain ⟨a,b,l⟩:=s;dsimp only at S U;have hn:=aN l;have y:decide (Int.ofNat (ak l).length>256)=false:=decide_eq_false (by grind);cases w:(!(n.kind==6)) with
 |true=>refine ⟨11,fun h=>absurd h (by decide),fun N B=>?_⟩;obtain ⟨M,rfl⟩:=pR_ N;exact puA [(12,.b true)] (pf1 w) (num 11)
 |false=>
 cases A:(!(f==0)) with
 |true=>refine ⟨f,fun h=>(by grind),fun N B=>?_⟩;obtain ⟨M,rfl⟩:=pR_ N;have u:=u M (by omega);exact puA [(12,.b false),(14,.p (num f)),(16,.b true)] (pf3 w u A) (num f)
 |false=>
 cases F:decide (a<0) with
 |true=>refine ⟨2,fun h=>absurd h (by decide),fun N B=>?_⟩;obtain ⟨M,rfl⟩:=pR_ N;have u:=u M (by omega);exact puA [(12,.b false),(14,.p (num f)),(16,.b false),(20,.b true)] (pf4 w u A F) (num 2)
 |false=>
 cases H:decide (a>1099511627776) with
 |true=>refine ⟨2,fun h=>absurd h (by decide),fun N B=>?_⟩;obtain ⟨M,rfl⟩:=pR_ N;have u:=u M (by omega);exact puA [(12,.b false),(14,.p (num f)),(16,.b false),(20,.b false),(24,.b true)] (pf5 w u A F H) (num 2)
 |false=>
 cases O:(!(b==0)) with
 |true=>refine ⟨10,fun h=>absurd h (by decide),fun N B=>?_⟩;obtain ⟨M,rfl⟩:=pR_ N;have u:=u M (by omega);exact puA [(12,.b false),(14,.p (num f)),(16,.b false),(20,.b false),(24,.b false),(29,.b true)] (pf6 w u A F H O) (num 10)
 |false=>
 have Q:∀M,1010<=M->(∃j,j<(ak l).length/\oAt l j=true)->Gam.pureD (callF tab ext M) 48 [.sl false 10 (ak l),.fn 47 []]=some (boolX true):=fun M Z ⟨j,P,hP⟩=>by grind[qC]
 have L:∀M,1010<=M->(¬∃j,j<(ak l).length/\oAt l j=true)->Gam.pureD (callF tab ext M) 48 [.sl false 10 (ak l),.fn 47 []]=some (boolX false):=fun M Z pb=>by grind[qC]
 by_cases E:∃j,j<(ak l).length/\oAt l j=true;·refine ⟨10,fun h=>absurd h (by decide),fun N B=>?_⟩;obtain ⟨M,rfl⟩:=pR_ N;have u:=u M (by omega);have J:=Q M (by omega) E;exact puA [(12,.b false),(14,.p (num f)),(16,.b false),(20,.b false),(24,.b false),(29,.b false),(34,.p (boolX true))] (pf7 w u A F H O J) (num 10)
 have W:∀j,j<(ak l).length->oAt l j=false:=fun j P=>by grind
 rcases YK l a b (by omega) n.cells with ⟨j,P,hP,pa,q⟩|⟨Y,q⟩;·refine ⟨zeB a l j,fun h=>(by grind[zeB]),fun N B=>?_⟩;obtain ⟨M,rfl⟩:=pR_ N;have u:=u M (by omega);have J:=L M (by omega) E;have q:=q M (by omega) (by omega);generalize cAt l j=cx at q;generalize ents (lD l j)=m at q;generalize zeB a l j=er at q ⊢;exact puB [(12,.b false),(14,.p (num f)),(16,.b false),(20,.b false),(24,.b false),(29,.b false),(34,.p (boolX false)),(40,.b false)] [(.ret,⟨[(4,num er)],[.var (sc l a b),.map m,.var cx]⟩)] (pf9 w u A F H O J y q) (num er)
 refine ⟨0,fun _=>⟨V.1 (by grind),by grind,by grind,by grind,fun x hx=>by
  obtain ⟨j,P,rfl⟩:=List.mem_iff_getElem.1 hx
  grind[Ig],fun j P=>Y j (by grind)⟩,fun N B=>?_⟩
 obtain ⟨M,rfl⟩:=pR_ N;have u:=u M (by omega);have J:=L M (by omega) E;have q:=q M (by omega) (by omega);generalize ents (lD l (ak l).length)=m at q;exact puB [(12,.b false),(14,.p (num f)),(16,.b false),(20,.b false),(24,.b false),(29,.b false),(34,.p (boolX false)),(40,.b false)] [(.exit 1,⟨[(3,.ptr 0 0 0),(7,.mp 1),(43,.sl false 10 (ak l)),(44,nat (ak l).length),(45,nat (ak l).length),(46,boolX false)],[.var (sc l a b),.map m]⟩)] (pf9 w u A F H O J y q) (num 0)
theorem zZ (s:Stt)(m:Msg)(N:Nat):Gam.pureD (callF tab ext (N+2)) 14 [.agg (Ct.G6 s m 0)]=some (boolX true):=by obtain ⟨⟨e,p⟩,q,o,⟨a,f,h,j,l,n⟩⟩:=m;exact puA [] pf0 (boolX true)
theorem E8 (s:Stt)(m:Msg)(name r:qaX)(N:Nat):Gam.pureD (callF tab ext (N+2)) 14 [.agg (fC false s m name r)]=some (boolX false):=by obtain ⟨⟨e,p⟩,q,o,⟨a,f,h,j,l,n⟩⟩:=m;exact puA [] pf0 (boolX false)
theorem xQ {n:Nod}{s:Stt}(h:zhk n s):JV s.slots/\(∀x,x∈s.slots->1<=x.n/\x.n<=s.n)/\s.slots.Pairwise fun a b=>a.n≠b.n:=by
 have m:∀x,x∈s.slots->x.items=[]/\x.vals=[]:=fun x f=>by have:=h.plain x f<;>grind[Ae,List.length_eq_zero_iff]
 have l:dB s.slots=[]:=by unfold dB;rw [List.flatMap_eq_nil_iff];exact fun x f=>(m x f).1
 have w:=(zaB (fun x f=>(m x f).2) (by grind)).1 h.st;refine ⟨w.ord,fun x f=>?_,List.pairwise_iff_getElem.2 fun a b A u q=>?_⟩;·obtain ⟨j,y,rfl⟩:=List.mem_iff_getElem.1 f;have:=h.nums j y<;>grind[YP,badR,wU]
 have:=h.nums b u;unfold YP zgA at this;simp only [Bool.or_eq_false_iff,List.any_eq_false,List.mem_range] at this<;>grind[wU]
end Go.Proofs.YtcbeoccmflnejaaGreatDoor
