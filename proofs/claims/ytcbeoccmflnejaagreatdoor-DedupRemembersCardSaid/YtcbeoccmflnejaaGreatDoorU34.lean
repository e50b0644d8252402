/-.-/
import Derived.Test.YtcbeoccmflnejaaGreatDoorU32
set_option linter.all false
namespace Go.Proofs.YtcbeoccmflnejaaGreatDoor
open Go.Em
set_option maxRecDepth 100000
theorem cO (nd nd':Nod)(hn:∀N,220<=N->Gam.pureD (callF tab ext N) 19 [.agg nd.cells]=some (.agg nd'.cells))(s:Stt)(i:Inp)(N:Nat)(hN:230<=N):
  Gam.pureD (callF tab ext N) 6 [.agg nd.cells,.agg s.cells,.agg i.cells]=some (.tup [.agg ({nd' with kind:=6}:Nod).cells,.agg (shortS s).cells,.agg (fO i).cells]):=by
 obtain ⟨M,rfl⟩:=pR_ N;have h1:=hn M (by omega);have U:=Hr s M (by omega);have m:=Qm i M (by omega);generalize shortS s=Y at U ⊢;generalize fO i=i' at m ⊢;obtain ⟨kd,tm,⟨se,sp⟩,⟨⟨e,p⟩,ms,o,⟨a1,a2,a3,a4,a5,a6⟩⟩,x,b1,b2,⟨c1,c2,c3,c4,c5,c6⟩⟩:=i;obtain ⟨a,l,⟨h,j⟩,⟨⟨w,W⟩,f,V,⟨J,L,O,P,Q,S⟩⟩,Z,q,u,⟨y,A,B,E,F,H⟩⟩:=i';generalize n:Inp.cells _=ci' at m ⊢;subst n;exact puA [(10,.p (.agg nd'.cells)),(12,.p (.agg Y.cells)),(14,.p (.agg (Inp.mk a l ⟨h,j⟩ ⟨⟨w,W⟩,f,V,⟨J,L,O,P,Q,S⟩⟩ Z q u ⟨y,A,B,E,F,H⟩).cells))] (pf3 h1 U m) (.tup [.agg ({nd' with kind:=6}:Nod).cells,.agg Y.cells,.agg (Inp.mk a l ⟨h,j⟩ ⟨⟨w,W⟩,f,V,⟨J,L,O,P,Q,S⟩⟩ Z q u ⟨y,A,B,E,F,H⟩).cells])
theorem Sz (s:Stt)(hs:s.small)(key:Val):∃(i:Nat) (b:Bool) (x:Slt),i<=s.slots.length/\(b=true->∃h:i<s.slots.length,cu s.slots[i].key key=0/\x=s.slots[i])/\(b=false->zep s.slots key i/\∀h:i<s.slots.length,¬cu s.slots[i].key key=0)/\∀N,190050<=N->Gam.pureD (callF tab ext N) 38 [.agg s.cells,.agg key.cells]=some (.tup [.agg x.cells,boolX b]):=by
 obtain ⟨i,b,J,L,O,m⟩:=X6 s hs key;have q:=hs.ok.slot;obtain ⟨a,c,Q⟩:=s;obtain ⟨V,W,Y,Z,k5,k6⟩:=key;dsimp only at J L O q;cases b with
 |false=>refine ⟨i,false,uw,J,fun h=>(by cases h),fun _=>O rfl,fun N S=>?_⟩;obtain ⟨M,rfl⟩:=pR_ N;have m:=m M (by omega);exact puA [(11,.p (.tup [nat i,boolX false]))] (pf1 m) (.tup [.agg [num 0,num 0,num 0,strX ⟨#[]⟩,.sl true 6 [],.sl true 7 [],num 0,num 0,.sl true 10 [],.sl true 6 []],boolX false])
 |true=>
  obtain ⟨l,U⟩:=L rfl;refine ⟨i,true,Q[i],J,fun _=>⟨l,U,rfl⟩,fun h=>(by cases h),fun N S=>?_⟩;obtain ⟨M,rfl⟩:=pR_ N;have m:=m M (by omega);have P:=aW l;have u:=q _ (qae l);generalize Q[i]=x at P u ⊢;obtain ⟨⟨w,y,A,B,E,F⟩,n,t,f,j⟩:=x;have H:callF tab ext M (.fn 84) [.agg (Slt.mk ⟨w,y,A,B,E,F⟩ n t f j).cells] []=some (.agg [num w,num y,num A,strX B,.sl false 6 (ah E),.sl false 7 (aj F),num n,num t,.bs 0 0 (aA f).length,.bs 1 0 (ah j).length],[.row 10 (aA f),.row 6 (ah j)]):=tJ M _ u (by omega);exact pure_of [(11,.p (.tup [nat i,boolX true])),(20,.e (Slt.mk ⟨w,y,A,B,E,F⟩ n t f j).cells),(22,.o (.agg [num w,num y,num A,strX B,.sl false 6 (ah E),.sl false 7 (aj F),num n,num t,.bs 0 0 (aA f).length,.bs 1 0 (ah j).length]) [.row 10 (aA f),.row 6 (ah j)])] [] (pf3 m P H)
   (x:=.tup [.agg [num w,num y,num A,strX B,.sl false 6 (ah E),.sl false 7 (aj F),num n,num t,.bs 0 0 (aA f).length,.bs 1 0 (ah j).length],boolX true]) (bx:=[.row 10 (aA f),.row 6 (ah j)]) (by kernel_rfl) (by simp [X.data,dataL,rowOf,Slt.cells,aJ,Val.cells,num,strX,boolX])
open Go Go.Em Go.Ab
theorem Jv (ss:List Slt)(hl:ss.length<=100)(hx:∀x,x∈ss->x.ok)(key:Val):∃(i:Nat) (b:Bool),i<=ss.length/\(b=true->∃h:i<ss.length,cu ss[i].key key=0)/\(b=false->zep ss key i/\∀h:i<ss.length,¬cu ss[i].key key=0)/\∀(a b0:Int) (N:Nat),190040<=N->Gam.pureD (callF tab ext N) 83 [.agg (Stt.mk a b0 ss).cells,.agg key.cells]=some (.tup [nat i,boolX b]):=by
 have P:=aN ss;obtain ⟨r,_,hr,hS⟩:=vY ss key ss.length 0 ss.length (by omega) (by omega);have H:=vX hS (fun h=>absurd h (by omega)) (fun h=>absurd h (by omega));have n:∀(j:Nat) (hj:j<ss.length) (N:Nat),180020<=N->Gam.pureD (callF tab ext N) 132 [.agg ss[j].cells,.agg key.cells]=some (num (cu ss[j].key key)):=fun j hj N W=>TU N W _ _ (hx _ (qae hj)).key;have O:∀(j:Nat) (hj:j<ss.length),ss.getD j uw=ss[j]:=fun j hj=>by rw [qav,qad hj];rfl
 obtain ⟨k,i,s,l,m,f⟩:=key;have q:∀M,190000<=M->∀τ,canon 0 τ=some (seH (ak ss) k i s l (ah m) (aj f) (ak ss).length 0 (ak ss).length)->run (callF tab ext M) 0 M (.loop (loopAt 131 0)) τ=some (.exit 0,seE (ak ss) k i s l (ah m) (aj f) (ak ss).length r r):=fun M hM τ hτ=>by
  refine loop_dec (α:=Nat×Nat) (σ:=fun a=>seH (ak ss) k i s l (ah m) (aj f) (ak ss).length a.1 a.2) (I:=fun a=>a.2<=ss.length/\UM ss (.mk k i s l m f) a.1 a.2 r) (μ:=fun a=>a.2-a.1) (fun a ha=>?_) (by simp) (a:=(0,(ak ss).length)) ⟨by dsimp only;omega,by rw [P];exact hS⟩ hτ (by dsimp only;omega);obtain ⟨B,w⟩:=a;obtain ⟨J,L⟩:=ha;dsimp only at J L ⊢;cases L with
  |stop=>right;exact Qs _ _ _ _ _ _ _ _ _ _ (qan _) M
  |lt h u hr'=>
   left;have E:(B+w) /2<ss.length:=by omega
   rw [O _ E] at u;have:=(qV (ak ss) k i s l (ah m) (aj f) (ak ss).length B w ss[(B+w) /2] _ h (by omega) (aW E) M (n _ E M (by omega))).1 u;exact ⟨_,((B+w) /2+1,w),this,ng ..,⟨J,hr'⟩,by dsimp only;omega⟩
  |ge h u hr'=>
   left;have E:(B+w) /2<ss.length:=by omega
   rw [O _ E] at u;have:=(qV (ak ss) k i s l (ah m) (aj f) (ak ss).length B w ss[(B+w) /2] _ h (by omega) (aW E) M (n _ E M (by omega))).2 u;exact ⟨_,(B,(B+w) /2),this,ng ..,⟨by dsimp only;omega,hr'⟩,by dsimp only;omega⟩
 by_cases A:r<ss.length
 ·refine ⟨r,cu ss[r].key (.mk k i s l m f)==0,hr,fun h=>⟨A,eq_of_beq h⟩,fun h=>⟨H,fun _ hz=>by rw [hz] at h;cases h⟩,fun a b0 N W=>?_⟩;obtain ⟨M,rfl⟩:∃M,N=M+2:=⟨N-2,by omega⟩;have u:=n r A M (by omega);have Y:=aW A;generalize cu ss[r].key (.mk k i s l m f)=z at u ⊢;generalize ss[r]=x at u Y;have y:=q M (by omega) ⟨[(0,.sl false 10 (ak ss)),(2,.fn 132 []),(4,.ptr 0 0 0),(8,nat (ak ss).length),(9,num 0),(10,nat (ak ss).length)],[.var (WY k i s l (ah m) (aj f))]⟩ (by kernel_rfl);have U:decide (Int.ofNat r<Int.ofNat (ak ss).length)=true:=aI (by omega);have V:Gam.pureD (callF tab ext (M+1)) 131 [.sl false 10 (ak ss),.agg (Val.mk k i s l m f).cells,.fn 132 []]=some (.tup [nat r,boolX (z==0)]):=by
   obtain ⟨⟨k',i',s',Q,S,F⟩,n2,c,ms,vs⟩:=x;cases Z:(z==0) with
   |true=>exact puB [(38,.b true),(43,.e (aJ k' i' s' Q (ah S) (aj F) n2 c (aA ms) (ah vs))),(46,.p (num z)),(47,.b true)] [(.exit 0,seE (ak ss) k i s l (ah m) (aj f) (ak ss).length r r)] (pf5 y U Y u Z) (.tup [nat r,boolX true])
   |false=>exact puB [(38,.b true),(43,.e (aJ k' i' s' Q (ah S) (aj F) n2 c (aA ms) (ah vs))),(46,.p (num z)),(47,.b false)] [(.exit 0,seE (ak ss) k i s l (ah m) (aj f) (ak ss).length r r)] (pf5 y U Y u Z) (.tup [nat r,boolX false])
  exact puA [(9,.p (.tup [nat r,boolX (z==0)]))] (pf1 V) (.tup [nat r,boolX (z==0)])
 refine ⟨r,false,hr,fun h=>(by cases h),fun _=>⟨H,fun h=>absurd h A⟩,fun a b0 N W=>?_⟩;obtain ⟨M,rfl⟩:∃M,N=M+2:=⟨N-2,by omega⟩;have y:=q M (by omega) ⟨[(0,.sl false 10 (ak ss)),(2,.fn 132 []),(4,.ptr 0 0 0),(8,nat (ak ss).length),(9,num 0),(10,nat (ak ss).length)],[.var (WY k i s l (ah m) (aj f))]⟩ (by kernel_rfl);have U:decide (Int.ofNat r<Int.ofNat (ak ss).length)=false:=aG (by omega);have V:Gam.pureD (callF tab ext (M+1)) 131 [.sl false 10 (ak ss),.agg (Val.mk k i s l m f).cells,.fn 132 []]=some (.tup [nat r,boolX false]):=
  puB [(38,.b false)] [(.exit 0,seE (ak ss) k i s l (ah m) (aj f) (ak ss).length r r)] (pf2 y U) (.tup [nat r,boolX false])
 exact puA [(9,.p (.tup [nat r,boolX false]))] (pf1 V) (.tup [nat r,boolX false])
def newS (k:Val)(w:Int):Slt:=⟨k,w,0,[],[]⟩
theorem wS (k:Val)(hk:k.wide)(w:Int)(N:Nat)(hN:k.size+100<=N):Gam.pureD (callF tab ext N) 84 [.agg (newS k w).cells]=some (.agg (newS k w).cells):=by obtain ⟨M,rfl⟩:∃M,N=M+51:=⟨N-51,by omega⟩;have h:=iT (M+50) k (by omega) hk;obtain ⟨a,f,j,l,m,n⟩:=k;exact pure_of [(45,.p (.agg (Val.mk a f j l m n).cells))] [] (pf1 h) (x:=.agg [num a,num f,num j,strX l,.sl false 6 (ah m),.sl false 7 (aj n),num w,num 0,.bs 0 0 0,.bs 1 0 0]) (bx:=[.row 10 [],.row 6 []]) (by kernel_rfl) rfl
end Go.Proofs.YtcbeoccmflnejaaGreatDoor
