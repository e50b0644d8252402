/-.-/
import Derived.Test.YtonnphbfclaigaaGreatDoorP20
set_option linter.all false
namespace Go.Proofs.YtonnphbfclaigaaGreatDoor.Ba
open Go Go.Em Go.Proofs.YtonnphbfclaigaaGreatDoor Go.Proofs.YtonnphbfclaigaaGreatDoor.Sh
set_option maxRecDepth 100000
variable {l:List Msg}{o:Oc2}{τ:St}{s:Stp}
def mN (l:List Nat):List (Value×X):=l.map fun k=>(.int .i64 (Int.ofNat k),.v (.bool true))
theorem mN_find (k:Nat):∀(l:List Nat) (i:Nat),(l.contains k=false/\mapFind (.int .i64 (Int.ofNat k)) (mN l) i=some none)\/(l.contains k=true/\∃j,mapFind (.int .i64 (Int.ofNat k)) (mN l) i=some (some (j,.v (.bool true))))
 |[],i=>.inl ⟨rfl,rfl⟩
 |x::r,i=>by
  have hk:keySame (.int .i64 (Int.ofNat k)) (.int .i64 (Int.ofNat x))=some (k==x):=by
   show (if IntKind.i64=IntKind.i64 then some (Int.ofNat k==Int.ofNat x) else none)=_;rw [if_pos rfl]
   congr 1
   rw [Bool.eq_iff_iff,qbg,qbg];exact ⟨fun h=>Int.ofNat.inj h,fun h=>by rw [h]⟩
  cases hq:k==x with
  |true=>rw [hq] at hk;refine .inr ⟨by simp [eq_of_beq hq],i,?_⟩;simp only [mN,qbt,mapFind,hk]
  |false=>
   rw [hq] at hk;have hc:(x::r).contains k=r.contains k:=by rw [List.contains_cons,hq,Bool.false_or]
   rw [hc];have hm:mapFind (.int .i64 (Int.ofNat k)) (mN (x::r)) i=mapFind (.int .i64 (Int.ofNat k)) (mN r) (i+1):=by simp only [mN,qbt,mapFind,hk]
   rw [hm];exact mN_find k r (i+1)
theorem mN_put {k:Nat}{l:List Nat}(h:l.contains k=false):mapPut (.int .i64 (Int.ofNat k)) (.v (.bool true)) (mN l)=some (mN (l++[k])):=by
 unfold mapPut;rcases mN_find k l 0 with ⟨_,h2⟩|⟨h1,_⟩;·rw [h2];simp [mN]
 rw [h] at h1;cases h1
theorem mN_get (k:Nat)(l:List Nat):mapGet false (boolX false) (.int .i64 (Int.ofNat k)) (mN l)=some (boolX (l.contains k)):=by
 unfold mapGet;rcases mN_find k l 0 with ⟨h1,h2⟩|⟨h1,j,h2⟩;·rw [h1,h2];rfl
 rw [h1,h2];rfl
section
variable (n2 t2:Int) (sl2 ou rq fc lt W NW mk lr:qbI) (j k i i2:Nat) (es:List (Value×X)) (x:List X) (c:Bool)
def q13H:St:=⟨[(5,.ptr 0 0 0),(7,.sl false 10 W),(8,.sl false 10 NW),(9,.mp 1),(10,.bs 2 0 j),(11,.bs 3 0 k),(12,nat i)],[.var (ocC n2 t2 sl2 ou rq fc lt),.map es,.row 2 mk,.row 10 lr]⟩
def q13E:St:=⟨[(5,.ptr 0 0 0),(7,.sl false 10 W),(8,.sl false 10 NW),(9,.mp 1),(10,.bs 2 0 j),(11,.bs 3 0 k),(12,nat i),(54,boolX false)],[.var (ocC n2 t2 sl2 ou rq fc lt),.map es,.row 2 mk,.row 10 lr]⟩
def q13Z:St:=⟨[(6,boolX false)],[.var (ocC n2 t2 sl2 ou rq fc lt),.map es,.row 2 mk,.row 10 lr,.var x]⟩
theorem q13_canon1:canon 0 ⟨[(5,.ptr 0 0 0),(7,.sl false 10 W),(8,.sl false 10 NW),(9,.mp 1),(10,.bs 2 0 j),(11,.bs 5 0 k),(12,nat i)],[.var (ocC n2 t2 sl2 ou rq fc lt),.map es,.row 2 mk,.dead,.var x,.row 10 lr]⟩=some (q13H n2 t2 sl2 ou rq fc lt W NW mk lr j k i es):=by kernel_rfl
theorem q13_canon2:canon 0 ⟨[(5,.ptr 0 0 0),(7,.sl false 10 W),(8,.sl false 10 NW),(9,.mp 1),(10,.bs 5 0 j),(11,.bs 3 0 k),(12,nat i)],[.var (ocC n2 t2 sl2 ou rq fc lt),.map es,.dead,.row 10 lr,.var x,.row 2 mk]⟩=some (q13H n2 t2 sl2 ou rq fc lt W NW mk lr j k i es):=by kernel_rfl
def u13H:St:=⟨[(7,.sl false 10 W),(8,.sl false 10 NW),(9,.mp 0),(10,.sl false 2 mk),(15,nat i)],[.map es]⟩
def u13E:St:=⟨[(7,.sl false 10 W),(8,.sl false 10 NW),(9,.mp 0),(10,.sl false 2 mk),(15,nat i),(112,boolX false)],[.map es]⟩
theorem u13_canon:canon 0 (u13H W NW mk i es)=some (u13H W NW mk i es):=by kernel_rfl
theorem u13_canon':canon 0 ⟨[(7,.sl false 10 W),(8,.sl false 10 NW),(9,.mp 0),(10,.sl false 2 mk),(15,nat i)],[.map es,.var x]⟩=some (u13H W NW mk i es):=by kernel_rfl
def v13H:St:=⟨[(7,.sl false 10 W),(8,.sl false 10 NW),(10,.sl false 2 mk),(18,nat i)],[]⟩
def v13E:St:=⟨[(7,.sl false 10 W),(8,.sl false 10 NW),(10,.sl false 2 mk),(18,nat i),(150,boolX false)],[]⟩
theorem v13_canon:canon 0 (v13H W NW mk i)=some (v13H W NW mk i):=by kernel_rfl
def w13H:St:=⟨[(7,.sl false 10 W),(8,.sl false 10 NW),(10,.sl false 2 mk),(18,nat i),(19,boolX c),(20,nat i2)],[]⟩
def w13E:St:=⟨[(7,.sl false 10 W),(8,.sl false 10 NW),(10,.sl false 2 mk),(18,nat i),(19,boolX c),(20,nat i2),(164,boolX false)],[]⟩
theorem w13_canon:canon 0 (w13H W NW mk i i2 c)=some (w13H W NW mk i i2 c):=by kernel_rfl
def x13H:St:=⟨[(8,.sl false 10 NW),(10,.sl false 2 mk),(21,nat i)],[]⟩
def x13E:St:=⟨[(8,.sl false 10 NW),(10,.sl false 2 mk),(21,nat i),(185,boolX false)],[]⟩
theorem x13_canon:canon 0 (x13H NW mk i)=some (x13H NW mk i):=by kernel_rfl
end
theorem fixI_some {k:Nat}(h:fix s l=some k):fixI s l=Int.ofNat k:=by unfold fixI;rw [h]
theorem fixI_none (h:fix s l=none):fixI s l=-1:=by unfold fixI;rw [h]
theorem stpsC_app (l m:List Stp):stpsC (l++m)=stpsC l++stpsC m:=by simp [stpsC]
theorem find_at (L:List Msg)(s:Stp)(hl:L.length<100000)(hok:∀m,m∈L->m.ok)(N:Nat)(hN:190001<=N):Gam.pureD (callF tab ext N) 45 [.sl false 10 (msgsC L),.agg s.cells]=some (num (fixI s L)):=by obtain ⟨M,rfl⟩:∃M,N=M+1:=⟨N-1,by omega⟩;exact find_pure L s hl (fun m hm=>(hok m hm).st) M (by omega)
theorem fate_loop (was:List Msg)(NW:qbI)(o:Oc2)(hl:was.length<=1000)(hw:∀m,m∈was->m.ok)(hf:o.fates.length<=6)(hi:∀f,f∈o.fates->f.into.length<=100)(N:Nat)(hN:190002<=N)
  (hτ:canon 0 τ=some (q13H o.s.n o.s.t (sltsC o.s.slots) (otpsC o.outs) (reqsC o.reqs) (ftesC o.fates) (msgsC o.letters) (msgsC was) NW [] [] 0 0 0 [])):
  (∃q,foldO (mstep was) o.fates ⟨[],[],[]⟩=some q/\run (callF tab ext N) 0 N (.loop (loopAt 13 0)) τ=some (.exit 0,q13E o.s.n o.s.t (sltsC o.s.slots) (otpsC o.outs) (reqsC o.reqs) (ftesC o.fates) (msgsC o.letters) (msgsC was) NW (stpsC q.made) (msgsC q.letters) q.made.length q.letters.length o.fates.length (mN q.ended)))\/
  (foldO (mstep was) o.fates ⟨[],[],[]⟩=none/\∃es mk lr x,run (callF tab ext N) 0 N (.loop (loopAt 13 0)) τ=some (.ret,q13Z o.s.n o.s.t (sltsC o.s.slots) (otpsC o.outs) (reqsC o.reqs) (ftesC o.fates) (msgsC o.letters) mk lr es x)):=by
 have hn:=ftesC_length o.fates;have h:=loop_list (Γ:=callF tab ext N) (nIn:=0) (fu:=N) (b:=loopAt 13 0) (fun (q:QM) i=>q13H o.s.n o.s.t (sltsC o.s.slots) (otpsC o.outs) (reqsC o.reqs) (ftesC o.fates) (msgsC o.letters) (msgsC was) NW (stpsC q.made) (msgsC q.letters) q.made.length q.letters.length i (mN q.ended)) (mstep was) (fun q j=>q.made.length<=100*j/\q.letters.length<=j) o.fates (e:=.exit 0)
  (fun q=>q13E o.s.n o.s.t (sltsC o.s.slots) (otpsC o.outs) (reqsC o.reqs) (ftesC o.fates) (msgsC o.letters) (msgsC was) NW (stpsC q.made) (msgsC q.letters) q.made.length q.letters.length o.fates.length (mN q.ended)) (fun q _ f=>q13Z o.s.n o.s.t (sltsC o.s.slots) (otpsC o.outs) (reqsC o.reqs) (ftesC o.fates) (msgsC o.letters) (stpsC q.made) (msgsC q.letters) (mN q.ended) f.cells) ⟨[],[],[]⟩ ⟨by simp,by simp⟩ ?_ ?_
  (fun q _=>run_of [(54,.b false)] [] (pf1 (nlt_nat (j:=o.fates.length) (k:=(ftesC o.fates).length) (by omega))) (lo':=[]) (by kernel_rfl)) (by simp) hτ (by omega)
 ·rcases h with ⟨q,h1,_,h2⟩|⟨h0,q,j,f,_,_,_,_,h5⟩;·exact .inl ⟨q,h1,h2⟩
  exact .inr ⟨h0,_,_,_,_,h5⟩
 ·intro q q' j f hg hI hs;have hj:=(qaY.1 hg).1;have he:=ftesC_at hg;have hnx:=next_nat (j:=j) (by omega);have h1:=lt_nat (j:=j) (k:=(ftesC o.fates).length) (by omega);have hfd:=find_at was f.st (by omega) hw N (by omega);have hin:=hi f (qa5 hg);unfold mstep at hs;cases hx:fix f.st was with
  |none=>rw [hx] at hs;cases hs
  |some k=>
   rw [hx] at hs;dsimp only at hs;rw [fixI_some hx] at hfd;cases hc:q.ended.contains k with
   |true=>rw [hc] at hs;cases hs
   |false=>
    rw [hc] at hs;simp only [qbc,if_false] at hs;have hg1:=mN_get k q.ended;rw [hc] at hg1;have hp:=mN_put hc;obtain ⟨m,m1,_⟩:=fix_st hx;have he2:(msgsC was)[(Int.ofNat k).toNat]?=some m.cells:=msgsC_at m1;have e1:=stpsC_length q.made;have e2:=msgsC_length q.letters;have e3:=stpsC_length f.into;have room1:0+q.letters.length=(msgsC q.letters).length/\roomOk (q.letters.length+1) 152=true/\memN 3 []=false:=app_ok _ 3 152 e2.symm (by omega) (by omega);have room2:0+q.made.length=(stpsC q.made).length/\roomOk (q.made.length+(stpsC f.into).length) 32=true/\memN 2 []=false:=⟨by omega,room_of (by omega) (by omega),rfl⟩;cases h12:(f.kind==1||f.kind==2) with
    |true=>
     rw [h12] at hs;simp only [if_true,qaE] at hs;subst hs;have h4:(f.kind==4)=false:=by rw [Bool.or_eq_true,qbg,qbg] at h12;rw [beq_eq_false_iff_ne];omega
     have em:stpsC (q.made++f.into)=List.drop 0 (stpsC q.made)++stpsC f.into:=by rw [List.drop_zero,stpsC_app]
     have el:(q.made++f.into).length=q.made.length+(stpsC f.into).length:=by rw [qaZ,e3]
     refine ⟨⟨by dsimp only;rw [qaZ];omega,by dsimp only;omega⟩,?_⟩;dsimp only;rw [em,el];cases h2:(f.kind==1) with
     |true=>
      have h2':(f.kind !=1)=false:=by rw [bne,h2];rfl
      generalize stpsC q.made=mk at*;generalize msgsC q.letters=lr at*;generalize q.made.length=jm at*;generalize q.letters.length=kl at*;generalize mN (q.ended++[k])=es2 at*;generalize mN q.ended=es at*;generalize msgsC was=W at*;obtain ⟨⟨n2,t2,ss⟩,ou,rq,fts,lt⟩:=o;dsimp only at*;generalize otpsC ou=ou at*;generalize reqsC rq=rq at*;generalize ftesC fts=fc at*;generalize msgsC lt=lt at*;generalize sltsC ss=sl2 at*;obtain ⟨⟨f1,f2⟩,fk,fn,fi,ft⟩:=f;dsimp only at*;generalize stpsC fi=fic at*;exact ⟨_,run_of [(54,.b true),(60,.e [num f1,.sl false 1 (intsC f2),num fk,strX fn,.sl false 2 fic,strX ft]),(65,.p (nat k)),(71,.g (boolX false)),(76,.b false),(1000088,.pm es2),(92,.b false),(103,.app),(56,.i (Int.ofNat (j+1)))] [] (pf9 h1 he hfd hg1 h2' hp h4 room2 hnx) (lo':=[]) (σ':=⟨[(5,.ptr 0 0 0),(7,.sl false 10 W),(8,.sl false 10 NW),(9,.mp 1),(10,.bs 5 0 (jm+fic.length)),(11,.bs 3 0 kl),(12,nat (j+1))],[.var (ocC n2 t2 sl2 ou rq fc lt),.map es2,.dead,.row 10 lr,.var [num f1,.sl false 1 (intsC f2),num fk,strX fn,.sl false 2 fic,strX ft],.row 2 (List.drop 0 mk++fic)]⟩) (by kernel_rfl),q13_canon2 ..⟩
     |false=>
      have h2':(f.kind !=1)=true:=by rw [bne,h2];rfl
      have h3':(f.kind !=2)=false:=by rw [h2,Bool.false_or] at h12;rw [bne,h12];rfl
      generalize stpsC q.made=mk at*;generalize msgsC q.letters=lr at*;generalize q.made.length=jm at*;generalize q.letters.length=kl at*;generalize mN (q.ended++[k])=es2 at*;generalize mN q.ended=es at*;generalize msgsC was=W at*;obtain ⟨⟨n2,t2,ss⟩,ou,rq,fts,lt⟩:=o;dsimp only at*;generalize otpsC ou=ou at*;generalize reqsC rq=rq at*;generalize ftesC fts=fc at*;generalize msgsC lt=lt at*;generalize sltsC ss=sl2 at*;obtain ⟨⟨f1,f2⟩,fk,fn,fi,ft⟩:=f;dsimp only at*;generalize stpsC fi=fic at*;exact ⟨_,run_of [(54,.b true),(60,.e [num f1,.sl false 1 (intsC f2),num fk,strX fn,.sl false 2 fic,strX ft]),(65,.p (nat k)),(71,.g (boolX false)),(76,.b true),(80,.b false),(1000088,.pm es2),(92,.b false),(103,.app),(56,.i (Int.ofNat (j+1)))] [] (pf10 h1 he hfd hg1 h2' h3' hp h4 room2 hnx) (lo':=[]) (σ':=⟨[(5,.ptr 0 0 0),(7,.sl false 10 W),(8,.sl false 10 NW),(9,.mp 1),(10,.bs 5 0 (jm+fic.length)),(11,.bs 3 0 kl),(12,nat (j+1))],[.var (ocC n2 t2 sl2 ou rq fc lt),.map es2,.dead,.row 10 lr,.var [num f1,.sl false 1 (intsC f2),num fk,strX fn,.sl false 2 fic,strX ft],.row 2 (List.drop 0 mk++fic)]⟩) (by kernel_rfl),q13_canon2 ..⟩
    |false=>
     rw [h12] at hs;simp only [qbc,if_false] at hs;rw [Bool.or_eq_false_iff] at h12;have h2':(f.kind !=1)=true:=by rw [bne,h12.1];rfl
     have h3':(f.kind !=2)=true:=by rw [bne,h12.2];rfl
     cases h4:(f.kind==4) with
     |false=>rw [h4] at hs;cases hs
     |true=>
      have h4':(f.kind !=4)=false:=by rw [bne,h4];rfl
      rw [h4] at hs;simp only [if_true,qaE,m1,Option.toList] at hs;subst hs;have em:msgsC (q.letters++[m])=List.drop 0 (msgsC q.letters)++[m.cells]:=by rw [List.drop_zero,msgsC_snoc]
      have el:(q.letters++[m]).length=q.letters.length+1:=by simp
      refine ⟨⟨by dsimp only;omega,by dsimp only;omega⟩,?_⟩;dsimp only;rw [em,el];generalize stpsC q.made=mk at*;generalize msgsC q.letters=lr at*;generalize q.made.length=jm at*;generalize q.letters.length=kl at*;generalize mN (q.ended++[k])=es2 at*;generalize mN q.ended=es at*;generalize msgsC was=W at*;obtain ⟨⟨n2,t2,ss⟩,ou,rq,fts,lt⟩:=o;dsimp only at*;generalize otpsC ou=ou at*;generalize reqsC rq=rq at*;generalize ftesC fts=fc at*;generalize msgsC lt=lt at*;generalize sltsC ss=sl2 at*;obtain ⟨⟨f1,f2⟩,fk,fn,fi,ft⟩:=f;obtain ⟨⟨a1,a2⟩,a3,a4,a5,a6,a7,a8,a9,a0⟩:=m;dsimp only at*;exact ⟨_,run_of [(54,.b true),(60,.e (Fte.mk ⟨f1,f2⟩ fk fn fi ft).cells),(65,.p (nat k)),(71,.g (boolX false)),(76,.b true),(80,.b true),(85,.b false),(1000088,.pm es2),(92,.b true),(96,.e (Msg.mk ⟨a1,a2⟩ a3 a4 (.mk a5 a6 a7 a8 a9 a0)).cells),(99,.app),(56,.i (Int.ofNat (j+1)))] [] (pf12 h1 he hfd hg1 h2' h3' h4' hp h4 he2 room1 hnx) (lo':=[]) (σ':=⟨[(5,.ptr 0 0 0),(7,.sl false 10 W),(8,.sl false 10 NW),(9,.mp 1),(10,.bs 2 0 jm),(11,.bs 5 0 (kl+1)),(12,nat (j+1))],[.var (ocC n2 t2 sl2 ou rq fc lt),.map es2,.row 2 mk,.dead,.var (Fte.mk ⟨f1,f2⟩ fk fn fi ft).cells,.row 10 (List.drop 0 lr++[(Msg.mk ⟨a1,a2⟩ a3 a4 (.mk a5 a6 a7 a8 a9 a0)).cells])]⟩) (by kernel_rfl),q13_canon1 ..⟩
 intro q j f hg hI hs;have hj:=(qaY.1 hg).1;have he:=ftesC_at hg;have h1:=lt_nat (j:=j) (k:=(ftesC o.fates).length) (by omega);have hfd:=find_at was f.st (by omega) hw N (by omega);unfold mstep at hs;cases hx:fix f.st was with
 |none=>rw [fixI_none hx] at hfd;generalize stpsC q.made=mk at*;generalize msgsC q.letters=lr at*;generalize q.made.length=jm at*;generalize q.letters.length=kl at*;generalize mN q.ended=es at*;generalize msgsC was=W at*;obtain ⟨⟨n2,t2,ss⟩,ou,rq,fts,lt⟩:=o;dsimp only at*;generalize otpsC ou=ou at*;generalize reqsC rq=rq at*;generalize ftesC fts=fc at*;generalize msgsC lt=lt at*;generalize sltsC ss=sl2 at*;obtain ⟨⟨f1,f2⟩,fk,fn,fi,ft⟩:=f;dsimp only at*;exact run_of [(54,.b true),(60,.e (Fte.mk ⟨f1,f2⟩ fk fn fi ft).cells),(65,.p (num (-1)))] [] (pf3 h1 he hfd) (lo':=[]) (by kernel_rfl)
 |some k=>
  rw [hx] at hs;dsimp only at hs;rw [fixI_some hx] at hfd;have hg1:=mN_get k q.ended;cases hc:q.ended.contains k with
  |true=>rw [hc] at hg1;generalize stpsC q.made=mk at*;generalize msgsC q.letters=lr at*;generalize q.made.length=jm at*;generalize q.letters.length=kl at*;generalize mN q.ended=es at*;generalize msgsC was=W at*;obtain ⟨⟨n2,t2,ss⟩,ou,rq,fts,lt⟩:=o;dsimp only at*;generalize otpsC ou=ou at*;generalize reqsC rq=rq at*;generalize ftesC fts=fc at*;generalize msgsC lt=lt at*;generalize sltsC ss=sl2 at*;obtain ⟨⟨f1,f2⟩,fk,fn,fi,ft⟩:=f;dsimp only at*;exact run_of [(54,.b true),(60,.e (Fte.mk ⟨f1,f2⟩ fk fn fi ft).cells),(65,.p (nat k)),(71,.g (boolX true))] [] (pf4 h1 he hfd hg1) (lo':=[]) (by kernel_rfl)
  |false=>
   rw [hc] at hs hg1;simp only [qbc,if_false] at hs;cases h12:(f.kind==1||f.kind==2) with
   |true=>rw [h12] at hs;cases hs
   |false=>
    rw [h12] at hs;simp only [qbc,if_false] at hs;rw [Bool.or_eq_false_iff] at h12;have h2':(f.kind !=1)=true:=by rw [bne,h12.1];rfl
    have h3':(f.kind !=2)=true:=by rw [bne,h12.2];rfl
    cases h4:(f.kind==4) with
    |true=>rw [h4] at hs;cases hs
    |false=>
     have h4':(f.kind !=4)=true:=by rw [bne,h4];rfl
     generalize stpsC q.made=mk at*;generalize msgsC q.letters=lr at*;generalize q.made.length=jm at*;generalize q.letters.length=kl at*;generalize mN q.ended=es at*;generalize msgsC was=W at*;obtain ⟨⟨n2,t2,ss⟩,ou,rq,fts,lt⟩:=o;dsimp only at*;generalize otpsC ou=ou at*;generalize reqsC rq=rq at*;generalize ftesC fts=fc at*;generalize msgsC lt=lt at*;generalize sltsC ss=sl2 at*;obtain ⟨⟨f1,f2⟩,fk,fn,fi,ft⟩:=f;dsimp only at*;exact run_of [(54,.b true),(60,.e (Fte.mk ⟨f1,f2⟩ fk fn fi ft).cells),(65,.p (nat k)),(71,.g (boolX false)),(76,.b true),(80,.b true),(85,.b true)] [] (pf7 h1 he hfd hg1 h2' h3' h4') (lo':=[]) (by kernel_rfl)
theorem old_loop (was now:List Msg)(ended:List Nat)(mk:qbI)(hl:was.length<=1000)(hl2:now.length<=1000)(hw:∀m,m∈was->m.ok)(hn:∀m,m∈now->m.ok)(N:Nat)(hN:190002<=N)
  (hτ:canon 0 τ=some (u13H (msgsC was) (msgsC now) mk 0 (mN ended))):
  ((foldO (ostep now ended) was 0).isSome=true/\run (callF tab ext N) 0 N (.loop (loopAt 13 1)) τ=some (.exit 2,u13E (msgsC was) (msgsC now) mk was.length (mN ended)))\/
  ((foldO (ostep now ended) was 0).isSome=false/\∃bx,run (callF tab ext N) 0 N (.loop (loopAt 13 1)) τ=some (.ret,⟨[(6,boolX false)],bx⟩)):=by
 have hln:=msgsC_length was;have h:=loop_listZ (Γ:=callF tab ext N) (nIn:=0) (fu:=N) (b:=loopAt 13 1) (fun (_:Nat) i=>u13H (msgsC was) (msgsC now) mk i (mN ended)) (ostep now ended) (fun q j=>q=j) was (e:=.exit 2)
  (fun _=>u13E (msgsC was) (msgsC now) mk was.length (mN ended)) (fun _ _ _ υ=>∃bx,υ=⟨[(6,boolX false)],bx⟩) 0 rfl ?_ ?_
  (fun q _=>run_of [(112,.b false)] [] (pf1 (nlt_nat (j:=was.length) (k:=(msgsC was).length) (by omega))) (lo':=[]) (by kernel_rfl)) (by simp) hτ (by omega)
 ·rcases h with ⟨q,h1,_,h2⟩|⟨h0,q,j,f,_,_,_,_,υ,h5,bx,rfl⟩;·exact .inl ⟨by rw [h1];rfl,h2⟩
  exact .inr ⟨by rw [h0];rfl,bx,h5⟩
 ·intro q q' j m hg hI hs;subst hI;have hj:=(qaY.1 hg).1;have he:=msgsC_at hg;have hnx:=next_nat (j:=q) (by omega);have h1:=lt_nat (j:=q) (k:=(msgsC was).length) (by omega);have hfd:=find_at now m.st (by omega) hn N (by omega);have hg1:=mN_get q ended;have hmk:=hw m (qa5 hg);unfold ostep at hs;cases hx:fix m.st now with
  |none=>
   rw [hx] at hs;dsimp only at hs;rw [fixI_none hx] at hfd;cases hc:ended.contains q with
   |false=>rw [hc] at hs;cases hs
   |true=>rw [hc] at hs hg1;simp only [if_true,qaE] at hs;refine ⟨hs.symm,?_⟩;generalize mN ended=es at*;generalize msgsC was=W at*;generalize msgsC now=NW at*;obtain ⟨⟨a1,a2⟩,a3,a4,a5,a6,a7,a8,a9,a0⟩:=m;exact ⟨_,run_of [(112,.b true),(118,.e (Msg.mk ⟨a1,a2⟩ a3 a4 (.mk a5 a6 a7 a8 a9 a0)).cells),(121,.p (num (-1))),(124,.g (boolX true)),(114,.i (Int.ofNat (q+1)))] [] (pf5 h1 he hfd hg1 hnx) (lo':=[]) (σ':=u13H W NW mk (q+1) es) (by kernel_rfl),u13_canon ..⟩
  |some k=>
   rw [hx] at hs;dsimp only at hs;rw [fixI_some hx] at hfd;obtain ⟨y,y1,_⟩:=fix_st hx;have he2:(msgsC now)[(Int.ofNat k).toNat]?=some y.cells:=msgsC_at y1;have hyk:=hn y (qa5 y1);have hq:=msg_eq N (swapB y m) m ⟨hyk.st,hyk.orig,hmk.body⟩ (by omega);cases hc:ended.contains q with
   |true=>rw [hc] at hs;cases hs
   |false=>
    rw [hc,y1] at hs;rw [hc] at hg1;simp only [qbc,if_false] at hs;cases hm:mEq (swapB y m) m with
    |false=>rw [hm] at hs;cases hs
    |true=>rw [hm] at hs hq;simp only [if_true,qaE] at hs;refine ⟨hs.symm,?_⟩;generalize mN ended=es at*;generalize msgsC was=W at*;generalize msgsC now=NW at*;obtain ⟨⟨a1,a2⟩,a3,a4,a5,a6,a7,a8,a9,a0⟩:=m;obtain ⟨⟨b1,b2⟩,b3,b4,b5,b6,b7,b8,b9,b0⟩:=y;exact ⟨_,run_of [(112,.b true),(118,.e (Msg.mk ⟨a1,a2⟩ a3 a4 (.mk a5 a6 a7 a8 a9 a0)).cells),(121,.p (nat k)),(124,.g (boolX false)),(132,.e (Msg.mk ⟨b1,b2⟩ b3 b4 (.mk b5 b6 b7 b8 b9 b0)).cells),(136,.e (Msg.mk ⟨a1,a2⟩ a3 a4 (.mk a5 a6 a7 a8 a9 a0)).cells),(143,.e (Msg.mk ⟨a1,a2⟩ a3 a4 (.mk a5 a6 a7 a8 a9 a0)).cells),(145,.p (boolX true)),(114,.i (Int.ofNat (q+1)))] [] (pf9 h1 he hfd hg1 he2 he he hq hnx) (lo':=[]) (σ':=⟨[(7,.sl false 10 W),(8,.sl false 10 NW),(9,.mp 0),(10,.sl false 2 mk),(15,nat (q+1))],[.map es,.var (Msg.mk ⟨b1,b2⟩ b3 b4 (.mk a5 a6 a7 a8 a9 a0)).cells]⟩) (by kernel_rfl),u13_canon' ..⟩
 intro q j m hg hI hs;subst hI;have hj:=(qaY.1 hg).1;have he:=msgsC_at hg;have h1:=lt_nat (j:=q) (k:=(msgsC was).length) (by omega);have hfd:=find_at now m.st (by omega) hn N (by omega);have hg1:=mN_get q ended;have hmk:=hw m (qa5 hg);unfold ostep at hs;cases hx:fix m.st now with
 |none=>
  rw [hx] at hs;dsimp only at hs;rw [fixI_none hx] at hfd;cases hc:ended.contains q with
  |true=>rw [hc] at hs;cases hs
  |false=>rw [hc] at hg1;generalize mN ended=es at*;generalize msgsC was=W at*;generalize msgsC now=NW at*;obtain ⟨⟨a1,a2⟩,a3,a4,a5,a6,a7,a8,a9,a0⟩:=m;exact ⟨_,run_of [(112,.b true),(118,.e (Msg.mk ⟨a1,a2⟩ a3 a4 (.mk a5 a6 a7 a8 a9 a0)).cells),(121,.p (num (-1))),(124,.g (boolX false))] [] (pf4 h1 he hfd hg1) (lo':=[]) (σ':=⟨[(6,boolX false)],[.map es]⟩) (by kernel_rfl),_,rfl⟩
 |some k=>
  rw [hx] at hs;dsimp only at hs;rw [fixI_some hx] at hfd;obtain ⟨y,y1,_⟩:=fix_st hx;have he2:(msgsC now)[(Int.ofNat k).toNat]?=some y.cells:=msgsC_at y1;have hyk:=hn y (qa5 y1);have hq:=msg_eq N (swapB y m) m ⟨hyk.st,hyk.orig,hmk.body⟩ (by omega);cases hc:ended.contains q with
  |true=>rw [hc] at hg1;generalize mN ended=es at*;generalize msgsC was=W at*;generalize msgsC now=NW at*;obtain ⟨⟨a1,a2⟩,a3,a4,a5,a6,a7,a8,a9,a0⟩:=m;exact ⟨_,run_of [(112,.b true),(118,.e (Msg.mk ⟨a1,a2⟩ a3 a4 (.mk a5 a6 a7 a8 a9 a0)).cells),(121,.p (nat k)),(124,.g (boolX true))] [] (pf4 h1 he hfd hg1) (lo':=[]) (σ':=⟨[(6,boolX false)],[.map es]⟩) (by kernel_rfl),_,rfl⟩
  |false=>
   rw [hc,y1] at hs;rw [hc] at hg1;simp only [qbc,if_false] at hs;cases hm:mEq (swapB y m) m with
   |true=>rw [hm] at hs;cases hs
   |false=>rw [hm] at hq;generalize mN ended=es at*;generalize msgsC was=W at*;generalize msgsC now=NW at*;obtain ⟨⟨a1,a2⟩,a3,a4,a5,a6,a7,a8,a9,a0⟩:=m;obtain ⟨⟨b1,b2⟩,b3,b4,b5,b6,b7,b8,b9,b0⟩:=y;exact ⟨_,run_of [(112,.b true),(118,.e (Msg.mk ⟨a1,a2⟩ a3 a4 (.mk a5 a6 a7 a8 a9 a0)).cells),(121,.p (nat k)),(124,.g (boolX false)),(132,.e (Msg.mk ⟨b1,b2⟩ b3 b4 (.mk b5 b6 b7 b8 b9 b0)).cells),(136,.e (Msg.mk ⟨a1,a2⟩ a3 a4 (.mk a5 a6 a7 a8 a9 a0)).cells),(143,.e (Msg.mk ⟨a1,a2⟩ a3 a4 (.mk a5 a6 a7 a8 a9 a0)).cells),(145,.p (boolX false))] [] (pf8 h1 he hfd hg1 he2 he he hq) (lo':=[]) (σ':=⟨[(6,boolX false)],[.map es,.var (Msg.mk ⟨b1,b2⟩ b3 b4 (.mk a5 a6 a7 a8 a9 a0)).cells]⟩) (by kernel_rfl),_,rfl⟩
theorem is_loop (W:qbI)(now:List Msg)(made:List Stp)(i:Nat)(m:Msg)(hm:now[i]?=some m)(hl:made.length<=1000)(ho:∀s,s∈made->s.ok)(c:Bool)(N:Nat)(hN:190002<=N)(hτ:canon 0 τ=some (w13H W (msgsC now) (stpsC made) i 0 c)):
  run (callF tab ext N) 0 N (.loop (loopAt 13 3)) τ=some (.exit 6,w13E W (msgsC now) (stpsC made) i made.length (c||made.any fun s=>sEq s m.st)):=by
 have hn:=stpsC_length made;have hf:∀(l:List Stp) (c:Bool),l.foldl (fun c s=>c||sEq s m.st) c=(c||l.any fun s=>sEq s m.st):=by
  intro l;induction l with
  |nil=>intro c;simp
  |cons a r ih=>intro c;simp [ih,Bool.or_assoc]
 have he2:=msgsC_at hm;have h:=(loop_fold (Γ:=callF tab ext N) (nIn:=0) (fu:=N) (b:=loopAt 13 3) (fun (c:Bool) k=>w13H W (msgsC now) (stpsC made) i k c) (fun c s=>c||sEq s m.st) (fun _ _=>True) made (e:=.exit 6)
  (fun c=>w13E W (msgsC now) (stpsC made) i made.length c) c trivial (fun c k s hg _=>?_) (fun c _=>run_of [(164,.b false)] [] (pf1 (nlt_nat (j:=made.length) (k:=(stpsC made).length) (by omega))) (lo':=[]) (by kernel_rfl)) (by simp) hτ (by omega)).1
 ·rw [hf] at h;exact h
 refine ⟨trivial,?_⟩;have hj:=(qaY.1 hg).1;have he:=stpsC_at hg;have hnx:=next_nat (j:=k) (by omega);have h1:=lt_nat (j:=k) (k:=(stpsC made).length) (by omega);have hc:=stp_eq N s m.st (ho s (qa5 hg)) (by omega);generalize sEq s m.st=b at*;generalize stpsC made=mk at*;generalize msgsC now=NW at*;obtain ⟨⟨a1,a2⟩,a3,a4,a5,a6,a7,a8,a9,a0⟩:=m;obtain ⟨s1,s2⟩:=s;cases c with
 |true=>exact ⟨_,run_of [(164,.b true),(166,.i (Int.ofNat (k+1)))] [] (pf2 h1 hnx) (lo':=[]) (σ':=w13H W NW mk i (k+1) true) (by kernel_rfl),w13_canon ..⟩
 |false=>exact ⟨_,run_of [(164,.b true),(171,.e (Stp.mk s1 s2).cells),(175,.e (Msg.mk ⟨a1,a2⟩ a3 a4 (.mk a5 a6 a7 a8 a9 a0)).cells),(178,.p (boolX b)),(166,.i (Int.ofNat (k+1)))] [] (pf5 h1 he he2 hc hnx) (lo':=[]) (σ':=w13H W NW mk i (k+1) b) (by kernel_rfl),w13_canon ..⟩
def nstep (was:List Msg)(made:List Stp)(_:Unit)(m:Msg):Option Unit:=if nowOk was made m then some () else none
theorem all_fold {α:Type}(p:α->Bool):∀(l:List α),(foldO (fun (_:Unit) a=>if p a then some () else none) l ()).isSome=l.all p
 |[]=>rfl
 |a::r=>by
  have ih:=all_fold p r;simp only [foldO,List.all_cons];cases p a with
  |true=>simpa using ih
  |false=>rfl
theorem now_loop (was now:List Msg)(made:List Stp)(hl:was.length<=1000)(hl2:now.length<=1000)(hl3:made.length<=1000)(ho:∀s,s∈made->s.ok)(hw:∀m,m∈was->m.ok)(N:Nat)(hN:190002<=N)
  (hτ:canon 0 τ=some (v13H (msgsC was) (msgsC now) (stpsC made) 0)):
  run (callF tab ext N) 0 N (.loop (loopAt 13 2)) τ=some (if now.all (nowOk was made) then (.exit 4,v13E (msgsC was) (msgsC now) (stpsC made) now.length) else (.ret,Rb)):=by
 have hln:=msgsC_length now;have h:=loop_list (Γ:=callF tab ext N) (nIn:=0) (fu:=N) (b:=loopAt 13 2) (fun (_:Unit) i=>v13H (msgsC was) (msgsC now) (stpsC made) i) (nstep was made) (fun _ _=>True) now (e:=.exit 4)
  (fun _=>v13E (msgsC was) (msgsC now) (stpsC made) now.length) (fun _ _ _=>Rb) () trivial ?_ ?_
  (fun q _=>run_of [(150,.b false)] [] (pf1 (nlt_nat (j:=now.length) (k:=(msgsC now).length) (by omega))) (lo':=[]) (by kernel_rfl)) (by simp) hτ (by omega)
 ·rw [<-all_fold];rcases h with ⟨q,h1,_,h2⟩|⟨h0,q,j,f,_,_,_,_,h5⟩;·rw [show foldO (fun (_:Unit) a=>if nowOk was made a then some () else none) now ()=some q from h1];exact h2
  rw [show foldO (fun (_:Unit) a=>if nowOk was made a then some () else none) now ()=none from h0];exact h5
 ·intro q q' j m hg _ hs;refine ⟨trivial,?_⟩;have hj:=(qaY.1 hg).1;have he:=msgsC_at hg;have hnx:=next_nat (j:=j) (by omega);have h1:=lt_nat (j:=j) (k:=(msgsC now).length) (by omega);have hfd:=find_at was m.st (by omega) hw N (by omega);have hin:=fun c τ hτ=>is_loop (msgsC was) now made j m hg hl3 ho c N hN (τ:=τ) hτ;have hk:nowOk was made m=true:=by
   unfold nstep at hs;cases hk:nowOk was made m with
   |true=>rfl
   |false=>rw [hk] at hs;cases hs
  unfold nowOk at hk;cases hx:fix m.st was with
  |none=>rw [fixI_none hx] at hfd;rw [hx] at hk;have hi:=hin false _ (w13_canon ..);rw [show (false||made.any fun s=>sEq s m.st)=true from hk] at hi;generalize made.length=jm at*;generalize stpsC made=mk at*;generalize msgsC was=W at*;generalize msgsC now=NW at*;obtain ⟨⟨a1,a2⟩,a3,a4,a5,a6,a7,a8,a9,a0⟩:=m;exact ⟨_,run_of [(150,.b true),(156,.e (Msg.mk ⟨a1,a2⟩ a3 a4 (.mk a5 a6 a7 a8 a9 a0)).cells),(159,.p (num (-1))),(152,.i (Int.ofNat (j+1)))] [(.exit 6,w13E W NW mk j jm true)] (pf5 h1 he hfd hi hnx) (lo':=[]) (σ':=v13H W NW mk (j+1)) (by kernel_rfl),v13_canon ..⟩
  |some k=>rw [fixI_some hx] at hfd;have hge:decide (Int.ofNat k>=0)=true:=decide_eq_true (Int.natCast_nonneg k);have hi:=hin true _ (w13_canon ..);rw [Bool.true_or] at hi;generalize made.length=jm at*;generalize stpsC made=mk at*;generalize msgsC was=W at*;generalize msgsC now=NW at*;obtain ⟨⟨a1,a2⟩,a3,a4,a5,a6,a7,a8,a9,a0⟩:=m;exact ⟨_,run_of [(150,.b true),(156,.e (Msg.mk ⟨a1,a2⟩ a3 a4 (.mk a5 a6 a7 a8 a9 a0)).cells),(159,.p (nat k)),(160,.b true),(152,.i (Int.ofNat (j+1)))] [(.exit 6,w13E W NW mk j jm true)] (pf6 h1 he hfd hge hi hnx) (lo':=[]) (σ':=v13H W NW mk (j+1)) (by kernel_rfl),v13_canon ..⟩
 intro q j m hg _ hs;have hj:=(qaY.1 hg).1;have he:=msgsC_at hg;have h1:=lt_nat (j:=j) (k:=(msgsC now).length) (by omega);have hfd:=find_at was m.st (by omega) hw N (by omega);have hin:=fun c τ hτ=>is_loop (msgsC was) now made j m hg hl3 ho c N hN (τ:=τ) hτ;have hk:nowOk was made m=false:=by
  unfold nstep at hs;cases hk:nowOk was made m with
  |false=>rfl
  |true=>rw [hk] at hs;cases hs
 unfold nowOk at hk;cases hx:fix m.st was with
 |some k=>rw [hx] at hk;cases hk
 |none=>rw [fixI_none hx] at hfd;rw [hx] at hk;have hi:=hin false _ (w13_canon ..);rw [show (false||made.any fun s=>sEq s m.st)=false from hk] at hi;generalize made.length=jm at*;generalize stpsC made=mk at*;generalize msgsC was=W at*;generalize msgsC now=NW at*;obtain ⟨⟨a1,a2⟩,a3,a4,a5,a6,a7,a8,a9,a0⟩:=m;exact run_of [(150,.b true),(156,.e (Msg.mk ⟨a1,a2⟩ a3 a4 (.mk a5 a6 a7 a8 a9 a0)).cells),(159,.p (num (-1)))] [(.exit 6,w13E W NW mk j jm false)] (pf4 h1 he hfd hi) (lo':=[]) (by kernel_rfl)
theorem made_loop (now:List Msg)(made:List Stp)(hl2:now.length<=1000)(hl3:made.length<=1000)(hn:∀m,m∈now->m.ok)(N:Nat)(hN:190002<=N)
  (hτ:canon 0 τ=some (x13H (msgsC now) (stpsC made) 0)):
  run (callF tab ext N) 0 N (.loop (loopAt 13 4)) τ=some (if made.all (fun s=>(fix s now).isSome) then (.exit 8,x13E (msgsC now) (stpsC made) made.length) else (.ret,Rb)):=by
 have hln:=stpsC_length made;have h:=loop_list (Γ:=callF tab ext N) (nIn:=0) (fu:=N) (b:=loopAt 13 4) (fun (_:Unit) i=>x13H (msgsC now) (stpsC made) i) (fun (_:Unit) s=>if (fix s now).isSome then some () else none) (fun _ _=>True) made (e:=.exit 8)
  (fun _=>x13E (msgsC now) (stpsC made) made.length) (fun _ _ _=>Rb) () trivial ?_ ?_
  (fun q _=>run_of [(185,.b false)] [] (pf1 (nlt_nat (j:=made.length) (k:=(stpsC made).length) (by omega))) (lo':=[]) (by kernel_rfl)) (by simp) hτ (by omega)
 ·rw [<-all_fold];rcases h with ⟨q,h1,_,h2⟩|⟨h0,q,j,f,_,_,_,_,h5⟩;·rw [h1];exact h2
  rw [h0];exact h5
 ·intro q q' j s hg _ hs;refine ⟨trivial,?_⟩;have hj:=(qaY.1 hg).1;have he:=stpsC_at hg;have hnx:=next_nat (j:=j) (by omega);have h1:=lt_nat (j:=j) (k:=(stpsC made).length) (by omega);have hfd:=find_at now s (by omega) hn N (by omega);cases hx:fix s now with
  |none=>rw [hx] at hs;cases hs
  |some k=>rw [fixI_some hx] at hfd;have hge:decide (Int.ofNat k<0)=false:=decide_eq_false (by have:=Int.natCast_nonneg k;simp only [qbs];omega);generalize stpsC made=mk at*;generalize msgsC now=NW at*;obtain ⟨s1,s2⟩:=s;exact ⟨_,run_of [(185,.b true),(191,.e (Stp.mk s1 s2).cells),(193,.p (nat k)),(194,.b false),(187,.i (Int.ofNat (j+1)))] [] (pf5 h1 he hfd hge hnx) (lo':=[]) (σ':=x13H NW mk (j+1)) (by kernel_rfl),x13_canon ..⟩
 intro q j s hg _ hs;have hj:=(qaY.1 hg).1;have he:=stpsC_at hg;have h1:=lt_nat (j:=j) (k:=(stpsC made).length) (by omega);have hfd:=find_at now s (by omega) hn N (by omega);cases hx:fix s now with
 |some k=>rw [hx] at hs;cases hs
 |none=>rw [fixI_none hx] at hfd;generalize stpsC made=mk at*;generalize msgsC now=NW at*;obtain ⟨s1,s2⟩:=s;exact run_of [(185,.b true),(191,.e (Stp.mk s1 s2).cells),(193,.p (num (-1)))] [] (pf3 h1 he hfd) (lo':=[]) (by kernel_rfl)
def wasOf (s:Stt)(i:Inp):List Msg:=if i.kind==1 then accOf s.slots++[i.m] else accOf s.slots
def nowOf (o:Oc2):List Msg:=accOf o.s.slots++o.outs.map (·.m)
structure Bok (s:Stt) (i:Inp) (o:Oc2):Prop where
 hs:s.small
 ho:o.ok
 hos:o.s.small
 n1:(accOf s.slots).length<=500
 n2:(accOf o.s.slots).length<=500
 n3:o.outs.length<=100
 n4:o.letters.length<=1000
 n5:o.fates.length<=6
 was:∀m,m∈wasOf s i->m.ok/\Okb m.st
 now:∀m,m∈nowOf o->m.ok/\Okb m.st
 fates:∀f,f∈o.fates->Okb f.st/\(∀s,s∈f.into->Okb s)/\f.into.length<=100
theorem Okb.ok (h:Okb s):s.ok:=⟨by have:=h.n;omega⟩
theorem bal12 {s:Stt}{i:Inp}(h:Bok s i o)(N:Nat)(hN:190022<=N):Gam.pureD (callF tab ext N) 12 [.agg s.cells,.agg i.cells,.agg o.cells]=some (boolX (balP (wasOf s i) (nowOf o) o.fates o.letters)):=by
 obtain ⟨M,rfl⟩:∃M,N=M+1:=⟨N-1,by omega⟩;have hw:=h.was;unfold wasOf at hw ⊢;cases hk:(i.kind==1) with
 |true=>rw [hk] at hw;exact bal_one s i o h.hs h.ho h.hos hk h.n1 h.n2 h.n3 h.n4 h.n5 hw h.now h.fates M (by omega)
 |false=>rw [hk] at hw;exact bal_other s i o h.hs h.ho h.hos hk h.n1 h.n2 h.n3 h.n4 h.n5 hw h.now h.fates M (by omega)
theorem msgs42 {s:Stt}{i:Inp}(h:Bok s i o)(N:Nat)(hN:190022<=N):Gam.pureD (callF tab ext N) 42 [.agg s.cells,.agg i.cells,.agg o.cells]=some (.tup [.sl false 10 (msgsC (wasOf s i)),.sl false 10 (msgsC (nowOf o))]):=by
 obtain ⟨M,rfl⟩:∃M,N=M+1:=⟨N-1,by omega⟩;unfold wasOf;cases hk:(i.kind==1) with
 |true=>exact msgs_one s i o h.hs h.hos hk h.n1 h.n2 h.n3 M (by omega)
 |false=>exact msgs_other s i o h.hs h.hos hk h.n1 h.n2 h.n3 M (by omega)
theorem mfold_keep (was:List Msg)(P:Stp->Prop):∀(F:List Fte) (q q':QM),(∀f,f∈F->(∀s,s∈f.into->P s)/\f.into.length<=100)->(∀m,m∈q.letters->m∈was)->(∀s,s∈q.made->P s)->foldO (mstep was) F q=some q'->
  (∀m,m∈q'.letters->m∈was)/\(∀s,s∈q'.made->P s)/\q'.made.length<=q.made.length+100*F.length/\q'.letters.length<=q.letters.length+F.length
 |[],q,q',_,hl,hm,h=>by simp only [foldO,qaE] at h;subst h;exact ⟨hl,hm,by simp,by simp⟩
 |f::r,q,q',hF,hl,hm,h=>by
  simp only [foldO] at h;obtain ⟨b1,b2⟩:=hF f (by simp);cases hs:mstep was q f with
  |none=>rw [hs] at h;cases h
  |some q1=>
   rw [hs] at h;have key:(∀m,m∈q1.letters->m∈was)/\(∀s,s∈q1.made->P s)/\q1.made.length<=q.made.length+100/\q1.letters.length<=q.letters.length+1:=by
    unfold mstep at hs;split at hs;·cases hs
    rename_i k hk;split at hs;·cases hs
    split at hs
    ·cases hs;refine ⟨hl,fun s h=>?_,by dsimp only;rw [qaZ];omega,by dsimp only;omega⟩;rcases qbm.1 h with e|e;·exact hm s e
     exact b1 s e
    split at hs
    ·cases hs;obtain ⟨m,m1,_⟩:=fix_st hk;rw [m1];refine ⟨fun x h=>?_,hm,by dsimp only;omega,by simp⟩;rcases qbm.1 h with e|e;·exact hl x e
     simp at e;rw [e];exact qa5 m1
    cases hs
   obtain ⟨k1,k2,k3,k4⟩:=mfold_keep was P r q1 q' (fun x hx=>hF x (by simp [hx])) key.1 key.2.1 h;refine ⟨k1,k2,?_,?_⟩;·rw [qbr,Nat.mul_succ];omega
   rw [qbr];omega
theorem take_stps {l:List Stp}:List.take l.length (List.drop 0 (stpsC l))=stpsC l:=by rw [List.drop_zero,List.take_of_length_le (by rw [stpsC_length];exact Nat.le_refl _)]
theorem bal13 {s:Stt}{i:Inp}(h:Bok s i o)(N:Nat)(hN:190024<=N):Gam.pureD (callF tab ext N) 13 [.agg s.cells,.agg i.cells,.agg o.cells]=some (boolX (balM (wasOf s i) (nowOf o) o.fates o.letters)):=by
 obtain ⟨M,rfl⟩:∃M,N=M+2:=⟨N-2,by omega⟩;have h42:=msgs42 h (M+1) (by omega);have hwl:(wasOf s i).length<=600:=by
  have:=h.n1;unfold wasOf;split;·rw [qaZ,List.length_singleton];omega
  omega
 have hnl:(nowOf o).length<=600:=by have:=h.n2;have:=h.n3;unfold nowOf;rw [qaZ,qa9];omega
 have hw1:∀m,m∈wasOf s i->m.ok:=fun m hm=>(h.was m hm).1;have hn1:∀m,m∈nowOf o->m.ok:=fun m hm=>(h.now m hm).1;have hlet:∀m,m∈o.letters->m.ok:=h.ho.letters;have hn4:=h.n4;have hn5:=h.n5;have h43:=diff_pure (wasOf s i) (by omega) (fun m hm=>(hw1 m hm).st) M (by omega);have h43b:=diff_pure (nowOf o) (by omega) (fun m hm=>(hn1 m hm).st) M (by omega);have hs1:=mass_pure (wasOf s i) (by omega) M (by omega);have hs2:=mass_pure (nowOf o) (by omega) M (by omega);have hs3:=mass_pure o.letters (by omega) M (by omega);have hfl:=fate_loop (wasOf s i) (msgsC (nowOf o)) o (by omega) hw1 hn5 (fun f hf=>(h.fates f hf).2.2) (M+1) (by omega) (τ:=⟨[(5,.ptr 2 0 0),(7,.sl false 10 (msgsC (wasOf s i))),(8,.sl false 10 (msgsC (nowOf o))),(9,.mp 3),(10,.bs 5 0 0),(11,.bs 4 0 0),(12,num 0)],[.var s.cells,.var i.cells,.var (ocC o.s.n o.s.t (sltsC o.s.slots) (otpsC o.outs) (reqsC o.reqs) (ftesC o.fates) (msgsC o.letters)),.map [],.row 10 [],.row 2 []]⟩) (by generalize msgsC (wasOf s i)=W;generalize msgsC (nowOf o)=NW;obtain ⟨⟨n2,t2,ss2⟩,ou,rq,ft,lt⟩:=o;kernel_rfl);have hkp:=mfold_keep (wasOf s i) Stp.ok o.fates ⟨[],[],[]⟩;have hfo:∀f,f∈o.fates->(∀s,s∈f.into->s.ok)/\f.into.length<=100:=fun f hf=>⟨fun s hs=>((h.fates f hf).2.1 s hs).ok,(h.fates f hf).2.2⟩;clear h;unfold balM sumOk;generalize wasOf s i=was at*;generalize nowOf o=now at*;have fin:∀(x:X),x=x:=fun _=>rfl;generalize hz1:sumW was=z1 at*;generalize hz2:sumW now=z2 at*;generalize hz3:sumW o.letters=z3 at*;cases d1:difB was with
 |false=>rw [d1] at h43;simp only [Bool.false_and];generalize msgsC was=W at*;generalize msgsC now=NW at*;obtain ⟨n,t,ss⟩:=s;obtain ⟨⟨n2,t2,ss2⟩,ou,rq,fts,lt⟩:=o;obtain ⟨ik,it,⟨ie,ip⟩,⟨⟨a1,a2⟩,a3,a4,a5,a6,a7,a8,a9,a0⟩,ix,ib1,ib2,⟨b5,b6,b7,b8,b9,b0⟩⟩:=i;dsimp only at*;generalize otpsC ou=ou at*;generalize sltsC ss=sl at*;generalize sltsC ss2=sl2 at*;generalize reqsC rq=rq at*;generalize ftesC fts=fc at*;generalize msgsC lt=lt at*;exact pure_of [(26,.p (.tup [.sl false 10 W,.sl false 10 NW])),(30,.p (boolX false))] [] (pf2 h42 h43) (x:=boolX false) (bx:=[]) (by kernel_rfl) rfl
 |true=>
  rw [d1] at h43;cases d2:difB now with
  |false=>rw [d2] at h43b;simp only [Bool.false_and,Bool.and_false];generalize msgsC was=W at*;generalize msgsC now=NW at*;obtain ⟨n,t,ss⟩:=s;obtain ⟨⟨n2,t2,ss2⟩,ou,rq,fts,lt⟩:=o;obtain ⟨ik,it,⟨ie,ip⟩,⟨⟨a1,a2⟩,a3,a4,a5,a6,a7,a8,a9,a0⟩,ix,ib1,ib2,⟨b5,b6,b7,b8,b9,b0⟩⟩:=i;dsimp only at*;generalize otpsC ou=ou at*;generalize sltsC ss=sl at*;generalize sltsC ss2=sl2 at*;generalize reqsC rq=rq at*;generalize ftesC fts=fc at*;generalize msgsC lt=lt at*;exact pure_of [(26,.p (.tup [.sl false 10 W,.sl false 10 NW])),(30,.p (boolX true)),(34,.p (boolX false))] [] (pf3 h42 h43 h43b) (x:=boolX false) (bx:=[]) (by kernel_rfl) rfl
  |true=>
   rw [d2] at h43b;cases hsum:(z1==IntKind.i64.wrap (z2+z3)) with
   |false=>
    have hz:(z1 !=IntKind.i64.wrap (z2+z3))=true:=by rw [bne,hsum];rfl
    simp only [Bool.false_and,Bool.and_false];generalize msgsC was=W at*;generalize msgsC now=NW at*;obtain ⟨n,t,ss⟩:=s;obtain ⟨⟨n2,t2,ss2⟩,ou,rq,fts,lt⟩:=o;obtain ⟨ik,it,⟨ie,ip⟩,⟨⟨a1,a2⟩,a3,a4,a5,a6,a7,a8,a9,a0⟩,ix,ib1,ib2,⟨b5,b6,b7,b8,b9,b0⟩⟩:=i;dsimp only at*;generalize otpsC ou=ou at*;generalize sltsC ss=sl at*;generalize sltsC ss2=sl2 at*;generalize reqsC rq=rq at*;generalize ftesC fts=fc at*;generalize msgsC lt=lt at*;exact pure_of [(26,.p (.tup [.sl false 10 W,.sl false 10 NW])),(30,.p (boolX true)),(34,.p (boolX true)),(39,.p (num z1)),(41,.p (num z2)),(44,.p (num z3)),(46,.b true)] [] (pf7 h42 h43 h43b hs1 hs2 hs3 hz) (x:=boolX false) (bx:=[]) (by kernel_rfl) rfl
   |true=>
    have hz:(z1 !=IntKind.i64.wrap (z2+z3))=false:=by rw [bne,hsum];rfl
    simp only [Bool.true_and];rcases hfl with ⟨q,e1,hl0⟩|⟨e1,es,mk,lr,x,hl0⟩
    ·rw [e1];dsimp only;obtain ⟨k1,k2,k3,k4⟩:=hkp q hfo (fun _ h=>by cases h) (fun _ h=>by cases h) e1;have k3':q.made.length<=1000:=by dsimp only [List.length_nil] at k3;omega
     have k4':q.letters.length<=1000:=by dsimp only [List.length_nil] at k4;omega
     have g1:0+q.letters.length<=(msgsC q.letters).length:=by rw [msgsC_length];omega
     have g2:0+q.made.length<=(stpsC q.made).length:=by rw [stpsC_length];omega
     have eL:List.take q.letters.length (List.drop 0 (msgsC q.letters))=msgsC q.letters:=take_msgs rfl;have eM:List.take q.made.length (List.drop 0 (stpsC q.made))=stpsC q.made:=take_stps;have h25:=sa25_pure M q.letters o.letters mEq (fun a b ha _=>msg_eq M a b (hw1 a (k1 a ha)) (by omega)) (by omega) (by omega);rw [<-eL] at h25;have hl1:=old_loop was now q.ended (List.take q.made.length (List.drop 0 (stpsC q.made))) (by omega) (by omega) hw1 hn1 (M+1) (by omega) (τ:=⟨[(7,.sl false 10 (msgsC was)),(8,.sl false 10 (msgsC now)),(9,.mp 1),(10,.sl false 2 (List.take q.made.length (List.drop 0 (stpsC q.made)))),(15,num 0)],[.var (ocC o.s.n o.s.t (sltsC o.s.slots) (otpsC o.outs) (reqsC o.reqs) (ftesC o.fates) (msgsC o.letters)),.map (mN q.ended),.dead,.dead]⟩) (by generalize msgsC was=W;generalize msgsC now=NW;generalize mN q.ended=es;generalize List.take q.made.length (List.drop 0 (stpsC q.made))=mk;kernel_rfl);have hl2:=now_loop was now q.made (by omega) (by omega) k3' k2 hw1 (M+1) (by omega) (τ:=⟨[(7,.sl false 10 (msgsC was)),(8,.sl false 10 (msgsC now)),(10,.sl false 2 (stpsC q.made)),(18,num 0)],[.map (mN q.ended)]⟩) (by generalize msgsC was=W;generalize msgsC now=NW;generalize mN q.ended=es;generalize stpsC q.made=mk;kernel_rfl);have hl3:=made_loop now q.made (by omega) k3' hn1 (M+1) (by omega) (τ:=⟨[(8,.sl false 10 (msgsC now)),(10,.sl false 2 (stpsC q.made)),(21,num 0)],[]⟩) (by generalize msgsC now=NW;generalize stpsC q.made=mk;kernel_rfl);generalize hmk2:List.take q.made.length (List.drop 0 (stpsC q.made))=mk2 at hl1;rw [<-eM,hmk2] at hl2 hl3;have hmk2':mk2=stpsC q.made:=hmk2.symm.trans eM;have hl1':=hl1;clear hl1;rw [hmk2'] at hl1' hl2 hl3;cases d5:eqL mEq q.letters o.letters with
     |false=>rw [d5] at h25;simp only [Bool.false_and];generalize q.made.length=jm at*;generalize q.letters.length=kl at*;generalize stpsC q.made=mk at*;generalize msgsC q.letters=lr at*;generalize mN q.ended=es at*;generalize msgsC was=W at*;generalize msgsC now=NW at*;generalize o.fates.length=fn at*;obtain ⟨n,t,ss⟩:=s;obtain ⟨⟨n2,t2,ss2⟩,ou,rq,fts,lt⟩:=o;obtain ⟨ik,it,⟨ie,ip⟩,⟨⟨a1,a2⟩,a3,a4,a5,a6,a7,a8,a9,a0⟩,ix,ib1,ib2,⟨b5,b6,b7,b8,b9,b0⟩⟩:=i;dsimp only at*;generalize otpsC ou=ou at*;generalize sltsC ss=sl at*;generalize sltsC ss2=sl2 at*;generalize reqsC rq=rq at*;generalize ftesC fts=fc at*;generalize msgsC lt=lt at*;exact pure_of [(26,.p (.tup [.sl false 10 W,.sl false 10 NW])),(30,.p (boolX true)),(34,.p (boolX true)),(39,.p (num z1)),(41,.p (num z2)),(44,.p (num z3)),(46,.b false),(107,.p (boolX false))] [(.exit 0,q13E n2 t2 sl2 ou rq fc lt W NW mk lr jm kl fn es)] (pf11 h42 h43 h43b hs1 hs2 hs3 hz hl0 g1 g2 h25) (x:=boolX false) (bx:=[]) (by kernel_rfl) rfl
     |true=>
      rw [d5] at h25;simp only [Bool.true_and];rcases hl1' with ⟨d6,hl1⟩|⟨d6,bx,hl1⟩
      ·rw [d6];simp only [Bool.true_and];rw [show stpsC q.made=List.take q.made.length (List.drop 0 (stpsC q.made)) from eM.symm] at hl1 hl2 hl3;cases d7:now.all (nowOk was q.made) with
       |false=>rw [d7] at hl2;simp only [qbc,if_false] at hl2;simp only [Bool.false_and];generalize q.made.length=jm at*;generalize q.letters.length=kl at*;generalize stpsC q.made=mk at*;generalize msgsC q.letters=lr at*;generalize mN q.ended=es at*;generalize msgsC was=W at*;generalize msgsC now=NW at*;generalize o.fates.length=fn at*;generalize was.length=wn at*;generalize now.length=nn at*;obtain ⟨n,t,ss⟩:=s;obtain ⟨⟨n2,t2,ss2⟩,ou,rq,fts,lt⟩:=o;obtain ⟨ik,it,⟨ie,ip⟩,⟨⟨a1,a2⟩,a3,a4,a5,a6,a7,a8,a9,a0⟩,ix,ib1,ib2,⟨b5,b6,b7,b8,b9,b0⟩⟩:=i;dsimp only at*;generalize otpsC ou=ou at*;generalize sltsC ss=sl at*;generalize sltsC ss2=sl2 at*;generalize reqsC rq=rq at*;generalize ftesC fts=fc at*;generalize msgsC lt=lt at*;exact pure_of [(26,.p (.tup [.sl false 10 W,.sl false 10 NW])),(30,.p (boolX true)),(34,.p (boolX true)),(39,.p (num z1)),(41,.p (num z2)),(44,.p (num z3)),(46,.b false),(107,.p (boolX true))] [(.exit 0,q13E n2 t2 sl2 ou rq fc lt W NW mk lr jm kl fn es),(.exit 2,u13E W NW (List.take jm (List.drop 0 mk)) wn es),(.ret,Rb)] (pf13 h42 h43 h43b hs1 hs2 hs3 hz hl0 g1 g2 h25 hl1 hl2) (x:=boolX false) (bx:=[]) (by kernel_rfl) rfl
       |true=>
        rw [d7] at hl2;simp only [if_true] at hl2;simp only [Bool.true_and];cases d8:q.made.all (fun s=>(fix s now).isSome) with
        |false=>rw [d8] at hl3;simp only [qbc,if_false] at hl3;generalize q.made.length=jm at*;generalize q.letters.length=kl at*;generalize stpsC q.made=mk at*;generalize msgsC q.letters=lr at*;generalize mN q.ended=es at*;generalize msgsC was=W at*;generalize msgsC now=NW at*;generalize o.fates.length=fn at*;generalize was.length=wn at*;generalize now.length=nn at*;obtain ⟨n,t,ss⟩:=s;obtain ⟨⟨n2,t2,ss2⟩,ou,rq,fts,lt⟩:=o;obtain ⟨ik,it,⟨ie,ip⟩,⟨⟨a1,a2⟩,a3,a4,a5,a6,a7,a8,a9,a0⟩,ix,ib1,ib2,⟨b5,b6,b7,b8,b9,b0⟩⟩:=i;dsimp only at*;generalize otpsC ou=ou at*;generalize sltsC ss=sl at*;generalize sltsC ss2=sl2 at*;generalize reqsC rq=rq at*;generalize ftesC fts=fc at*;generalize msgsC lt=lt at*;exact pure_of [(26,.p (.tup [.sl false 10 W,.sl false 10 NW])),(30,.p (boolX true)),(34,.p (boolX true)),(39,.p (num z1)),(41,.p (num z2)),(44,.p (num z3)),(46,.b false),(107,.p (boolX true))] [(.exit 0,q13E n2 t2 sl2 ou rq fc lt W NW mk lr jm kl fn es),(.exit 2,u13E W NW (List.take jm (List.drop 0 mk)) wn es),(.exit 4,v13E W NW (List.take jm (List.drop 0 mk)) nn),(.ret,Rb)] (pf14 h42 h43 h43b hs1 hs2 hs3 hz hl0 g1 g2 h25 hl1 hl2 hl3) (x:=boolX false) (bx:=[]) (by kernel_rfl) rfl
        |true=>rw [d8] at hl3;simp only [if_true] at hl3;generalize q.made.length=jm at*;generalize q.letters.length=kl at*;generalize stpsC q.made=mk at*;generalize msgsC q.letters=lr at*;generalize mN q.ended=es at*;generalize msgsC was=W at*;generalize msgsC now=NW at*;generalize o.fates.length=fn at*;generalize was.length=wn at*;generalize now.length=nn at*;obtain ⟨n,t,ss⟩:=s;obtain ⟨⟨n2,t2,ss2⟩,ou,rq,fts,lt⟩:=o;obtain ⟨ik,it,⟨ie,ip⟩,⟨⟨a1,a2⟩,a3,a4,a5,a6,a7,a8,a9,a0⟩,ix,ib1,ib2,⟨b5,b6,b7,b8,b9,b0⟩⟩:=i;dsimp only at*;generalize otpsC ou=ou at*;generalize sltsC ss=sl at*;generalize sltsC ss2=sl2 at*;generalize reqsC rq=rq at*;generalize ftesC fts=fc at*;generalize msgsC lt=lt at*;exact pure_of [(26,.p (.tup [.sl false 10 W,.sl false 10 NW])),(30,.p (boolX true)),(34,.p (boolX true)),(39,.p (num z1)),(41,.p (num z2)),(44,.p (num z3)),(46,.b false),(107,.p (boolX true))] [(.exit 0,q13E n2 t2 sl2 ou rq fc lt W NW mk lr jm kl fn es),(.exit 2,u13E W NW (List.take jm (List.drop 0 mk)) wn es),(.exit 4,v13E W NW (List.take jm (List.drop 0 mk)) nn),(.exit 8,x13E NW (List.take jm (List.drop 0 mk)) jm)] (pf14 h42 h43 h43b hs1 hs2 hs3 hz hl0 g1 g2 h25 hl1 hl2 hl3) (x:=boolX true) (bx:=[]) (by kernel_rfl) rfl
      rw [d6];simp only [Bool.false_and];rw [show stpsC q.made=List.take q.made.length (List.drop 0 (stpsC q.made)) from eM.symm] at hl1;generalize q.made.length=jm at*;generalize q.letters.length=kl at*;generalize stpsC q.made=mk at*;generalize msgsC q.letters=lr at*;generalize mN q.ended=es at*;generalize msgsC was=W at*;generalize msgsC now=NW at*;generalize o.fates.length=fn at*;generalize was.length=wn at*;generalize now.length=nn at*;obtain ⟨n,t,ss⟩:=s;obtain ⟨⟨n2,t2,ss2⟩,ou,rq,fts,lt⟩:=o;obtain ⟨ik,it,⟨ie,ip⟩,⟨⟨a1,a2⟩,a3,a4,a5,a6,a7,a8,a9,a0⟩,ix,ib1,ib2,⟨b5,b6,b7,b8,b9,b0⟩⟩:=i;dsimp only at*;generalize otpsC ou=ou at*;generalize sltsC ss=sl at*;generalize sltsC ss2=sl2 at*;generalize reqsC rq=rq at*;generalize ftesC fts=fc at*;generalize msgsC lt=lt at*;exact pure_of [(26,.p (.tup [.sl false 10 W,.sl false 10 NW])),(30,.p (boolX true)),(34,.p (boolX true)),(39,.p (num z1)),(41,.p (num z2)),(44,.p (num z3)),(46,.b false),(107,.p (boolX true))] [(.exit 0,q13E n2 t2 sl2 ou rq fc lt W NW mk lr jm kl fn es),(.ret,⟨[(6,boolX false)],bx⟩)] (pf12 h42 h43 h43b hs1 hs2 hs3 hz hl0 g1 g2 h25 hl1) (x:=boolX false) (bx:=[]) (by kernel_rfl) rfl
    rw [e1];dsimp only;generalize msgsC was=W at*;generalize msgsC now=NW at*;obtain ⟨n,t,ss⟩:=s;obtain ⟨⟨n2,t2,ss2⟩,ou,rq,fts,lt⟩:=o;obtain ⟨ik,it,⟨ie,ip⟩,⟨⟨a1,a2⟩,a3,a4,a5,a6,a7,a8,a9,a0⟩,ix,ib1,ib2,⟨b5,b6,b7,b8,b9,b0⟩⟩:=i;dsimp only at*;generalize otpsC ou=ou at*;generalize sltsC ss=sl at*;generalize sltsC ss2=sl2 at*;generalize reqsC rq=rq at*;generalize ftesC fts=fc at*;generalize msgsC lt=lt at*;exact pure_of [(26,.p (.tup [.sl false 10 W,.sl false 10 NW])),(30,.p (boolX true)),(34,.p (boolX true)),(39,.p (num z1)),(41,.p (num z2)),(44,.p (num z3)),(46,.b false)] [(.ret,q13Z n2 t2 sl2 ou rq fc lt mk lr es x)] (pf8 h42 h43 h43b hs1 hs2 hs3 hz hl0) (x:=boolX false) (bx:=[]) (by kernel_rfl) rfl
end Go.Proofs.YtonnphbfclaigaaGreatDoor.Ba
namespace Go.Proofs.YtonnphbfclaigaaGreatDoor.Od
section
variable {α:Type} [DecidableEq α]
theorem pigeon:∀(l m:List α),l.Nodup->(∀x,x∈l->x∈m)->l.length<=m.length
 |[],m,_,_=>Nat.zero_le _
 |x::l,m,hn,h=>by have hx:=h x List.mem_cons_self;have hn':=List.nodup_cons.1 hn;have:=pigeon l (m.erase x) hn'.2 fun y hy=>(List.mem_erase_of_ne (by intro e;subst e;exact hn'.1 hy)).2 (h y (List.mem_cons_of_mem _ hy));rw [List.length_erase_of_mem hx] at this;have:0<m.length:=List.length_pos_of_mem hx;simp only [List.length_cons];omega
def turns (U:Nat->α):Nat->Nat->List α->List α->Bool
 |0,_,_,_=>true
 |d+1,i,a,b=>
  if a.head?=some (U i) then turns U d (i+1) a.tail b
  else if b.head?=some (U i) then turns U d (i+1) a b.tail
  else false
variable {lt:α->α->Prop}
def Good (lt:α->α->Prop)(U:Nat->α)(i n:Nat)(a b:List α):Prop:=a.Pairwise lt/\b.Pairwise lt/\∀k,i<=k->k<n->U k∈a\/U k∈b
theorem turns_good {U:Nat->α}(irr:∀x,¬lt x x)(tr:∀x y z,lt x y->lt y z->lt x z)(hU:∀i j,i<j->lt (U i) (U j)):∀(d i:Nat) (a b:List α),a.length+b.length=d->(turns U d i a b=true↔Good lt U i (i+d) a b)/\(turns U d i a b=true->∀x,x∈a\/x∈b->∃k,i<=k/\x=U k)
 |0,i,a,b,hl=>by have ha:a=[]:=List.length_eq_zero_iff.1 (by omega);have hb:b=[]:=List.length_eq_zero_iff.1 (by omega);subst ha;subst hb;refine ⟨⟨fun _=>⟨.nil,.nil,fun k h1 h2=>by omega⟩,fun _=>rfl⟩,fun _ x hx=>by rcases hx with h|h<;>cases h⟩
 |d+1,i,a,b,hl=>by
  have inj:∀j k,U j=U k->j=k:=fun j k e=>by
   rcases Nat.lt_trichotomy j k with h|h|h;·have:=hU _ _ h;rw [e] at this;exact absurd this (irr _)
   ·exact h
   have:=hU _ _ h;rw [e] at this;exact absurd this (irr _)
  by_cases h1:a.head?=some (U i)
  ·obtain ⟨a',rfl⟩:∃a',a=U i::a':=by
    cases a with
    |nil=>cases h1
    |cons x t=>simp only [List.head?_cons,Option.some.injEq] at h1;subst h1;exact ⟨t,rfl⟩
   have e:turns U (d+1) i (U i::a') b=turns U d (i+1) a' b:=by show (if (U i::a').head?=some (U i) then turns U d (i+1) (U i::a').tail b else _)=_;rw [if_pos h1];rfl
   rw [e];obtain ⟨ih,ih2⟩:=turns_good irr tr hU d (i+1) a' b (by simp only [List.length_cons] at hl;omega);have hn:i+1+d=i+(d+1):=by omega
   rw [hn] at ih;refine ⟨⟨fun h=>?_,fun h=>?_⟩,fun h x hx=>?_⟩
   ·obtain ⟨g1,g2,g3⟩:=ih.1 h;refine ⟨List.pairwise_cons.2 ⟨fun y hy=>?_,g1⟩,g2,fun k k1 k2=>?_⟩;·obtain ⟨k,hk,rfl⟩:=ih2 h y (.inl hy);exact hU _ _ (by omega)
    rcases Nat.lt_or_ge i k with hk|hk
    ·rcases g3 k hk k2 with h|h;·exact .inl (List.mem_cons_of_mem _ h)
     exact .inr h
    obtain rfl:k=i:=by omega
    exact .inl List.mem_cons_self
   ·obtain ⟨g1,g2,g3⟩:=h;refine ih.2 ⟨(List.pairwise_cons.1 g1).2,g2,fun k k1 k2=>?_⟩;rcases g3 k (by omega) k2 with h|h
    ·rcases List.mem_cons.1 h with h|h;·have:=inj _ _ h;omega
     exact .inl h
    exact .inr h
   rcases hx with hx|hx
   ·rcases List.mem_cons.1 hx with hx|hx;·exact ⟨i,Nat.le_refl _,hx⟩
    obtain ⟨k,hk,e⟩:=ih2 h x (.inl hx);exact ⟨k,by omega,e⟩
   obtain ⟨k,hk,e⟩:=ih2 h x (.inr hx);exact ⟨k,by omega,e⟩
  by_cases h2:b.head?=some (U i)
  ·obtain ⟨b',rfl⟩:∃b',b=U i::b':=by
    cases b with
    |nil=>cases h2
    |cons x t=>simp only [List.head?_cons,Option.some.injEq] at h2;subst h2;exact ⟨t,rfl⟩
   have e:turns U (d+1) i a (U i::b')=turns U d (i+1) a b':=by show (if a.head?=some (U i) then _ else if (U i::b').head?=some (U i) then turns U d (i+1) a (U i::b').tail else false)=_;rw [if_neg h1,if_pos h2];rfl
   rw [e];obtain ⟨ih,ih2⟩:=turns_good irr tr hU d (i+1) a b' (by simp only [List.length_cons] at hl;omega);have hn:i+1+d=i+(d+1):=by omega
   rw [hn] at ih;refine ⟨⟨fun h=>?_,fun h=>?_⟩,fun h x hx=>?_⟩
   ·obtain ⟨g1,g2,g3⟩:=ih.1 h;refine ⟨g1,List.pairwise_cons.2 ⟨fun y hy=>?_,g2⟩,fun k k1 k2=>?_⟩;·obtain ⟨k,hk,rfl⟩:=ih2 h y (.inr hy);exact hU _ _ (by omega)
    rcases Nat.lt_or_ge i k with hk|hk
    ·rcases g3 k hk k2 with h|h;·exact .inl h
     exact .inr (List.mem_cons_of_mem _ h)
    obtain rfl:k=i:=by omega
    exact .inr List.mem_cons_self
   ·obtain ⟨g1,g2,g3⟩:=h;refine ih.2 ⟨g1,(List.pairwise_cons.1 g2).2,fun k k1 k2=>?_⟩;rcases g3 k (by omega) k2 with h|h;·exact .inl h
    rcases List.mem_cons.1 h with h|h;·have:=inj _ _ h;omega
    exact .inr h
   rcases hx with hx|hx;·obtain ⟨k,hk,e⟩:=ih2 h x (.inl hx);exact ⟨k,by omega,e⟩
   rcases List.mem_cons.1 hx with hx|hx;·exact ⟨i,Nat.le_refl _,hx⟩
   obtain ⟨k,hk,e⟩:=ih2 h x (.inr hx);exact ⟨k,by omega,e⟩
  have e:turns U (d+1) i a b=false:=by show (if a.head?=some (U i) then _ else if b.head?=some (U i) then _ else false)=false;rw [if_neg h1,if_neg h2]
  rw [e];refine ⟨⟨fun h=>(by cases h),fun h=>?_⟩,fun h=>(by cases h)⟩;exfalso;obtain ⟨g1,g2,g3⟩:=h;have key:∀(x:α) (t c:List α),lt x (U i)->(∀k,i<=k->k<i+(d+1)->U k=x\/U k∈t\/U k∈c)->t.length+c.length=d->False:=by
   intro x t c hx hall hlen;have hp:=pigeon ((List.range (d+1)).map fun k=>U (i+k)) (t++c) (by
    rw [List.nodup_iff_pairwise_ne,List.pairwise_map];refine (List.nodup_iff_pairwise_ne.1 (List.nodup_range)).imp fun hne e=>hne ?_;have:=inj _ _ e;omega) (fun y hy=>by
    obtain ⟨k,hk,rfl⟩:=List.mem_map.1 hy;have hk:=List.mem_range.1 hk;rcases hall (i+k) (by omega) (by omega) with h|h|h
    ·exfalso;rcases Nat.eq_zero_or_pos k with h0|h0;·subst h0;rw [<-h] at hx;exact irr _ hx
     have h3:=hU i (i+k) (by omega);rw [h] at h3;exact irr _ (tr _ _ _ hx h3)
    ·exact List.mem_append.2 (.inl h)
    exact List.mem_append.2 (.inr h))
   simp only [List.length_map,List.length_range,List.length_append] at hp;omega
  rcases g3 i (Nat.le_refl _) (by omega) with hi|hi
  ·cases a with
   |nil=>cases hi
   |cons x t=>
    have hx:lt x (U i):=by
     rcases List.mem_cons.1 hi with e|e;·exact absurd (by rw [e];rfl) h1
     exact (List.pairwise_cons.1 g1).1 _ e
    exact key x t b hx (fun k k1 k2=>by
     rcases g3 k k1 k2 with h|h
     ·rcases List.mem_cons.1 h with h|h;·exact .inl h
      exact .inr (.inl h)
     exact .inr (.inr h)) (by simp only [List.length_cons] at hl;omega)
  cases b with
  |nil=>cases hi
  |cons x t=>
   have hx:lt x (U i):=by
    rcases List.mem_cons.1 hi with e|e;·exact absurd (by rw [e];rfl) h2
    exact (List.pairwise_cons.1 g2).1 _ e
   exact key x t a hx (fun k k1 k2=>by
    rcases g3 k k1 k2 with h|h;·exact .inr (.inr h)
    rcases List.mem_cons.1 h with h|h;·exact .inl h
    exact .inr (.inl h)) (by simp only [List.length_cons] at hl;omega)
end
end Go.Proofs.YtonnphbfclaigaaGreatDoor.Od
namespace Go.Proofs.YtonnphbfclaigaaGreatDoor.Ba
open Go Go.Em Go.Proofs.YtonnphbfclaigaaGreatDoor Go.Proofs.YtonnphbfclaigaaGreatDoor.Od
variable {l:List Stp}{τ:St}
instance:DecidableEq Stp:=fun a b=>if h:sEq a b=true then .isTrue (sEq_iff.1 h) else .isFalse fun e=>h (sEq_iff.2 e)
def und (t:Stp)(k:Nat):Stp:=⟨t.e,t.p++[Int.ofNat k]⟩
def isOne (t:Stp)(a b:List Stp):Bool:=a.length==1&&(b.length==0&&match a with
 |x::_=>sEq x t
 |[]=>false)
def tstep (U:Nat->Stp)(q:List Stp×List Stp)(i:Nat):Option (List Stp×List Stp):=
 if q.1.head?=some (U i) then some (q.1.tail,q.2) else if q.2.head?=some (U i) then some (q.1,q.2.tail) else none
def ordP (t:Stp)(a b:List Stp):Bool:=isOne t a b||(foldO (tstep (und t)) (List.range (a.length+b.length)) (a,b)).isSome
def adjS (l:List Stp):Bool:=(l.zip l.tail).all fun p=>decide (cmpS p.1 p.2<0)
def hasAll (t:Stp)(l:List Stp):Bool:=(List.range l.length).all fun k=>l.any fun s=>sEq s (und t k)
def ordM (t:Stp)(a b:List Stp):Bool:=isOne t a b||(adjS a&&(adjS b&&hasAll t (a++b)))
def ltT (a b:Stp):Prop:=cmpS a b<0
theorem ltT_iff {a b:Stp}:ltT a b↔Sy.ltS (a.e,a.p) (b.e,b.p)=true:=by unfold ltT;rw [<-Sy.cmp_lt];simp
theorem ltT_irr (a:Stp):¬ltT a a:=by rw [ltT_iff,Sy.linS.irr];simp
theorem ltT_tr (a b c:Stp)(h:ltT a b)(h':ltT b c):ltT a c:=ltT_iff.2 (Sy.linS.tr _ _ _ (ltT_iff.1 h) (ltT_iff.1 h'))
theorem lex_snoc {x y:Int}(h:x<y):∀p:List Int,Go.Proofs.YtonnphbfclaigaaGreatDoor.lexC ordI (p++[x]) (p++[y])<0
 |[]=>by
  have h1:=Sy.ordI_lt.2 h;simp only [qbp,lexC];split;·omega
  exact h1
 |z::p=>by have ih:=lex_snoc h p;simp only [List.cons_append,lexC];rw [if_pos (Sy.ordI_zero.2 rfl)];exact ih
theorem und_lt (t:Stp)(i j:Nat)(h:i<j):ltT (und t i) (und t j):=by rw [ltT_iff,Sy.ltS_iff];exact .inr ⟨rfl,lex_snoc (by simp only [qbs];omega) t.p⟩
theorem turns_fold (U:Nat->Stp):∀(d i:Nat) (a b:List Stp),(foldO (tstep U) (List.range' i d) (a,b)).isSome=turns U d i a b
 |0,i,a,b=>rfl
 |d+1,i,a,b=>by
  rw [List.range'_succ];simp only [foldO,tstep,turns];by_cases h1:a.head?=some (U i);·rw [if_pos h1,if_pos h1];exact turns_fold U d (i+1) a.tail b
  rw [if_neg h1,if_neg h1];by_cases h2:b.head?=some (U i);·rw [if_pos h2,if_pos h2];exact turns_fold U d (i+1) a b.tail
  rw [if_neg h2,if_neg h2];rfl
theorem adj_pair:∀(l:List Stp),adjS l=true↔l.Pairwise ltT
 |[]=>by simp [adjS]
 |[x]=>by simp [adjS]
 |x::y::r=>by
  have ih:=adj_pair (y::r);have e:adjS (x::y::r)=(decide (cmpS x y<0)&&adjS (y::r)):=by simp [adjS]
  rw [e,qa4,ih,decide_eq_true_iff,List.pairwise_cons (a:=x)];constructor
  ·rintro ⟨h1,h2⟩
   refine ⟨fun z hz=>?_,h2⟩;rcases qbl.1 hz with h|h;·rw [h];exact h1
   exact ltT_tr _ _ _ h1 ((List.pairwise_cons.1 h2).1 z h)
  rintro ⟨h1,h2⟩
  exact ⟨h1 y (by simp),h2⟩
theorem ord_eq (t:Stp)(a b:List Stp):ordP t a b=ordM t a b:=by
 unfold ordP ordM
 congr 1
 rw [List.range_eq_range',turns_fold,Bool.eq_iff_iff];have h:=(turns_good (lt:=ltT) (U:=und t) ltT_irr ltT_tr (und_lt t) (a.length+b.length) 0 a b rfl).1;rw [h,Nat.zero_add,qa4,qa4,adj_pair,adj_pair];unfold Od.Good hasAll;rw [qbo];constructor
 ·rintro ⟨h1,h2,h3⟩
  refine ⟨h1,h2,fun k hk=>?_⟩;have hk:k<a.length+b.length:=by simpa using hk
  rw [List.any_eq_true];rcases h3 k (Nat.zero_le _) hk with h|h;·exact ⟨_,qbm.2 (.inl h),sEq_refl _⟩
  exact ⟨_,qbm.2 (.inr h),sEq_refl _⟩
 rintro ⟨h1,h2,h3⟩
 refine ⟨h1,h2,fun k _ hk=>?_⟩;have:=h3 k (by simpa using hk);rw [List.any_eq_true] at this;obtain ⟨s,s1,s2⟩:=this;rw [<-sEq_iff.1 s2];exact qbm.1 s1
open Go Go.Em Go.Proofs.YtonnphbfclaigaaGreatDoor Go.Proofs.YtonnphbfclaigaaGreatDoor.Sh
set_option maxRecDepth 100000
theorem under_pure (t:Stp)(k:Nat)(ht:t.p.length<=60000)(N:Nat)(hN:10<=N):Gam.pureD (callF tab ext N) 47 [.agg t.cells,nat k]=some (.agg (und t k).cells):=by
 obtain ⟨M,rfl⟩:∃M,N=M+2:=⟨N-2,by omega⟩;have h1:=clone_row M t.p ht;have hl:=intsC_length t.p;have hroom:0+t.p.length=(intsC t.p).length/\roomOk (t.p.length+1) 8=true/\memN 2 []=false:=app_ok _ 2 8 hl.symm (by omega) (by omega);have hc:(und t k).cells=[num t.e,.sl false 1 (intsC t.p++[[nat k]])]:=by simp [und,Stp.cells,intsC,num,nat]
 rw [hc];have hd:(X.agg [num t.e,.bs 0 0 (t.p.length+1)]).data [.row 1 (List.drop 0 (intsC t.p)++[[nat k]])] false=some (.agg [num t.e,.sl false 1 (intsC t.p++[[nat k]])]):=by rw [List.drop_zero,<-hl];simp [X.data,dataL,rowOf,num];exact List.take_of_length_le (by simp)
 obtain ⟨e,p⟩:=t;dsimp only at*;generalize p.length=j at*;generalize intsC p=P at*;exact pure_of [(9,.o (.bs 0 0 j) [.row 1 P]),(12,.app)] [] (pf2 h1 hroom) (x:=.agg [num e,.bs 0 0 (j+1)]) (bx:=[.row 1 (List.drop 0 P++[[nat k]])]) (by kernel_rfl) hd
section
variable (n2 t2:Int) (sl2 ou rq fc lt:qbI) (te:Int) (tp A B:qbI) (j k i r:Nat) (x:List X)
def a14H:St:=⟨[(3,.ptr 0 0 0),(5,.ptr 1 0 0),(6,.bs 2 0 j),(7,.sl true 2 []),(23,.sl false 11 ou),(24,nat ou.length),(25,nat i)],[.var (ocC n2 t2 sl2 ou rq fc lt),.var [num te,.sl false 1 tp],.row 2 A]⟩
def a14E:St:=⟨[(3,.ptr 0 0 0),(5,.ptr 1 0 0),(6,.bs 2 0 j),(7,.sl true 2 []),(23,.sl false 11 ou),(24,nat ou.length),(25,nat i),(26,boolX false)],[.var (ocC n2 t2 sl2 ou rq fc lt),.var [num te,.sl false 1 tp],.row 2 A]⟩
theorem a14_canon:canon 0 ⟨[(3,.ptr 0 0 0),(5,.ptr 1 0 0),(6,.bs 4 0 j),(7,.sl true 2 []),(23,.sl false 11 ou),(24,nat ou.length),(25,nat i)],[.var (ocC n2 t2 sl2 ou rq fc lt),.var [num te,.sl false 1 tp],.dead,.var x,.row 2 A]⟩=some (a14H n2 t2 sl2 ou rq fc lt te tp A j i):=by kernel_rfl
def b14H:St:=⟨[(5,.ptr 0 0 0),(6,.bs 1 0 j),(7,.bs 2 0 k),(37,.sl false 11 rq),(38,nat rq.length),(39,nat i)],[.var [num te,.sl false 1 tp],.row 2 A,.row 2 B]⟩
def b14E:St:=⟨[(5,.ptr 0 0 0),(6,.bs 1 0 j),(7,.bs 2 0 k),(37,.sl false 11 rq),(38,nat rq.length),(39,nat i),(40,boolX false)],[.var [num te,.sl false 1 tp],.row 2 A,.row 2 B]⟩
theorem b14_canon:canon 0 ⟨[(5,.ptr 0 0 0),(6,.bs 1 0 j),(7,.bs 4 0 k),(37,.sl false 11 rq),(38,nat rq.length),(39,nat i)],[.var [num te,.sl false 1 tp],.row 2 A,.dead,.var x,.row 2 B]⟩=some (b14H rq te tp A B j k i):=by kernel_rfl
def t14H:St:=⟨[(5,.ptr 0 0 0),(6,.sl false 2 A),(7,.sl false 2 B),(68,nat r),(69,nat i)],[.var [num te,.sl false 1 tp]]⟩
def t14E:St:=⟨[(5,.ptr 0 0 0),(6,.sl false 2 A),(7,.sl false 2 B),(68,nat r),(69,nat i),(70,boolX false)],[.var [num te,.sl false 1 tp]]⟩
theorem t14_canon:canon 0 ⟨[(5,.ptr 0 0 0),(6,.sl false 2 A),(7,.sl false 2 B),(68,nat r),(69,nat i)],[.var [num te,.sl false 1 tp],.var x]⟩=some (t14H te tp A B i r):=by kernel_rfl
end
theorem sent_loop (o:Oc2)(t:Stp)(acc:List Stp)(hl:o.outs.length<=1000)(ha:acc.length<=1000)(N:Nat)(hN:100000<=N)
  (hτ:canon 0 τ=some (a14H o.s.n o.s.t (sltsC o.s.slots) (otpsC o.outs) (reqsC o.reqs) (ftesC o.fates) (msgsC o.letters) t.e (intsC t.p) (stpsC acc) acc.length 0)):
  run (callF tab ext N) 0 N (.loop (loopAt 14 0)) τ=some (.exit 0,a14E o.s.n o.s.t (sltsC o.s.slots) (otpsC o.outs) (reqsC o.reqs) (ftesC o.fates) (msgsC o.letters) t.e (intsC t.p) (stpsC (acc++o.outs.map (·.m.st))) (acc++o.outs.map (·.m.st)).length o.outs.length):=by
 have hn:=otpsC_length o.outs;have hf:∀(l:List Otp) (q:List Stp),l.foldl (fun q x=>q++[x.m.st]) q=q++l.map (·.m.st):=by
  intro l;induction l with
  |nil=>intro q;simp
  |cons a r ih=>intro q;simp [ih]
 have h:=(loop_fold (Γ:=callF tab ext N) (nIn:=0) (fu:=N) (b:=loopAt 14 0) (fun (q:List Stp) i=>a14H o.s.n o.s.t (sltsC o.s.slots) (otpsC o.outs) (reqsC o.reqs) (ftesC o.fates) (msgsC o.letters) t.e (intsC t.p) (stpsC q) q.length i) (fun q x=>q++[x.m.st]) (fun q i=>q.length=acc.length+i) o.outs (e:=.exit 0)
  (fun q=>a14E o.s.n o.s.t (sltsC o.s.slots) (otpsC o.outs) (reqsC o.reqs) (ftesC o.fates) (msgsC o.letters) t.e (intsC t.p) (stpsC q) q.length o.outs.length) acc rfl (fun q i x hg hI=>?_) (fun q _=>run_of [(26,.b false)] [] (pf1 (nlt_nat (j:=o.outs.length) (k:=(otpsC o.outs).length) (by omega))) (lo':=[]) (by kernel_rfl)) (by simp) hτ (by omega)).1
 ·rw [hf] at h;exact h
 refine ⟨by simp;omega,?_⟩;have hj:=(qaY.1 hg).1;have he:=otpsC_at hg;have hw:=next_nat (j:=i) (by omega);have h1:=lt_nat (j:=i) (k:=(otpsC o.outs).length) (by omega);have hml:=stpsC_length q;have hroom:=app_ok (acc:=stpsC q) q.length 2 32 (by omega) (by omega) (by omega);rw [stpsC_snoc,qaZ,List.length_singleton];obtain ⟨⟨n2,t2,ss⟩,ou,rq,fts,lt⟩:=o;dsimp only at*;generalize otpsC ou=ou at*;generalize reqsC rq=rq at*;generalize ftesC fts=fc at*;generalize msgsC lt=lt at*;generalize sltsC ss=sl2 at*;generalize stpsC q=c at*;generalize q.length=k at*;obtain ⟨pt,⟨a1,a2⟩,a3,a4,a5,a6,a7,a8,a9,a0⟩:=x;exact ⟨_,run_of [(26,.b true),(27,.e (num pt::(Msg.mk ⟨a1,a2⟩ a3 a4 (.mk a5 a6 a7 a8 a9 a0)).cells)),(34,.app),(35,.i (Int.ofNat (i+1)))] [] (pf4 h1 he hroom hw) (lo':=[]) (σ':=⟨[(3,.ptr 0 0 0),(5,.ptr 1 0 0),(6,.bs 4 0 (k+1)),(7,.sl true 2 []),(23,.sl false 11 ou),(24,nat ou.length),(25,nat (i+1))],[.var (ocC n2 t2 sl2 ou rq fc lt),.var [num t.e,.sl false 1 (intsC t.p)],.dead,.var (num pt::(Msg.mk ⟨a1,a2⟩ a3 a4 (.mk a5 a6 a7 a8 a9 a0)).cells),.row 2 (List.drop 0 c++[(Stp.mk a1 a2).cells])]⟩) (by kernel_rfl),a14_canon ..⟩
theorem asked_loop (o:Oc2)(t:Stp)(A:qbI)(j:Nat)(acc:List Stp)(hl:o.reqs.length<=1000)(ha:acc.length<=1000)(N:Nat)(hN:100000<=N)
  (hτ:canon 0 τ=some (b14H (reqsC o.reqs) t.e (intsC t.p) A (stpsC acc) j acc.length 0)):
  run (callF tab ext N) 0 N (.loop (loopAt 14 1)) τ=some (.exit 2,b14E (reqsC o.reqs) t.e (intsC t.p) A (stpsC (acc++o.reqs.map (·.st))) j (acc++o.reqs.map (·.st)).length o.reqs.length):=by
 have hn:=reqsC_length o.reqs;have hf:∀(l:List Req) (q:List Stp),l.foldl (fun q x=>q++[x.st]) q=q++l.map (·.st):=by
  intro l;induction l with
  |nil=>intro q;simp
  |cons a r ih=>intro q;simp [ih]
 have h:=(loop_fold (Γ:=callF tab ext N) (nIn:=0) (fu:=N) (b:=loopAt 14 1) (fun (q:List Stp) i=>b14H (reqsC o.reqs) t.e (intsC t.p) A (stpsC q) j q.length i) (fun q x=>q++[x.st]) (fun q i=>q.length=acc.length+i) o.reqs (e:=.exit 2)
  (fun q=>b14E (reqsC o.reqs) t.e (intsC t.p) A (stpsC q) j q.length o.reqs.length) acc rfl (fun q i x hg hI=>?_) (fun q _=>run_of [(40,.b false)] [] (pf1 (nlt_nat (j:=o.reqs.length) (k:=(reqsC o.reqs).length) (by omega))) (lo':=[]) (by kernel_rfl)) (by simp) hτ (by omega)).1
 ·rw [hf] at h;exact h
 refine ⟨by simp;omega,?_⟩;have hj:=(qaY.1 hg).1;have he:(reqsC o.reqs)[(Int.ofNat i).toNat]?=some x.cells:=by show (o.reqs.map Req.cells)[i]?=_;rw [qbe,hg];rfl
 have hw:=next_nat (j:=i) (by omega);have h1:=lt_nat (j:=i) (k:=(reqsC o.reqs).length) (by omega);have hml:=stpsC_length q;have hroom:=app_ok (acc:=stpsC q) q.length 2 32 (by omega) (by omega) (by omega);rw [stpsC_snoc,qaZ,List.length_singleton];obtain ⟨⟨n2,t2,ss⟩,ou,rq,fts,lt⟩:=o;dsimp only at*;generalize otpsC ou=ou at*;generalize reqsC rq=rq at*;generalize ftesC fts=fc at*;generalize msgsC lt=lt at*;generalize sltsC ss=sl2 at*;generalize stpsC q=c at*;generalize q.length=k at*;obtain ⟨⟨b1,b2⟩,sv,cl,un,b5,b6,b7,b8,b9,b0⟩:=x;exact ⟨_,run_of [(40,.b true),(41,.e (Req.mk ⟨b1,b2⟩ sv cl un (.mk b5 b6 b7 b8 b9 b0)).cells),(47,.app),(48,.i (Int.ofNat (i+1)))] [] (pf4 h1 he hroom hw) (lo':=[]) (σ':=⟨[(5,.ptr 0 0 0),(6,.bs 1 0 j),(7,.bs 4 0 (k+1)),(37,.sl false 11 rq),(38,nat rq.length),(39,nat (i+1))],[.var [num t.e,.sl false 1 (intsC t.p)],.row 2 A,.dead,.var (Req.mk ⟨b1,b2⟩ sv cl un (.mk b5 b6 b7 b8 b9 b0)).cells,.row 2 (List.drop 0 c++[(Stp.mk b1 b2).cells])]⟩) (by kernel_rfl),b14_canon ..⟩
theorem pos_cons {α:Type}(x:α)(l:List α):decide (Int.ofNat (x::l).length>0)=true:=decide_eq_true (by simp only [qbs,qbr];omega)
theorem cut_cons {α:Type}(x:α)(l:List α):(Int.toNat 1)<=(x::l).length/\(x::l).length<=(x::l).length:=⟨by simp,Nat.le_refl _⟩
theorem cut_eq {α:Type}(x:α)(l:List α):List.drop (Int.toNat 1) (List.take (x::l).length (x::l))=l:=by simp
theorem head_t {x y:Stp}(h:sEq x y=true):(x::l).head?=some y:=by rw [sEq_iff.1 h];rfl
theorem head_f {x y:Stp}(h:sEq x y=false):¬(x::l).head?=some y:=fun e=>by
 have:x=y:=by simpa using e
 rw [sEq_iff.2 this] at h;cases h
theorem turn_loop (t:Stp)(ht:t.p.length<=60000)(a b:List Stp)(ha:∀s,s∈a->s.ok)(hb:∀s,s∈b->s.ok)(n:Nat)(hn:n<=2000)(N:Nat)(hN:190002<=N)(hτ:canon 0 τ=some (t14H t.e (intsC t.p) (stpsC a) (stpsC b) 0 n)):
  ((foldO (tstep (und t)) (List.range n) (a,b)).isSome=true/\∃q:List Stp×List Stp,run (callF tab ext N) 0 N (.loop (loopAt 14 2)) τ=some (.exit 4,t14E t.e (intsC t.p) (stpsC q.1) (stpsC q.2) n n))\/
  ((foldO (tstep (und t)) (List.range n) (a,b)).isSome=false/\∃bx,run (callF tab ext N) 0 N (.loop (loopAt 14 2)) τ=some (.ret,⟨[(4,boolX false)],bx⟩)):=by
 have hrg:(List.range n).length=n:=List.length_range;have h:=loop_listZ (Γ:=callF tab ext N) (nIn:=0) (fu:=N) (b:=loopAt 14 2) (fun (q:List Stp×List Stp) i=>t14H t.e (intsC t.p) (stpsC q.1) (stpsC q.2) i n) (tstep (und t)) (fun q _=>(∀s,s∈q.1->s.ok)/\∀s,s∈q.2->s.ok) (List.range n) (e:=.exit 4)
  (fun q=>t14E t.e (intsC t.p) (stpsC q.1) (stpsC q.2) n n) (fun _ _ _ υ=>∃bx,υ=⟨[(4,boolX false)],bx⟩) (a,b) ⟨ha,hb⟩ ?_ ?_
  (fun q _=>by rw [hrg];exact run_of [(70,.b false)] [] (pf1 (nlt_nat (qbz n))) (lo':=[]) (by kernel_rfl)) (by simp) hτ (by omega)
 ·rcases h with ⟨q,h1,_,h2⟩|⟨h0,q,j,f,_,_,_,_,υ,h5,bx,rfl⟩;·exact .inl ⟨by rw [h1];rfl,q,h2⟩
  exact .inr ⟨by rw [h0];rfl,bx,h5⟩
 ·intro q q' j k hg hI hs;have hj:j<n:=by have:=(qaY.1 hg).1;omega
  obtain rfl:j=k:=by rw [List.getElem?_range hj] at hg;cases hg;rfl
  have h1:=lt_nat hj;have hw:=next_nat (j:=j) (by omega);have hu:=under_pure t j ht N (by omega);obtain ⟨qa,qb⟩:=q;obtain ⟨ia,ib⟩:=hI;dsimp only at ia ib;have hqa:=fun x (hx:x∈qa)=>stp_eq N x (und t j) (ia x hx) (by omega);have hqb:=fun x (hx:x∈qb)=>stp_eq N x (und t j) (ib x hx) (by omega);have hcu:(und t j).cells=[num t.e,.sl false 1 (intsC (und t j).p)]:=rfl;rw [hcu] at hu;unfold tstep at hs;dsimp only at hs;cases qa with
  |nil=>
   rw [if_neg (by simp)] at hs;cases qb with
   |nil=>rw [if_neg (by simp)] at hs;cases hs
   |cons y B=>
    cases hy:sEq y (und t j) with
    |false=>rw [if_neg (head_f hy)] at hs;cases hs
    |true=>rw [if_pos (head_t hy)] at hs;simp only [qaE] at hs;subst hs;refine ⟨⟨ia,fun s hs=>ib s (by simp at hs;simp [hs])⟩,?_⟩;have hq:=hqb y (by simp);rw [hy] at hq;have e:=cut_eq y.cells (stpsC B);have hc:=cut_cons y.cells (stpsC B);have h2:=pos_cons y.cells (stpsC B);show ∃υ,run _ 0 N (loopAt 14 2) (t14H t.e (intsC t.p) [] (y.cells::stpsC B) j n)=_/\canon 0 υ=some (t14H t.e (intsC t.p) [] (stpsC B) (j+1) n);rw [<-e];rw [e];rw [show (Stp.cells (und t j))=[num t.e,.sl false 1 (intsC (und t j).p)] from rfl] at hq;generalize intsC (und t j).p=UP at*;generalize hsb:stpsC B=SB at*;obtain ⟨y1,y2⟩:=y;obtain ⟨te,tp⟩:=t;dsimp only at*;generalize intsC tp=tpc at*;refine ⟨⟨[(5,.ptr 0 0 0),(6,.sl false 2 []),(7,.sl false 2 (List.drop (Int.toNat 1) (List.take ((Stp.mk y1 y2).cells::SB).length ((Stp.mk y1 y2).cells::SB)))),(68,nat n),(69,nat (j+1))],[.var [num te,.sl false 1 tpc],.var [num te,.sl false 1 UP]]⟩,run_of [(70,.b true),(74,.p (.agg [num te,.sl false 1 UP])),(91,.b true),(97,.p (boolX true)),(100,.cut),(101,.i (Int.ofNat (j+1)))] [] (pf6 h1 hu h2 hq hc hw) (lo':=[]) (by kernel_rfl),?_⟩;rw [e];exact t14_canon ..
  |cons x A=>
   cases hx:sEq x (und t j) with
   |true=>rw [if_pos (head_t hx)] at hs;simp only [qaE] at hs;subst hs;refine ⟨⟨fun s hs=>ia s (by simp at hs;simp [hs]),ib⟩,?_⟩;have hq:=hqa x (by simp);rw [hx] at hq;have e:=cut_eq x.cells (stpsC A);have hc:=cut_cons x.cells (stpsC A);have h2:=pos_cons x.cells (stpsC A);show ∃υ,run _ 0 N (loopAt 14 2) (t14H t.e (intsC t.p) (x.cells::stpsC A) (stpsC qb) j n)=_/\canon 0 υ=some (t14H t.e (intsC t.p) (stpsC A) (stpsC qb) (j+1) n);rw [show (Stp.cells (und t j))=[num t.e,.sl false 1 (intsC (und t j).p)] from rfl] at hq;generalize intsC (und t j).p=UP at*;generalize stpsC A=SA at*;generalize stpsC qb=SB at*;obtain ⟨y1,y2⟩:=x;obtain ⟨te,tp⟩:=t;dsimp only at*;generalize intsC tp=tpc at*;refine ⟨⟨[(5,.ptr 0 0 0),(6,.sl false 2 (List.drop (Int.toNat 1) (List.take ((Stp.mk y1 y2).cells::SA).length ((Stp.mk y1 y2).cells::SA)))),(7,.sl false 2 SB),(68,nat n),(69,nat (j+1))],[.var [num te,.sl false 1 tpc],.var [num te,.sl false 1 UP]]⟩,run_of [(70,.b true),(74,.p (.agg [num te,.sl false 1 UP])),(78,.b true),(84,.p (boolX true)),(87,.cut),(101,.i (Int.ofNat (j+1)))] [] (pf6 h1 hu h2 hq hc hw) (lo':=[]) (by kernel_rfl),?_⟩;rw [e];exact t14_canon ..
   |false=>
    rw [if_neg (head_f hx)] at hs;have hq0:=hqa x (by simp);rw [hx] at hq0;cases qb with
    |nil=>rw [if_neg (by simp)] at hs;cases hs
    |cons y B=>
     cases hy:sEq y (und t j) with
     |false=>rw [if_neg (head_f hy)] at hs;cases hs
     |true=>rw [if_pos (head_t hy)] at hs;simp only [qaE] at hs;subst hs;refine ⟨⟨ia,fun s hs=>ib s (by simp at hs;simp [hs])⟩,?_⟩;have hq:=hqb y (by simp);rw [hy] at hq;have e:=cut_eq y.cells (stpsC B);have hc:=cut_cons y.cells (stpsC B);have h2:=pos_cons x.cells (stpsC A);have h3:=pos_cons y.cells (stpsC B);show ∃υ,run _ 0 N (loopAt 14 2) (t14H t.e (intsC t.p) (x.cells::stpsC A) (y.cells::stpsC B) j n)=_/\canon 0 υ=some (t14H t.e (intsC t.p) (x.cells::stpsC A) (stpsC B) (j+1) n);rw [show (Stp.cells (und t j))=[num t.e,.sl false 1 (intsC (und t j).p)] from rfl] at hq hq0;generalize intsC (und t j).p=UP at*;generalize stpsC A=SA at*;generalize stpsC B=SB at*;obtain ⟨x1,x2⟩:=x;obtain ⟨y1,y2⟩:=y;obtain ⟨te,tp⟩:=t;dsimp only at*;generalize intsC tp=tpc at*;refine ⟨⟨[(5,.ptr 0 0 0),(6,.sl false 2 ((Stp.mk x1 x2).cells::SA)),(7,.sl false 2 (List.drop (Int.toNat 1) (List.take ((Stp.mk y1 y2).cells::SB).length ((Stp.mk y1 y2).cells::SB)))),(68,nat n),(69,nat (j+1))],[.var [num te,.sl false 1 tpc],.var [num te,.sl false 1 UP]]⟩,run_of [(70,.b true),(74,.p (.agg [num te,.sl false 1 UP])),(78,.b true),(84,.p (boolX false)),(91,.b true),(97,.p (boolX true)),(100,.cut),(101,.i (Int.ofNat (j+1)))] [] (pf8 h1 hu h2 hq0 h3 hq hc hw) (lo':=[]) (by kernel_rfl),?_⟩;rw [e];exact t14_canon ..
 intro q j k hg hI hs;have hj:j<n:=by have:=(qaY.1 hg).1;omega
 obtain rfl:j=k:=by rw [List.getElem?_range hj] at hg;cases hg;rfl
 have h1:=lt_nat hj;have hu:=under_pure t j ht N (by omega);obtain ⟨qa,qb⟩:=q;obtain ⟨ia,ib⟩:=hI;dsimp only at ia ib;have hqa:=fun x (hx:x∈qa)=>stp_eq N x (und t j) (ia x hx) (by omega);have hqb:=fun x (hx:x∈qb)=>stp_eq N x (und t j) (ib x hx) (by omega);have hcu:(und t j).cells=[num t.e,.sl false 1 (intsC (und t j).p)]:=rfl;rw [hcu] at hu;unfold tstep at hs;dsimp only at hs;cases qa with
 |nil=>
  rw [if_neg (by simp)] at hs;cases qb with
  |nil=>generalize intsC (und t j).p=UP at*;obtain ⟨te,tp⟩:=t;exact ⟨_,run_of [(70,.b true),(74,.p (.agg [num te,.sl false 1 UP]))] [] (pf2 h1 hu) (lo':=[]) (σ':=⟨[(4,boolX false)],[.var [num te,.sl false 1 (intsC tp)],.var [num te,.sl false 1 UP]]⟩) (by kernel_rfl),_,rfl⟩
  |cons y B=>
   cases hy:sEq y (und t j) with
   |true=>rw [if_pos (head_t hy)] at hs;cases hs
   |false=>have hq:=hqb y (by simp);rw [hy,hcu] at hq;have h2:=pos_cons y.cells (stpsC B);show ∃υ,run _ 0 N (loopAt 14 2) (t14H t.e (intsC t.p) [] (y.cells::stpsC B) j n)=_/\_;generalize intsC (und t j).p=UP at*;generalize stpsC B=SB at*;obtain ⟨y1,y2⟩:=y;obtain ⟨te,tp⟩:=t;exact ⟨_,run_of [(70,.b true),(74,.p (.agg [num te,.sl false 1 UP])),(91,.b true),(97,.p (boolX false))] [] (pf4 h1 hu h2 hq) (lo':=[]) (σ':=⟨[(4,boolX false)],[.var [num te,.sl false 1 (intsC tp)],.var [num te,.sl false 1 UP]]⟩) (by kernel_rfl),_,rfl⟩
 |cons x A=>
  cases hx:sEq x (und t j) with
  |true=>rw [if_pos (head_t hx)] at hs;cases hs
  |false=>
   rw [if_neg (head_f hx)] at hs;have hq0:=hqa x (by simp);rw [hx,hcu] at hq0;have h2:=pos_cons x.cells (stpsC A);cases qb with
   |nil=>show ∃υ,run _ 0 N (loopAt 14 2) (t14H t.e (intsC t.p) (x.cells::stpsC A) [] j n)=_/\_;generalize intsC (und t j).p=UP at*;generalize stpsC A=SA at*;obtain ⟨x1,x2⟩:=x;obtain ⟨te,tp⟩:=t;exact ⟨_,run_of [(70,.b true),(74,.p (.agg [num te,.sl false 1 UP])),(78,.b true),(84,.p (boolX false))] [] (pf4 h1 hu h2 hq0) (lo':=[]) (σ':=⟨[(4,boolX false)],[.var [num te,.sl false 1 (intsC tp)],.var [num te,.sl false 1 UP]]⟩) (by kernel_rfl),_,rfl⟩
   |cons y B=>
    cases hy:sEq y (und t j) with
    |true=>rw [if_pos (head_t hy)] at hs;cases hs
    |false=>have hq:=hqb y (by simp);rw [hy,hcu] at hq;have h3:=pos_cons y.cells (stpsC B);show ∃υ,run _ 0 N (loopAt 14 2) (t14H t.e (intsC t.p) (x.cells::stpsC A) (y.cells::stpsC B) j n)=_/\_;generalize intsC (und t j).p=UP at*;generalize stpsC A=SA at*;generalize stpsC B=SB at*;obtain ⟨x1,x2⟩:=x;obtain ⟨y1,y2⟩:=y;obtain ⟨te,tp⟩:=t;exact ⟨_,run_of [(70,.b true),(74,.p (.agg [num te,.sl false 1 UP])),(78,.b true),(84,.p (boolX false)),(91,.b true),(97,.p (boolX false))] [] (pf6 h1 hu h2 hq0 h3 hq) (lo':=[]) (σ':=⟨[(4,boolX false)],[.var [num te,.sl false 1 (intsC tp)],.var [num te,.sl false 1 UP]]⟩) (by kernel_rfl),_,rfl⟩
end Go.Proofs.YtonnphbfclaigaaGreatDoor.Ba
